/-
  What the claim stands on, part 4: Hdr Hea Frm Itc Vis Okd Rws Itm Its Rvs Chd Ck13 Nf Vc Ubf Av16 Frs Hds Np13 Nq13 Rs24 Iat Bi13 Mk24 Mg24 Gco.
-/
import Derived.Test.YtdiflmikikiedaaGreatWbc
namespace Go.Proofs.YtdiflmikikiedaaGreat
set_option linter.all false
open Go.Proofs.Tryz
set_option maxRecDepth 20000
set_option maxHeartbeats 4000000
section
open Go.RowKit
instance Yx:dS prog 161 0 0:=⟨by kernel_rfl⟩
instance xQ:dS prog 161 1 1:=⟨by kernel_rfl⟩
instance ajL:dS prog 161 3 3:=⟨by kernel_rfl⟩
instance Na:dS prog 161 2 2:=⟨by kernel_rfl⟩
theorem QW:∀ args w,(callFunc 130 args).run prog w=.ok (.enter 130 args) w:=enters func130 rfl (by kernel_rfl)
variable {us:List Int}
structure bO where
 st:List bS
 uT:List Int
 zM:List Int
 us:List Int
abbrev bE (us:List Int) (st:List bS) (li:List eD) (rv:List bX):bO:=⟨st,li.map eD.id,rv.map bX.id,us⟩
theorem Dx {G:GH} {l:List cK} {A:Option Addr} {n c k:Nat} (hv:au G (.sl 4 (l.map cK.dat)) (.slice A n c)) (hk:k < l.length):∃ b o,A=some ⟨b,o,none⟩∧(∀ j u,l[k].cells[j]?=some u→aI G b (o+k*4+j)=some u):=by
 obtain ⟨A',c',he,_,_,hg⟩:=hv.slice
 injection he with e1 e2 e3
 subst e1;obtain ⟨b,o,cs,h1,h2,h3,h4⟩:=hg k l[k].dat (by simp [hk]);have:=Uo h4;subst this;exact ⟨b,o,h1,h3⟩
theorem M0 {G:GH} {l:List fE} {A:Option Addr} {n c k:Nat} (hv:au G (.sl 2 (l.map fE.dat)) (.slice A n c)) (hk:k < l.length):∃ b o,A=some ⟨b,o,none⟩∧(∀ j u,l[k].cells[j]?=some u→aI G b (o+k*2+j)=some u):=by
 obtain ⟨A',c',he,_,_,hg⟩:=hv.slice
 injection he with e1 e2 e3
 subst e1;obtain ⟨b,o,cs,h1,h2,h3,h4⟩:=hg k l[k].dat (by simp [hk]);have:=Jq h4;subst this;exact ⟨b,o,h1,h3⟩
def wu (C:bO) (e:Int) (k:Nat) (x:cK) (pk:Int):Int :=
 if x.rev∉C.zM then 22 else if rO e x.key=false then 4 else if 0 < k∧x.key < pk then 6 else if x.had=false then dx (decide (x.before≠0)) 21 else cO [rG x.key x.before,nQ C.st C.uT x.key x.before]
def xX (C:bO) (e:Int) (l:List cK) (k:Nat):Int:=match l[k]? with|some x=>wu C e k x ((l[k - 1]?.map cK.key).getD 0)|none=>0
theorem anS (G:GH) (w0:World) (hG:Hold G w0) (st:List bS) (li:List eD) (rv:List bX) (b ms ml mr mb mu:Nat) (n:Int) (hck:vw us G st li rv ms ml mr mu) (hb:G b=some (fP b ms ml mr mb mu n).2)
  (e:Int) (l:List cK) (v:aj) (hv:au G (.sl 4 (l.map cK.dat)) v) (k:Nat) (hk:k < l.length) :
  Calls prog 132 #[(aG b 0),vi e,v,vi k] w0 (bB w0 G fun u G'=>u=vi (xX (bE us st li rv) e l k)):=by
 have hc2:aI G b 2=some (.map (some mr)):=by unfold aI;rw [hb];rfl
 obtain ⟨A,c,rfl,hl1,hl2,-⟩:=hv.slice;have hml:maxLen=9223372036854775807:=rfl;rw [bM] at *;obtain ⟨xb,xo,rfl,hrow⟩:=Dx hv hk
 have hk1:k - 1 < l.length:=by omega
 obtain ⟨b',o',he',hrow'⟩:=Dx hv hk1
 injection he' with he'
 injection he' with e1 e2
 subst e1;subst e2
 have he:xX (bE us st li rv) e l k=wu (bE us st li rv) e k l[k] l[k - 1].key:=by unfold xX;rw [eO hk,eO hk1];rfl
 obtain ⟨x,hx⟩:∃ x,x=l[k]:=⟨_,rfl⟩;obtain ⟨y,hy⟩:∃ y,y=l[k - 1]:=⟨_,rfl⟩;rw [← hx] at hrow he;rw [← hy] at hrow' he;have hq:=hrow' 1 _ rfl;refine eN [(0,_),(1,_),(2,_),(3,_)] func132 rfl ntmps132 rfl rfl hG ?_;refine ak 7 ?_;intro a H;refine aS jw (cs:=x.cells) H wn rfl rfl (fun j v hj=>H.hp.aI (hrow j v hj)) rfl ?_;clear H;intro a H;refine dz jw H wn rfl ?_;clear H;intro b9 a w rQ H;refine aV jw 0 (vs:=[_,_,_,_]) _ H wn rfl rfl rfl rfl rfl rfl rfl rfl ?_;clear H;intro w H;dsimp only [List.set,setRow] at H;refine aD 4 H ?_;clear H;intro a H;refine dI hmx [[],[0],[0,1],[0,1,2],[],[4],(ra 0 6),(ra 0 7),(ra 0 8)] [8] (by kernel_rfl) [_,_,_,_,_,vi x.rev,.bool (decide (x.rev∈rv.map bX.id)),_] H (aF (Z0 rfl (Rm rfl)) (Z1 0 15 rfl (Rk rfl)) (Z1 1 16 rfl (Rf Jw rfl)) (X1 2 17 rfl fun hG=>Rg DY rfl (aH hG hc2)) (aF (Z0 rfl (Rf Yx rfl)) (Z1 4 19 rfl (Ro bR 0 rfl)) ?_ (Z1 6 21 rfl (Rn rfl)) (bH (bQ rfl) cZ))) ?_
 ·refine dH 3 18 5 20 rfl rfl fun _ a w G1 hG HT H fin=>?_;refine zN (zv:=.bool false) vg kI (by kernel_rfl) H wn rfl rfl (H.ro _ _ (hG _ _ hck.rev)) rfl ?_;clear H;intro a H;rw [Dz] at H;exact fin H iJ rfl
 clear H;intro a w G BJ H hv;have H:=H.aN (hv 7 22 rfl rfl) rfl;clear hv;refine t1 2 H ?_;clear H;refine goB 0 ?_ ?_
 ·intro jP
  refine aQ 3 ?_;rw [he];refine aB vi ?_;clear he hrow hrow' hq hx hy;unfold wu;(repeat' split) <;> first|rfl|(simp_all;done)|(exfalso;simp_all;done)
 intro jP
 refine ak 4 ?_;intro a H;refine s_call X9 H wn rfl (WZ (YQ _ _ H.ro e x.key)) rfl ?_;clear H;rintro v27 _ a w ⟨⟨_,rfl⟩,rfl⟩ - H;refine gQ 3 H ?_ ?_ <;> clear H
 ·intro AO
  refine aQ 3 ?_;rw [he];refine aB vi ?_;clear he hrow hrow' hq hx hy;unfold wu;(repeat' split) <;> first|rfl|(simp_all;done)|(exfalso;simp_all;done)
 intro AO
 refine ak 1 ?_;replace hq:=aH BJ hq
 intro a H;by_cases c0:0 < (k:Int)
 ·skip
  by_cases c1:x.key < y.key
  ·refine dI hmx [[],[0],[0,1],[0,1,2],(ra 0 4),[0,1,2],[0,1,2],[0,1,2,6],[0,1,2,5,6,7],[0,1,2,5,6,7,8],[0,1,2,5,6,7,8,9],(ra 0 11),(ra 0 12),(ra 0 13)] [13] (by kernel_rfl) [_,_,_,_,vi x.key,_,_,vi ((k - 1:Nat):Int),_,_,_,_,_] H (aF (Z0 rfl (Rm rfl)) (Z1 0 30 rfl (Rc rfl)) (Z1 1 31 rfl (Rm rfl)) (Z1 2 32 rfl (YF xQ (aK c0) rfl)) (aF (Z2 3 33 2 32 rfl (YO bR 0 (aK c0) rfl)) (Z1 2 32 rfl (YM (aK c0) rfl)) (Z1 2 32 rfl (YM (aK c0) rfl)) ?_ (aF (Z3 5 35 7 37 2 32 rfl (YI oC jw (aK c0) rfl rfl)) (Z2 8 38 2 32 rfl (YF xQ (aK c0) rfl)) (X2 9 39 2 32 rfl fun hG=>YR bR (aK c0) rfl (aH hG hq)) (Z3 4 34 10 40 2 32 rfl (YC (aK c0) rfl)) (bH (Z2 2 32 11 41 rfl (Pt (aK c0) rfl)) (bH (bQ rfl) cZ))))) ?_
   ·refine dH 6 36 2 32 rfl rfl fun _ a w G1 hG HT H fin=>?_;refine lK _ H (wg H rfl rfl (aK c0)) rfl rfl rfl (by omega) (by omega) rfl ?_;clear H;intro a H;exact fin H iJ (by show _=_;first|rfl|exact aB vi (by omega))
   clear H;intro a w G gI H hv;have H:=H.aN (hv 12 42 rfl rfl) rfl;clear hv;refine t1 3 H ?_;clear H;have hz:0 < k∧x.key < y.key:=⟨by omega,c1⟩;refine aQ 3 ?_;rw [he];refine aB vi ?_;clear he hrow hrow' hq hx hy;unfold wu;(repeat' split) <;> first|rfl|(simp_all;done)|(exfalso;simp_all;done)
  refine dI hmx [[],[0],[0,1],[0,1,2],(ra 0 4),[0,1,2],[0,1,2],[0,1,2,6],[0,1,2,5,6,7],[0,1,2,5,6,7,8],[0,1,2,5,6,7,8,9],(ra 0 11),(ra 0 12),(ra 0 13)] [13] (by kernel_rfl) [_,_,_,_,vi x.key,_,_,vi ((k - 1:Nat):Int),_,_,_,_,_] H (aF (Z0 rfl (Rm rfl)) (Z1 0 30 rfl (Rc rfl)) (Z1 1 31 rfl (Rm rfl)) (Z1 2 32 rfl (YF xQ (aK c0) rfl)) (aF (Z2 3 33 2 32 rfl (YO bR 0 (aK c0) rfl)) (Z1 2 32 rfl (YM (aK c0) rfl)) (Z1 2 32 rfl (YM (aK c0) rfl)) ?_ (aF (Z3 5 35 7 37 2 32 rfl (YI oC jw (aK c0) rfl rfl)) (Z2 8 38 2 32 rfl (YF xQ (aK c0) rfl)) (X2 9 39 2 32 rfl fun hG=>YR bR (aK c0) rfl (aH hG hq)) (Z3 4 34 10 40 2 32 rfl (YC (aK c0) rfl)) (bH (Z2 2 32 11 41 rfl (Pt (aK c0) rfl)) (bH (bQ rfl) cZ))))) ?_
  ·refine dH 6 36 2 32 rfl rfl fun _ a w G1 hG HT H fin=>?_;refine lK _ H (wg H rfl rfl (aK c0)) rfl rfl rfl (by omega) (by omega) rfl ?_;clear H;intro a H;exact fin H iJ (by show _=_;first|rfl|exact aB vi (by omega))
  clear H;intro a w G gI H hv;have H:=H.aN (hv 12 42 rfl rfl) rfl;clear hv;refine t1 3 H ?_;clear H
  have hz:¬ (0 < k∧x.key < y.key):=by first|exact fun h=>c1 h.2|exact fun h=>c0 (by omega)
  refine goB 6 ?_ ?_
  ·intro p43
   refine ak 4 ?_;intro a H;refine s_call jC H wn rfl (jH _ _ H.ro _ 21) rfl ?_;clear H;rintro v50 _ a w ⟨rfl,rfl⟩ - H;refine fH 2 H ?_;rw [he];refine aB vi ?_;clear he hrow hrow' hq hx hy;unfold wu;(repeat' split) <;> first|rfl|(simp_all;done)|(exfalso;simp_all;done)
  intro p43
  refine ak 2 ?_;replace hck:=(hck.mono BJ).mono gI;replace hb:=gI _ _ (BJ _ _ hb);intro a H;refine dI hmx [[],[0],[],[2],(ra 0 4),[],[],[6],[],[8],(ra 0 10),(ra 0 11),(ra 0 12),(ra 0 13)] [11,12,13] (by kernel_rfl) [_,vi x.key,_,vi x.before,vi (rG x.key x.before),_,_,vi x.key,_,vi x.before,vi (nQ st (li.map eD.id) x.key x.before)] H (aF (Z0 rfl (Rf xQ rfl)) (Z1 0 51 rfl (Ro bR 0 rfl)) (Z0 rfl (Rf Na rfl)) (Z1 2 53 rfl (Ro bR 0 rfl)) (aF ?_ (Z0 rfl (Rm rfl)) (Z0 rfl (Rf xQ rfl)) (Z1 6 57 rfl (Ro bR 0 rfl)) (aF (Z0 rfl (Rf Na rfl)) (Z1 8 59 rfl (Ro bR 0 rfl)) ?_ (bQ rfl) (bH (bQ rfl) (bH (bQ rfl) cZ))))) ?_
  ·refine dH 1 52 3 54 rfl rfl fun _ a w G1 hG HT H fin=>?_;refine s_call Q7 H wn rfl (Qx _ _ H.ro x.key x.before) rfl ?_;clear H;rintro v55 I6 a w rfl Sm H;exact fin H Sm (rfl)
  ·refine xI 5 56 7 58 9 60 rfl rfl fun _ a w G1 hG HT H fin=>?_;refine s_call QW H wn rfl (QB _ _ H.ro st li rv b ms ml mr mb mu n x.key x.before (hck.mono hG) (hG _ _ hb)) rfl ?_;clear H;rintro v61 G61 a w ⟨rfl,-⟩ Sn H;exact fin H Sn (rfl)
  clear H;intro a w G pX H hv;have H:=H.aN (hv 4 55 rfl rfl) rfl;have H:=H.aN (hv 10 61 rfl rfl) rfl;clear hv;refine gJ qm iA [_,_] [_,_] H wn rfl rfl rfl rfl rfl (by intro i q h;match i,h with|0,h=>exact h|1,h=>exact h|n+2,h=>simp at h) rfl rfl ?_;clear H;intro b62 a w alr H;obtain ⟨G62,amn,SS,H⟩:=H.dZ;refine s_call qC H wn rfl (qD _ _ H.ro _ _ (yC SS)) rfl ?_;clear H;rintro v63 _ a w ⟨rfl,rfl⟩ - H;refine kH H (Ra rfl ?_);clear H;intro a H;refine aC ⟨rfl,?_⟩;refine dR ?_;refine uH 0 H ?_;rw [he];refine aB vi ?_;clear he hrow hrow' hq hx hy;unfold wu;(repeat' split) <;> first|rfl|(simp_all;done)|(exfalso;simp_all;done)
 refine dI hmx [[],[0],[0,1],[0,1,2],(ra 0 4),[0,1,2],[0,1,2],[0,1,2,6],[0,1,2,5,6,7],[0,1,2,5,6,7,8],[0,1,2,5,6,7,8,9],(ra 0 11),(ra 0 12),(ra 0 13)] [13] (by kernel_rfl) [_,_,_,undef,undef,undef,undef,undef,undef,undef,undef,undef,_] H (aF (Z0 rfl (Rm rfl)) (Z1 0 30 rfl (Rc rfl)) (Z1 1 31 rfl (Rm rfl)) (aZ 2 (bD c0) rfl rfl) (aF (aZ 2 (bD c0) rfl rfl) (aZ 2 (bD c0) rfl rfl) (aZ 2 (bD c0) rfl rfl) (aZ 2 (bD c0) rfl rfl) (aF (aZ 2 (bD c0) rfl rfl) (aZ 2 (bD c0) rfl rfl) (aZ 2 (bD c0) rfl rfl) (aZ 2 (bD c0) rfl rfl) (bH (Z2 2 32 11 41 rfl (Pf (bD c0) rfl)) (bH (bQ rfl) cZ))))) ?_
 clear H;intro a w G gI H hv;have H:=H.aN (hv 12 42 rfl rfl) rfl;clear hv;refine t1 3 H ?_;clear H
 have hz:¬ (0 < k∧x.key < y.key):=by first|exact fun h=>c1 h.2|exact fun h=>c0 (by omega)
 refine goB 6 ?_ ?_
 ·intro p43
  refine ak 4 ?_;intro a H;refine s_call jC H wn rfl (jH _ _ H.ro _ 21) rfl ?_;clear H;rintro v50 _ a w ⟨rfl,rfl⟩ - H;refine fH 2 H ?_;rw [he];refine aB vi ?_;clear he hrow hrow' hq hx hy;unfold wu;(repeat' split) <;> first|rfl|(simp_all;done)|(exfalso;simp_all;done)
 intro p43
 refine ak 2 ?_;replace hck:=(hck.mono BJ).mono gI;replace hb:=gI _ _ (BJ _ _ hb);intro a H;refine dI hmx [[],[0],[],[2],(ra 0 4),[],[],[6],[],[8],(ra 0 10),(ra 0 11),(ra 0 12),(ra 0 13)] [11,12,13] (by kernel_rfl) [_,vi x.key,_,vi x.before,vi (rG x.key x.before),_,_,vi x.key,_,vi x.before,vi (nQ st (li.map eD.id) x.key x.before)] H (aF (Z0 rfl (Rf xQ rfl)) (Z1 0 51 rfl (Ro bR 0 rfl)) (Z0 rfl (Rf Na rfl)) (Z1 2 53 rfl (Ro bR 0 rfl)) (aF ?_ (Z0 rfl (Rm rfl)) (Z0 rfl (Rf xQ rfl)) (Z1 6 57 rfl (Ro bR 0 rfl)) (aF (Z0 rfl (Rf Na rfl)) (Z1 8 59 rfl (Ro bR 0 rfl)) ?_ (bQ rfl) (bH (bQ rfl) (bH (bQ rfl) cZ))))) ?_
 ·refine dH 1 52 3 54 rfl rfl fun _ a w G1 hG HT H fin=>?_;refine s_call Q7 H wn rfl (Qx _ _ H.ro x.key x.before) rfl ?_;clear H;rintro v55 I6 a w rfl Sm H;exact fin H Sm (rfl)
 ·refine xI 5 56 7 58 9 60 rfl rfl fun _ a w G1 hG HT H fin=>?_;refine s_call QW H wn rfl (QB _ _ H.ro st li rv b ms ml mr mb mu n x.key x.before (hck.mono hG) (hG _ _ hb)) rfl ?_;clear H;rintro v61 G61 a w ⟨rfl,-⟩ Sn H;exact fin H Sn (rfl)
 clear H;intro a w G pX H hv;have H:=H.aN (hv 4 55 rfl rfl) rfl;have H:=H.aN (hv 10 61 rfl rfl) rfl;clear hv;refine gJ qm iA [_,_] [_,_] H wn rfl rfl rfl rfl rfl (by intro i q h;match i,h with|0,h=>exact h|1,h=>exact h|n+2,h=>simp at h) rfl rfl ?_;clear H;intro b62 a w alr H;obtain ⟨G62,amn,SS,H⟩:=H.dZ;refine s_call qC H wn rfl (qD _ _ H.ro _ _ (yC SS)) rfl ?_;clear H;rintro v63 _ a w ⟨rfl,rfl⟩ - H;refine kH H (Ra rfl ?_);clear H;intro a H;refine aC ⟨rfl,?_⟩;refine dR ?_;refine uH 0 H ?_;rw [he];refine aB vi ?_;clear he hrow hrow' hq hx hy;unfold wu;(repeat' split) <;> first|rfl|(simp_all;done)|(exfalso;simp_all;done)
end
section
open Go.RowKit
instance Pn:Ty prog 123 1 8 [.pointer none] false:=⟨by kernel_rfl,by kernel_rfl⟩
theorem agH:∀ args w,(callFunc 132 args).run prog w=.ok (.enter 132 args) w:=enters func132 rfl (by kernel_rfl)
instance CB:Ty prog 27 4 64 [.int .i64 0,.int .i64 0,.slice none 0 0,.slice none 0 0] true:=⟨by kernel_rfl,by kernel_rfl⟩
instance Jy:dS prog 159 0 0:=⟨by kernel_rfl⟩
instance:dS prog 159 1 1:=⟨by kernel_rfl⟩
theorem agG:∀ args w,(callFunc 131 args).run prog w=.ok (.enter 131 args) w:=enters func131 rfl (by kernel_rfl)
variable {us:List Int}
theorem anQ {G:GH} {st:List bS} {li:List eD} {rv:List bX} {b ms ml mr mb mu:Nat} {n:Int} (hck:vw us G st li rv ms ml mr mu) (hb:G b=some (fP b ms ml mr mb mu n).2)
  {x3 x4 VN:Nat} {e:Int} {l:List cK} {v:aj} (h3:aI G x3 0=some (aG b 0)) (h4:aI G x4 0=some (vi e)) (h11:aI G VN 3=some v) (hv:au G (.sl 4 (l.map cK.dat)) v) :
  sO (.func (.func 131) #[] #[(aG x3 0),(aG x4 0),(aG VN 0)]) G l.length (xX (bE us st li rv) e l):=by
 intro k hk G1 w0 hm hG;refine iN (caps:=[(aG x3 0),(aG x4 0),(aG VN 0)]) agG ?_;replace h3:=aH hm h3;replace h4:=aH hm h4;replace h11:=aH hm h11;replace hv:=hv.mono hm;obtain ⟨vA,vn,vc,rfl⟩:=hv.form;refine eN [(0,_),(1,_),(2,_),(3,_)] func131 rfl ntmps131 rfl rfl hG ?_;refine ak 9 ?_;intro a H;refine s_call agH H wn rfl (anS _ _ H.ro st li rv b ms ml mr mb mu n (hck.mono hm) (hm _ _ hb) e l _ hv k hk) rfl ?_;clear H;rintro v11 ru a w rfl BO H;refine fH 2 H ?_;exact rfl
def zL (C:bO) (l:List aT):Int:=cO (l.map fun p=>nQ C.st C.uT p.key p.value)
def jI (C:bO) (m:xH):Int:=if m.ins≠0∧m.ins∉C.zM then 22 else if ¬ (0≤m.move∧m.move≤1073741824)∨(m.move≠0∧m.ins=0) then 21 else if 16 < (m.bL.length:Int) then 9 else 0
def sW (C:bO) (k:Nat) (x:fE) (pr:Int):Int:=if x.rev∉C.zM then 22 else if 0 < k∧x.rev≤pr then 6 else if ¬ (0≤x.move∧x.move≤1073741824) then 21 else 0
def sV (C:bO) (l:List fE) (k:Nat):Int:=match l[k]? with|some x=>sW C k x ((l[k - 1]?.map fE.rev).getD 0)|none=>0
def gY (C:bO) (e:Int) (h:dW):Int:=cO [gN e h.props,zL C h.props,jI C h.marks,iH (sV C h.marks.bL) h.marks.bL.length,dx (decide (64 < (h.marks.layers.length:Int))) 9,iH (xX C e h.marks.layers) h.marks.layers.length]
theorem alQ {C:bO} {e:Int} {h:dW} (h1:gN e h.props≠0):gY C e h=gN e h.props:=by simp [gY,cO,h1]
theorem alR {C:bO} {e:Int} {h:dW} (h1:gN e h.props=0) (h2:zL C h.props≠0):gY C e h=zL C h.props:=by simp [gY,cO,h1,h2]
theorem BM {C:bO} {e:Int} {h:dW} (h1:gN e h.props=0) (h2:zL C h.props=0) (h3:jI C h.marks≠0):gY C e h=jI C h.marks:=by simp [gY,cO,h1,h2,h3]
theorem alS {C:bO} {e:Int} {h:dW} (h1:gN e h.props=0) (h2:zL C h.props=0) (h3:jI C h.marks=0) (h4:iH (sV C h.marks.bL) h.marks.bL.length≠0):gY C e h=iH (sV C h.marks.bL) h.marks.bL.length:=by simp [gY,cO,h1,h2,h3,h4]
theorem alT {C:bO} {e:Int} {h:dW} (h1:gN e h.props=0) (h2:zL C h.props=0) (h3:jI C h.marks=0) (h4:iH (sV C h.marks.bL) h.marks.bL.length=0) (h5:64 < (h.marks.layers.length:Int)):gY C e h=9:=by simp [gY,cO,h1,h2,h3,h4,dx,h5]
theorem alU {C:bO} {e:Int} {h:dW} (h1:gN e h.props=0) (h2:zL C h.props=0) (h3:jI C h.marks=0) (h4:iH (sV C h.marks.bL) h.marks.bL.length=0) (h5:¬ 64 < (h.marks.layers.length:Int)):gY C e h=iH (xX C e h.marks.layers) h.marks.layers.length:=by simp [gY,cO,h1,h2,h3,h4,dx,h5];exact Eq.symm
theorem abG {C:bO} {l:List aT} {k:Nat} (h:k < l.length):cO ((l.map fun p=>nQ C.st C.uT p.key p.value).drop k)=if nQ C.st C.uT l[k].key l[k].value≠0 then nQ C.st C.uT l[k].key l[k].value else cO ((l.map fun p=>nQ C.st C.uT p.key p.value).drop (k+1)):=by
 rw [Nf (by simpa using h)];simp
theorem alV (G:GH) (w0:World) (hG:Hold G w0) (st:List bS) (li:List eD) (rv:List bX) (b ms ml mr mb mu:Nat) (n:Int) (hck:vw us G st li rv ms ml mr mu) (hb:G b=some (fP b ms ml mr mb mu n).2)
  (e:Int) (h:dW) (p d l:aj) (hh:fC G h p d l) (hz:kV h≤4294967296) :
  Calls prog 70 #[(aG b 0),vi e,pq h p d l] w0 (bB w0 G fun u G'=>u=vi (gY (bE us st li rv) e h)):=by
 obtain ⟨pA,pc,rfl,-,-,-⟩:=hh.props.slice;obtain ⟨dA,dc,rfl,-,-,-⟩:=hh.bL.slice;obtain ⟨lA,lc,rfl,-,-,-⟩:=hh.layers.slice;have hml:maxLen=9223372036854775807:=rfl;have hzz:=D9 h;have hz1:=oM (h.props.map aT.dat);have hz2:=oM (h.marks.bL.map fE.dat);have hz3:=oM (h.marks.layers.map cK.dat)
 simp only [bM] at hh hz1 hz2 hz3 ⊢
 generalize kV h=zz at hz hzz
 refine eN [(0,_),(1,_),(2,_)] func70 rfl ntmps70 rfl rfl hG ?_;refine ak 1 ?_;intro a H;refine dP (cs:=[_]) H wn rfl rfl rfl ?_;clear H;intro b3 a w hb3 H;refine dP (cs:=[_]) H wn rfl rfl rfl ?_;clear H;intro b4 a w hb4 H;refine dP (cs:=[_,_,_,_,_]) H wn rfl rfl rfl ?_;clear H;intro b5 a w hb5 H;refine aD 3 H ?_;clear H;intro a H;obtain ⟨Ga5,NT,xR,H⟩:=H.dZ;obtain ⟨Ga4,Ia,zk,H⟩:=H.dZ;obtain ⟨Ga,Dp,uL,H⟩:=H.dZ;replace xR:=Dp _ _ (Ia _ _ xR);replace zk:=Dp _ _ zk;have hma:∀ b o,G b=some o→Ga b=some o:=fun b o h=>Dp _ _ (Ia _ _ (NT _ _ h));clear Dp Ia NT;replace hck:=hck.mono hma;replace hb:=hma _ _ hb;replace hh:=hh.mono hma
 have g3:aI Ga b3 0=some (aG b 0):=by unfold aI;rw [uL];rfl
 have g4:aI Ga b4 0=some (vi e):=by unfold aI;rw [zk];rfl
 have g50:aI Ga b5 0=some (.slice pA h.props.length pc):=by unfold aI;rw [xR];rfl
 have g51:∀ (j:Nat) (u:aj),[vi h.marks.ins,vi h.marks.move,.slice dA h.marks.bL.length dc,.slice lA h.marks.layers.length lc][j]?=some u→aI Ga b5 (1+j)=some u:=by
  intro j u hj
  unfold aI;rw [xR]
  match j,hj with
  | 0,hj=>exact hj
  | 1,hj=>exact hj
  | 2,hj=>exact hj
  | 3,hj=>exact hj
  | n+4,hj=>simp at hj
 have hc2:aI Ga b 2=some (.map (some mr)):=by unfold aI;rw [hb];rfl
 refine fO 4 H ?_;clear H;intro a H;refine s_call X4 H wn rfl (WZ (abz _ _ H.ro e h.props _ hh.props)) rfl ?_;clear H;rintro v17 _ a w ⟨⟨_,rfl⟩,rfl⟩ - H;refine gQ 6 H ?_ ?_ <;> clear H
 ·intro sw
  have hE:=alQ (C:=bE us st li rv) (e:=e) (h:=h) sw;refine aQ 4 ?_;rw [hE]
 intro sw
 have e1:gN e h.props=0:=by simpa using sw
 refine ak 9 ?_;intro a H;refine eH (ι:=Nat) (Tc:=[(3,_),(4,_),(5,_),(22,_),(23,_)]) (Lc:=[]) (fun gh=>[(24,vi gh)]) (fun gh=>[]) (fun gh=>Ga) (fun gh=>gh≤h.props.length∧cO ((h.props.map fun p=>nQ st (li.map eD.id) p.key p.value).drop gh)=zL (bE us st li rv) h.props) (fun gh=>h.props.length - gh) (0) sB ?_ ?_
 ·exact ⟨gW _,rfl⟩
 clear H;intro k a w hI H;obtain ⟨hk,heq⟩:=hI;dsimp only [lca,bG] at H;refine dQ 4 H ?_ ?_ <;> clear H
 ·intro p25
  have hk2:k < h.props.length:=by omega
  obtain ⟨xb,xo,rfl,hrow⟩:=Fq hh.props hk2;refine ak 5 ?_;intro a H;refine aS gU (cs:=[_,_]) H wn rfl rfl (fun j v hj=>H.hp.aI (hrow j v hj)) rfl ?_;clear H;intro a H;refine dz gU H wn rfl ?_;clear H;intro b9 a w rQ H;refine aV gU 0 (vs:=[_,_]) _ H wn rfl rfl rfl rfl rfl rfl rfl rfl ?_;clear H;intro w H;dsimp only [List.set,setRow] at H;refine aD 7 H ?_;clear H;intro a H;refine s_call QW H wn rfl (QB _ _ H.ro st li rv b ms ml mr mb mu n h.props[k].key h.props[k].value hck hb) rfl ?_;clear H;rintro v33 _ a w ⟨rfl,rfl⟩ - H;refine gQ 6 H ?_ ?_ <;> clear H
  ·intro p35
   have hr:zL (bE us st li rv) h.props=nQ st (li.map eD.id) h.props[k].key h.props[k].value:=by rw [← heq];exact (abG (C:=bE us st li rv) hk2).trans (av p35)
   have hE:=(alR (C:=bE us st li rv) (e:=e) (h:=h) e1 (by rw [hr];exact p35)).trans hr;refine aQ 4 ?_;rw [hE]
  intro p35
  refine ak 4 ?_;intro a H;refine aC ?_;refine cB ((k+1)) (by exact (H.dY (Pl:=[_]) (dM:=[]) [] (by decide) rfl).sub ⟨rfl,rfl,rfl,rfl,rfl,rfl,aU⟩) ?_ ?_
  ·exact ⟨by omega,by rw [abG (C:=bE us st li rv) hk2,ah (by simpa using p35)] at heq;exact heq⟩
  first|omega|(dsimp only;omega)
 intro p25
 refine ak 1 ?_
 have e2:zL (bE us st li rv) h.props=0:=by rw [← heq,kC (by rw [bM];omega)];rfl
 refine ak 2 ?_;intro a H;refine aS CB (cs:=[vi h.marks.ins,vi h.marks.move,.slice dA h.marks.bL.length dc,.slice lA h.marks.layers.length lc]) H wn rfl rfl (fun j v hj=>H.hp.aI (g51 j v hj)) rfl ?_;clear H;intro a H;refine dz CB H wn rfl ?_;clear H;intro b11 a w EA H;refine aV CB 0 (vs:=[_,_,_,_]) _ H wn rfl rfl rfl rfl rfl rfl rfl rfl ?_;clear H;intro w H;dsimp only [List.set,setRow] at H;obtain ⟨Gb,hmb,Aq,H⟩:=H.dZ;replace hck:=hck.mono hmb;replace hb:=hmb _ _ hb;replace hh:=hh.mono hmb;replace g3:=aH hmb g3;replace g4:=aH hmb g4;replace hc2:=aH hmb hc2
 have q0:aI Gb b11 0=some (vi h.marks.ins):=by unfold aI;rw [Aq];rfl
 have q1:aI Gb b11 1=some (vi h.marks.move):=by unfold aI;rw [Aq];rfl
 have q2:aI Gb b11 2=some (.slice dA h.marks.bL.length dc):=by unfold aI;rw [Aq];rfl
 have q3:aI Gb b11 3=some (.slice lA h.marks.layers.length lc):=by unfold aI;rw [Aq];rfl
 have hcb:=anQ hck hb g3 g4 q3 hh.layers;refine aC ?_;refine dR ?_;refine qz (ι:=GH) (Tc:=[(3,_),(4,_),(11,_)]) (Lc:=[]) (fun gh=>[]) (fun gh=>[]) (fun gh=>gh) (fun gh=>jI (bE us st li rv) h.marks=0∧(∀ b o,Gb b=some o→gh b=some o)) sB ?_ ?_
 ·refine MI ?_;refine Dh ?_
  by_cases c0:h.marks.ins≠0
  ·skip
   by_cases c1:h.marks.ins∉rv.map bX.id
   ·refine dI hmx [[],[0],[0,1],[0,1,2],(ra 0 4),(ra 0 5),(ra 0 6),(ra 0 7),(ra 0 4),[0,1,2,3,8],(ra 0 10),(ra 0 11),(ra 0 12),(ra 0 13)] [13] (by kernel_rfl) [_,_,_,_,_,(aG b 0),_,_,_,_,.bool (decide (h.marks.ins∈rv.map bX.id)),.bool (decide (h.marks.ins∉rv.map bX.id)),_] H (aF (Z0 rfl (Rf Dc rfl)) (X1 0 41 rfl fun hG=>Rg bR rfl (aH hG q0)) (Z1 1 42 rfl (Rc rfl)) (Z1 2 43 rfl (Rm rfl)) (aF (X1 3 44 rfl fun hG=>YR Pn (aK c0) rfl (aH hG g3)) ?_ (Z2 5 46 3 44 rfl (YF Jw (aK c0) rfl)) (X2 6 47 3 44 rfl fun hG=>YR DY (aK c0) rfl (aH hG hc2)) (aF (Z1 3 44 rfl (YF Dc (aK c0) rfl)) (X2 8 49 3 44 rfl fun hG=>YR bR (aK c0) rfl (aH hG q0)) ?_ ?_ (bH (Z2 3 44 11 52 rfl (Pt (aK c0) rfl)) (bH (bQ rfl) cZ))))) ?_
    ·refine dH 4 45 3 44 rfl rfl fun _ a w G1 hG HT H fin=>?_;refine tY H (wg H rfl rfl (aK c0)) rfl rfl ?_;clear H;intro a H;exact fin H iJ rfl
    ·refine xI 7 48 9 50 3 44 rfl rfl fun _ a w G1 hG HT H fin=>?_;refine zN (zv:=.bool false) vg kI (by kernel_rfl) H (wg H rfl rfl (aK c0)) rfl rfl (H.ro _ _ (hG _ _ hck.rev)) rfl ?_;clear H;intro a H;rw [Dz] at H;exact fin H iJ rfl
    ·refine dH 10 51 3 44 rfl rfl fun _ a w G1 hG HT H fin=>?_;refine aD 1 H ?_;clear H;intro a H;exact fin H iJ (by show _=_;first|rfl|exact dD decide_not.symm)
    clear H;intro a w G mV H hv;have H:=H.aN (hv 12 53 rfl rfl) rfl;clear hv;refine t1 3 H ?_;clear H;have e3:jI (bE us st li rv) h.marks=22:=av ⟨c0,c1⟩;have hE:=(BM (C:=bE us st li rv) (e:=e) (h:=h) e1 e2 (by rw [e3];decide)).trans e3;refine aQ 3 ?_;rw [hE]
   refine dI hmx [[],[0],[0,1],[0,1,2],(ra 0 4),(ra 0 5),(ra 0 6),(ra 0 7),(ra 0 4),[0,1,2,3,8],(ra 0 10),(ra 0 11),(ra 0 12),(ra 0 13)] [13] (by kernel_rfl) [_,_,_,_,_,(aG b 0),_,_,_,_,.bool (decide (h.marks.ins∈rv.map bX.id)),.bool (decide (h.marks.ins∉rv.map bX.id)),_] H (aF (Z0 rfl (Rf Dc rfl)) (X1 0 41 rfl fun hG=>Rg bR rfl (aH hG q0)) (Z1 1 42 rfl (Rc rfl)) (Z1 2 43 rfl (Rm rfl)) (aF (X1 3 44 rfl fun hG=>YR Pn (aK c0) rfl (aH hG g3)) ?_ (Z2 5 46 3 44 rfl (YF Jw (aK c0) rfl)) (X2 6 47 3 44 rfl fun hG=>YR DY (aK c0) rfl (aH hG hc2)) (aF (Z1 3 44 rfl (YF Dc (aK c0) rfl)) (X2 8 49 3 44 rfl fun hG=>YR bR (aK c0) rfl (aH hG q0)) ?_ ?_ (bH (Z2 3 44 11 52 rfl (Pt (aK c0) rfl)) (bH (bQ rfl) cZ))))) ?_
   ·refine dH 4 45 3 44 rfl rfl fun _ a w G1 hG HT H fin=>?_;refine tY H (wg H rfl rfl (aK c0)) rfl rfl ?_;clear H;intro a H;exact fin H iJ rfl
   ·refine xI 7 48 9 50 3 44 rfl rfl fun _ a w G1 hG HT H fin=>?_;refine zN (zv:=.bool false) vg kI (by kernel_rfl) H (wg H rfl rfl (aK c0)) rfl rfl (H.ro _ _ (hG _ _ hck.rev)) rfl ?_;clear H;intro a H;rw [Dz] at H;exact fin H iJ rfl
   ·refine dH 10 51 3 44 rfl rfl fun _ a w G1 hG HT H fin=>?_;refine aD 1 H ?_;clear H;intro a H;exact fin H iJ (by show _=_;first|rfl|exact dD decide_not.symm)
   clear H;intro a w G mV H hv;have H:=H.aN (hv 12 53 rfl rfl) rfl;clear hv;refine t1 3 H ?_;clear H
   have hno:¬ (h.marks.ins≠0∧h.marks.ins∉(bE us st li rv).zM):=by first|exact fun h=>c1 h.2|exact fun h=>c0 h.1
   replace q0:=aH mV q0;replace q1:=aH mV q1;replace q2:=aH mV q2;refine ak 3 ?_;intro a H;refine s_call wL H wn rfl (wW _ _ H.ro h.marks.move 0 1073741824) rfl ?_;clear H;rintro v57 _ a w ⟨rfl,rfl⟩ - H;refine pW 2 59 H ?_ ?_ <;> clear H
   ·intro p59
    refine ak 12 ?_
    have e3:jI (bE us st li rv) h.marks=21:=by unfold jI;rw [ah hno,av (by first|(simp_all;done)|(simp_all;omega))]
    have hE:=(BM (C:=bE us st li rv) (e:=e) (h:=h) e1 e2 (by rw [e3];decide)).trans e3;refine aQ 3 ?_;rw [hE]
   intro p59
   refine lT 4 63 ?_ ?_
   ·intro p63
    refine goB 7 ?_ ?_
    ·intro p54
     have e3:jI (bE us st li rv) h.marks=21:=by unfold jI;rw [ah hno,av (by first|(simp_all;done)|(simp_all;omega))]
     have hE:=(BM (C:=bE us st li rv) (e:=e) (h:=h) e1 e2 (by rw [e3];decide)).trans e3;refine aQ 3 ?_;rw [hE]
    intro p54
    have hn2:¬ (¬ (0≤h.marks.move∧h.marks.move≤1073741824)∨(h.marks.move≠0∧h.marks.ins=0)):=by first|(simp_all;done)|(simp_all;omega)
    refine goC 7 ?_ ?_
    ·intro uK
     have e3:jI (bE us st li rv) h.marks=9:=by unfold jI;rw [ah hno,ah hn2,av (by simpa using uK)]
     have hE:=(BM (C:=bE us st li rv) (e:=e) (h:=h) e1 e2 (by rw [e3];decide)).trans e3;refine aQ 3 ?_;rw [hE]
    intro uK
    have e3:jI (bE us st li rv) h.marks=0:=by unfold jI;rw [ah hno,ah hn2,ah (by simpa using uK)]
    intro a H;refine jB ?_;refine ⟨_,sB,?_⟩;exact ⟨e3,mV⟩
   intro p63
   refine ak 8 ?_
   have hn2:¬ (¬ (0≤h.marks.move∧h.marks.move≤1073741824)∨(h.marks.move≠0∧h.marks.ins=0)):=by first|(simp_all;done)|(simp_all;omega)
   refine goC 7 ?_ ?_
   ·intro uK
    have e3:jI (bE us st li rv) h.marks=9:=by unfold jI;rw [ah hno,ah hn2,av (by simpa using uK)]
    have hE:=(BM (C:=bE us st li rv) (e:=e) (h:=h) e1 e2 (by rw [e3];decide)).trans e3;refine aQ 3 ?_;rw [hE]
   intro uK
   have e3:jI (bE us st li rv) h.marks=0:=by unfold jI;rw [ah hno,ah hn2,ah (by simpa using uK)]
   intro a H;refine jB ?_;refine ⟨_,sB,?_⟩;exact ⟨e3,mV⟩
  refine dI hmx [[],[0],[0,1],[0,1,2],(ra 0 4),(ra 0 5),(ra 0 6),(ra 0 7),(ra 0 4),[0,1,2,3,8],(ra 0 10),(ra 0 11),(ra 0 12),(ra 0 13)] [13] (by kernel_rfl) [_,_,_,_,undef,undef,undef,undef,undef,undef,undef,undef,_] H (aF (Z0 rfl (Rf Dc rfl)) (X1 0 41 rfl fun hG=>Rg bR rfl (aH hG q0)) (Z1 1 42 rfl (Rc rfl)) (Z1 2 43 rfl (Rm rfl)) (aF (aZ 3 (bD c0) rfl rfl) (aZ 3 (bD c0) rfl rfl) (aZ 3 (bD c0) rfl rfl) (aZ 3 (bD c0) rfl rfl) (aF (aZ 3 (bD c0) rfl rfl) (aZ 3 (bD c0) rfl rfl) (aZ 3 (bD c0) rfl rfl) (aZ 3 (bD c0) rfl rfl) (bH (Z2 3 44 11 52 rfl (Pf (bD c0) rfl)) (bH (bQ rfl) cZ))))) ?_
  clear H;intro a w G mV H hv;have H:=H.aN (hv 12 53 rfl rfl) rfl;clear hv;refine t1 3 H ?_;clear H
  have hno:¬ (h.marks.ins≠0∧h.marks.ins∉(bE us st li rv).zM):=by first|exact fun h=>c1 h.2|exact fun h=>c0 h.1
  replace q0:=aH mV q0;replace q1:=aH mV q1;replace q2:=aH mV q2;refine ak 3 ?_;intro a H;refine s_call wL H wn rfl (wW _ _ H.ro h.marks.move 0 1073741824) rfl ?_;clear H;rintro v57 _ a w ⟨rfl,rfl⟩ - H;refine pW 2 59 H ?_ ?_ <;> clear H
  ·intro p59
   refine ak 12 ?_
   have e3:jI (bE us st li rv) h.marks=21:=by unfold jI;rw [ah hno,av (by first|(simp_all;done)|(simp_all;omega))]
   have hE:=(BM (C:=bE us st li rv) (e:=e) (h:=h) e1 e2 (by rw [e3];decide)).trans e3;refine aQ 3 ?_;rw [hE]
  intro p59
  refine lT 4 63 ?_ ?_
  ·intro p63
   refine goB 7 ?_ ?_
   ·intro p54
    have e3:jI (bE us st li rv) h.marks=21:=by unfold jI;rw [ah hno,av (by first|(simp_all;done)|(simp_all;omega))]
    have hE:=(BM (C:=bE us st li rv) (e:=e) (h:=h) e1 e2 (by rw [e3];decide)).trans e3;refine aQ 3 ?_;rw [hE]
   intro p54
   have hn2:¬ (¬ (0≤h.marks.move∧h.marks.move≤1073741824)∨(h.marks.move≠0∧h.marks.ins=0)):=by first|(simp_all;done)|(simp_all;omega)
   refine goC 7 ?_ ?_
   ·intro uK
    have e3:jI (bE us st li rv) h.marks=9:=by unfold jI;rw [ah hno,ah hn2,av (by simpa using uK)]
    have hE:=(BM (C:=bE us st li rv) (e:=e) (h:=h) e1 e2 (by rw [e3];decide)).trans e3;refine aQ 3 ?_;rw [hE]
   intro uK
   have e3:jI (bE us st li rv) h.marks=0:=by unfold jI;rw [ah hno,ah hn2,ah (by simpa using uK)]
   intro a H;refine jB ?_;refine ⟨_,sB,?_⟩;exact ⟨e3,mV⟩
  intro p63
  refine ak 8 ?_
  have hn2:¬ (¬ (0≤h.marks.move∧h.marks.move≤1073741824)∨(h.marks.move≠0∧h.marks.ins=0)):=by first|(simp_all;done)|(simp_all;omega)
  refine goC 7 ?_ ?_
  ·intro uK
   have e3:jI (bE us st li rv) h.marks=9:=by unfold jI;rw [ah hno,ah hn2,av (by simpa using uK)]
   have hE:=(BM (C:=bE us st li rv) (e:=e) (h:=h) e1 e2 (by rw [e3];decide)).trans e3;refine aQ 3 ?_;rw [hE]
  intro uK
  have e3:jI (bE us st li rv) h.marks=0:=by unfold jI;rw [ah hno,ah hn2,ah (by simpa using uK)]
  intro a H;refine jB ?_;refine ⟨_,sB,?_⟩;exact ⟨e3,mV⟩
 clear H;intro g a w hI H;obtain ⟨e3,wU⟩:=hI;replace hck:=hck.mono wU;replace hb:=wU _ _ hb;replace hh:=hh.mono wU;replace g3:=aH wU g3;replace q2:=aH wU q2;replace q3:=aH wU q3;replace hc2:=aH wU hc2;replace hcb:=hcb.mono wU;dsimp only [lca,bG] at H;refine fO 8 H ?_;clear H;intro a H;refine eH (ι:=Nat × GH) (Tc:=[(3,_),(4,_),(11,_),(75,_),(76,_)]) (Lc:=[]) (fun gh=>[(77,vi gh.1)]) (fun gh=>[]) (fun gh=>gh.2) (fun gh=>gh.1≤h.marks.bL.length∧cO (((List.range h.marks.bL.length).map (sV (bE us st li rv) h.marks.bL)).drop gh.1)=iH (sV (bE us st li rv) h.marks.bL) h.marks.bL.length∧(∀ b o,g b=some o→gh.2 b=some o)) (fun gh=>h.marks.bL.length - gh.1) ((0,g)) sB ?_ ?_
 ·exact ⟨gW _,rfl,fun _ _ h=>h⟩
 clear H;rintro ⟨k,g2⟩ a w hI H;dsimp only at hI H;obtain ⟨hk,heq,hgm⟩:=hI;dsimp only [lca,bG] at H;refine dQ 4 H ?_ ?_ <;> clear H
 ·intro p78
  have hk2:k < h.marks.bL.length:=by omega
  have hd2:=hh.bL.mono hgm;obtain ⟨xb,xo,rfl,hrow⟩:=M0 hd2 hk2
  have hk1:k - 1 < h.marks.bL.length:=by omega
  obtain ⟨b',o',he',hrow'⟩:=M0 hd2 hk1
  intro a H;injection he' with he'
  injection he' with e1 e2
  subst e1;subst e2
  have hde:sV (bE us st li rv) h.marks.bL k=sW (bE us st li rv) k h.marks.bL[k] h.marks.bL[k - 1].rev:=by unfold sV;rw [eO hk2,eO hk1];rfl
  have hX:∀ v,sW (bE us st li rv) k h.marks.bL[k] h.marks.bL[k - 1].rev=v→v≠0→gY (bE us st li rv) e h=v:=fun v h1 h2=>by
   have h4:iH (sV (bE us st li rv) h.marks.bL) h.marks.bL.length=v:=by rw [← heq,Bt hk2,hde,h1,av h2]
   exact (alS e1 e2 e3 (by rw [h4];exact h2)).trans h4
  have hp:=hrow' 0 _ rfl;have g3':=aH hgm g3;have hc2':=aH hgm hc2;have q2':=aH hgm q2;refine fO 6 H ?_;clear H;intro a H;refine aS oz (cs:=h.marks.bL[k].cells) H wn rfl rfl (fun j v hj=>H.hp.aI (hrow j v hj)) rfl ?_;clear H;intro a H;refine dz oz H wn rfl ?_;clear H;intro b13 a w NA H;refine aD 1 H ?_;clear H;intro a H;refine aV oz 0 (vs:=[_,_]) _ H wn rfl rfl rfl rfl rfl rfl rfl rfl ?_;clear H;intro w H;dsimp only [List.set,setRow] at H;refine aD 3 H ?_;clear H;intro a H;refine dI hmx [[],[0],[0,1],[0,1,2],[],[4],(ra 0 6),(ra 0 7),(ra 0 8)] [8] (by kernel_rfl) [_,_,_,_,_,vi h.marks.bL[k].rev,.bool (decide (h.marks.bL[k].rev∈rv.map bX.id)),_] H (aF (X0 rfl fun hG=>Rg Pn rfl (aH hG g3')) (Z1 0 83 rfl (Rk rfl)) (Z1 1 84 rfl (Rf Jw rfl)) (X1 2 85 rfl fun hG=>Rg DY rfl (aH hG hc2')) (aF (Z0 rfl (Rf Jy rfl)) (Z1 4 87 rfl (Ro bR 0 rfl)) ?_ (Z1 6 89 rfl (Rn rfl)) (bH (bQ rfl) cZ))) ?_
  ·refine dH 3 86 5 88 rfl rfl fun _ a w G1 hG HT H fin=>?_;refine zN (zv:=.bool false) vg kI (by kernel_rfl) H wn rfl rfl (H.ro _ _ (hG _ _ (hgm _ _ hck.rev))) rfl ?_;clear H;intro a H;rw [Dz] at H;exact fin H iJ rfl
  clear H;intro a w G Hg H hv;have H:=H.aN (hv 7 90 rfl rfl) rfl;clear hv;refine t1 2 H ?_;clear H;refine goC 0 ?_ ?_
  ·intro Nu
   have hE:=hX 22 (by unfold sW;rw [av (by simpa using Nu)]) (by decide);refine aQ 3 ?_;rw [hE]
  intro Nu
  try have p82:=dF Nu
  have J7:¬ (h.marks.bL[k].rev∉(bE us st li rv).zM):=by simpa using Nu
  refine ak 1 ?_;replace hp:=aH Hg hp;replace q2':=aH Hg q2'
  intro a H;by_cases c3:0 < (k:Int)
  ·skip
   by_cases c4:h.marks.bL[k].rev≤h.marks.bL[k - 1].rev
   ·refine dI hmx [[],[0],[0,1],[0,1,2],(ra 0 4),[0,1,2],[0,1,2,5],[0,1,2],[0,1,2,7],[0,1,2,5,6,7,8],[0,1,2,5,6,7,8,9],([0,1,2]++ra 5 6),(ra 0 12),(ra 0 13),(ra 0 14)] [14] (by kernel_rfl) [_,_,_,_,vi h.marks.bL[k].rev,_,_,_,vi ((k - 1:Nat):Int),_,_,_,_,_] H (aF (Z0 rfl (Rm rfl)) (Z1 0 92 rfl (Rc rfl)) (Z1 1 93 rfl (Rm rfl)) (Z1 2 94 rfl (YF Jy (aK c3) rfl)) (aF (Z2 3 95 2 94 rfl (YO bR 0 (aK c3) rfl)) (Z1 2 94 rfl (YF GV (aK c3) rfl)) (X2 5 97 2 94 rfl fun hG=>YR Cz (aK c3) rfl (aH hG q2')) (Z1 2 94 rfl (YM (aK c3) rfl)) (aF ?_ (Z3 6 98 8 100 2 94 rfl (YI yF oz (aK c3) rfl rfl)) (Z2 9 101 2 94 rfl (YF Jy (aK c3) rfl)) (X2 10 102 2 94 rfl fun hG=>YR bR (aK c3) rfl (aH hG hp)) (bH (Z3 4 96 11 103 2 94 rfl (YC (aK c3) rfl)) (bH (Z2 2 94 12 104 rfl (Pt (aK c3) rfl)) (bH (bQ rfl) cZ)))))) ?_
    ·refine dH 7 99 2 94 rfl rfl fun _ a w G1 hG HT H fin=>?_;refine lK _ H (wg H rfl rfl (aK c3)) rfl rfl rfl (by omega) (by omega) rfl ?_;clear H;intro a H;exact fin H iJ (by show _=_;first|rfl|exact aB vi (by omega))
    clear H;intro a w G Nw H hv;have H:=H.aN (hv 13 105 rfl rfl) rfl;clear hv;refine t1 3 H ?_;clear H;have hz:0 < k∧h.marks.bL[k].rev≤h.marks.bL[k - 1].rev:=⟨by omega,c4⟩;have hE:=hX 6 (by unfold sW;rw [ah J7,av hz]) (by decide);refine aQ 3 ?_;rw [hE]
   refine dI hmx [[],[0],[0,1],[0,1,2],(ra 0 4),[0,1,2],[0,1,2,5],[0,1,2],[0,1,2,7],[0,1,2,5,6,7,8],[0,1,2,5,6,7,8,9],([0,1,2]++ra 5 6),(ra 0 12),(ra 0 13),(ra 0 14)] [14] (by kernel_rfl) [_,_,_,_,vi h.marks.bL[k].rev,_,_,_,vi ((k - 1:Nat):Int),_,_,_,_,_] H (aF (Z0 rfl (Rm rfl)) (Z1 0 92 rfl (Rc rfl)) (Z1 1 93 rfl (Rm rfl)) (Z1 2 94 rfl (YF Jy (aK c3) rfl)) (aF (Z2 3 95 2 94 rfl (YO bR 0 (aK c3) rfl)) (Z1 2 94 rfl (YF GV (aK c3) rfl)) (X2 5 97 2 94 rfl fun hG=>YR Cz (aK c3) rfl (aH hG q2')) (Z1 2 94 rfl (YM (aK c3) rfl)) (aF ?_ (Z3 6 98 8 100 2 94 rfl (YI yF oz (aK c3) rfl rfl)) (Z2 9 101 2 94 rfl (YF Jy (aK c3) rfl)) (X2 10 102 2 94 rfl fun hG=>YR bR (aK c3) rfl (aH hG hp)) (bH (Z3 4 96 11 103 2 94 rfl (YC (aK c3) rfl)) (bH (Z2 2 94 12 104 rfl (Pt (aK c3) rfl)) (bH (bQ rfl) cZ)))))) ?_
   ·refine dH 7 99 2 94 rfl rfl fun _ a w G1 hG HT H fin=>?_;refine lK _ H (wg H rfl rfl (aK c3)) rfl rfl rfl (by omega) (by omega) rfl ?_;clear H;intro a H;exact fin H iJ (by show _=_;first|rfl|exact aB vi (by omega))
   clear H;intro a w G Nw H hv;have H:=H.aN (hv 13 105 rfl rfl) rfl;clear hv;refine t1 3 H ?_;clear H
   have hz:¬ (0 < k∧h.marks.bL[k].rev≤h.marks.bL[k - 1].rev):=by first|exact fun h=>c4 h.2|exact fun h=>c3 (by omega)
   refine ak 3 ?_;intro a H;refine s_call wL H wn rfl (wW _ _ H.ro h.marks.bL[k].move 0 1073741824) rfl ?_;clear H;rintro v109 _ a w ⟨rfl,rfl⟩ - H;refine iU 3 H ?_ ?_ <;> clear H
   ·intro yY
    try have UR:=dT yY
    have hE:=hX 21 (by unfold sW;rw [ah J7,ah hz,av (by have h0:=yY;simp at h0;omega)]) (by decide);refine aQ 3 ?_;rw [hE]
   intro yY
   try have UR:=dF yY
   have Tf:sW (bE us st li rv) k h.marks.bL[k] h.marks.bL[k - 1].rev=0:=by unfold sW;rw [ah J7,ah hz,ah (by have h0:=yY;simp at h0;omega)]
   have Sc:=fun b o h=>Nw b o (Hg b o (hgm b o h));refine ak 4 ?_;intro a H;refine aC ?_;refine cB ((k+1,G)) (by exact (H.dY (Pl:=[_]) (dM:=[]) [] (by decide) rfl).sub ⟨rfl,rfl,rfl,rfl,rfl,rfl,aU⟩) ?_ ?_
   ·(try dsimp only);exact ⟨by omega,by rw [Bt hk2,ah (by rw [hde];simpa using Tf)] at heq;exact heq,Sc⟩
   first|omega|(dsimp only;omega)
  refine dI hmx [[],[0],[0,1],[0,1,2],(ra 0 4),[0,1,2],[0,1,2,5],[0,1,2],[0,1,2,7],[0,1,2,5,6,7,8],[0,1,2,5,6,7,8,9],([0,1,2]++ra 5 6),(ra 0 12),(ra 0 13),(ra 0 14)] [14] (by kernel_rfl) [_,_,_,undef,undef,undef,undef,undef,undef,undef,undef,undef,undef,_] H (aF (Z0 rfl (Rm rfl)) (Z1 0 92 rfl (Rc rfl)) (Z1 1 93 rfl (Rm rfl)) (aZ 2 (bD c3) rfl rfl) (aF (aZ 2 (bD c3) rfl rfl) (aZ 2 (bD c3) rfl rfl) (aZ 2 (bD c3) rfl rfl) (aZ 2 (bD c3) rfl rfl) (aF (aZ 2 (bD c3) rfl rfl) (aZ 2 (bD c3) rfl rfl) (aZ 2 (bD c3) rfl rfl) (aZ 2 (bD c3) rfl rfl) (bH (aZ 2 (bD c3) rfl rfl) (bH (Z2 2 94 12 104 rfl (Pf (bD c3) rfl)) (bH (bQ rfl) cZ)))))) ?_
  clear H;intro a w G Nw H hv;have H:=H.aN (hv 13 105 rfl rfl) rfl;clear hv;refine t1 3 H ?_;clear H
  have hz:¬ (0 < k∧h.marks.bL[k].rev≤h.marks.bL[k - 1].rev):=by first|exact fun h=>c4 h.2|exact fun h=>c3 (by omega)
  refine ak 3 ?_;intro a H;refine s_call wL H wn rfl (wW _ _ H.ro h.marks.bL[k].move 0 1073741824) rfl ?_;clear H;rintro v109 _ a w ⟨rfl,rfl⟩ - H;refine iU 3 H ?_ ?_ <;> clear H
  ·intro yY
   try have UR:=dT yY
   have hE:=hX 21 (by unfold sW;rw [ah J7,ah hz,av (by have h0:=yY;simp at h0;omega)]) (by decide);refine aQ 3 ?_;rw [hE]
  intro yY
  try have UR:=dF yY
  have Tf:sW (bE us st li rv) k h.marks.bL[k] h.marks.bL[k - 1].rev=0:=by unfold sW;rw [ah J7,ah hz,ah (by have h0:=yY;simp at h0;omega)]
  have Sc:=fun b o h=>Nw b o (Hg b o (hgm b o h));refine ak 4 ?_;intro a H;refine aC ?_;refine cB ((k+1,G)) (by exact (H.dY (Pl:=[_]) (dM:=[]) [] (by decide) rfl).sub ⟨rfl,rfl,rfl,rfl,rfl,rfl,aU⟩) ?_ ?_
  ·(try dsimp only);exact ⟨by omega,by rw [Bt hk2,ah (by rw [hde];simpa using Tf)] at heq;exact heq,Sc⟩
  first|omega|(dsimp only;omega)
 intro p78
 refine ak 2 ?_
 have e4:iH (sV (bE us st li rv) h.marks.bL) h.marks.bL.length=0:=by rw [← heq,kC (by simp;omega)];rfl
 replace q3:=aH hgm q3;refine goB 6 ?_ ?_
 ·intro UU
  have hE:=alT (C:=bE us st li rv) (e:=e) (h:=h) e1 e2 e3 e4 UU;refine aQ 3 ?_;rw [hE]
 intro UU
 refine ak 1 ?_;have hE:=alU (C:=bE us st li rv) (e:=e) (h:=h) e1 e2 e3 e4 UU;refine ak 4 ?_;intro a H;refine nS H wn rfl rfl ?_;clear H;intro a H;refine s_call GJ H wn rfl (Je _ _ H.ro h.marks.layers.length (xX (bE us st li rv) e h.marks.layers) _ (by omega) (hcb.mono hgm)) rfl ?_;clear H;rintro aus atb a w rfl atq H;refine fH 2 H ?_;rw [hE]
end
section
open Go.RowKit
instance:dS prog 68 1 1:=⟨by kernel_rfl⟩
def codeOk (x:ay):Bool:=if x.kind=4 then decide (1≤x.code∧x.code≤3) else if x.kind=6 then decide (1≤x.code∧x.code≤2) else if x.kind=8 then decide (1≤x.code∧x.code≤4) else true
def yB (x:ay):Bool:=decide (x.kind=8∧x.code=1)
def yH (x:ay):Bool:=decide (x.kind=1∨x.kind=5) || yB x
def wB (x:ay):Bool:=decide (x.kind=6∨x.kind=7∨x.kind=8)
def vK (x:ay):Bool:=decide (x.kind=4∨x.kind=6∨x.kind=8)
def pU (s:ByteArray):Bool:=s.toList == (⟨#[]⟩:ByteArray).toList
def tq (x:ay):Bool:=!vK x && decide (x.code≠0) || !wB x && decide (x.id≠0) || !yH x && !pU x.text || decide (x.kind≠6) && decide (0 < (x.flow.length:Int)) || decide (x.kind≠7) && decide (0 < (x.rows.length:Int))
def jU (x:ay):Int :=
 if (!decide (1≤x.kind∧x.kind≤8) || !codeOk x)=true then 3 else if tq x=true then 15 else if qo x.text=false then 12 else if (decide (x.kind=1∨x.kind=5) && pU x.text)=true then 11
 else if (decide (x.kind=5) && decide (1024 < (x.text.size:Int)))=true then 10 else if (yB x && !qP x.text)=true then 13 else 0
theorem akk (G:GH) (w0:World) (hG:Hold G w0) (x:ay) (p d l:aj) (fA rA:Option Addr) (fc rc:Nat) (hs:x.text.size < 4611686018427387904) :
  Calls prog 196 #[.agg #[vi x.kind,vi x.code,vi x.id,.string x.text,p,vi x.head.marks.ins,vi x.head.marks.move,d,l,.slice fA x.flow.length fc,.slice rA x.rows.length rc]] w0 (bB w0 G fun u G'=>u=vi (jU x)∧G=G'):=by
 refine eN [(0,_)] func196 rfl ntmps196 rfl rfl hG ?_;refine ak 1 ?_;intro a H;refine dP (cs:=[_,_,_,_,_,_,_,_,_,_,_]) H wn rfl rfl rfl ?_;clear H;intro b1 a w hb1 H;refine aD 2 H ?_;clear H;intro a H;refine qz (ι:=Bool) (Tc:=[(1,_)]) (Lc:=[(_,_)]) (fun gh=>[(3,.bool gh)]) (fun gh=>[]) (fun gh=>G) (fun gh=>gh=yB x) sB ?_ ?_
 ·refine Ak 5 11 H ?_ ?_ <;> clear H
  ·intro qj
   refine ak 5 ?_;intro a H;refine aC ?_;refine ⟨_,sB,?_⟩
   unfold yB;first|(simp_all;done)
  intro qj
  refine ak 5 ?_;intro a H;refine aC ?_;refine ⟨_,sB,?_⟩
  unfold yB;first|(simp_all;done)
 clear H;intro st a w hI H;have hst:=hI;dsimp only [lca,bG] at H;refine qz (ι:=Bool) (Tc:=[(1,_),(3,_)]) (Lc:=[(_,_)]) (fun gh=>[(4,.bool gh)]) (fun gh=>[]) (fun gh=>G) (fun gh=>gh=yH x) sB ?_ ?_
 ·refine Ak 5 19 H ?_ ?_ <;> clear H
  ·intro sw
   refine ak 8 ?_;intro a H;refine aC ?_;refine ⟨_,sB,?_⟩
   unfold yH;first|(simp_all;done)
  intro sw
  refine lT 5 24 ?_ ?_
  ·intro jq
   refine ak 3 ?_;intro a H;refine aC ?_;refine ⟨_,sB,?_⟩
   unfold yH;first|(simp_all;done)
  intro jq
  refine ak 3 ?_;intro a H;refine aC ?_;refine ⟨_,sB,?_⟩
  unfold yH;first|(simp_all;done)
 clear H;intro wd a w hI H;have hwd:=hI;dsimp only [lca,bG] at H;refine qz (ι:=Bool) (Tc:=[(1,_),(3,_),(4,_)]) (Lc:=[(_,_)]) (fun gh=>[(5,.bool gh)]) (fun gh=>[]) (fun gh=>G) (fun gh=>gh=wB x) sB ?_ ?_
 ·refine Ak 5 30 H ?_ ?_ <;> clear H
  ·intro p30
   refine ak 10 ?_;intro a H;refine aC ?_;refine ⟨_,sB,?_⟩
   unfold wB;first|(simp_all;done)
  intro p30
  refine lT 5 35 ?_ ?_
  ·intro p35
   refine ak 5 ?_;intro a H;refine aC ?_;refine ⟨_,sB,?_⟩
   unfold wB;first|(simp_all;done)
  intro p35
  refine ak 5 ?_;intro a H;refine aC ?_;refine ⟨_,sB,?_⟩
  unfold wB;first|(simp_all;done)
 clear H;intro nm a w hI H;have hnm:=hI;dsimp only [lca,bG] at H;refine fO 3 H ?_;clear H;intro a H;refine qz (ι:=Bool) (Tc:=[(1,_),(3,_),(4,_),(5,_)]) (Lc:=[(_,_)]) (fun gh=>[(6,.bool gh)]) (fun gh=>[]) (fun gh=>G) (fun gh=>gh=codeOk x) sB ?_ ?_
 ·refine dQ 9 H ?_ ?_ <;> clear H
  ·intro p42
   refine ak 3 ?_;intro a H;refine s_call wL H wn rfl (wW _ _ H.ro x.code 1 3) rfl ?_;clear H;rintro v46 _ a w ⟨rfl,rfl⟩ - H;refine aD 1 H ?_;clear H;intro a H;refine aC ?_;refine ⟨_,sB,?_⟩
   unfold codeOk;first|(simp_all;done)
  intro p42
  refine goB 4 ?_ ?_
  ·intro p47
   refine ak 3 ?_;intro a H;refine s_call wL H wn rfl (wW _ _ H.ro x.code 1 2) rfl ?_;clear H;rintro v51 _ a w ⟨rfl,rfl⟩ - H;refine aD 1 H ?_;clear H;intro a H;refine aC ?_;refine ⟨_,sB,?_⟩
   unfold codeOk;first|(simp_all;done)
  intro p47
  refine goB 4 ?_ ?_
  ·intro p52
   refine ak 3 ?_;intro a H;refine s_call wL H wn rfl (wW _ _ H.ro x.code 1 4) rfl ?_;clear H;rintro v56 _ a w ⟨rfl,rfl⟩ - H;refine aD 1 H ?_;clear H;intro a H;refine aC ?_;refine ⟨_,sB,?_⟩
   unfold codeOk;first|(simp_all;done)
  intro p52
  intro a H;refine jB ?_;refine ⟨_,sB,?_⟩
  unfold codeOk;first|(simp_all;done)
 clear H;intro ck a w hI H;have hck:=hI;dsimp only [lca,bG] at H;refine qz (ι:=Bool) (Tc:=[(1,_),(3,_),(4,_),(5,_),(6,_)]) (Lc:=[(_,_)]) (fun gh=>[(7,.bool gh)]) (fun gh=>[]) (fun gh=>G) (fun gh=>gh=vK x) sB ?_ ?_
 ·refine Ak 5 60 H ?_ ?_ <;> clear H
  ·intro p60
   refine ak 10 ?_;intro a H;refine aC ?_;refine ⟨_,sB,?_⟩
   unfold vK;first|(simp_all;done)
  intro p60
  refine lT 5 65 ?_ ?_
  ·intro p65
   refine ak 5 ?_;intro a H;refine aC ?_;refine ⟨_,sB,?_⟩
   unfold vK;first|(simp_all;done)
  intro p65
  refine ak 5 ?_;intro a H;refine aC ?_;refine ⟨_,sB,?_⟩
  unfold vK;first|(simp_all;done)
 clear H;intro cd a w hI H;have hcd:=hI;dsimp only [lca,bG] at H;refine fO 3 H ?_;clear H;intro a H;refine CG (ι:=Bool) (Tc:=[(1,_),(3,_),(4,_),(5,_),(7,_)]) 8 (fun (q0:Bool)=>[(78,.bool q0)]) (fun (q0:Bool)=>q0=(!decide (1≤x.kind∧x.kind≤8) || !codeOk x)) sB ?_ ?_
 ·intro Y9;refine aD 2 H ?_;clear H;intro a H;refine s_call wL H wn rfl (wW _ _ H.ro x.kind 1 8) rfl ?_;clear H;rintro v73 _ a w ⟨rfl,rfl⟩ - H;refine pW 2 75 H ?_ ?_ <;> clear H
  ·intro p75
   refine ak 3 ?_;intro a H;refine Y9 (_) _ _ ?_ sB;rw [← hck];clear hst hwd hnm hck hcd;(try clear hq1);(try clear hq2);(try clear hq3);(try clear hq0);(try clear hq4);(try clear nA);(try clear nE);(try clear nG);simp_all
  intro p75
  refine ak 3 ?_;intro a H;refine Y9 (_) _ _ ?_ sB;rw [← hck];clear hst hwd hnm hck hcd;(try clear hq1);(try clear hq2);(try clear hq3);(try clear hq0);(try clear hq4);(try clear nA);(try clear nE);(try clear nG);simp_all
 clear H;intro q0 a w hI H;dsimp only [lca,bG] at H;(repeat with_reducible refine dK ?_);refine d0 ?_;have hq0:=hI;refine iU 2 H ?_ ?_ <;> clear H
 ·intro Ns
  have e:jU x=3:=by unfold jU;rw [av (by rw [← hq0];exact Ns)]
  refine aQ 3 ?_;exact ⟨by rw [e],rfl⟩
 intro Ns
 try have p70:=dF Ns
 have f0:¬ (!decide (1≤x.kind∧x.kind≤8) || !codeOk x)=true:=by rw [← hq0,Ns];decide
 refine ak 1 ?_;intro a H;refine CG (ι:=Bool) (Tc:=[(1,_),(3,_),(4,_),(5,_)]) 7 (fun (q1:Bool)=>[(86,.bool q1)]) (fun (q1:Bool)=>q1=(!vK x && decide (x.code≠0))) sB ?_ ?_
 ·intro Za;refine pW 3 82 H ?_ ?_ <;> clear H
  ·intro p82
   refine ak 4 ?_;intro a H;refine Za (_) _ _ ?_ sB;rw [← hcd];clear hst hwd hnm hck hcd;(try clear hq1);(try clear hq2);(try clear hq3);(try clear hq0);(try clear hq4);(try clear nA);(try clear nE);(try clear nG);simp_all
  intro p82
  refine ak 4 ?_;intro a H;refine Za (_) _ _ ?_ sB;rw [← hcd];clear hst hwd hnm hck hcd;(try clear hq1);(try clear hq2);(try clear hq3);(try clear hq0);(try clear hq4);(try clear nA);(try clear nE);(try clear nG);simp_all
 clear H;intro q1 a w hI H;dsimp only [lca,bG] at H;(repeat with_reducible refine dK ?_);refine d0 ?_;have hq1:=hI;refine CG (ι:=Bool) (Tc:=[(1,_),(3,_),(4,_)]) 9 (fun (q2:Bool)=>[(95,.bool q2)]) (fun (q2:Bool)=>q2=(q1 || !wB x && decide (x.id≠0))) sB ?_ ?_
 ·intro Sz;refine pW 1 87 H ?_ ?_ <;> clear H
  ·intro UY
   refine ak 8 ?_;intro a H;refine Sz (_) _ _ ?_ sB;rw [← hnm];clear hst hwd hnm hck hcd;(try clear hq1);(try clear hq2);(try clear hq3);(try clear hq0);(try clear hq4);(try clear nA);(try clear nE);(try clear nG);simp_all
  intro UY
  refine lT 3 90 ?_ ?_
  ·intro p90
   refine ak 5 ?_;intro a H;refine Sz (_) _ _ ?_ sB;rw [← hnm];clear hst hwd hnm hck hcd;(try clear hq1);(try clear hq2);(try clear hq3);(try clear hq0);(try clear hq4);(try clear nA);(try clear nE);(try clear nG);simp_all
  intro p90
  refine ak 5 ?_;intro a H;refine Sz (_) _ _ ?_ sB;rw [← hnm];clear hst hwd hnm hck hcd;(try clear hq1);(try clear hq2);(try clear hq3);(try clear hq0);(try clear hq4);(try clear nA);(try clear nE);(try clear nG);simp_all
 clear H;intro q2 a w hI H;dsimp only [lca,bG] at H;(repeat with_reducible refine dK ?_);refine d0 ?_;have hq2:=hI;refine CG (ι:=Bool) (Tc:=[(1,_),(3,_)]) 9 (fun (q3:Bool)=>[(104,.bool q3)]) (fun (q3:Bool)=>q3=(q2 || !yH x && !pU x.text)) sB ?_ ?_
 ·intro Sv;refine pW 1 96 H ?_ ?_ <;> clear H
  ·intro KQ
   refine ak 8 ?_;intro a H;refine Sv (_) _ _ ?_ sB;rw [← hwd];clear hst hwd hnm hck hcd;(try clear hq1);(try clear hq2);(try clear hq3);(try clear hq0);(try clear hq4);(try clear nA);(try clear nE);(try clear nG);simp_all [pU]
  intro KQ
  refine jV 3 99 ?_ ?_
  ·intro Nv
   try have p99:=dT Nv
   refine ak 2 ?_;intro a H;refine aqD H (wg H rfl rfl Nv) rfl rfl rfl ?_;clear H;refine ak 2 ?_;intro a H;refine Sv (_) _ _ ?_ sB;rw [← hwd];clear hst hwd hnm hck hcd;(try clear hq1);(try clear hq2);(try clear hq3);(try clear hq0);(try clear hq4);(try clear nA);(try clear nE);(try clear nG);simp_all [pU]
  intro Nv
  try have p99:=dF Nv
  refine ak 5 ?_;intro a H;refine Sv (_) _ _ ?_ sB;rw [← hwd];clear hst hwd hnm hck hcd;(try clear hq1);(try clear hq2);(try clear hq3);(try clear hq0);(try clear hq4);(try clear nA);(try clear nE);(try clear nG);simp_all [pU]
 clear H;intro q3 a w hI H;dsimp only [lca,bG] at H;(repeat with_reducible refine dK ?_);refine d0 ?_;have hq3:=hI;refine CG (ι:=Bool) (Tc:=[(1,_),(3,_)]) 11 (fun (q4:Bool)=>[(115,.bool q4)]) (fun (q4:Bool)=>q4=(q3 || decide (x.kind≠6) && decide (0 < (x.flow.length:Int)))) sB ?_ ?_
 ·intro Sw;refine pW 1 105 H ?_ ?_ <;> clear H
  ·intro Io
   refine ak 10 ?_;intro a H;refine Sw (_) _ _ ?_ sB;clear hst hwd hnm hck hcd;(try clear hq1);(try clear hq2);(try clear hq3);(try clear hq0);(try clear hq4);(try clear nA);(try clear nE);(try clear nG);simp_all
  intro Io
  refine lT 4 109 ?_ ?_
  ·intro aoW
   refine ak 6 ?_;intro a H;refine Sw (_) _ _ ?_ sB;clear hst hwd hnm hck hcd;(try clear hq1);(try clear hq2);(try clear hq3);(try clear hq0);(try clear hq4);(try clear nA);(try clear nE);(try clear nG);simp_all
  intro aoW
  refine ak 6 ?_;intro a H;refine Sw (_) _ _ ?_ sB;clear hst hwd hnm hck hcd;(try clear hq1);(try clear hq2);(try clear hq3);(try clear hq0);(try clear hq4);(try clear nA);(try clear nE);(try clear nG);simp_all
 clear H;intro q4 a w hI H;dsimp only [lca,bG] at H;(repeat with_reducible refine dK ?_);refine d0 ?_;have hq4:=hI;refine CG (ι:=Bool) (Tc:=[(1,_),(3,_)]) 11 (fun (q5:Bool)=>[(126,.bool q5)]) (fun (q5:Bool)=>q5=tq x) sB ?_ ?_
 ·intro Sy;refine pW 1 116 H ?_ ?_ <;> clear H
  ·intro aoZ
   refine ak 10 ?_;intro a H;refine Sy (_) _ _ ?_ sB;rw [show tq x=(q4 || decide (x.kind≠7) && decide (0 < (x.rows.length:Int))) by rw [hq4,hq3,hq2,hq1];rfl];clear hq4;clear hst hwd hnm hck hcd;(try clear hq1);(try clear hq2);(try clear hq3);(try clear hq0);(try clear hq4);(try clear nA);(try clear nE);(try clear nG);simp_all
  intro aoZ
  refine lT 4 120 ?_ ?_
  ·intro apb
   refine ak 6 ?_;intro a H;refine Sy (_) _ _ ?_ sB;rw [show tq x=(q4 || decide (x.kind≠7) && decide (0 < (x.rows.length:Int))) by rw [hq4,hq3,hq2,hq1];rfl];clear hq4;clear hst hwd hnm hck hcd;(try clear hq1);(try clear hq2);(try clear hq3);(try clear hq0);(try clear hq4);(try clear nA);(try clear nE);(try clear nG);simp_all
  intro apb
  refine ak 6 ?_;intro a H;refine Sy (_) _ _ ?_ sB;rw [show tq x=(q4 || decide (x.kind≠7) && decide (0 < (x.rows.length:Int))) by rw [hq4,hq3,hq2,hq1];rfl];clear hq4;clear hst hwd hnm hck hcd;(try clear hq1);(try clear hq2);(try clear hq3);(try clear hq0);(try clear hq4);(try clear nA);(try clear nE);(try clear nG);simp_all
 clear H;intro q5 a w hI H;dsimp only [lca,bG] at H;(repeat with_reducible refine dK ?_);refine d0 ?_;have nA:=hI;refine iU 2 H ?_ ?_ <;> clear H
 ·intro Nt
  have e:jU x=15:=by unfold jU;rw [ah f0,av (by rw [← nA];exact Nt)]
  refine aQ 3 ?_;exact ⟨by rw [e],rfl⟩
 intro Nt
 try have UW:=dF Nt
 have f1:¬ tq x=true:=by rw [← nA,Nt];decide
 refine ak 3 ?_;intro a H;refine s_call Jt H wn rfl (LH _ _ H.ro x.text hs) rfl ?_;clear H;rintro v130 _ a w ⟨rfl,rfl⟩ - H;refine iU 3 H ?_ ?_ <;> clear H
 ·intro h127
  have e:jU x=12:=by unfold jU;rw [ah f0,ah f1,av (by simpa using h127)]
  refine aQ 3 ?_;exact ⟨by rw [e],rfl⟩
 intro h127
 try have aun:=dF h127
 have f2:¬ qo x.text=false:=by simpa using h127
 refine ak 1 ?_;intro a H;refine CG (ι:=Bool) (Tc:=[(1,_),(3,_)]) 13 (fun (q6:Bool)=>[(145,.bool q6)]) (fun (q6:Bool)=>q6=(decide (x.kind=1∨x.kind=5) && pU x.text)) sB ?_ ?_
 ·intro SA;refine pW 4 136 H ?_ ?_ <;> clear H
  ·intro apd
   refine ak 5 ?_;intro a H;refine Iz GX H (wg H rfl rfl rfl) rfl rfl ?_;clear H;intro a H;refine iF mg H (wg H rfl rfl rfl) rfl (H.hp.qI 0 rfl rfl) rfl ?_;clear H;intro a H;refine AY H (wg H rfl rfl rfl) rfl rfl rfl ?_;clear H;refine ak 1 ?_;intro a H;refine SA (_) _ _ ?_ sB;clear hst hwd hnm hck hcd;(try clear hq1);(try clear hq2);(try clear hq3);(try clear hq0);(try clear hq4);(try clear nA);(try clear nE);(try clear nG);simp_all [pU]
  intro apd
  refine jV 5 141 ?_ ?_
  ·intro Nj
   try have apf:=dT Nj
   refine ak 2 ?_;intro a H;refine AY H (wg H rfl rfl Nj) rfl rfl rfl ?_;clear H;refine ak 1 ?_;intro a H;refine SA (_) _ _ ?_ sB;clear hst hwd hnm hck hcd;(try clear hq1);(try clear hq2);(try clear hq3);(try clear hq0);(try clear hq4);(try clear nA);(try clear nE);(try clear nG);simp_all [pU]
  intro Nj
  try have apf:=dF Nj
  refine ak 4 ?_;intro a H;refine SA (_) _ _ ?_ sB;clear hst hwd hnm hck hcd;(try clear hq1);(try clear hq2);(try clear hq3);(try clear hq0);(try clear hq4);(try clear nA);(try clear nE);(try clear nG);simp_all [pU]
 clear H;intro q6 a w hI H;dsimp only [lca,bG] at H;(repeat with_reducible refine dK ?_);refine d0 ?_;have nE:=hI;refine iU 2 H ?_ ?_ <;> clear H
 ·intro Ni
  have e:jU x=11:=by unfold jU;rw [ah f0,ah f1,ah f2,av (by rw [← nE];exact Ni)]
  refine aQ 3 ?_;exact ⟨by rw [e],rfl⟩
 intro Ni
 try have abw:=dF Ni
 have f3:¬ (decide (x.kind=1∨x.kind=5) && pU x.text)=true:=by rw [← nE,Ni];decide
 refine ak 1 ?_;intro a H;refine CG (ι:=Bool) (Tc:=[(1,_),(3,_)]) 9 (fun (q7:Bool)=>[(155,.bool q7)]) (fun (q7:Bool)=>q7=(decide (x.kind=5) && decide (1024 < (x.text.size:Int)))) sB ?_ ?_
 ·intro Zb;refine kT 4 150 H ?_ ?_ <;> clear H
  ·intro Nl
   try have apg:=dT Nl
   refine ak 2 ?_;intro a H;refine DT jG H (wg H rfl rfl Nl) rfl rfl ?_;clear H;refine ak 2 ?_;intro a H;refine Zb (_) _ _ ?_ sB;clear hst hwd hnm hck hcd;(try clear hq1);(try clear hq2);(try clear hq3);(try clear hq0);(try clear hq4);(try clear nA);(try clear nE);(try clear nG);simp_all
  intro Nl
  try have apg:=dF Nl
  refine ak 5 ?_;intro a H;refine Zb (_) _ _ ?_ sB;clear hst hwd hnm hck hcd;(try clear hq1);(try clear hq2);(try clear hq3);(try clear hq0);(try clear hq4);(try clear nA);(try clear nE);(try clear nG);simp_all
 clear H;intro q7 a w hI H;dsimp only [lca,bG] at H;(repeat with_reducible refine dK ?_);refine d0 ?_;have nG:=hI;refine iU 2 H ?_ ?_ <;> clear H
 ·intro Nk
  have e:jU x=10:=by unfold jU;rw [ah f0,ah f1,ah f2,ah f3,av (by rw [← nG];exact Nk)]
  refine aQ 3 ?_;exact ⟨by rw [e],rfl⟩
 intro Nk
 try have auo:=dF Nk
 have f4:¬ (decide (x.kind=5) && decide (1024 < (x.text.size:Int)))=true:=by rw [← nG,Nk];decide
 refine ak 1 ?_;intro a H;refine CG (ι:=Bool) (Tc:=[]) 7 (fun (q8:Bool)=>[(163,.bool q8)]) (fun (q8:Bool)=>q8=(yB x && !qP x.text)) (by exact H.sub trivial) ?_ ?_
 ·intro Zc;refine kT 2 158 H ?_ ?_ <;> clear H
  ·intro Nn
   try have aph:=dT Nn
   refine ak 2 ?_;intro a H;refine s_call Q6 H (wg H rfl rfl Nn) rfl (QH _ _ H.ro x.text hs) rfl ?_;clear H;rintro auv _ a w ⟨rfl,rfl⟩ - H;refine aD 2 H ?_;clear H;intro a H;refine Zc (_) _ _ ?_ sB;rw [← hst];clear hst hwd hnm hck hcd;(try clear hq1);(try clear hq2);(try clear hq3);(try clear hq0);(try clear hq4);(try clear nA);(try clear nE);(try clear nG);simp_all
  intro Nn
  try have aph:=dF Nn
  refine ak 5 ?_;intro a H;refine Zc (_) _ _ ?_ sB;rw [← hst];clear hst hwd hnm hck hcd;(try clear hq1);(try clear hq2);(try clear hq3);(try clear hq0);(try clear hq4);(try clear nA);(try clear nE);(try clear nG);simp_all
 clear H;intro q8 a w hI H;dsimp only [lca,bG] at H;(repeat with_reducible refine dK ?_);refine d0 ?_;have hq8:=hI;refine iU 2 H ?_ ?_ <;> clear H
 ·intro R8
  have e:jU x=13:=by unfold jU;rw [ah f0,ah f1,ah f2,ah f3,ah f4,av (by rw [← hq8];exact R8)]
  refine aQ 3 ?_;exact ⟨by rw [e],rfl⟩
 intro R8
 refine ak 1 ?_
 have e:jU x=0:=by unfold jU;rw [ah f0,ah f1,ah f2,ah f3,ah f4,ah (by rw [← hq8,R8];decide)]
 refine aQ 3 ?_;exact ⟨by rw [e],rfl⟩
end
section
open Go.RowKit
structure CS where
 n:Int
 bK:List Int
abbrev CR:=Int × CS
def fT (r:CR) (f:CS→CR):CR:=if r.1≠0 then r else f r.2
theorem Gm {r:CR} {f:CS→CR} (h:r.1=0):fT r f=f r.2:=by rw [fT,ah (fun h'=>h' h)]
theorem MC {r:CR} {f:CS→CR} (h:r.1≠0):fT r f=r:=by rw [fT,av h]
def jZ (C:bO) (s:CS) (x:Int):CR:=(pG C.us s.bK x,⟨s.n,jY C.us s.bK x⟩)
def lY (C:bO) (body note:Bool) (t k i:Int) (s:CS):CR :=
 if k=3 then (dx (!body) 19,s) else if k=6 then fT (dx note 19,s) fun s=>jZ C s i else if k=7 then fT (dx (decide (4≤t)) 17,s) fun s=>jZ C s i else if k=8 then (dx (!decide (1≤i∧i≤1073741824)) 18,s) else (0,s)
def Cn (C:bO) (h:dW) (n:Nat):Int:=cO [gY C 9 h,dx (decide ((n:Int)=0)) 11,dx (decide (32 < (n:Int))) 9]
def lI (n:Nat) (f:CS→CR) (s:CS):CR:=if n=0 then (11,s) else if 256 < n then (9,s) else f s
mutual
def eY (C:bO) (body note:Bool) (t:Int):ay→CS→CR
 | .mk k c i tx h f r,s =>
  fT (jU (.mk k c i tx h f r),s) fun s=>fT (lY C body note t k i ⟨s.n+(if k=1 then rH tx else 1:Nat),s.bK⟩) fun s=>fT (gY C k h,s) fun s =>
   if k=6 then jo C false true t f s else if k=7 then lI r.length (fun s=>iE C note (t+1) r s) s else (0,s)
def yj (C:bO) (note:Bool) (t:Int):aX→CS→CR
 | .mk h cs,s=>fT (Cn C h cs.length,s) fun s=>oQ C note t cs s
def cellC (C:bO) (note:Bool) (t:Int):bC→CS→CR
 | .mk i h f,s=>fT (jZ C s i) fun s=>fT (gY C 10 h,s) fun s=>jo C false note t f s
def jo (C:bO) (body note:Bool) (t:Int):List ay→CS→CR
 | [],s=>(0,s)
 | x :: r,s=>fT (eY C body note t x s) fun s=>jo C body note t r s
def iE (C:bO) (note:Bool) (t:Int):List aX→CS→CR
 | [],s=>(0,s)
 | x :: r,s=>fT (yj C note t x s) fun s=>iE C note t r s
def oQ (C:bO) (note:Bool) (t:Int):List bC→CS→CR
 | [],s=>(0,s)
 | x :: r,s=>fT (cellC C note t x s) fun s=>oQ C note t r s
end
theorem aaB (C:bO) (body note:Bool) (t:Int) (x:ay) (s:CS):eY C body note t x s=fT (jU x,s) fun s=>fT (lY C body note t x.kind x.id ⟨s.n+(jl x:Nat),s.bK⟩) fun s=>fT (gY C x.kind x.head,s) fun s =>
  if x.kind=6 then jo C false true t x.flow s else if x.kind=7 then lI x.rows.length (fun s=>iE C note (t+1) x.rows s) s else (0,s):=by cases x;rw [eY];rfl
theorem OP (C:bO) (note:Bool) (t:Int) (x:aX) (s:CS):yj C note t x s=fT (Cn C x.head x.cells.length,s) fun s=>oQ C note t x.cells s:=by cases x;rw [yj];rfl
theorem ML (C:bO) (note:Bool) (t:Int) (x:bC) (s:CS):cellC C note t x s=fT (jZ C s x.id) fun s=>fT (gY C 10 x.head,s) fun s=>jo C false note t x.flow s:=by cases x;rw [cellC];rfl
def Up (s:CS) (z:Nat) (r:CR):Prop:=s.n≤r.2.n∧r.2.n≤s.n+z
theorem Up.and {s:CS} {z y q:Nat} {r:CR} {f:CS→CR} (h:Up s z r) (hq:z+y≤q) (hf:∀ s,Up s y (f s)):Up s q (fT r f):=by
 obtain ⟨h1,h2⟩:=h
 unfold fT
 split
 ·exact ⟨h1,by omega⟩
 obtain ⟨h3,h4⟩:=hf r.2;exact ⟨by omega,by omega⟩
theorem Up.zero (s:CS) (e:Int) (q:Nat):Up s q (e,s):=⟨Int.le_refl _,by dsimp only;omega⟩
theorem Up.le {s:CS} {z y:Nat} {r:CR} (h:Up s z r) (hq:z≤y):Up s y r:=⟨h.1,by have:=h.2;omega⟩
theorem acX (C:bO) (s:CS) (x:Int) (q:Nat):Up s q (jZ C s x):=⟨Int.le_refl _,by dsimp only [jZ];omega⟩
theorem asq (C:bO) (body note:Bool) (t k i:Int) (s:CS) (q:Nat):Up s q (lY C body note t k i s):=by
 unfold lY
 (repeat' split) <;> first|exact Up.zero _ _ _|exact (Up.zero _ _ 0).and (y:=0) (by omega) fun s=>acX _ _ _ _
mutual
theorem acY (C:bO) (body note:Bool) (t:Int):∀ (x:ay) (s:CS),Up s (bY x.dat) (eY C body note t x s)
 | .mk k c i tx h f r,s=>by
  have hz:=yJ (.mk k c i tx h f r);have hf:=Py C false true t f;have hr:=acZ C note (t+1) r;rw [eY];obtain ⟨u,hu'⟩:∃ u,u=(if k=1 then rH tx else 1:Nat):=⟨_,rfl⟩
  have hu:u≤tx.size+1:=by
   have:=Xw tx
   rw [hu'];split <;> omega
  rw [← hu'];dsimp only [ay.text,ay.flow,ay.rows,ay.head] at hz;refine (Up.zero s _ 0).and (Nat.le_of_eq (fV _)) fun s=>?_
  have h2:Up s (u) (lY C body note t k i ⟨s.n+(u:Nat),s.bK⟩):=by
   obtain ⟨h3,h4⟩:=asq C body note t k i ⟨s.n+(u:Nat),s.bK⟩ 0;dsimp only at h3 h4;exact ⟨by omega,by omega⟩
  refine h2.and (y:=cu f+gK r) (by omega) fun s=>(Up.zero s _ 0).and (Nat.le_of_eq (fV _)) fun s=>?_
  by_cases h6:k=6
  ·rw [av h6];exact (hf s).le (by omega)
  rw [ah h6]
  by_cases h7:k=7
  ·rw [av h7]
   unfold lI
   by_cases c1:r.length=0
   ·rw [av c1];exact Up.zero _ _ _
   rw [ah c1]
   by_cases c2:256 < r.length
   ·rw [av c2];exact Up.zero _ _ _
   rw [ah c2];exact (hr s).le (by omega)
  rw [ah h7];exact Up.zero _ _ _
theorem asr (C:bO) (note:Bool) (t:Int):∀ (x:aX) (s:CS),Up s (bY x.dat) (yj C note t x s)
 | .mk h cs,s=>by
  have hz:=CK (.mk h cs);have hc:=acW C note t cs;rw [OP];dsimp only [aX.cells,aX.head] at hz ⊢;exact (Up.zero s _ 0).and (y:=iK cs) (by omega) fun s=>hc s
theorem aso (C:bO) (note:Bool) (t:Int):∀ (x:bC) (s:CS),Up s (bY x.dat) (cellC C note t x s)
 | .mk i h f,s=>by
  have hz:=CJ (.mk i h f);have hf:=Py C false note t f;rw [ML];dsimp only [bC.flow,bC.head,bC.id] at hz ⊢;exact (acX C s _ 0).and (y:=cu f) (by omega) fun s=>(Up.zero s _ 0).and (Nat.le_of_eq (fV _)) fun s=>hf s
theorem Py (C:bO) (body note:Bool) (t:Int):∀ (l:List ay) (s:CS),Up s (cu l) (jo C body note t l s)
 | [],s=>by rw [jo];exact Up.zero _ _ _
 | x :: r,s=>by
  rw [jo];exact (acY C body note t x s).and (y:=cu r) (by simp only [cu,fq,eG];omega) fun s=>Py C body note t r s
theorem acZ (C:bO) (note:Bool) (t:Int):∀ (l:List aX) (s:CS),Up s (gK l) (iE C note t l s)
 | [],s=>by rw [iE];exact Up.zero _ _ _
 | x :: r,s=>by
  rw [iE];exact (asr C note t x s).and (y:=gK r) (by simp only [gK,fq,eG];omega) fun s=>acZ C note t r s
theorem acW (C:bO) (note:Bool) (t:Int):∀ (l:List bC) (s:CS),Up s (iK l) (oQ C note t l s)
 | [],s=>by rw [oQ];exact Up.zero _ _ _
 | x :: r,s=>by
  rw [oQ];exact (aso C note t x s).and (y:=iK r) (by simp only [iK,fq,eG];omega) fun s=>acW C note t r s
end
def ql {α:Type} (f:α→CS→CR) (l:List α) (s:CS):Nat→CS
 | 0=>s
 | i+1=>match l[i]? with|some x=>(f x (ql f l s i)).2|none=>ql f l s i
def BA {α:Type} (f:α→CS→CR) (l:List α) (s:CS) (i:Nat):Int:=match l[i]? with|some x=>(f x (ql f l s i)).1|none=>0
theorem Vq {α:Type} (f:α→CS→CR) (x:α) (l:List α) (s:CS):∀ i,ql f (x :: l) s (i+1)=ql f l (f x s).2 i
 | 0=>rfl
 | i+1=>by
  have ih:=Vq f x l s i
  simp only [ql,List.getElem?_cons_succ] at ih ⊢
  rw [ih]
theorem ajv {α:Type} (f:α→CS→CR) (x:α) (l:List α) (s:CS) (i:Nat):BA f (x :: l) s (i+1)=BA f l (f x s).2 i:=by
 unfold BA
 simp only [List.getElem?_cons_succ,Vq]
theorem aee (E:Nat→Int) (n:Nat):iH E (n+1)=if E 0≠0 then E 0 else iH (fun i=>E (i+1)) n:=by
 unfold iH
 rw [List.range_succ_eq_map,fq,cO,List.map_map]
 rfl
theorem aaC (C:bO) (body note:Bool) (t:Int):∀ (l:List ay) (s:CS),(jo C body note t l s).1=iH (BA (eY C body note t) l s) l.length∧((jo C body note t l s).1=0→(jo C body note t l s).2=ql (eY C body note t) l s l.length)
 | [],s=>by rw [jo];exact ⟨rfl,fun _=>rfl⟩
 | x :: r,s=>by
  obtain ⟨h1,h2⟩:=aaC C body note t r (eY C body note t x s).2;have e0:BA (eY C body note t) (x :: r) s 0=(eY C body note t x s).1:=rfl;rw [jo,ku,aee,e0,Vq]
  simp only [ajv]
  unfold fT
  split
  ·next h=>exact ⟨rfl,fun h0=>absurd h0 h⟩
  exact ⟨h1,h2⟩
theorem ada (C:bO) (body note:Bool) (t:Int) (l:List ay) (s:CS):∀ i,i≤l.length→s.n≤(ql (eY C body note t) l s i).n∧(ql (eY C body note t) l s i).n+(cu (l.drop i):Nat)≤s.n+(cu l:Nat)
 | 0,_=>⟨Int.le_refl _,Int.le_refl _⟩
 | i+1,hi=>by
  have hi':i < l.length:=hi;obtain ⟨h1,h2⟩:=ada C body note t l s i (by omega)
  have hs:ql (eY C body note t) l s (i+1)=(eY C body note t l[i] (ql (eY C body note t) l s i)).2:=by rw [ql,eO hi']
  have hd:cu (l.drop i)=1+bY l[i].dat+cu (l.drop (i+1)):=by
   simp only [cu];rw [pO hi',fq,eG]
  obtain ⟨h3,h4⟩:=acY C body note t l[i] (ql (eY C body note t) l s i);rw [hs];exact ⟨by omega,by omega⟩
end
section
open Go.RowKit
mutual
/-- The ids in items, in document order. -/
def pF:ay→List Int
 | .mk k _ i _ _ f r=>(if k=6∨k=7 then [i] else [])++((if k=6 then iQ f else [])++(if k=7 then lV r else []))
def iQ:List ay→List Int
 | []=>[]
 | x :: r=>pF x++iQ r
def tL:aX→List Int
 | .mk _ c=>mY c
def lV:List aX→List Int
 | []=>[]
 | x :: r=>tL x++lV r
def uQ:bC→List Int
 | .mk i _ f=>i :: iQ f
def mY:List bC→List Int
 | []=>[]
 | x :: r=>uQ x++mY r
end
end
section
open Go.RowKit
theorem lS {r:CR} {f:CS→CR} {s':CS} (h:fT r f=(0,s')):r.1=0∧f r.2=(0,s'):=by
 unfold fT at h
 split at h
 ·rename_i h1;rw [h] at h1;exact absurd rfl h1
 rename_i h1;exact ⟨nM.1 h1,h⟩
theorem QI {r:CR} (h:r.1=0):r=(0,r.2):=Prod.ext h rfl
structure lM (a b c:List Int):Prop where
 eq:c=a++b
 nd:a.Nodup→c.Nodup
 pos:∀ i∈b,1≤i∧i≤1073741824
theorem lM.nil (a:List Int):lM a [] a:=⟨by simp,fun h=>h,fun i h=>by cases h⟩
theorem lM.trans {a b c d e:List Int} (h:lM a b c) (g:lM c d e):lM a (b++d) e:=⟨by rw [g.eq,h.eq,jd],fun h1=>g.nd (h.nd h1),fun i hi=>(nW.1 hi).elim (h.pos i) (g.pos i)⟩
theorem lM.id {us a:List Int} {x:Int} (h:pG us a x=0):lM a [x] (jY us a x):=by
 unfold jY
 rw [av h]
 unfold pG at h
 by_cases h0:¬ (1≤x∧x≤1073741824)∨x∈us
 ·rw [av h0] at h;cases h
 rw [ah h0] at h;have h1:1≤x∧x≤1073741824:=nM.1 fun h'=>h0 (.inl h')
 by_cases h2:x∈a
 ·rw [av h2] at h;cases h
 exact ⟨rfl,fun h3=>List.nodup_append.2 ⟨h3,by simp,fun u hu v hv=>by rw [sS.1 hv];exact fun e=>h2 (e ▸ hu)⟩,fun i hi=>by rw [sS.1 hi];exact h1⟩
theorem lM.jZ {C:bO} {s s':CS} {x:Int} (h:jZ C s x=(0,s')):lM s.bK [x] s'.bK:=by
 unfold Go.Proofs.YtdiflmikikiedaaGreat.jZ at h
 injection h with h1 h2
 rw [← h2];exact lM.id h1
theorem apn {C:bO} {body note:Bool} {t k i:Int} {s s':CS} (h:lY C body note t k i s=(0,s')):lM s.bK (if k=6∨k=7 then [i] else []) s'.bK:=by
 unfold lY at h
 by_cases h3:k=3
 ·rw [av h3] at h;injection h with _ h2;rw [ah (by omega),← h2];exact lM.nil _
 rw [ah h3] at h
 by_cases h6:k=6
 ·rw [av h6] at h;rw [av (.inl h6)];exact lM.jZ (lS h).2
 rw [ah h6] at h
 by_cases h7:k=7
 ·rw [av h7] at h;rw [av (.inr h7)];exact lM.jZ (lS h).2
 rw [ah h7] at h;rw [ah (by omega)]
 by_cases h8:k=8
 ·rw [av h8] at h;injection h with _ h2;rw [← h2];exact lM.nil _
 rw [ah h8] at h;injection h with _ h2;rw [← h2];exact lM.nil _
theorem U5 {n:Nat} {f:CS→CR} {s s':CS} (h:lI n f s=(0,s')):n≠0∧f s=(0,s'):=by
 unfold lI at h
 split at h
 ·cases h
 rename_i h1
 split at h
 ·cases h
 exact ⟨h1,h⟩
mutual
theorem ajz (C:bO) (body note:Bool) (t:Int):∀ (x:ay) (s s':CS),eY C body note t x s=(0,s')→lM s.bK (pF x) s'.bK
 | .mk k c i tx h f r,s,s',e=>by
  have hf:=M9 C false true t f;have hr:=Yv C note (t+1) r;rw [eY] at e;obtain ⟨-,e⟩:=lS e;obtain ⟨e1,e⟩:=lS e;obtain ⟨-,e⟩:=lS e;have h1:=apn (QI e1);rw [pF];refine h1.trans ?_
  by_cases h6:k=6
  ·rw [av h6] at e ⊢;rw [ah (show ¬ k=7 by omega),gD];exact hf _ _ e
  rw [ah h6] at e ⊢;rw [oF]
  by_cases h7:k=7
  ·rw [av h7] at e ⊢;exact hr _ _ (U5 e).2
  rw [ah h7] at e ⊢
  injection e with _ e
  rw [← e];exact lM.nil _
theorem ajA (C:bO) (note:Bool) (t:Int):∀ (x:aX) (s s':CS),yj C note t x s=(0,s')→lM s.bK (tL x) s'.bK
 | .mk h cs,s,s',e=>by
  have hc:=Yu C note t cs;rw [OP] at e;rw [tL];exact hc _ _ (lS e).2
theorem ajy (C:bO) (note:Bool) (t:Int):∀ (x:bC) (s s':CS),cellC C note t x s=(0,s')→lM s.bK (uQ x) s'.bK
 | .mk i h f,s,s',e=>by
  have hf:=M9 C false note t f;rw [ML] at e;dsimp only [bC.id,bC.head,bC.flow] at e;obtain ⟨e1,e⟩:=lS e;have h1:=lM.jZ (s':=(jZ C s i).2) (Prod.ext e1 rfl);rw [uQ];exact h1.trans (hf _ _ (lS e).2)
theorem M9 (C:bO) (body note:Bool) (t:Int):∀ (l:List ay) (s s':CS),jo C body note t l s=(0,s')→lM s.bK (iQ l) s'.bK
 | [],s,s',e=>by rw [jo] at e;injection e with _ e;rw [← e];exact lM.nil _
 | x :: r,s,s',e=>by
  rw [jo] at e;obtain ⟨e1,e⟩:=lS e;rw [iQ];exact (ajz C body note t x s _ (Prod.ext e1 rfl)).trans (M9 C body note t r _ _ e)
theorem Yv (C:bO) (note:Bool) (t:Int):∀ (l:List aX) (s s':CS),iE C note t l s=(0,s')→lM s.bK (lV l) s'.bK
 | [],s,s',e=>by rw [iE] at e;injection e with _ e;rw [← e];exact lM.nil _
 | x :: r,s,s',e=>by
  rw [iE] at e;obtain ⟨e1,e⟩:=lS e;rw [lV];exact (ajA C note t x s _ (Prod.ext e1 rfl)).trans (Yv C note t r _ _ e)
theorem Yu (C:bO) (note:Bool) (t:Int):∀ (l:List bC) (s s':CS),oQ C note t l s=(0,s')→lM s.bK (mY l) s'.bK
 | [],s,s',e=>by rw [oQ] at e;injection e with _ e;rw [← e];exact lM.nil _
 | x :: r,s,s',e=>by
  rw [oQ] at e;obtain ⟨e1,e⟩:=lS e;rw [mY];exact (ajy C note t x s _ (Prod.ext e1 rfl)).trans (Yu C note t r _ _ e)
end
def qx (l:List ay):Prop:=∃ (C:bO) (body note:Bool) (t:Int) (s s':CS),jo C body note t l s=(0,s')
structure F7 (x:ay):Prop where
 txt:qo x.text=true
 kd:1≤x.kind∧x.kind≤8
 rw0:x.kind≠7→x.rows=[]
 fl0:x.kind≠6→x.flow=[]
 fl:qx x.flow
 rw:∀ r∈x.rows,∀ c∈r.cells,qx c.flow
theorem aoM:qx []:=⟨⟨[],[],[],[]⟩,false,false,0,⟨0,[]⟩,⟨0,[]⟩,by rw [jo]⟩
theorem Ev {x:ay} (h:jU x=0):qo x.text=true∧(1≤x.kind∧x.kind≤8)∧(x.kind≠7→x.rows=[])∧(x.kind≠6→x.flow=[]):=by
 unfold jU at h
 split at h
 ·cases h
 rename_i h1
 split at h
 ·cases h
 rename_i h2
 split at h
 ·cases h
 rename_i h3
 have hk:decide (1≤x.kind∧x.kind≤8)=true:=by
  cases hd:decide (1≤x.kind∧x.kind≤8)
  ·rw [hd] at h1;exact absurd rfl h1
  rfl
 refine ⟨by simpa using h3,mD hk,fun h7=>?_,fun h6=>?_⟩
 ·rw [Bool.not_eq_true] at h2
  unfold tq at h2
  simp only [Bool.or_eq_false_iff] at h2
  have h4:=h2.2;rw [iT h7,CW,mM] at h4;exact List.length_eq_zero_iff.1 (by omega)
 rw [Bool.not_eq_true] at h2
 unfold tq at h2
 simp only [Bool.or_eq_false_iff] at h2
 have h4:=h2.1.2;rw [iT h6,CW,mM] at h4;exact List.length_eq_zero_iff.1 (by omega)
theorem cells_ok {C:bO} {note:Bool} {t:Int}:∀ {l:List bC} {s s':CS},oQ C note t l s=(0,s')→∀ c∈l,qx c.flow
 | [],_,_,_,_,h=>by cases h
 | x :: r,s,s',e,c,h=>by
  rw [oQ] at e;obtain ⟨e1,e⟩:=lS e
  rcases ko.1 h with rfl|h
  ·have e2:cellC C note t c s=(0,(cellC C note t c s).2):=Prod.ext e1 rfl
   generalize (cellC C note t c s).2=s2 at e2
   rw [ML] at e2;exact ⟨C,false,note,t,_,_,(lS (lS e2).2).2⟩
  exact cells_ok e c h
theorem abM {C:bO} {note:Bool} {t:Int}:∀ {l:List aX} {s s':CS},iE C note t l s=(0,s')→∀ r∈l,∀ c∈r.cells,qx c.flow
 | [],_,_,_,_,h=>by cases h
 | x :: r,s,s',e,q,h=>by
  rw [iE] at e;obtain ⟨e1,e⟩:=lS e
  rcases ko.1 h with rfl|h
  ·have e2:yj C note t q s=(0,(yj C note t q s).2):=Prod.ext e1 rfl
   generalize (yj C note t q s).2=s2 at e2
   rw [OP] at e2;exact cells_ok (lS e2).2
  exact abM e q h
theorem qx.head {x:ay} {l:List ay} (h:qx (x :: l)):F7 x∧qx l:=by
 obtain ⟨C,body,note,t,s,s',e⟩:=h;rw [jo] at e;obtain ⟨e1,e⟩:=lS e;have e2:eY C body note t x s=(0,(eY C body note t x s).2):=Prod.ext e1 rfl
 generalize (eY C body note t x s).2=s2 at e2
 refine ⟨?_,⟨C,body,note,t,_,_,e⟩⟩;rw [aaB] at e2;obtain ⟨f1,e2⟩:=lS e2;(iterate 2 obtain ⟨-,e2⟩:=lS e2);obtain ⟨h1,h2,h3,h4⟩:=Ev f1;refine ⟨h1,h2,h3,h4,?_,?_⟩
 ·by_cases h6:x.kind=6
  ·rw [av h6] at e2;exact ⟨_,_,_,_,_,_,e2⟩
  rw [h4 h6];exact aoM
 by_cases h7:x.kind=7
 ·rw [ah (by omega),av h7] at e2;exact abM (U5 e2).2
 rw [h3 h7];exact fun _ h=>by cases h
theorem qx.tail {x:ay} {l:List ay} (h:qx (x :: l)):qx l:=h.head.2
theorem qx.mem:∀ {l:List ay} {x:ay},qx l→x∈l→F7 x
 | y :: l,x,h,hx=>by
  rcases ko.1 hx with rfl|hx
  ·exact h.head.1
  exact qx.mem h.head.2 hx
theorem F7.e {x:ay} (h:F7 x):LG x=0:=by unfold LG IJ;rw [av h.txt];split <;> rfl
theorem F7.n1 {x:ay} (h:F7 x):n1 x=jl x:=by unfold Go.Proofs.YtdiflmikikiedaaGreat.n1;rw [av h.e]
theorem qx.div {l:List ay} (h:qx l):M4 l=true:=by
 unfold M4
 rw [jS];exact fun x hx=>iT (h.mem hx).e
theorem qx.len {l:List ay} (h:qx l):Dy l=FB l:=by unfold Dy;rw [av h.div]
mutual
theorem asJ (note:Bool) (t:Int):∀ x:ay,((LK note t x).map oN.id).Sublist (pF x)
 | .mk k c i tx h f r=>by
  have hf:=PE true t f;have hr:=adk note t r;rw [LK,pF]
  by_cases h6:k=6
  ·rw [av h6,av (.inl h6),av h6,ah (by omega),gD];exact List.Sublist.cons_cons _ hf
  rw [ah h6,ah h6,oF]
  by_cases h7:k=7
  ·rw [av h7,av h7,av (.inr h7)];exact List.Sublist.cons _ hr
  rw [ah h7];exact List.nil_sublist _
theorem PE (note:Bool) (t:Int):∀ l:List ay,((Bg note t l).map oN.id).Sublist (iQ l)
 | []=>by rw [Bg];exact List.nil_sublist _
 | x :: l=>by
  rw [Bg,iQ,kQ];exact (asJ note t x).append (PE note t l)
theorem asK (note:Bool) (t:Int):∀ x:aX,((LM note t x).map oN.id).Sublist (tL x)
 | .mk h cs=>by rw [LM,tL];exact adj note t cs
theorem adk (note:Bool) (t:Int):∀ l:List aX,((D8 note t l).map oN.id).Sublist (lV l)
 | []=>by rw [D8];exact List.nil_sublist _
 | x :: l=>by
  rw [D8,lV,kQ];exact (asK note t x).append (adk note t l)
theorem asI (note:Bool) (t:Int):∀ x:bC,((LJ note t x).map oN.id).Sublist (uQ x)
 | .mk i h f=>by rw [LJ,uQ];exact List.Sublist.cons_cons _ (PE note (t+1) f)
theorem adj (note:Bool) (t:Int):∀ l:List bC,((D7 note t l).map oN.id).Sublist (mY l)
 | []=>by rw [D7];exact List.nil_sublist _
 | x :: l=>by
  rw [D7,mY,kQ];exact (asI note t x).append (adj note t l)
end
structure Mr (l:List ay):Prop where
 ok:qx l
 nd:(iQ l).Nodup
 pos:∀ i∈iQ l,1≤i∧i≤1073741824
theorem Mr.of {C:bO} {body note:Bool} {t n:Int} {l:List ay} {s':CS} (h:jo C body note t l ⟨n,[]⟩=(0,s')):Mr l:=by
 have he:=M9 C body note t l _ _ h;have hn:=he.nd List.nodup_nil;rw [he.eq] at hn;exact ⟨⟨C,body,note,t,_,_,h⟩,by simpa using hn,he.pos⟩
theorem Mr.ids {l:List ay} (h:Mr l):((He l).map oN.id).Nodup:=by
 have hs:=PE false 0 l;rw [He,fq,List.nodup_cons];exact ⟨fun hm=>by have:=h.pos _ (hs.subset hm);dsimp only at this;omega,hs.nodup h.nd⟩
end
section
open Go.RowKit
theorem GL:∀ args w,(callFunc 70 args).run prog w=.ok (.enter 70 args) w:=enters func70 rfl (by kernel_rfl)
theorem Q8:∀ args w,(callFunc 198 args).run prog w=.ok (.enter 198 args) w:=enters func198 rfl (by kernel_rfl)
theorem Jv:∀ args w,(callFunc 72 args).run prog w=.ok (.enter 72 args) w:=enters func72 rfl (by kernel_rfl)
variable {us:List Int}
theorem Hq (G:GH) (L:OL) (w0:World) (st:List bS) (li:List eD) (rv:List bX) (b ms ml mr mb mu:Nat) (n:Int) (hck:vw us G st li rv ms ml mr mu) (hO:fU G (fP b ms ml mr mb mu n :: L) w0)
  (e:Int) (h:dW) (p d l:aj) (hh:fC G h p d l) (hz:kV h≤4294967296) :
  Calls prog 70 #[(aG b 0),vi e,pq h p d l] w0 (fJ w0 G (fP b ms ml mr mb mu n :: L) fun v G' L'=>G=G'∧L'=fP b ms ml mr mb mu n :: L∧v=vi (gY (bE us st li rv) e h)):=by
 have hm:=GH.Gg G (o:=(fP b ms ml mr mb mu n).2) (hO.sep _ fM);exact (alV (G.add b (fP b ms ml mr mb mu n).2) w0 hO.add st li rv b ms ml mr mb mu n (hck.mono hm) (GH.Gj _ _ _) e h p d l (hh.mono hm) hz).mono fun _ _=>apQ (b:=b) (o:=(fP b ms ml mr mb mu n).2) (R':=fun v=>v=vi (gY (bE us st li rv) e h)) hO fun _ _ h=>h
abbrev L9 (b ms ml mr mb mu:Nat) (L:OL) (r:CR):aj→OL→Prop:=fun u L'=>∃ s:CS,u=vi r.1∧L'=fP b ms ml mr mb mu s.n :: (mb,eU (fG s.bK)) :: L∧(r.1=0→s=r.2)
def FZ (us:List Int) (m:Nat):Prop:=∀ (G:GH) (L:OL) (w0:World) (st:List bS) (li:List eD) (rv:List bX) (b ms ml mr mb mu:Nat) (s:CS) (l:List ay) (v:aj) (body note:Bool) (t:Int),
 vw us G st li rv ms ml mr mu→fU G (fP b ms ml mr mb mu s.n :: (mb,eU (fG s.bK)) :: L) w0→au G (.sl 11 (l.map ay.dat)) v→cu l < m→0≤t→t≤4→0≤s.n→s.n+(cu l:Nat)≤1099511627776 →
 Calls prog 72 #[(aG b 0),v,.agg #[.bool body,.bool note,vi t]] w0 (fJ w0 G (fP b ms ml mr mb mu s.n :: (mb,eU (fG s.bK)) :: L) fun u G' L'=>G=G'∧L9 b ms ml mr mb mu L (jo (bE us st li rv) body note t l s) u L')
theorem rows_ok {m:Nat} (ih:FZ us m) (hm:m≤4294967296) (Gt:GH) (L:OL) (w0:World) (st:List bS) (li:List eD) (rv:List bX) (b ms ml mr mb mu:Nat) (s:CS) (l:List aX) (v:aj) (note:Bool) (t:Int)
  (hck:vw us Gt st li rv ms ml mr mu) (hO:fU Gt (fP b ms ml mr mb mu s.n :: (mb,eU (fG s.bK)) :: L) w0) (hv:au Gt (.sl 6 (l.map aX.dat)) v) (hz:gK l < m) (ht0:0≤t) (zD:t≤4) (hs0:0≤s.n) (hs1:s.n+(gK l:Nat)≤1099511627776) :
  Calls prog 199 #[(aG b 0),v,.agg #[.bool false,.bool note,vi t]] w0 (fJ w0 Gt (fP b ms ml mr mb mu s.n :: (mb,eU (fG s.bK)) :: L) fun u G' L'=>L9 b ms ml mr mb mu L (lI l.length (fun s=>iE (bE us st li rv) note t l s) s) u L'):=by
 obtain ⟨A,c,rfl,hc1,hc2,hg⟩:=hv.slice;rw [bM] at *;have hll:=IV l;refine jg (N:=77) (T:=[(0,_),(1,_),(2,_)]) func199 rfl ntmps199 rfl rfl hO ?_;refine ak 1 ?_;intro a H;refine dP (cs:=[_,_,_]) H wn rfl rfl rfl ?_;clear H;intro b5 a w hb5 H;refine gQ 8 H ?_ ?_ <;> clear H
 ·intro jJ
  have hE:lI l.length (fun s=>iE (bE us st li rv) note t l s) s=(11,s):=av (by omega);refine ak 3 ?_;intro a H;refine lr H results199 rfl ?_;exact H.hp.kE (L':=fP b ms ml mr mb mu s.n :: (mb,eU (fG s.bK)) :: L) (by repeat (first|exact jT _|apply List.Sublist.cons)) ⟨s,by rw [hE],rfl,fun h=>by rw [hE]⟩
 intro jJ
 refine goB 7 ?_ ?_
 ·intro Ck
  have hE:lI l.length (fun s=>iE (bE us st li rv) note t l s) s=(9,s):=by rw [lI,ah (by omega),av (by omega)]
  refine ak 3 ?_;intro a H;refine lr H results199 rfl ?_;exact H.hp.kE (L':=fP b ms ml mr mb mu s.n :: (mb,eU (fG s.bK)) :: L) (by repeat (first|exact jT _|apply List.Sublist.cons)) ⟨s,by rw [hE],rfl,fun h=>by rw [hE]⟩
 intro Ck
 refine ak 2 ?_
 have hE:lI l.length (fun s=>iE (bE us st li rv) note t l s) s=iE (bE us st li rv) note t l s:=by rw [lI,ah (by omega),ah (by omega)]
 refine ak 6 ?_;intro a H;refine eH (ι:=Nat × CS × GH) (Tc:=[(0,_),(5,_),(21,_),(22,_)]) (Lc:=[(_,_)]) (fun gh=>[(23,vi gh.1)]) (fun gh=>[fP b ms ml mr mb mu gh.2.1.n,(mb,eU (fG gh.2.1.bK))]++L) (fun gh=>gh.2.2) (fun gh=>gh.1≤l.length∧(∀ b o,Gt b=some o→gh.2.2 b=some o)∧iE (bE us st li rv) note t l s=iE (bE us st li rv) note t (l.drop gh.1) gh.2.1∧0≤gh.2.1.n∧gh.2.1.n+(gK (l.drop gh.1):Nat)≤1099511627776) (fun gh=>l.length - gh.1) ((0,s,Gt)) sB ?_ ?_
 ·exact ⟨gW _,fun _ _ h=>h,rfl,hs0,hs1⟩
 clear H;rintro ⟨k,s1,g⟩ a w hI H;dsimp only at hI H;obtain ⟨hk,hgm,hR,hn0,hn1⟩:=hI;dsimp only [lca,bG] at H;refine dQ 4 H ?_ ?_ <;> clear H
 ·intro jq
  have hk2:k < l.length:=by omega
  have hsz:=LW hk2;have hcs:=IQ l[k].cells
  have hdz:gK (l.drop k)=1+bY l[k].dat+gK (l.drop (k+1)):=by simp only [gK];rw [pO hk2,fq,eG]
  have hrz:=CK l[k];obtain ⟨xb,xo,qA,qn,qc,eA,en,ec,zA,zn,zc,cA,cn,cc,rfl,hrow,Ca,hcl⟩:=KS hk2 hg;replace hrow:=fun j u hj=>aH hgm (hrow j u hj);replace Ca:=Ca.mono hgm;replace hcl:=hcl.mono hgm;have hcn:=hcl.len;rw [bM] at hcn;subst hcn;have alG:=hck.mono hgm;rw [pO hk2,iE,OP] at hR;refine ak 5 ?_;intro a H;refine aS jL (cs:=[_,_,_,_,_,_]) H wn rfl rfl (fun j v hj=>H.hp.aI (hrow j v hj)) rfl ?_;clear H;intro a H;refine dz jL H wn rfl ?_;clear H;intro b8 a w Ar H;refine aV jL 0 (vs:=[_,_,_,_,_,_]) _ H wn rfl rfl rfl rfl rfl rfl rfl rfl ?_;clear H;intro w H;dsimp only [List.set,setRow] at H;refine aD 3 H ?_;clear H;intro a H;refine dI hmx [[],[],[1],[0,1,2],[],[4],[4,5],[4,5,6],(ra 0 8),[],[9],[9,10],[9,10,11],(ra 0 13),(ra 0 14),(ra 0 15),(ra 0 16)] [14,15,16] (by kernel_rfl) [_,_,pq l[k].head (.slice qA qn qc) (.slice eA en ec) (.slice zA zn zc),vi (gY (bE us st li rv) 9 l[k].head),_,.slice cA l[k].cells.length cc,_,_,vi (dx (decide ((l[k].cells.length:Int)=0)) 11),_,.slice cA l[k].cells.length cc,_,_,vi (dx (decide (32 < (l[k].cells.length:Int))) 9)] H (aF (Z0 rfl (Rm rfl)) (Z0 rfl (Rf RN rfl)) ?_ ?_ (aF (Z0 rfl (Rf JA rfl)) (Z1 4 31 rfl (Ro IE 0 rfl)) (Z1 5 32 rfl (Rl CF rfl)) (Z1 6 33 rfl (Rc rfl)) (aF ?_ (Z0 rfl (Rf JA rfl)) (Z1 9 36 rfl (Ro IE 0 rfl)) (Z1 10 37 rfl (Rl CF rfl)) (aF (Z1 11 38 rfl (Rc rfl)) ?_ (bQ rfl) (bQ rfl) (bH (bQ rfl) cZ))))) ?_
  ·refine eu 1 28 rfl rfl fun _ a w G1 hG HT H fin=>?_;refine aS dw (cs:=[_,_,_,_,_]) H wn rfl rfl (H.hp.bN 0 rfl rfl) rfl ?_;clear H;intro a H;exact fin H iJ rfl
  ·refine dH 0 27 2 29 rfl rfl fun _ a w G1 hG HT H fin=>?_;refine gF GL (Li:=[_,_]) (L:=fP b ms ml mr mb mu s1.n :: (mb,eU (fG s1.bK)) :: L) H wn rfl (Hq _ _ _ st li rv b ms ml mr mb mu _ (alG.mono hG) (Hp.owns (Li:=[_,_]) H.hp) 9 l[k].head _ _ _ (Ca.mono hG) (by omega)) rfl ?_;clear H;rintro v30 _ _ a w ⟨rfl,rfl,rfl⟩ Si H;dsimp only [lca,bG] at H;exact fin H Si (rfl)
  ·refine eu 7 34 rfl rfl fun _ a w G1 hG HT H fin=>?_;refine s_call jC H wn rfl (jH _ _ H.ro _ 11) rfl ?_;clear H;rintro v35 V9 a w ⟨rfl,-⟩ Sj H;exact fin H Sj (rfl)
  ·refine eu 12 39 rfl rfl fun _ a w G1 hG HT H fin=>?_;refine s_call jC H wn rfl (jH _ _ H.ro _ 9) rfl ?_;clear H;rintro v40 PZ a w ⟨rfl,-⟩ akE H;exact fin H akE (rfl)
  clear H;intro a w G nO H hv;have H:=H.aN (hv 3 30 rfl rfl) rfl;have H:=H.aN (hv 8 35 rfl rfl) rfl;have H:=H.aN (hv 13 40 rfl rfl) rfl;clear hv;refine gJ qm iA [_,_,_] [_,_,_] H wn rfl rfl rfl rfl rfl (by intro i q h;match i,h with|0,h=>exact h|1,h=>exact h|2,h=>exact h|n+3,h=>simp at h) rfl rfl ?_;clear H;intro b41 a w atA H;obtain ⟨FY,uN,alo,H⟩:=H.dZ;have Zq:∀ b o,Gt b=some o→FY b=some o:=fun b o h=>uN _ _ (nO _ _ (hgm _ _ h));refine s_call qC H wn rfl (qD _ _ H.ro _ _ (EY [gY (bE us st li rv) 9 l[k].head,dx (decide ((l[k].cells.length:Int)=0)) 11,dx (decide (32 < (l[k].cells.length:Int))) 9] alo (show 3≤maxLen by decide))) rfl ?_;clear H;rintro v42 _ a w ⟨rfl,rfl⟩ - H;refine kH H (Ra rfl ?_);clear H;intro a H;refine aC ⟨rfl,?_⟩;refine dR ?_;refine dQ 4 H ?_ ?_ <;> clear H
  ·intro p44
   have e44:Cn (bE us st li rv) l[k].head l[k].cells.length≠0:=p44
   have hF1:(lI l.length (fun s=>iE (bE us st li rv) note t l s) s).1=Cn (bE us st li rv) l[k].head l[k].cells.length:=by rw [hE,hR,MC (r:=(Cn (bE us st li rv) l[k].head l[k].cells.length,s1)) e44,MC e44]
   have hF2:(lI l.length (fun s=>iE (bE us st li rv) note t l s) s).1=0→s1=(lI l.length (fun s=>iE (bE us st li rv) note t l s) s).2:=fun h=>absurd (hF1.symm.trans h) e44;refine ak 4 ?_;intro a H;refine lr H results199 rfl ?_;exact H.hp.kE (L':=fP b ms ml mr mb mu s1.n :: (mb,eU (fG s1.bK)) :: L) (by repeat (first|exact jT _|apply List.Sublist.cons)) ⟨s1,aB vi hF1.symm,rfl,hF2⟩
  intro p44
  have e44:Cn (bE us st li rv) l[k].head l[k].cells.length=0:=nM.1 p44;rw [Gm (r:=(Cn (bE us st li rv) l[k].head l[k].cells.length,s1)) e44] at hR;intro a H;dsimp only at hR;have alH:=hck.mono Zq;replace hcl:=hcl.mono (fun b o h=>uN _ _ (nO b o h));refine fO 8 H ?_;clear H;intro a H;refine eH (ι:=Nat × CS × GH) (Tc:=[(0,_),(5,_),(21,_),(22,_),(23,_),(47,_),(48,_)]) (Lc:=[(_,_),(_,_)]) (fun gh=>[(49,vi gh.1)]) (fun gh=>[fP b ms ml mr mb mu gh.2.1.n,(mb,eU (fG gh.2.1.bK))]++L) (fun gh=>gh.2.2) (fun gh=>gh.1≤l[k].cells.length∧(∀ b o,FY b=some o→gh.2.2 b=some o)∧iE (bE us st li rv) note t l s=fT (oQ (bE us st li rv) note t (l[k].cells.drop gh.1) gh.2.1) (fun s=>iE (bE us st li rv) note t (l.drop (k+1)) s)∧0≤gh.2.1.n∧gh.2.1.n+(iK (l[k].cells.drop gh.1):Nat)+(gK (l.drop (k+1)):Nat)≤1099511627776) (fun gh=>l[k].cells.length - gh.1) ((0,s1,FY)) sB ?_ ?_
  ·exact ⟨gW _,fun _ _ h=>h,hR,hn0,by dsimp only;rw [List.drop_zero];omega⟩
  clear H;rintro ⟨c,s2,g2⟩ a w hI H;dsimp only at hI H;obtain ⟨hc,NK,hR2,hm0,hm1⟩:=hI;have iV:=fun b o h=>NK b o (Zq b o h);dsimp only [lca,bG] at H;refine dQ 4 H ?_ ?_ <;> clear H
  ·intro p50
   have hk4:c < l[k].cells.length:=by omega
   have amZ:=LV hk4
   have alP:iK (l[k].cells.drop c)=1+bY l[k].cells[c].dat+iK (l[k].cells.drop (c+1)):=by simp only [iK];rw [pO hk4,fq,eG]
   have hcz:=CJ l[k].cells[c];obtain ⟨b3',o3,sA,sn,sc,tA,tn,tc,uA,un,uc,gA,gn,gc,rfl,hrow,hch,hcf⟩:=Jg hk4 (hcl.mono NK).at_;have Td:=alH.mono NK;rw [pO hk4,oQ,ML] at hR2;obtain ⟨y,hy⟩:∃ y,y=l[k].cells[c]:=⟨_,rfl⟩;rw [← hy] at hR2 hrow hch hcf hcz amZ alP;refine ak 5 ?_;intro a H;refine aS jQ (cs:=[_,_,_,_,_,_,_]) H wn rfl rfl (fun j v hj=>H.hp.aI (hrow j v hj)) rfl ?_;clear H;intro a H;refine dz jQ H wn rfl ?_;clear H;intro b11 a w EA H;refine aV jQ 0 (vs:=[_,_,_,_,_,_,_]) _ H wn rfl rfl rfl rfl rfl rfl rfl rfl ?_;clear H;intro w H;dsimp only [List.set,setRow] at H;refine aD 6 H ?_;clear H;intro a H;refine gF Q8 (Li:=[_,_,_]) (L:=fP b ms ml mr mb mu s2.n :: (mb,eU (fG s2.bK)) :: L) H wn rfl (QA _ _ _ st li rv b ms ml mr mb mu _ s2.bK y.id Td (Hp.owns (Li:=[_,_,_]) H.hp)) rfl ?_;clear H;rintro v56 _ _ a w ⟨rfl,rfl,rfl⟩ - H;dsimp only [lca,bG] at H;refine gQ 6 H ?_ ?_ <;> clear H
   ·intro p58
    have hF1:(lI l.length (fun s=>iE (bE us st li rv) note t l s) s).1=pG us s2.bK y.id:=by rw [hE,hR2];simp [fT,jZ,p58]
    have hF2:(lI l.length (fun s=>iE (bE us st li rv) note t l s) s).1=0→(⟨s2.n,jY us s2.bK y.id⟩:CS)=(lI l.length (fun s=>iE (bE us st li rv) note t l s) s).2:=fun h=>absurd (hF1.symm.trans h) p58;refine ak 4 ?_;intro a H;refine lr H results199 rfl ?_;exact H.hp.kE (L':=fP b ms ml mr mb mu s2.n :: (mb,eU (fG (jY us s2.bK y.id))) :: L) (by repeat (first|exact jT _|apply List.Sublist.cons)) ⟨⟨s2.n,jY us s2.bK y.id⟩,aB vi hF1.symm,rfl,hF2⟩
   intro p58
   have e58:pG us s2.bK y.id=0:=nM.1 p58;refine ak 5 ?_;intro a H;refine aS dw (cs:=[_,_,_,_,_]) H wn rfl rfl (H.hp.bN 0 rfl rfl) rfl ?_;clear H;intro a H;refine gF GL (Li:=[_,_,_]) (L:=fP b ms ml mr mb mu s2.n :: (mb,eU (fG (jY us s2.bK y.id))) :: L) H wn rfl (Hq _ _ _ st li rv b ms ml mr mb mu _ Td (Hp.owns (Li:=[_,_,_]) H.hp) 10 y.head _ _ _ hch (by omega)) rfl ?_;clear H;rintro v63 _ _ a w ⟨rfl,rfl,rfl⟩ - H;dsimp only [lca,bG] at H;refine gQ 6 H ?_ ?_ <;> clear H
   ·intro p65
    have hF1:(lI l.length (fun s=>iE (bE us st li rv) note t l s) s).1=gY (bE us st li rv) 10 y.head:=by rw [hE,hR2];simp [fT,jZ,e58,p65]
    have hF2:(lI l.length (fun s=>iE (bE us st li rv) note t l s) s).1=0→(⟨s2.n,jY us s2.bK y.id⟩:CS)=(lI l.length (fun s=>iE (bE us st li rv) note t l s) s).2:=fun h=>absurd (hF1.symm.trans h) p65;refine ak 4 ?_;intro a H;refine lr H results199 rfl ?_;exact H.hp.kE (L':=fP b ms ml mr mb mu s2.n :: (mb,eU (fG (jY us s2.bK y.id))) :: L) (by repeat (first|exact jT _|apply List.Sublist.cons)) ⟨⟨s2.n,jY us s2.bK y.id⟩,aB vi hF1.symm,rfl,hF2⟩
   intro p65
   have e65:gY (bE us st li rv) 10 y.head=0:=nM.1 p65;refine ak 5 ?_;intro a H;refine aS acL (cs:=[_,_,_]) H wn rfl rfl (H.hp.bN 2 rfl rfl) rfl ?_;clear H;intro a H;refine gF Jv (Li:=[_,_,_]) (L:=fP b ms ml mr mb mu s2.n :: (mb,eU (fG (jY us s2.bK y.id))) :: L) H wn rfl (ih _ _ _ st li rv b ms ml mr mb mu ⟨s2.n,jY us s2.bK y.id⟩ y.flow _ false note t Td (Hp.owns (Li:=[_,_,_]) H.hp) hcf (by omega) ht0 zD hm0 (by dsimp only;omega)) rfl ?_;clear H;rintro v71 _ _ a w ⟨rfl,s3,rfl,rfl,h3⟩ - H;dsimp only [lca,bG] at H;refine gQ 6 H ?_ ?_ <;> clear H
   ·intro p73
    have hF1:(lI l.length (fun s=>iE (bE us st li rv) note t l s) s).1=(jo (bE us st li rv) false note t y.flow ⟨s2.n,jY us s2.bK y.id⟩).1:=by rw [hE,hR2];simp [fT,jZ,e58,e65,p73]
    have hF2:(lI l.length (fun s=>iE (bE us st li rv) note t l s) s).1=0→s3=(lI l.length (fun s=>iE (bE us st li rv) note t l s) s).2:=fun h=>absurd (hF1.symm.trans h) p73;refine ak 4 ?_;intro a H;refine lr H results199 rfl ?_;exact H.hp.kE (L':=fP b ms ml mr mb mu s3.n :: (mb,eU (fG s3.bK)) :: L) (by repeat (first|exact jT _|apply List.Sublist.cons)) ⟨s3,aB vi hF1.symm,rfl,hF2⟩
   intro p73
   have QT:(jo (bE us st li rv) false note t y.flow ⟨s2.n,jY us s2.bK y.id⟩).1=0:=nM.1 p73;obtain ⟨hu1,hu2⟩:=Py (bE us st li rv) false note t y.flow ⟨s2.n,jY us s2.bK y.id⟩;rw [← h3 QT] at hu1 hu2;intro a H;dsimp only at hu1 hu2
   have hS:fT (fT (fT (jZ (bE us st li rv) s2 y.id) fun s=>fT (gY (bE us st li rv) 10 y.head,s) fun s=>jo (bE us st li rv) false note t y.flow s) fun s=>oQ (bE us st li rv) note t (l[k].cells.drop (c+1)) s) (fun s=>iE (bE us st li rv) note t (l.drop (k+1)) s)=fT (oQ (bE us st li rv) note t (l[k].cells.drop (c+1)) s3) (fun s=>iE (bE us st li rv) note t (l.drop (k+1)) s):=by
    rw [h3 QT];simp [fT,jZ,e58,e65,QT]
   refine fO 4 H ?_;clear H;intro a H;refine aC ?_;refine cB ((c+1,s3,g2)) (by exact (H.dY (Pl:=[_,_,_,_,_]) (dM:=[_,_,_,_]) [1,2,3,4] (by decide) rfl).sub ⟨rfl,rfl,rfl,rfl,rfl,rfl,rfl,rfl,aU⟩) ?_ ?_
   ·(try dsimp only);exact ⟨by omega,NK,hR2.trans hS,by omega,by omega⟩
   first|omega|(dsimp only;omega)
  intro p50
  refine ak 4 ?_;intro a H;refine aC ?_;refine cB ((k+1,s2,g2)) (by exact (H.dY (Pl:=[_,_,_,_]) (dM:=[_,_,_]) [1,2,3] (by decide) rfl).sub ⟨rfl,rfl,rfl,rfl,rfl,aU⟩) ?_ ?_
  ·(try dsimp only);exact ⟨by omega,iV,by rw [hR2,kC (by omega),oQ,Gm rfl],hm0,by omega⟩
  first|omega|(dsimp only;omega)
 intro jq
 refine ak 1 ?_
 have hF1:(lI l.length (fun s=>iE (bE us st li rv) note t l s) s).1=0:=by rw [hE,hR,kC (by omega),iE]
 have hF2:(lI l.length (fun s=>iE (bE us st li rv) note t l s) s).1=0→s1=(lI l.length (fun s=>iE (bE us st li rv) note t l s) s).2:=fun h=>by rw [hE,hR,kC (by omega),iE]
 refine ak 3 ?_;intro a H;refine lr H results199 rfl ?_;exact H.hp.kE (L':=fP b ms ml mr mb mu s1.n :: (mb,eU (fG s1.bK)) :: L) (by repeat (first|exact jT _|apply List.Sublist.cons)) ⟨s1,aB vi hF1.symm,rfl,hF2⟩
end
section
open Go.RowKit
theorem ahz:∀ args w,(callFunc 199 args).run prog w=.ok (.enter 199 args) w:=enters func199 rfl (by kernel_rfl)
theorem ahx:∀ args w,(callFunc 196 args).run prog w=.ok (.enter 196 args) w:=enters func196 rfl (by kernel_rfl)
instance:dS prog 133 5 5:=⟨by kernel_rfl⟩
instance:dS prog 129 0 0:=⟨by kernel_rfl⟩
variable {us:List Int}
theorem aoQ {G:GH} {b:Nat} {x:Int} (h:G b=some (.cells #[vi x] 49 (0,0))):au G (.sl 1 ([x].map fun k=>[li k])) (.slice (some ⟨b,0,none⟩) 1 1):=EY [x] h (show 1≤maxLen by decide)
theorem anH {m:Nat} (ih:FZ us m) (hm:m≤4294967296) (Gt:GH) (L:OL) (w0:World) (st:List bS) (li:List eD) (rv:List bX) (b ms ml mr mb mu:Nat) (s:CS) (x:ay) (p d y f r:aj) (body note:Bool) (t:Int)
  (hck:vw us Gt st li rv ms ml mr mu) (hO:fU Gt (fP b ms ml mr mb mu s.n :: (mb,eU (fG s.bK)) :: L) w0) (hh:fC Gt x.head p d y) (hf:au Gt (.sl 11 (x.flow.map ay.dat)) f) (hr:au Gt (.sl 6 (x.rows.map aX.dat)) r) (hz:bY x.dat≤m) (ht0:0≤t) (zD:t≤4) (hs0:0≤s.n) (hs1:s.n+(bY x.dat:Nat)≤1099511627776) :
  Calls prog 134 #[(aG b 0),.agg #[vi x.kind,vi x.code,vi x.id,.string x.text,p,vi x.head.marks.ins,vi x.head.marks.move,d,y,f,r],.agg #[.bool body,.bool note,vi t]] w0 (fJ w0 Gt (fP b ms ml mr mb mu s.n :: (mb,eU (fG s.bK)) :: L) fun u G' L'=>L9 b ms ml mr mb mu L (eY (bE us st li rv) body note t x s) u L'):=by
 obtain ⟨pA,pn,pc,rfl⟩:=hh.props.form;obtain ⟨dA,dn,dc,rfl⟩:=hh.bL.form;obtain ⟨lA,ln,lc,rfl⟩:=hh.layers.form;obtain ⟨fA,fc,rfl,-⟩:=hf.slice;obtain ⟨rA,rc,rfl,-⟩:=hr.slice;(iterate 2 rw [bM] at *);have hxz:=yJ x;have hcl:=Xw x.text
 have hus:jl x≤x.text.size+1:=by unfold jl;split <;> omega
 have hE:=aaB (bE us st li rv) body note t x s;refine jg (N:=117) (T:=[(0,_),(1,_),(2,_)]) func134 rfl ntmps134 rfl rfl hO ?_;refine ak 1 ?_;intro a H;refine dP (cs:=[_,_,_,_,_,_,_,_,_,_,_]) H wn rfl rfl rfl ?_;clear H;intro b4 a w hb4 H;refine dP (cs:=[_,_,_]) H wn rfl rfl rfl ?_;clear H;intro b5 a w hb5 H;refine aD 4 H ?_;clear H;intro a H;refine aS gB (cs:=[_,_,_,_,_,_,_,_,_,_,_]) H wn rfl rfl (H.hp.bN 1 rfl rfl) rfl ?_;clear H;intro a H;refine s_call ahx H wn rfl (akk _ _ H.ro x _ _ _ _ _ _ _ (by omega)) rfl ?_;clear H;rintro v15 _ a w ⟨rfl,rfl⟩ - H;refine gQ 6 H ?_ ?_ <;> clear H
 ·intro jJ
  rw [MC (r:=(jU x,s)) jJ] at hE;refine ak 4 ?_;intro a H;refine lr H results134 rfl ?_;exact H.hp.kE (L':=fP b ms ml mr mb mu s.n :: (mb,eU (fG s.bK)) :: L) (by repeat (first|exact jT _|apply List.Sublist.cons)) ⟨s,by rw [hE],rfl,fun h=>by rw [hE]⟩
 intro jJ
 rw [Gm (r:=(jU x,s)) (nM.1 jJ)] at hE;intro a H;dsimp only at hE;refine fO 9 H ?_;clear H;intro a H;refine aV bR 2 (vs:=[_]) _ H wn rfl rfl rfl rfl rfl rfl rfl rfl ?_;clear H;intro w H;dsimp only [List.set,setRow] at H;refine aC ?_;refine dR ?_;refine qz (ι:=CS × GH) (Tc:=[(0,_),(4,_),(5,_)]) (Lc:=[(_,_),(_,_)]) (fun gh=>[]) (fun gh=>[fP b ms ml mr mb mu gh.1.n,(mb,eU (fG gh.1.bK))]++L) (fun gh=>gh.2) (fun gh=>lY (bE us st li rv) body note t x.kind x.id ⟨s.n+(jl x:Nat),s.bK⟩=(0,gh.1)∧(∀ b o,Gt b=some o→gh.2 b=some o)∧gh.1.n=s.n+(jl x:Nat)∧(x.kind=7→t < 4)) sB ?_ ?_
 ·refine dQ 9 H ?_ ?_ <;> clear H
  ·intro p28
   have hu:((jl x:Nat):Int)=rH x.text:=by rw [jl,av p28]
   refine ak 3 ?_;intro a H;refine s_call ahy H wn rfl (afP _ _ H.ro x.text (by omega)) rfl ?_;clear H;rintro v33 _ a w ⟨rfl,rfl⟩ - H;refine aD 1 H ?_;clear H;intro a H;(iterate 2 refine jK H wn rfl rfl rfl ?_;clear H;intro a H);refine aD 11 H ?_;clear H;intro a H;rw [show s.n+1+((rH x.text:Int) - 1)=s.n+(jl x:Nat) by omega] at H;refine aD 2 H ?_;clear H;intro a H;refine aV bR 2 (vs:=[_]) _ H wn rfl rfl rfl rfl rfl rfl rfl rfl ?_;clear H;intro w H;dsimp only [List.set,setRow] at H;refine aC ?_;refine ⟨(⟨s.n+(jl x:Nat),s.bK⟩,Gt),sB,?_⟩;(try dsimp only)
   first
   | exact ⟨by simp_all [lY,dx,fT,jZ],fun _ _ h=>h,rfl,fun h7=>by first|omega|(exfalso;simp_all)⟩
   | exact ⟨by simp_all [lY,dx,fT,jZ],uO,rfl,fun h7=>by first|omega|(exfalso;simp_all)⟩
  intro p28
  have hu:((jl x:Nat):Int)=1:=by rw [jl,ah p28];rfl
  intro a H;rw [show s.n+1=s.n+((jl x:Nat):Int) by omega] at H;refine dQ 4 H ?_ ?_ <;> clear H
  ·intro p45
   refine goC 5 ?_ ?_
   ·intro Nq
    try have p49:=dT Nq
    have hF1:(eY (bE us st li rv) body note t x s).1=19:=by rw [hE];simp [fT,lY,p45,dx,Nq]
    have hF2:(eY (bE us st li rv) body note t x s).1=0→(⟨s.n+(jl x:Nat),s.bK⟩:CS)=(eY (bE us st li rv) body note t x s).2:=fun h=>absurd (hF1.symm.trans h) (by decide);refine ak 3 ?_;intro a H;refine lr H results134 rfl ?_;exact H.hp.kE (L':=fP b ms ml mr mb mu (s.n+(jl x:Nat)) :: (mb,eU (fG (s.bK))) :: L) (by repeat (first|exact jT _|apply List.Sublist.cons)) ⟨⟨s.n+(jl x:Nat),s.bK⟩,aB vi hF1.symm,rfl,hF2⟩
   intro Nq
   try have p49:=dF Nq
   intro a H;refine jB ?_;refine ⟨(⟨s.n+(jl x:Nat),s.bK⟩,Gt),sB,?_⟩;(try dsimp only)
   first
   | exact ⟨by simp_all [lY,dx,fT,jZ],fun _ _ h=>h,rfl,fun h7=>by first|omega|(exfalso;simp_all)⟩
   | exact ⟨by simp_all [lY,dx,fT,jZ],uO,rfl,fun h7=>by first|omega|(exfalso;simp_all)⟩
  intro p45
  refine goB 4 ?_ ?_
  ·intro p50
   refine ak 4 ?_;intro a H;refine s_call jC H wn rfl (jH _ _ H.ro _ 19) rfl ?_;clear H;rintro v54 _ a w ⟨rfl,rfl⟩ - H;refine gJ qm iA [_] [_] H wn rfl rfl rfl rfl rfl (by intro i q h;match i,h with|0,h=>exact h|n+1,h=>simp at h) rfl rfl ?_;clear H;intro b55 a w atE H;obtain ⟨I6,uO,alp,H⟩:=H.dZ;refine s_call qC H wn rfl (qD _ _ H.ro _ _ (aoQ alp)) rfl ?_;clear H;rintro v56 _ a w ⟨rfl,rfl⟩ - H;refine gQ 6 H ?_ ?_ <;> clear H
   ·intro p58
    have e58:dx note 19≠0:=fun h=>p58 (by rw [h];rfl)
    have anp:cO [dx note 19]=dx note 19:=by simp [cO,e58]
    intro a H;rw [anp] at H
    have hF1:(eY (bE us st li rv) body note t x s).1=dx note 19:=by rw [hE];simp [fT,lY,p50,e58]
    have hF2:(eY (bE us st li rv) body note t x s).1=0→(⟨s.n+(jl x:Nat),s.bK⟩:CS)=(eY (bE us st li rv) body note t x s).2:=fun h=>absurd (hF1.symm.trans h) (e58);refine fO 4 H ?_;clear H;intro a H;refine lr H results134 rfl ?_;exact H.hp.kE (L':=fP b ms ml mr mb mu (s.n+(jl x:Nat)) :: (mb,eU (fG (s.bK))) :: L) (by repeat (first|exact jT _|apply List.Sublist.cons)) ⟨⟨s.n+(jl x:Nat),s.bK⟩,aB vi hF1.symm,rfl,hF2⟩
   intro p58
   have e58:dx note 19=0:=Decidable.byContradiction fun h=>p58 (by simp [cO,h]);refine ak 5 ?_;intro a H;refine gF Q8 (Li:=[_,_]) (L:=fP b ms ml mr mb mu _ :: (mb,eU (fG s.bK)) :: L) H wn rfl (QA _ _ _ st li rv b ms ml mr mb mu _ s.bK x.id (hck.mono uO) (Hp.owns (Li:=[_,_]) H.hp)) rfl ?_;clear H;rintro v63 _ _ a w ⟨rfl,rfl,rfl⟩ - H;dsimp only [lca,bG] at H;refine gQ 6 H ?_ ?_ <;> clear H
   ·intro p65
    have hF1:(eY (bE us st li rv) body note t x s).1=pG us s.bK x.id:=by rw [hE];simp [fT,lY,p50,e58,jZ,p65]
    have hF2:(eY (bE us st li rv) body note t x s).1=0→(⟨s.n+(jl x:Nat),jY us s.bK x.id⟩:CS)=(eY (bE us st li rv) body note t x s).2:=fun h=>absurd (hF1.symm.trans h) (p65);refine ak 4 ?_;intro a H;refine lr H results134 rfl ?_;exact H.hp.kE (L':=fP b ms ml mr mb mu (s.n+(jl x:Nat)) :: (mb,eU (fG (jY us s.bK x.id))) :: L) (by repeat (first|exact jT _|apply List.Sublist.cons)) ⟨⟨s.n+(jl x:Nat),jY us s.bK x.id⟩,aB vi hF1.symm,rfl,hF2⟩
   intro p65
   have e65:pG us s.bK x.id=0:=nM.1 p65;intro a H;refine jB ?_;refine ⟨(⟨s.n+(jl x:Nat),jY us s.bK x.id⟩,I6),sB,?_⟩;(try dsimp only)
   first
   | exact ⟨by simp_all [lY,dx,fT,jZ],fun _ _ h=>h,rfl,fun h7=>by first|omega|(exfalso;simp_all)⟩
   | exact ⟨by simp_all [lY,dx,fT,jZ],uO,rfl,fun h7=>by first|omega|(exfalso;simp_all)⟩
  intro p50
  refine goB 4 ?_ ?_
  ·intro p67
   refine goB 6 ?_ ?_
   ·intro p71
    have hF1:(eY (bE us st li rv) body note t x s).1=17:=by rw [hE];simp [fT,lY,p67,dx,p71]
    have hF2:(eY (bE us st li rv) body note t x s).1=0→(⟨s.n+(jl x:Nat),s.bK⟩:CS)=(eY (bE us st li rv) body note t x s).2:=fun h=>absurd (hF1.symm.trans h) (by decide);refine ak 3 ?_;intro a H;refine lr H results134 rfl ?_;exact H.hp.kE (L':=fP b ms ml mr mb mu (s.n+(jl x:Nat)) :: (mb,eU (fG (s.bK))) :: L) (by repeat (first|exact jT _|apply List.Sublist.cons)) ⟨⟨s.n+(jl x:Nat),s.bK⟩,aB vi hF1.symm,rfl,hF2⟩
   intro p71
   have e71:¬ 4≤t:=by omega
   refine ak 5 ?_;intro a H;refine gF Q8 (Li:=[_,_]) (L:=fP b ms ml mr mb mu _ :: (mb,eU (fG s.bK)) :: L) H wn rfl (QA _ _ _ st li rv b ms ml mr mb mu _ s.bK x.id hck (Hp.owns (Li:=[_,_]) H.hp)) rfl ?_;clear H;rintro v75 _ _ a w ⟨rfl,rfl,rfl⟩ - H;dsimp only [lca,bG] at H;refine gQ 6 H ?_ ?_ <;> clear H
   ·intro Ip
    have hF1:(eY (bE us st li rv) body note t x s).1=pG us s.bK x.id:=by rw [hE];simp [fT,lY,p67,dx,e71,jZ,Ip]
    have hF2:(eY (bE us st li rv) body note t x s).1=0→(⟨s.n+(jl x:Nat),jY us s.bK x.id⟩:CS)=(eY (bE us st li rv) body note t x s).2:=fun h=>absurd (hF1.symm.trans h) (Ip);refine ak 4 ?_;intro a H;refine lr H results134 rfl ?_;exact H.hp.kE (L':=fP b ms ml mr mb mu (s.n+(jl x:Nat)) :: (mb,eU (fG (jY us s.bK x.id))) :: L) (by repeat (first|exact jT _|apply List.Sublist.cons)) ⟨⟨s.n+(jl x:Nat),jY us s.bK x.id⟩,aB vi hF1.symm,rfl,hF2⟩
   intro Ip
   have e77:pG us s.bK x.id=0:=nM.1 Ip;intro a H;refine jB ?_;refine ⟨(⟨s.n+(jl x:Nat),jY us s.bK x.id⟩,Gt),sB,?_⟩;(try dsimp only)
   first
   | exact ⟨by simp_all [lY,dx,fT,jZ],fun _ _ h=>h,rfl,fun h7=>by first|omega|(exfalso;simp_all)⟩
   | exact ⟨by simp_all [lY,dx,fT,jZ],uO,rfl,fun h7=>by first|omega|(exfalso;simp_all)⟩
  intro p67
  refine goB 4 ?_ ?_
  ·intro UW
   refine ak 3 ?_;intro a H;refine s_call wL H wn rfl (wW _ _ H.ro x.id 1 1073741824) rfl ?_;clear H;rintro v83 _ a w ⟨rfl,rfl⟩ - H;refine iU 2 H ?_ ?_ <;> clear H
   ·intro h84
    try have p84:=dT h84
    have e84:¬ (1≤x.id∧x.id≤1073741824):=by have h0:=h84;simp at h0;omega
    have hF1:(eY (bE us st li rv) body note t x s).1=18:=by rw [hE];simp [fT,lY,UW,dx,e84]
    have hF2:(eY (bE us st li rv) body note t x s).1=0→(⟨s.n+(jl x:Nat),s.bK⟩:CS)=(eY (bE us st li rv) body note t x s).2:=fun h=>absurd (hF1.symm.trans h) (by decide);refine ak 3 ?_;intro a H;refine lr H results134 rfl ?_;exact H.hp.kE (L':=fP b ms ml mr mb mu (s.n+(jl x:Nat)) :: (mb,eU (fG (s.bK))) :: L) (by repeat (first|exact jT _|apply List.Sublist.cons)) ⟨⟨s.n+(jl x:Nat),s.bK⟩,aB vi hF1.symm,rfl,hF2⟩
   intro h84
   try have p84:=dF h84
   intro a H;refine jB ?_;refine ⟨(⟨s.n+(jl x:Nat),s.bK⟩,Gt),sB,?_⟩;(try dsimp only)
   first
   | exact ⟨by simp_all [lY,dx,fT,jZ],fun _ _ h=>h,rfl,fun h7=>by first|omega|(exfalso;simp_all)⟩
   | exact ⟨by simp_all [lY,dx,fT,jZ],uO,rfl,fun h7=>by first|omega|(exfalso;simp_all)⟩
  intro UW
  intro a H;refine jB ?_;refine ⟨(⟨s.n+(jl x:Nat),s.bK⟩,Gt),sB,?_⟩;(try dsimp only)
  first
  | exact ⟨by simp_all [lY,dx,fT,jZ],fun _ _ h=>h,rfl,fun h7=>by first|omega|(exfalso;simp_all)⟩
  | exact ⟨by simp_all [lY,dx,fT,jZ],uO,rfl,fun h7=>by first|omega|(exfalso;simp_all)⟩
 clear H;rintro ⟨s1,g⟩ a w hI H;dsimp only at hI H;obtain ⟨hP,wU,auc,ht7⟩:=hI;rw [hP,Gm rfl] at hE;dsimp only at hE;replace hck:=hck.mono wU;replace hh:=hh.mono wU;replace hf:=hf.mono wU;replace hr:=hr.mono wU;dsimp only [lca,bG] at H;refine fO 6 H ?_;clear H;intro a H;refine aS dw (cs:=[_,_,_,_,_]) H wn rfl rfl (H.hp.bN 1 rfl rfl) rfl ?_;clear H;intro a H;refine gF GL (Li:=[_,_]) (L:=fP b ms ml mr mb mu s1.n :: (mb,eU (fG s1.bK)) :: L) H wn rfl (Hq _ _ _ st li rv b ms ml mr mb mu _ hck (Hp.owns (Li:=[_,_]) H.hp) x.kind x.head _ _ _ hh (by omega)) rfl ?_;clear H;rintro v90 _ _ a w ⟨rfl,rfl,rfl⟩ - H;dsimp only [lca,bG] at H;refine gQ 6 H ?_ ?_ <;> clear H
 ·intro Iq
  have hF1:(eY (bE us st li rv) body note t x s).1=gY (bE us st li rv) x.kind x.head:=by rw [hE,MC (r:=(gY (bE us st li rv) x.kind x.head,s1)) Iq]
  have hF2:(eY (bE us st li rv) body note t x s).1=0→s1=(eY (bE us st li rv) body note t x s).2:=fun h=>absurd (hF1.symm.trans h) Iq;refine ak 4 ?_;intro a H;refine lr H results134 rfl ?_;exact H.hp.kE (L':=fP b ms ml mr mb mu (s1.n) :: (mb,eU (fG (s1.bK))) :: L) (by repeat (first|exact jT _|apply List.Sublist.cons)) ⟨s1,aB vi hF1.symm,rfl,hF2⟩
 intro Iq
 rw [Gm (r:=(gY (bE us st li rv) x.kind x.head,s1)) (nM.1 Iq)] at hE;intro a H;dsimp only at hE;refine dQ 11 H ?_ ?_ <;> clear H
 ·intro KQ
  rw [av KQ] at hE;refine ak 6 ?_;intro a H;refine iy KY [_,_,_] H wn rfl rfl rfl rfl ?_;clear H;intro a H;refine gF Jv (Li:=[_,_]) (L:=fP b ms ml mr mb mu s1.n :: (mb,eU (fG s1.bK)) :: L) H wn rfl (ih _ _ _ st li rv b ms ml mr mb mu s1 x.flow _ false true t hck (Hp.owns (Li:=[_,_]) H.hp) hf (by omega) ht0 zD (by omega) (by omega)) rfl ?_;clear H;rintro asB _ _ a w ⟨rfl,s3,rfl,rfl,h3⟩ - H;dsimp only [lca,bG] at H
  have hF1:(eY (bE us st li rv) body note t x s).1=(jo (bE us st li rv) false true t x.flow s1).1:=by rw [hE]
  have hF2:(eY (bE us st li rv) body note t x s).1=0→s3=(eY (bE us st li rv) body note t x s).2:=by rw [hE];exact h3
  refine aD 2 H ?_;clear H;intro a H;refine lr H results134 rfl ?_;exact H.hp.kE (L':=fP b ms ml mr mb mu (s3.n) :: (mb,eU (fG (s3.bK))) :: L) (by repeat (first|exact jT _|apply List.Sublist.cons)) ⟨s3,aB vi hF1.symm,rfl,hF2⟩
 intro KQ
 rw [ah KQ] at hE;refine goB 4 ?_ ?_
 ·intro Io
  rw [av Io] at hE;refine ak 9 ?_;intro a H;refine iy KY [_,_,_] H wn rfl rfl rfl rfl ?_;clear H;intro a H;refine gF ahz (Li:=[_,_]) (L:=fP b ms ml mr mb mu s1.n :: (mb,eU (fG s1.bK)) :: L) H wn rfl (rows_ok ih hm _ _ _ st li rv b ms ml mr mb mu s1 x.rows _ note (t+1) hck (Hp.owns (Li:=[_,_]) H.hp) hr (by omega) (by omega) (by have:=ht7 Io;omega) (by omega) (by omega)) rfl ?_;clear H;rintro aur _ _ a w ⟨s3,rfl,rfl,h3⟩ - H;dsimp only [lca,bG] at H
  have hF1:(eY (bE us st li rv) body note t x s).1=(lI x.rows.length (fun s=>iE (bE us st li rv) note (t+1) x.rows s) s1).1:=by rw [hE]
  have hF2:(eY (bE us st li rv) body note t x s).1=0→s3=(eY (bE us st li rv) body note t x s).2:=by rw [hE];exact h3
  refine aD 2 H ?_;clear H;intro a H;refine lr H results134 rfl ?_;exact H.hp.kE (L':=fP b ms ml mr mb mu (s3.n) :: (mb,eU (fG (s3.bK))) :: L) (by repeat (first|exact jT _|apply List.Sublist.cons)) ⟨s3,aB vi hF1.symm,rfl,hF2⟩
 intro Io
 rw [ah Io] at hE
 have hF1:(eY (bE us st li rv) body note t x s).1=0:=by rw [hE]
 have hF2:(eY (bE us st li rv) body note t x s).1=0→s1=(eY (bE us st li rv) body note t x s).2:=fun h=>by rw [hE]
 refine ak 4 ?_;intro a H;refine lr H results134 rfl ?_;exact H.hp.kE (L':=fP b ms ml mr mb mu (s1.n) :: (mb,eU (fG (s1.bK))) :: L) (by repeat (first|exact jT _|apply List.Sublist.cons)) ⟨s1,aB vi hF1.symm,rfl,hF2⟩
end
section
open Go.RowKit
theorem agJ:∀ args w,(callFunc 134 args).run prog w=.ok (.enter 134 args) w:=enters func134 rfl (by kernel_rfl)
theorem agI:∀ args w,(callFunc 133 args).run prog w=.ok (.enter 133 args) w:=enters func133 rfl (by kernel_rfl)
variable {us:List Int}
def Wq (fv:aj) (Gi:GH) (n:Nat) (E:Nat→Int) {σ:Type} (B:σ→OL) (S:Nat→σ):Prop:=∀ i,i < n→∀ (G1:GH) (w1:World),(∀ b o,Gi b=some o→G1 b=some o)→fU G1 (B (S i)) w1 →
 qp prog fv [vi i] w1 (fJ w1 G1 (B (S i)) fun u G' L'=>∃ s,u=vi (E i)∧L'=B s∧(E i=0→s=S (i+1)))
theorem aef (G:GH) (w0:World) {σ:Type} (B:σ→OL) (S:Nat→σ) (n:Nat) (E:Nat→Int) (fv:aj) (hO:fU G (B (S 0)) w0) (hn:n≤4611686018427387904) (hf:Wq fv G n E B S) :
  Calls prog 123 #[vi n,fv] w0 (fJ w0 G (B (S 0)) fun u G' L'=>∃ s,u=vi (iH E n)∧L'=B s∧(iH E n=0→s=S n)):=by
 refine jg (N:=18) (T:=[(0,_),(1,_)]) func123 rfl ntmps123 rfl rfl hO ?_;refine ak 9 ?_;intro a H;refine eH (ι:=Nat × GH) (Tc:=[(1,_),(7,_)]) (Lc:=[]) (fun gh=>[(8,vi gh.1)]) (fun gh=>[]++B (S gh.1)) (fun gh=>gh.2) (fun gh=>gh.1≤n∧cO (((List.range n).map E).drop gh.1)=iH E n∧(∀ b o,G b=some o→gh.2 b=some o)) (fun gh=>n - gh.1) ((0,G)) sB ?_ ?_
 ·exact ⟨gW _,rfl,fun _ _ h=>h⟩
 clear H;rintro ⟨k,g⟩ a w hI H;dsimp only at hI H;obtain ⟨hk,he,hgm⟩:=hI;dsimp only [lca,bG] at H;refine dQ 4 H ?_ ?_ <;> clear H
 ·intro p9
  have hk2:k < n:=by omega
  refine ak 10 ?_;intro a H;refine Cq (Li:=[]) (L:=B (S k)) H wn rfl rfl (hf k hk2 _ _ hgm (Hp.owns (Li:=[]) H.hp)) rfl ?_;clear H;rintro v13 FV L13 a w ⟨s3,rfl,rfl,h3⟩ Hw H;refine gQ 6 H ?_ ?_ <;> clear H
  ·intro qX
   have hE:iH E n=E k:=by rw [Bt hk2,av qX] at he;exact he.symm
   refine ak 4 ?_;intro a H;refine lr H results123 rfl ?_;exact H.hp.dJ ⟨s3,by rw [hE],rfl,fun h=>absurd (hE.symm.trans h) qX⟩
  intro qX
  have hS:=h3 (nM.1 qX);subst hS;refine ak 4 ?_;intro a H;refine aC ?_;refine cB ((k+1,FV)) sB ?_ ?_
  ·(try dsimp only);exact ⟨by omega,by rw [Bt hk2,ah qX] at he;exact he,fun b o h=>Hw b o (hgm b o h)⟩
  first|omega|(dsimp only;omega)
 intro p9
 refine ak 4 ?_;intro a H;refine lr H results123 rfl ?_;exact H.hp.dJ ⟨S n,aB vi (by rw [kC (by simp;omega)] at he;exact he),by rw [show k=n by omega],fun _=>rfl⟩
abbrev MQ (b ms ml mr mb mu:Nat) (L:OL) (s:CS):OL:=fP b ms ml mr mb mu s.n :: (mb,eU (fG s.bK)) :: L
theorem anG {m:Nat} (ih:FZ us m) (hm:m≤4294967296) {G:GH} {L:OL} {st:List bS} {li:List eD} {rv:List bX} {b ms ml mr mb mu:Nat} {s:CS} {l:List ay} {v:aj} {body note:Bool} {t:Int} {x3 x4 x5:Nat}
  (hck:vw us G st li rv ms ml mr mu) (h3:aI G x3 0=some (aG b 0)) (h4:aI G x4 0=some v) (h5:∀ (j:Nat) (u:aj),[.bool body,.bool note,vi t][j]?=some u→aI G x5 (0+j)=some u)
  (hv:au G (.sl 11 (l.map ay.dat)) v) (hz:cu l≤m) (ht0:0≤t) (zD:t≤4) (hs0:0≤s.n) (hs1:s.n+(cu l:Nat)≤1099511627776) :
  Wq (.func (.func 133) #[] #[(aG x3 0),(aG x4 0),(aG x5 0)]) G l.length (BA (eY (bE us st li rv) body note t) l s) (MQ b ms ml mr mb mu L) (ql (eY (bE us st li rv) body note t) l s):=by
 intro k hk G1 w0 J9 hO;refine iN (caps:=[(aG x3 0),(aG x4 0),(aG x5 0)]) agI ?_;replace h3:=aH J9 h3;replace h4:=aH J9 h4;replace h5:=fun j u hj=>aH J9 (h5 j u hj);replace hck:=hck.mono J9;replace hv:=hv.mono J9;obtain ⟨A,c,rfl,hc1,hc2,hg⟩:=hv.slice;rw [bM] at *;obtain ⟨o,xo,pA,pn,pc,dA,dn,dc,yA,yn,yc,fA,fn,fc,rA,rn,rc,rfl,hrow,hhd,hfl,hrw⟩:=Eu hk hg;obtain ⟨hn0,hn1⟩:=ada (bE us st li rv) body note t l s k (by omega)
 have hdz:cu (l.drop k)=1+bY l[k].dat+cu (l.drop (k+1)):=by
  simp only [cu];rw [pO hk,fq,eG]
 have hzm:=VP (lD hk)
 have hE:BA (eY (bE us st li rv) body note t) l s k=(eY (bE us st li rv) body note t l[k] (ql (eY (bE us st li rv) body note t) l s k)).1:=by unfold BA;rw [eO hk]
 have hS:ql (eY (bE us st li rv) body note t) l s (k+1)=(eY (bE us st li rv) body note t l[k] (ql (eY (bE us st li rv) body note t) l s k)).2:=by rw [ql,eO hk]
 rw [hE,hS]
 generalize ql (eY (bE us st li rv) body note t) l s k=s1 at *
 refine jg (N:=13) (T:=[(0,_),(1,_),(2,_),(3,_)]) func133 rfl ntmps133 rfl rfl hO ?_;refine ak 4 ?_;intro a H;refine dI hmx [[],[],[],[1,2],[1,2,3],[],(ra 0 6),(ra 0 7)] [6,7] (by kernel_rfl) [_,_,_,_,.agg #[vi l[k].kind,vi l[k].code,vi l[k].id,.string l[k].text,.slice pA pn pc,vi l[k].head.marks.ins,vi l[k].head.marks.move,.slice dA dn dc,.slice yA yn yc,.slice fA fn fc,.slice rA rn rc],.agg #[.bool body,.bool note,vi t]] H (aF (X0 rfl fun hG=>Rg Pn rfl (aH hG h3)) (X0 rfl fun hG=>Rg pK rfl (aH hG h4)) (Z0 rfl (Rm rfl)) (Z2 1 7 2 8 rfl (Ri nU gB rfl rfl)) (aF ?_ ?_ (bQ rfl) (bQ rfl) cZ)) ?_
 ·refine eu 3 9 rfl rfl fun _ a w G1 hG HT H fin=>?_;refine aS gB (cs:=[_,_,_,_,_,_,_,_,_,_,_]) H wn rfl rfl (fun j v hj=>H.hp.aI (aH hG (hrow j v hj))) rfl ?_;clear H;intro a H;exact fin H iJ rfl
 ·refine Bo rfl fun _ a w G1 hG HT H fin=>?_;refine aS acL (cs:=[.bool body,.bool note,vi t]) H wn rfl rfl (fun j v hj=>H.hp.aI (aH hG (h5 j v hj))) rfl ?_;clear H;intro a H;exact fin H iJ rfl
 clear H;intro a w G iP H hv;have H:=H.aN (hv 0 6 rfl rfl) rfl;have H:=H.aN (hv 4 10 rfl rfl) rfl;have H:=H.aN (hv 5 11 rfl rfl) rfl;clear hv;refine gF agJ (Li:=[]) (L:=MQ b ms ml mr mb mu L s1) H wn rfl (anH ih hm _ _ _ st li rv b ms ml mr mb mu s1 l[k] _ _ _ _ _ body note t (hck.mono iP) (Hp.owns (Li:=[]) H.hp) (hhd.mono iP) (hfl.mono iP) (hrw.mono iP) (by omega) ht0 zD (by omega) (by omega)) rfl ?_;clear H;rintro v12 _ _ a w ⟨s3,rfl,rfl,h12⟩ - H;dsimp only [List.nil_append] at H;refine kH H (Ra rfl ?_);clear H;intro a H;refine aC ⟨rfl,?_⟩;refine dR ?_;refine lr H results133 rfl ?_;exact H.hp.dJ ⟨s3,rfl,rfl,h12⟩
theorem anI {m:Nat} (ih:FZ us m) (hm:m≤4294967296):FZ us (m+1):=by
 intro G L w0 st li rv b ms ml mr mb mu s l v body note t hck hO hv hz ht0 zD hs0 hs1;obtain ⟨hA1,hA2⟩:=aaC (bE us st li rv) body note t l s;refine Calls.aei (R:=fun u G' L'=>L9 b ms ml mr mb mu L (jo (bE us st li rv) body note t l s) u L') ?_ fun _ _ _ h=>h;obtain ⟨A,c,rfl,hc1,hc2,-⟩:=hv.slice;rw [bM] at *;have hll:=FP l;refine jg (N:=11) (T:=[(0,_),(1,_),(2,_)]) func72 rfl ntmps72 rfl rfl hO ?_;refine ak 1 ?_;intro a H;refine dP (cs:=[_]) H wn rfl rfl rfl ?_;clear H;intro b3 a w hb3 H;refine dP (cs:=[_]) H wn rfl rfl rfl ?_;clear H;intro b4 a w hb4 H;refine dP (cs:=[_,_,_]) H wn rfl rfl rfl ?_;clear H;intro b5 a w hb5 H;refine aD 2 H ?_;clear H;intro a H;obtain ⟨Ga5,NT,xR,H⟩:=H.dZ;obtain ⟨Ga4,Ia,zk,H⟩:=H.dZ;obtain ⟨Ga,Dp,uL,H⟩:=H.dZ;replace xR:=Dp _ _ (Ia _ _ xR);replace zk:=Dp _ _ zk;have hma:∀ b o,G b=some o→Ga b=some o:=fun b o h=>Dp _ _ (Ia _ _ (NT _ _ h))
 have g3:aI Ga b3 0=some (aG b 0):=by unfold aI;rw [uL];rfl
 have g4:aI Ga b4 0=some (.slice A l.length c):=by unfold aI;rw [zk];rfl
 have g5:∀ (j:Nat) (u:aj),[.bool body,.bool note,vi t][j]?=some u→aI Ga b5 (0+j)=some u:=by
  intro j u hj;unfold aI;rw [xR];simpa using hj
 have hcb:=anG (mb:=mb) (L:=L) (s:=s) ih hm (hck.mono hma) g3 g4 g5 (hv.mono hma) (by omega) ht0 zD hs0 hs1;refine fO 3 H ?_;clear H;intro a H;refine nS H wn rfl rfl ?_;clear H;intro a H;refine gF GJ (Li:=[]) (L:=MQ b ms ml mr mb mu L s) H wn rfl (aef _ _ (MQ b ms ml mr mb mu L) (ql (eY (bE us st li rv) body note t) l s) l.length (BA (eY (bE us st li rv) body note t) l s) _ (Hp.owns (Li:=[]) H.hp) (by omega) hcb) rfl ?_;clear H;rintro v10 _ _ a w ⟨s3,rfl,rfl,h10⟩ - H;dsimp only [List.nil_append] at H;refine aD 2 H ?_;clear H;intro a H;refine lr H results72 rfl ?_;exact H.hp.dJ ⟨s3,by rw [hA1],rfl,fun h=>by rw [hA1] at h;exact (h10 h).trans (hA2 (hA1.trans h)).symm⟩
theorem Oi:∀ m:Nat,m≤4294967297→FZ us m
 | 0,_=>fun _ _ _ _ _ _ _ _ _ _ _ _ _ _ _ _ _ _ _ _ _ h=>absurd h (by omega)
 | m+1,hm=>anI (Oi m (by omega)) (by omega)
end
section
open Go.RowKit
instance ajE:dS prog 102 1 1:=⟨by kernel_rfl⟩
instance ajF:dS prog 102 2 2:=⟨by kernel_rfl⟩
theorem agF:∀ args w,(callFunc 126 args).run prog w=.ok (.enter 126 args) w:=enters func126 rfl (by kernel_rfl)
theorem agE:∀ args w,(callFunc 124 args).run prog w=.ok (.enter 124 args) w:=enters func124 rfl (by kernel_rfl)
theorem aqp {G:GH} {bl:Nat} {l:List bX} {A:Option Addr} {n c:Nat} (hb:aI G bl 0=some (.slice A n c)) (hv:au G (.sl 3 (l.map bX.dat)) (.slice A n c)):sO (.func (.func 126) #[] #[(aG bl 0)]) G l.length fun k=>(l[k]?.map bX.id).getD 0:=by
 intro k hk G1 w0 hm hG;refine iN (caps:=[(aG bl 0)]) agF ?_;replace hb:=aH hm hb
 obtain rfl:n=l.length:=by have:=hv.len;simpa using this
 obtain ⟨b,o,rfl,hrow⟩:=Vf (hv.mono hm) hk;have hq:=hrow 0 _ rfl;refine eN [(0,_),(1,_)] func126 rfl ntmps126 rfl rfl hG ?_;refine aQ 11 ?_;dsimp only;rw [eO hk];rfl
def U4 (l:List bX) (i:Nat) (x:bX):Int:=cO [qd (fun k=>(l[k]?.map bX.id).getD 0) i,dx (!wI x.author) 39,dx (!decide (0≤x.time∧x.time≤1099511627776)) 40]
def DL (l:List bX) (i:Nat):Int:=match l[i]? with|some x=>U4 l i x|none=>0
theorem apR {G:GH} {bl:Nat} {l:List bX} {A:Option Addr} {n c:Nat} (hb:aI G bl 0=some (.slice A n c)) (hv:au G (.sl 3 (l.map bX.dat)) (.slice A n c)) (hl:l.length≤4294967296) (ht:∀ x∈l,x.author.size < 4611686018427387904):sO (.func (.func 124) #[] #[(aG bl 0)]) G l.length (DL l):=by
 intro k hk G1 w0 hm hG;refine iN (caps:=[(aG bl 0)]) agE ?_;replace hb:=aH hm hb;replace hv:=hv.mono hm;have hcb:=aqp hb hv
 obtain rfl:n=l.length:=by have:=hv.len;simpa using this
 obtain ⟨b,o,rfl,hrow⟩:=Vf hv hk;have hte:=ht _ (lD hk)
 have he:DL l k=U4 l k l[k]:=by unfold DL;rw [eO hk]
 obtain ⟨x,hx⟩:∃ x,x=l[k]:=⟨_,rfl⟩;rw [← hx] at hrow hte he;refine eN [(0,_),(1,_)] func124 rfl ntmps124 rfl rfl hG ?_;refine ak 4 ?_;intro a H;have H:=H.sub (T':=[(0,_),(1,_)]) ⟨rfl,rfl,aU⟩;refine dI hmx [[],[],[0,1],[],[],[3,4],[3,4,5],(ra 3 4),(ra 0 8),(ra 0 9),(ra 0 10),[],[],[11,12],[11,12,13],(ra 11 4),(ra 0 16),(ra 0 17),(ra 0 18),(ra 0 19),(ra 0 20),(ra 0 21)] [19,20,21] (by kernel_rfl) [_,.func (.func 126) #[] #[(aG bl 0)],vi (qd (fun k=>(l[k]?.map bX.id).getD 0) k),_,_,_,_,_,.bool (wI x.author),_,vi (dx (!wI x.author) 39),_,_,_,_,_,.bool (decide (0≤x.time∧x.time≤1099511627776)),_,vi (dx (!decide (0≤x.time∧x.time≤1099511627776)) 40)] H (aF (Z0 rfl (Rm rfl)) ?_ ?_ (X0 rfl fun hG=>Rg zO rfl (aH hG hb)) (aF (Z0 rfl (Rm rfl)) (Z2 3 7 4 8 rfl (Ri sK ow rfl rfl)) (Z1 5 9 rfl (Rf ajE rfl)) (X1 6 10 rfl fun hG=>Rg mg rfl (aH hG (hrow 1 _ rfl))) (aF ?_ (Z1 8 12 rfl (Rn rfl)) ?_ (X0 rfl fun hG=>Rg zO rfl (aH hG hb)) (aF (Z0 rfl (Rm rfl)) (Z2 11 15 12 16 rfl (Ri sK ow rfl rfl)) (Z1 13 17 rfl (Rf ajF rfl)) (X1 14 18 rfl fun hG=>Rg bR rfl (aH hG (hrow 2 _ rfl))) (aF ?_ (Z1 16 20 rfl (Rn rfl)) ?_ (bQ rfl) (bH (bQ rfl) (bH (bQ rfl) cZ))))))) ?_
 ·refine Bo rfl fun _ a w G1 hG HT H fin=>?_;refine nS H wn rfl rfl ?_;clear H;intro a H;exact fin H iJ rfl
 ·refine dH 0 4 1 5 rfl rfl fun _ a w G1 hG HT H fin=>?_;refine s_call QU H wn rfl (Uf _ _ H.ro k _ _ (by omega) (fun i hi=>(hcb.mono hG) i (by omega))) rfl ?_;clear H;rintro v6 G6 a w rfl gI H;exact fin H gI (rfl)
 ·refine eu 7 11 rfl rfl fun _ a w G1 hG HT H fin=>?_;refine s_call XZ H wn rfl (WT _ _ H.ro x.author hte) rfl ?_;clear H;rintro v12 zT a w ⟨rfl,-⟩ mV H;exact fin H mV (rfl)
 ·refine eu 9 13 rfl rfl fun _ a w G1 hG HT H fin=>?_;refine s_call jC H wn rfl (jH _ _ H.ro _ 39) rfl ?_;clear H;rintro v14 zU a w ⟨rfl,-⟩ wP H;exact fin H wP (rfl)
 ·refine eu 15 19 rfl rfl fun _ a w G1 hG HT H fin=>?_;refine s_call wL H wn rfl (wW _ _ H.ro x.time 0 1099511627776) rfl ?_;clear H;rintro v20 IX a w ⟨rfl,-⟩ aky H;exact fin H aky (rfl)
 ·refine eu 17 21 rfl rfl fun _ a w G1 hG HT H fin=>?_;refine s_call jC H wn rfl (jH _ _ H.ro _ 40) rfl ?_;clear H;rintro v22 V6 a w ⟨rfl,-⟩ Sd H;exact fin H Sd (rfl)
 clear H;intro a w G iP H hv;have H:=H.aN (hv 2 6 rfl rfl) rfl;have H:=H.aN (hv 10 14 rfl rfl) rfl;have H:=H.aN (hv 18 22 rfl rfl) rfl;clear hv;refine gJ qm iA [_,_,_] [_,_,_] H wn rfl rfl rfl rfl rfl (by intro i q h;match i,h with|0,h=>exact h|1,h=>exact h|2,h=>exact h|n+3,h=>simp at h) rfl rfl ?_;clear H;intro b23 a w atw H;obtain ⟨V7,Dj,alj,H⟩:=H.dZ;refine s_call qC H wn rfl (qD _ _ H.ro _ _ (EY [qd (fun k=>(l[k]?.map bX.id).getD 0) k,dx (!wI x.author) 39,dx (!decide (0≤x.time∧x.time≤1099511627776)) 40] alj (show 3≤maxLen by decide))) rfl ?_;clear H;rintro v24 _ a w ⟨rfl,rfl⟩ - H;refine kH H (Ra rfl ?_);clear H;intro a H;refine aC ⟨rfl,?_⟩;refine dR ?_;refine uH 0 H ?_;rw [he,U4]
def En (l:List bX):Int:=cO [dx (decide (256 < (l.length:Int))) 9,iH (DL l) (min l.length 256)]
theorem afb (G:GH) (w0:World) (hG:Hold G w0) (l:List bX) (v:aj) (hv:au G (.sl 3 (l.map bX.dat)) v) (hl:l.length≤4294967296) (ht:∀ x∈l,x.author.size < 4611686018427387904) :
  Calls prog 68 #[v] w0 (bB w0 G fun u G'=>u=vi (En l)):=by
 obtain ⟨A,c,rfl,hc1,hc2,-⟩:=hv.slice;rw [bM] at *;refine eN [(0,_)] func68 rfl ntmps68 rfl rfl hG ?_;refine ak 1 ?_;intro a H;refine dP (cs:=[_]) H wn rfl rfl rfl ?_;clear H;intro b1 a w hb1 H;refine aD 3 H ?_;clear H;intro a H;have H:=H.sub (T':=[(1,_)]) ⟨rfl,aU⟩;obtain ⟨Ga,hma,hb1',H⟩:=H.dZ
 have hbl:aI Ga b1 0=some (.slice A l.length c):=by unfold aI;rw [hb1'];rfl
 have hcb:=apR hbl (hv.mono hma) hl ht;refine dI hmx [[],[0],[0,1],[0,1,2],[],[4],[4,5],[],(ra 0 8),(ra 0 9),(ra 0 10),(ra 0 11)] [9,10,11] (by kernel_rfl) [_,_,_,vi (dx (decide (256 < (l.length:Int))) 9),_,_,vi ((min l.length 256:Nat):Int),.func (.func 124) #[] #[(aG b1 0)],vi (iH (DL l) (min l.length 256))] H (aF (X0 rfl fun hG=>Rg zO rfl (aH hG hbl)) (Z1 0 3 rfl (Rl sK rfl)) (Z1 1 4 rfl (Rc rfl)) ?_ (aF (X0 rfl fun hG=>Rg zO rfl (aH hG hbl)) (Z1 4 7 rfl (Rl sK rfl)) ?_ ?_ (aF ?_ (bQ rfl) (bQ rfl) (bQ rfl) cZ))) ?_
 ·refine eu 2 5 rfl rfl fun _ a w G1 hG HT H fin=>?_;refine s_call jC H wn rfl (jH _ _ H.ro _ 9) rfl ?_;clear H;rintro v6 G6 a w ⟨rfl,-⟩ gI H;exact fin H gI (rfl)
 ·refine eu 5 8 rfl rfl fun _ a w G1 hG HT H fin=>?_;refine O1 H wn rfl rfl rfl ?_;clear H;intro a H;exact fin H iJ (aB vi (by omega))
 ·refine Bo rfl fun _ a w G1 hG HT H fin=>?_;refine nS H wn rfl rfl ?_;clear H;intro a H;exact fin H iJ rfl
 ·refine dH 6 9 7 10 rfl rfl fun _ a w G1 hG HT H fin=>?_;refine s_call GJ H wn rfl (Je _ _ H.ro (min l.length 256) (DL l) _ (by omega) ((hcb.mono hG).le (Nat.min_le_left _ _))) rfl ?_;clear H;rintro v11 ru a w rfl kZ H;exact fin H kZ (rfl)
 clear H;intro a w G iP H hv;have H:=H.aN (hv 3 6 rfl rfl) rfl;have H:=H.aN (hv 8 11 rfl rfl) rfl;clear hv;refine gJ qm iA [_,_] [_,_] H wn rfl rfl rfl rfl rfl (by intro i q h;match i,h with|0,h=>exact h|1,h=>exact h|n+2,h=>simp at h) rfl rfl ?_;clear H;intro b12 a w EB H;obtain ⟨zT,vX,EC,H⟩:=H.dZ;refine s_call qC H wn rfl (qD _ _ H.ro _ _ (yC EC)) rfl ?_;clear H;rintro v13 _ a w ⟨rfl,rfl⟩ - H;refine kH H (Ra rfl ?_);clear H;intro a H;refine aC ⟨rfl,?_⟩;refine dR ?_;refine uH 0 H ?_;exact rfl
theorem lG:∀ {l:List Int},cO l=0→∀ x∈l,x=0
 | [],_,_,h=>by cases h
 | e :: r,h,x,hx=>by
  unfold cO at h
  by_cases he:e=0
  ·rw [ah (fun h'=>h' he)] at h
   rcases ko.1 hx with rfl|hx
   ·exact he
   exact lG h x hx
  rw [av he] at h;exact absurd h he
theorem Ei {E:Nat→Int} {n:Nat} (h:iH E n=0) (i:Nat) (hi:i < n):E i=0:=lG h _ (by simp;exact ⟨i,hi,rfl⟩)
theorem Ue {id:Nat→Int} {i:Nat} (h:qd id i=0):1≤id i∧id i≤1073741824∧(0 < i→id (i - 1) < id i):=by
 unfold qd at h
 by_cases h1:1≤id i∧id i≤1073741824
 ·rw [ah (fun h'=>h' h1)] at h
  by_cases h2:0 < i∧id i=id (i - 1)
  ·rw [av h2] at h;cases h
  rw [ah h2] at h
  by_cases h3:0 < i∧id i < id (i - 1)
  ·rw [av h3] at h;cases h
  exact ⟨h1.1,h1.2,fun h0=>by omega⟩
 rw [av h1] at h;cases h
theorem aaz {l:List Int} (h:∀ i (h:i+1 < l.length),l[i] < l[i+1]):Bl l:=by
 have hlt:∀ (j i:Nat) (hj:j < l.length) (hi:i < j),l[i] < l[j]:=by
  intro j
  induction j with
  | zero=>intro i _ hi;omega
  | succ j ih =>
   intro i hj hi;have h1:=h j hj
   by_cases e:i=j
   ·subst e;exact h1
   have:=ih i (by omega) (by omega);omega
 intro k hk hm;obtain ⟨i,hi,he⟩:=List.getElem_of_mem hm;rw [List.length_take] at hi;have:=hlt k i hk (by omega);rw [List.getElem_take] at he
 omega
theorem apS {l:List bX} (h:En l=0):Bl (l.map bX.id):=by
 have h1:=lG h _ (fM);have h2:=lG h _ (gH _ fM)
 have hl:l.length≤256:=by
  unfold dx at h1
  by_cases hd:256 < (l.length:Int)
  ·rw [av (aK hd)] at h1;cases h1
  omega
 refine aaz fun i hi=>?_;rw [bM] at hi;have h3:=Ei h2 (i+1) (by omega)
 unfold DL at h3
 rw [eO hi] at h3;have h4:=(Ue (lG h3 _ fM)).2.2 (by omega);rw [Nat.add_sub_cancel,eO hi,eO (show i < l.length by omega)] at h4
 simpa using h4
theorem anZ {l:List eD} (h:Jh l=0):Bl (l.map eD.id):=by
 have h1:=lG h _ (fM);have h2:=lG h _ (gH _ fM)
 have hl:l.length≤64:=by
  unfold dx at h1
  by_cases hd:64 < (l.length:Int)
  ·rw [av (aK hd)] at h1;cases h1
  omega
 refine aaz fun i hi=>?_;rw [bM] at hi;have h3:=Ei h2 (i+1) (by omega)
 unfold E9 at h3
 have h4:=(Ue (lG h3 _ fM)).2.2 (by omega);rw [Nat.add_sub_cancel,eO hi,eO (show i < l.length by omega)] at h4
 simpa using h4
theorem arW {l:List bS} (h:gL l=0):Bl (l.map bS.id):=by
 unfold gL at h
 by_cases h1:128 < l.length
 ·rw [av h1] at h;cases h
 rw [ah h1] at h
 by_cases h2:sZ (zJ l) 0 l.length≠0
 ·rw [av h2] at h;exact absurd h h2
 intro k hk;rw [bM] at hk;have:=abv (nM.1 h2) k hk;rw [← List.map_take,List.getElem_map];exact this
end
section
open Go.RowKit
theorem aiK:∀ args w,(callFunc 69 args).run prog w=.ok (.enter 69 args) w:=enters func69 rfl (by kernel_rfl)
instance sH:Ty prog 36 4 96 [.slice none 0 0,.slice none 0 0,.slice none 0 0,.slice none 0 0] true:=⟨by kernel_rfl,by kernel_rfl⟩
theorem aiI:∀ args w,(callFunc 67 args).run prog w=.ok (.enter 67 args) w:=enters func67 rfl (by kernel_rfl)
theorem aiJ:∀ args w,(callFunc 68 args).run prog w=.ok (.enter 68 args) w:=enters func68 rfl (by kernel_rfl)
instance RI:dS prog 38 1 1:=⟨by kernel_rfl⟩
theorem RX (e:Int):cO [e]=e:=by
 by_cases h:e=0 <;> simp [cO,h]
structure gG where
 flow:List ay
 fin:dW
 revs:List bX
 iw:zZ
structure iG (G:GH) (D:gy) (d:gG):Prop where
 fl:au G (.sl 11 (d.flow.map ay.dat)) (aM D.f)
 hd:fC G d.fin (aM D.p) (aM D.d) (aM D.y)
 ins:D.ins=d.fin.marks.ins
 mv:D.move=d.fin.marks.move
 rv:au G (.sl 3 (d.revs.map bX.dat)) (aM D.r)
 st:xK G d.iw (aM D.s1) (aM D.s2) (aM D.s3) (aM D.s4)
theorem xK.mono {G G':GH} (hm:∀ b o,G b=some o→G' b=some o) {s:zZ} {a b c d:aj} (h:xK G s a b c d):xK G' s a b c d:=⟨h.st.mono hm,h.li.mono hm,h.cm.mono hm,h.va.mono hm⟩
theorem iG.mono {G G':GH} (hm:∀ b o,G b=some o→G' b=some o) {D:gy} {d:gG} (h:iG G D d):iG G' D d:=⟨h.fl.mono hm,h.hd.mono hm,h.ins,h.mv,h.rv.mono hm,h.st.mono hm⟩
structure xE (d:gG):Prop where
 fl:cu d.flow≤1073741824
 hd:kV d.fin≤4294967296
 rn:d.revs.length≤4294967296
 rt:∀ x∈d.revs,x.author.size < 4611686018427387904
 sn:d.iw.styles.length≤4294967296
 st:Ql d.iw
abbrev gG.nY (d:gG):bO:=bE [] d.iw.styles d.iw.lists d.revs
def qW (m:xH):Bool:=decide ((m.ins≠0∨m.move≠0)∨0 < (m.bL.length:Int))
def iO (d:gG):Int:=cO [cO [Ji d.iw,En d.revs],cO [gY d.nY 3 d.fin,dx (qW d.fin.marks) 21],(jo d.nY true false 0 d.flow ⟨0,[]⟩).1,dx (decide (16384 < (jo d.nY true false 0 d.flow ⟨0,[]⟩).2.n)) 9]
theorem afe (G:GH) (w0:World) (hG:Hold G w0) (D:gy) (d:gG) (hR:iG G D d) (hz:xE d) :
  Calls prog 21 #[D.val] w0 (bB w0 G fun u G'=>u=vi (iO d)):=by
 obtain ⟨df,dp,dd,dy,dr,d1,d2,d3,d4,ins,mv⟩:=D;obtain ⟨hfl,hhd,hin,hmv,om,hst⟩:=hR;dsimp only at hfl hhd hin hmv om hst;subst hin;subst hmv;obtain ⟨zf,zh,zr,zt,zs,zg⟩:=hz;have hdl:=hhd.bL.len;rw [bM] at hdl
 have hdn:d.fin.marks.bL.length≤4294967296:=by
  have h1:=D9 d.fin;have h2:=oM (d.fin.marks.bL.map fE.dat);rw [bM] at h2;omega
 refine eN [(0,_)] func21 rfl ntmps21 rfl rfl hG ?_;refine ak 1 ?_;intro a H;refine dP (cs:=[_,_,_,_,_,_,_,_,_,_,_]) H wn rfl rfl rfl ?_;clear H;intro b1 a w hb1 H;refine aD 4 H ?_;clear H;intro a H;refine dI hmx [[],[0],[0,1],[],[3],(ra 0 5),(ra 0 6),(ra 0 7),(ra 0 8)] [6,7,8] (by kernel_rfl) [_,.agg #[aM d1,aM d2,aM d3,aM d4],vi (Ji d.iw),_,aM dr,vi (En d.revs)] H (aF (Z0 rfl (Rf ajU rfl)) ?_ ?_ (Z0 rfl (Rf RJ rfl)) (aF (Z1 3 11 rfl (Ro zO 0 rfl)) ?_ (bQ rfl) (bQ rfl) (bH (bQ rfl) cZ))) ?_
 ·refine eu 0 8 rfl rfl fun _ a w G1 hG HT H fin=>?_;refine aS sH (cs:=[_,_,_,_]) H wn rfl rfl (H.hp.bN 0 rfl rfl) rfl ?_;clear H;intro a H;exact fin H iJ rfl
 ·refine eu 1 9 rfl rfl fun _ a w G1 hG HT H fin=>?_;refine s_call aiI H wn rfl (afc _ _ H.ro d.iw _ _ _ _ (hst.mono hG) zg) rfl ?_;clear H;rintro v10 zS a w rfl pX H;exact fin H pX (rfl)
 ·refine eu 4 12 rfl rfl fun _ a w G1 hG HT H fin=>?_;refine s_call aiJ H wn rfl (afb _ _ H.ro d.revs _ (om.mono hG) zr zt) rfl ?_;clear H;rintro v13 FV a w rfl JI H;exact fin H JI (rfl)
 clear H;intro a w G iP H hv;have H:=H.aN (hv 2 10 rfl rfl) rfl;have H:=H.aN (hv 5 13 rfl rfl) rfl;clear hv;refine gJ qm iA [_,_] [_,_] H wn rfl rfl rfl rfl rfl (by intro i q h;match i,h with|0,h=>exact h|1,h=>exact h|n+2,h=>simp at h) rfl rfl ?_;clear H;intro b14 a w Ze H;obtain ⟨zU,wR,SI,H⟩:=H.dZ;have hg1:=fun b o h=>wR b o (iP b o h);replace hfl:=hfl.mono hg1;replace hhd:=hhd.mono hg1;replace om:=om.mono hg1;replace hst:=hst.mono hg1;refine s_call qC H wn rfl (qD _ _ H.ro _ _ (yC SI)) rfl ?_;clear H;rintro v15 _ a w ⟨rfl,rfl⟩ - H;refine kH H (Ra rfl ?_);clear H;intro a H;refine aC ⟨rfl,?_⟩;refine dR ?_;refine dQ 4 H ?_ ?_ <;> clear H
 ·intro jJ
  have hE:iO d=cO [Ji d.iw,En d.revs]:=by rw [iO,cO,av jJ]
  refine aQ 4 ?_;rw [hE]
 intro jJ
 have e1:=nM.1 jJ;have s1:=lG e1 _ fM;have s2:=lG e1 _ (gH _ fM);have t1:=lG s1 _ fM;have t2:=lG s1 _ (gH _ fM);refine ak 2 ?_;intro a H;refine aS fI (cs:=[_,_,_,_,_,_,_,_,_,_,_]) H wn rfl rfl (H.hp.bN 0 rfl rfl) rfl ?_;clear H;intro a H;refine gF aiK (Li:=[_]) (L:=[]) H wn rfl (aoA _ _ (Hp.owns (Li:=[_]) H.hp) ⟨df,dp,dd,dy,dr,d1,d2,d3,d4,d.fin.marks.ins,d.fin.marks.move⟩ d.iw.styles d.iw.lists d.revs hst.st hst.li om (arW t1) (anZ t2) (apS s2) zs zg.ln zr) rfl ?_;clear H;rintro v20 IX _ a w ⟨b,ms,ml,mr,mb,mu,rfl,rfl,hck⟩ qG H;dsimp only [lca,bG] at H;have H:=H.dY (Pl:=[_,_,_,_]) (dM:=[_,_,_,_]) [3,0,1,2] (by decide) rfl;obtain ⟨Gu,hmu,hu,H⟩:=H.dZ;replace hck:=hck.with (us:=[]) hmu hu;replace hfl:=(hfl.mono qG).mono hmu;replace hhd:=(hhd.mono qG).mono hmu;refine aD 5 H ?_;clear H;intro a H;refine aS CB (cs:=[_,_,_,_]) H wn rfl rfl (H.hp.bN 0 rfl rfl) rfl ?_;clear H;intro a H;refine dz CB H wn rfl ?_;clear H;intro b5 a w hb5 H;refine aV CB 0 (vs:=[_,_,_,_]) _ H wn rfl rfl rfl rfl rfl rfl rfl rfl ?_;clear H;intro w H;dsimp only [List.set,setRow] at H;refine aD 3 H ?_;clear H
 intro a H;by_cases c0:d.fin.marks.ins≠0
 ·have c1:d.fin.marks.ins≠0∨d.fin.marks.move≠0:=Or.inl c0;refine dI hmx [[],[],[1],[0,1,2],[],[4],[4,5],(ra 0 7),(ra 0 8),(ra 0 9),(ra 0 10),(ra 0 11),(ra 0 12),(ra 0 13),(ra 0 14),(ra 0 15),(ra 0 16),(ra 0 17),(ra 0 18),(ra 0 19),(ra 0 20),(ra 0 21)] [19,20,21] (by kernel_rfl) [_,_,pq d.fin (aM dp) (aM dd) (aM dy),vi (gY d.nY 3 d.fin),_,vi d.fin.marks.ins,_,_,undef,undef,undef,.bool (decide (d.fin.marks.ins≠0∨d.fin.marks.move≠0)),_,undef,undef,undef,undef,.bool (qW d.fin.marks),vi (dx (qW d.fin.marks) 21)] H (aF (Z0 rfl (Rm rfl)) (Z0 rfl (Rf RI rfl)) ?_ ?_ (aF (Z0 rfl (Rf Dc rfl)) (Z1 4 28 rfl (Ro bR 0 rfl)) (Z1 5 29 rfl (Rc rfl)) (Z1 6 30 rfl (Rm rfl)) (aF (aZ 7 (aK c0) rfl rfl) (aZ 7 (aK c0) rfl rfl) (aZ 7 (aK c0) rfl rfl) ?_ (aF (Z1 11 35 rfl (Rm rfl)) (aZ 12 (aK c1) rfl rfl) (aZ 12 (aK c1) rfl rfl) (aZ 12 (aK c1) rfl rfl) (aF (aZ 12 (aK c1) rfl rfl) ?_ ?_ (bQ rfl) (bH (bQ rfl) (bH (bQ rfl) cZ))))))) ?_
  ·refine eu 1 25 rfl rfl fun _ a w G1 hG HT H fin=>?_;refine aS dw (cs:=[_,_,_,_,_]) H wn rfl rfl (H.hp.bN 1 rfl rfl) rfl ?_;clear H;intro a H;exact fin H iJ rfl
  ·refine dH 0 24 2 26 rfl rfl fun _ a w G1 hG HT H fin=>?_;refine gF GL (Li:=[_,_]) (L:=fP b ms ml mr mb mu 0 :: (mb,eU []) :: []) H wn rfl (Hq _ _ _ d.iw.styles d.iw.lists d.revs b ms ml mr mb mu _ (hck.mono hG) (Hp.owns (Li:=[_,_]) H.hp) 3 d.fin _ _ _ (hhd.mono hG) zh) rfl ?_;clear H;rintro v27 _ _ a w ⟨rfl,rfl,rfl⟩ Ey H;dsimp only [lca,bG] at H;exact fin H Ey (rfl)
  ·refine dH 7 31 10 34 rfl rfl fun _ a w G1 hG HT H fin=>?_;refine aD 1 H ?_;clear H;intro a H;exact fin H iJ (by show _=_;first|exact dD (aK c1).symm|exact dD (by simp [c0]))
  ·refine dH 12 36 16 40 rfl rfl fun _ a w G1 hG HT H fin=>?_;refine aD 1 H ?_;clear H;intro a H;exact fin H iJ (by show _=_;first|exact dD (iT (Or.inl c1)).symm|exact dD (by simp [qW,c1]))
  ·refine eu 17 41 rfl rfl fun _ a w G1 hG HT H fin=>?_;refine s_call jC H wn rfl (jH _ _ H.ro _ 21) rfl ?_;clear H;rintro v42 P5 a w ⟨rfl,-⟩ JJ H;exact fin H JJ (rfl)
  clear H;intro a w G gI H hv;have H:=H.aN (hv 3 27 rfl rfl) rfl;have H:=H.aN (hv 18 42 rfl rfl) rfl;clear hv;refine gJ qm iA [_,_] [_,_] H wn rfl rfl rfl rfl rfl (by intro i q h;match i,h with|0,h=>exact h|1,h=>exact h|n+2,h=>simp at h) rfl rfl ?_;clear H;intro WX a w Zg H;obtain ⟨I5,BQ,JZ,H⟩:=H.dZ;have Di:=fun b o h=>BQ b o (gI b o h);replace hfl:=hfl.mono Di;replace hck:=hck.mono Di;refine s_call qC H wn rfl (qD _ _ H.ro _ _ (yC JZ)) rfl ?_;clear H;rintro v44 _ a w ⟨rfl,rfl⟩ - H;refine kH H (Ra rfl ?_);clear H;intro a H;refine aC ⟨rfl,?_⟩;refine dR ?_;refine dQ 4 H ?_ ?_ <;> clear H
  ·intro p46
   have hE:iO d=cO [gY d.nY 3 d.fin,dx (qW d.fin.marks) 21]:=by rw [iO,cO,ah (by simpa using e1),cO,av p46]
   refine aQ 4 ?_;rw [hE]
  intro p46
  have e2:=nM.1 p46;refine ak 6 ?_;intro a H;refine iy KY [_,_,_] H wn rfl rfl rfl rfl ?_;clear H;intro a H;refine gF Jv (Li:=[_,_]) (L:=fP b ms ml mr mb mu 0 :: (mb,eU []) :: []) H wn rfl (Oi 4294967297 (by omega) _ _ _ d.iw.styles d.iw.lists d.revs b ms ml mr mb mu ⟨0,[]⟩ d.flow _ true false 0 hck (Hp.owns (Li:=[_,_]) H.hp) hfl (by omega) (by omega) (by omega) (by decide) (by dsimp only;omega)) rfl ?_;clear H;rintro v52 _ _ a w ⟨rfl,s3,rfl,rfl,h3⟩ - H;dsimp only [lca,bG] at H;refine gQ 6 H ?_ ?_ <;> clear H
  ·intro p54
   have hE:iO d=(jo d.nY true false 0 d.flow ⟨0,[]⟩).1:=by rw [iO,cO,ah (by simpa using e1),cO,ah (by simpa using e2),cO,av p54]
   refine aQ 4 ?_;rw [hE]
  intro p54
  have e3:=nM.1 p54;have hs3:=h3 e3;subst hs3;refine ak 7 ?_;intro a H;refine s_call jC H wn rfl (jH _ _ H.ro _ 9) rfl ?_;clear H;rintro v61 _ a w ⟨rfl,rfl⟩ - H
  have hE:iO d=dx (decide (16384 < (jo d.nY true false 0 d.flow ⟨0,[]⟩).2.n)) 9:=by rw [iO,cO,ah (by simpa using e1),cO,ah (by simpa using e2),cO,ah (by simpa using e3)];exact RX _
  refine fH 2 H ?_;rw [hE]
 by_cases c1:d.fin.marks.ins≠0∨d.fin.marks.move≠0
 ·refine dI hmx [[],[],[1],[0,1,2],[],[4],[4,5],(ra 0 7),(ra 0 8),(ra 0 9),(ra 0 10),(ra 0 11),(ra 0 12),(ra 0 13),(ra 0 14),(ra 0 15),(ra 0 16),(ra 0 17),(ra 0 18),(ra 0 19),(ra 0 20),(ra 0 21)] [19,20,21] (by kernel_rfl) [_,_,pq d.fin (aM dp) (aM dd) (aM dy),vi (gY d.nY 3 d.fin),_,vi d.fin.marks.ins,_,_,_,vi d.fin.marks.move,_,.bool (decide (d.fin.marks.ins≠0∨d.fin.marks.move≠0)),_,undef,undef,undef,undef,.bool (qW d.fin.marks),vi (dx (qW d.fin.marks) 21)] H (aF (Z0 rfl (Rm rfl)) (Z0 rfl (Rf RI rfl)) ?_ ?_ (aF (Z0 rfl (Rf Dc rfl)) (Z1 4 28 rfl (Ro bR 0 rfl)) (Z1 5 29 rfl (Rc rfl)) (Z1 6 30 rfl (Rm rfl)) (aF (Z1 7 31 rfl (YF Yz (bD c0) rfl)) (Z2 8 32 7 31 rfl (YO bR 0 (bD c0) rfl)) (Z2 9 33 7 31 rfl (YC (bD c0) rfl)) ?_ (aF (Z1 11 35 rfl (Rm rfl)) (aZ 12 (aK c1) rfl rfl) (aZ 12 (aK c1) rfl rfl) (aZ 12 (aK c1) rfl rfl) (aF (aZ 12 (aK c1) rfl rfl) ?_ ?_ (bQ rfl) (bH (bQ rfl) (bH (bQ rfl) cZ))))))) ?_
  ·refine eu 1 25 rfl rfl fun _ a w G1 hG HT H fin=>?_;refine aS dw (cs:=[_,_,_,_,_]) H wn rfl rfl (H.hp.bN 1 rfl rfl) rfl ?_;clear H;intro a H;exact fin H iJ rfl
  ·refine dH 0 24 2 26 rfl rfl fun _ a w G1 hG HT H fin=>?_;refine gF GL (Li:=[_,_]) (L:=fP b ms ml mr mb mu 0 :: (mb,eU []) :: []) H wn rfl (Hq _ _ _ d.iw.styles d.iw.lists d.revs b ms ml mr mb mu _ (hck.mono hG) (Hp.owns (Li:=[_,_]) H.hp) 3 d.fin _ _ _ (hhd.mono hG) zh) rfl ?_;clear H;rintro v27 _ _ a w ⟨rfl,rfl,rfl⟩ Ey H;dsimp only [lca,bG] at H;exact fin H Ey (rfl)
  ·refine dH 7 31 10 34 rfl rfl fun _ a w G1 hG HT H fin=>?_;refine aD 1 H ?_;clear H;intro a H;exact fin H iJ (by show _=_;first|exact dD (aK c1).symm|exact dD (by simp [c0]))
  ·refine dH 12 36 16 40 rfl rfl fun _ a w G1 hG HT H fin=>?_;refine aD 1 H ?_;clear H;intro a H;exact fin H iJ (by show _=_;first|exact dD (iT (Or.inl c1)).symm|exact dD (by simp [qW,c1]))
  ·refine eu 17 41 rfl rfl fun _ a w G1 hG HT H fin=>?_;refine s_call jC H wn rfl (jH _ _ H.ro _ 21) rfl ?_;clear H;rintro v42 P5 a w ⟨rfl,-⟩ JJ H;exact fin H JJ (rfl)
  clear H;intro a w G gI H hv;have H:=H.aN (hv 3 27 rfl rfl) rfl;have H:=H.aN (hv 18 42 rfl rfl) rfl;clear hv;refine gJ qm iA [_,_] [_,_] H wn rfl rfl rfl rfl rfl (by intro i q h;match i,h with|0,h=>exact h|1,h=>exact h|n+2,h=>simp at h) rfl rfl ?_;clear H;intro WX a w Zg H;obtain ⟨I5,BQ,JZ,H⟩:=H.dZ;have Di:=fun b o h=>BQ b o (gI b o h);replace hfl:=hfl.mono Di;replace hck:=hck.mono Di;refine s_call qC H wn rfl (qD _ _ H.ro _ _ (yC JZ)) rfl ?_;clear H;rintro v44 _ a w ⟨rfl,rfl⟩ - H;refine kH H (Ra rfl ?_);clear H;intro a H;refine aC ⟨rfl,?_⟩;refine dR ?_;refine dQ 4 H ?_ ?_ <;> clear H
  ·intro p46
   have hE:iO d=cO [gY d.nY 3 d.fin,dx (qW d.fin.marks) 21]:=by rw [iO,cO,ah (by simpa using e1),cO,av p46]
   refine aQ 4 ?_;rw [hE]
  intro p46
  have e2:=nM.1 p46;refine ak 6 ?_;intro a H;refine iy KY [_,_,_] H wn rfl rfl rfl rfl ?_;clear H;intro a H;refine gF Jv (Li:=[_,_]) (L:=fP b ms ml mr mb mu 0 :: (mb,eU []) :: []) H wn rfl (Oi 4294967297 (by omega) _ _ _ d.iw.styles d.iw.lists d.revs b ms ml mr mb mu ⟨0,[]⟩ d.flow _ true false 0 hck (Hp.owns (Li:=[_,_]) H.hp) hfl (by omega) (by omega) (by omega) (by decide) (by dsimp only;omega)) rfl ?_;clear H;rintro v52 _ _ a w ⟨rfl,s3,rfl,rfl,h3⟩ - H;dsimp only [lca,bG] at H;refine gQ 6 H ?_ ?_ <;> clear H
  ·intro p54
   have hE:iO d=(jo d.nY true false 0 d.flow ⟨0,[]⟩).1:=by rw [iO,cO,ah (by simpa using e1),cO,ah (by simpa using e2),cO,av p54]
   refine aQ 4 ?_;rw [hE]
  intro p54
  have e3:=nM.1 p54;have hs3:=h3 e3;subst hs3;refine ak 7 ?_;intro a H;refine s_call jC H wn rfl (jH _ _ H.ro _ 9) rfl ?_;clear H;rintro v61 _ a w ⟨rfl,rfl⟩ - H
  have hE:iO d=dx (decide (16384 < (jo d.nY true false 0 d.flow ⟨0,[]⟩).2.n)) 9:=by rw [iO,cO,ah (by simpa using e1),cO,ah (by simpa using e2),cO,ah (by simpa using e3)];exact RX _
  refine fH 2 H ?_;rw [hE]
 refine dI hmx [[],[],[1],[0,1,2],[],[4],[4,5],(ra 0 7),(ra 0 8),(ra 0 9),(ra 0 10),(ra 0 11),(ra 0 12),(ra 0 13),(ra 0 14),(ra 0 15),(ra 0 16),(ra 0 17),(ra 0 18),(ra 0 19),(ra 0 20),(ra 0 21)] [19,20,21] (by kernel_rfl) [_,_,pq d.fin (aM dp) (aM dd) (aM dy),vi (gY d.nY 3 d.fin),_,vi d.fin.marks.ins,_,_,_,vi d.fin.marks.move,_,.bool (decide (d.fin.marks.ins≠0∨d.fin.marks.move≠0)),_,_,aM dd,vi d.fin.marks.bL.length,_,.bool (qW d.fin.marks),vi (dx (qW d.fin.marks) 21)] H (aF (Z0 rfl (Rm rfl)) (Z0 rfl (Rf RI rfl)) ?_ ?_ (aF (Z0 rfl (Rf Dc rfl)) (Z1 4 28 rfl (Ro bR 0 rfl)) (Z1 5 29 rfl (Rc rfl)) (Z1 6 30 rfl (Rm rfl)) (aF (Z1 7 31 rfl (YF Yz (bD c0) rfl)) (Z2 8 32 7 31 rfl (YO bR 0 (bD c0) rfl)) (Z2 9 33 7 31 rfl (YC (bD c0) rfl)) ?_ (aF (Z1 11 35 rfl (Rm rfl)) (Z1 12 36 rfl (YF GV (bD c1) rfl)) (Z2 13 37 12 36 rfl (YO Cz 0 (bD c1) rfl)) ?_ (aF (Z2 15 39 12 36 rfl (YC (bD c1) rfl)) ?_ ?_ (bQ rfl) (bH (bQ rfl) (bH (bQ rfl) cZ))))))) ?_
 ·refine eu 1 25 rfl rfl fun _ a w G1 hG HT H fin=>?_;refine aS dw (cs:=[_,_,_,_,_]) H wn rfl rfl (H.hp.bN 1 rfl rfl) rfl ?_;clear H;intro a H;exact fin H iJ rfl
 ·refine dH 0 24 2 26 rfl rfl fun _ a w G1 hG HT H fin=>?_;refine gF GL (Li:=[_,_]) (L:=fP b ms ml mr mb mu 0 :: (mb,eU []) :: []) H wn rfl (Hq _ _ _ d.iw.styles d.iw.lists d.revs b ms ml mr mb mu _ (hck.mono hG) (Hp.owns (Li:=[_,_]) H.hp) 3 d.fin _ _ _ (hhd.mono hG) zh) rfl ?_;clear H;rintro v27 _ _ a w ⟨rfl,rfl,rfl⟩ Ey H;dsimp only [lca,bG] at H;exact fin H Ey (rfl)
 ·refine dH 7 31 10 34 rfl rfl fun _ a w G1 hG HT H fin=>?_;refine aD 1 H ?_;clear H;intro a H;exact fin H iJ (by show _=_;first|exact dD (aK c1).symm|exact dD (by simp [c0]))
 ·refine dH 14 38 12 36 rfl rfl fun _ a w G1 hG HT H fin=>?_;refine aD 1 H ?_;clear H;intro a H;exact fin H iJ (by show _=_;first|rfl|exact aB (fun n:Nat=>vi n) hdl)
 ·refine dH 12 36 16 40 rfl rfl fun _ a w G1 hG HT H fin=>?_;refine aD 1 H ?_;clear H;intro a H;exact fin H iJ (by show _=_;first|exact dD (iT (Or.inl c1)).symm|exact dD (by simp [qW,c1]))
 ·refine eu 17 41 rfl rfl fun _ a w G1 hG HT H fin=>?_;refine s_call jC H wn rfl (jH _ _ H.ro _ 21) rfl ?_;clear H;rintro v42 P5 a w ⟨rfl,-⟩ JJ H;exact fin H JJ (rfl)
 clear H;intro a w G gI H hv;have H:=H.aN (hv 3 27 rfl rfl) rfl;have H:=H.aN (hv 18 42 rfl rfl) rfl;clear hv;refine gJ qm iA [_,_] [_,_] H wn rfl rfl rfl rfl rfl (by intro i q h;match i,h with|0,h=>exact h|1,h=>exact h|n+2,h=>simp at h) rfl rfl ?_;clear H;intro WX a w Zg H;obtain ⟨I5,BQ,JZ,H⟩:=H.dZ;have Di:=fun b o h=>BQ b o (gI b o h);replace hfl:=hfl.mono Di;replace hck:=hck.mono Di;refine s_call qC H wn rfl (qD _ _ H.ro _ _ (yC JZ)) rfl ?_;clear H;rintro v44 _ a w ⟨rfl,rfl⟩ - H;refine kH H (Ra rfl ?_);clear H;intro a H;refine aC ⟨rfl,?_⟩;refine dR ?_;refine dQ 4 H ?_ ?_ <;> clear H
 ·intro p46
  have hE:iO d=cO [gY d.nY 3 d.fin,dx (qW d.fin.marks) 21]:=by rw [iO,cO,ah (by simpa using e1),cO,av p46]
  refine aQ 4 ?_;rw [hE]
 intro p46
 have e2:=nM.1 p46;refine ak 6 ?_;intro a H;refine iy KY [_,_,_] H wn rfl rfl rfl rfl ?_;clear H;intro a H;refine gF Jv (Li:=[_,_]) (L:=fP b ms ml mr mb mu 0 :: (mb,eU []) :: []) H wn rfl (Oi 4294967297 (by omega) _ _ _ d.iw.styles d.iw.lists d.revs b ms ml mr mb mu ⟨0,[]⟩ d.flow _ true false 0 hck (Hp.owns (Li:=[_,_]) H.hp) hfl (by omega) (by omega) (by omega) (by decide) (by dsimp only;omega)) rfl ?_;clear H;rintro v52 _ _ a w ⟨rfl,s3,rfl,rfl,h3⟩ - H;dsimp only [lca,bG] at H;refine gQ 6 H ?_ ?_ <;> clear H
 ·intro p54
  have hE:iO d=(jo d.nY true false 0 d.flow ⟨0,[]⟩).1:=by rw [iO,cO,ah (by simpa using e1),cO,ah (by simpa using e2),cO,av p54]
  refine aQ 4 ?_;rw [hE]
 intro p54
 have e3:=nM.1 p54;have hs3:=h3 e3;subst hs3;refine ak 7 ?_;intro a H;refine s_call jC H wn rfl (jH _ _ H.ro _ 9) rfl ?_;clear H;rintro v61 _ a w ⟨rfl,rfl⟩ - H
 have hE:iO d=dx (decide (16384 < (jo d.nY true false 0 d.flow ⟨0,[]⟩).2.n)) 9:=by rw [iO,cO,ah (by simpa using e1),cO,ah (by simpa using e2),cO,ah (by simpa using e3)];exact RX _
 refine fH 2 H ?_;rw [hE]
end
section
open Go.RowKit
def OD (body note:Bool) (t k i:Int):Prop:=(k=3→body=true)∧(k=6→note=false)∧(k=7→t < 4)∧(k=8→1≤i∧i≤1073741824)
mutual
def mZ (C:bO) (body note:Bool) (t:Int):ay→Prop
 | .mk k c i tx h f r=>jU (.mk k c i tx h f r)=0∧OD body note t k i∧gY C k h=0∧(k=6→jh C false true t f)∧(k=7→(r.length≠0∧r.length≤256)∧lH C note (t+1) r)
def rZ (C:bO) (note:Bool) (t:Int):aX→Prop
 | .mk h cs=>Cn C h cs.length=0∧mK C note t cs
def rY (C:bO) (note:Bool) (t:Int):bC→Prop
 | .mk _ h f=>gY C 10 h=0∧jh C false note t f
def jh (C:bO) (body note:Bool) (t:Int):List ay→Prop
 | []=>True
 | x :: l=>mZ C body note t x∧jh C body note t l
def lH (C:bO) (note:Bool) (t:Int):List aX→Prop
 | []=>True
 | x :: l=>rZ C note t x∧lH C note t l
def mK (C:bO) (note:Bool) (t:Int):List bC→Prop
 | []=>True
 | x :: l=>rY C note t x∧mK C note t l
end
theorem Cj {C:bO} {body note:Bool} {t:Int}:∀ {l:List ay},jh C body note t l↔∀ x∈l,mZ C body note t x
 | []=>by simp [jh]
 | x :: l=>by rw [jh,Cj (l:=l)];simp
theorem OB {C:bO} {note:Bool} {t:Int}:∀ {l:List aX},lH C note t l↔∀ x∈l,rZ C note t x
 | []=>by simp [lH]
 | x :: l=>by rw [lH,OB (l:=l)];simp
theorem Oz {C:bO} {note:Bool} {t:Int}:∀ {l:List bC},mK C note t l↔∀ x∈l,rY C note t x
 | []=>by simp [mK]
 | x :: l=>by rw [mK,Oz (l:=l)];simp
mutual
/-- The units that a check counts. -/
def uI:ay→Nat
 | .mk k _ _ tx _ f r=>(if k=1 then rH tx else 1)+(if k=6 then jy f else if k=7 then ni r else 0)
def uR:aX→Nat
 | .mk _ cs=>nT cs
def uC:bC→Nat
 | .mk _ _ f=>jy f
def jy:List ay→Nat
 | []=>0
 | x :: l=>uI x+jy l
def ni:List aX→Nat
 | []=>0
 | x :: l=>uR x+ni l
def nT:List bC→Nat
 | []=>0
 | x :: l=>uC x+nT l
end
def jM (us bK ids:List Int):Prop:=(∀ i∈ids,(1≤i∧i≤1073741824)∧i∉us∧i∉bK)∧ids.Nodup
theorem jM.nil (us bK:List Int):jM us bK []:=⟨fun _ h=>(by cases h),List.nodup_nil⟩
theorem jM.app {us bK a b:List Int}:jM us bK (a++b)↔jM us bK a∧jM us (bK++a) b:=by
 unfold jM
 rw [List.nodup_append]
 constructor
 ·rintro ⟨h,h1,h2,h3⟩;exact ⟨⟨fun i hi=>h i (List.mem_append_left _ hi),h1⟩,fun i hi=>⟨(h i (List.mem_append_right _ hi)).1,(h i (List.mem_append_right _ hi)).2.1,fun hm=>(nW.1 hm).elim (h i (List.mem_append_right _ hi)).2.2 fun ha=>h3 i ha i hi rfl⟩,h2⟩
 rintro ⟨⟨h,h1⟩,h2,h3⟩;exact ⟨fun i hi=>(nW.1 hi).elim (h i) fun hb=>⟨(h2 i hb).1,(h2 i hb).2.1,fun hm=>(h2 i hb).2.2 (List.mem_append_left _ hm)⟩,h1,h3,fun i hi j hj e=>(h2 j hj).2.2 (List.mem_append_right _ (e ▸ hi))⟩
theorem jM.sub {us bK a b:List Int} (h:jM us bK a) (hs:b.Sublist a):jM us bK b:=⟨fun i hi=>h.1 i (hs.subset hi),hs.nodup h.2⟩
theorem CX {r:CR} {f:CS→CR} {s':CS}:fT r f=(0,s')↔∃ m,r=(0,m)∧f m=(0,s'):=by
 constructor
 ·intro h;obtain ⟨h1,h2⟩:=lS h;exact ⟨r.2,Prod.ext h1 rfl,h2⟩
 rintro ⟨m,rfl,h⟩;rw [Gm rfl];exact h
theorem wM {e:Int} {s m:CS}:((e,s):CR)=(0,m)↔e=0∧m=s:=by rw [ig,@eq_comm _ s m]
theorem Uc {C:bO} {s m:CS} {x:Int}:jZ C s x=(0,m)↔jM C.us s.bK [x]∧m=⟨s.n,s.bK++[x]⟩:=by
 unfold jZ
 rw [wM]
 have he:pG C.us s.bK x=0↔jM C.us s.bK [x]:=by
  unfold pG jM
  by_cases h0:¬ (1≤x∧x≤1073741824)∨x∈C.us
  ·rw [av h0];refine ⟨fun h=>(by cases h),fun h=>?_⟩;have:=h.1 x (List.mem_singleton_self _);exact absurd h0 (by rintro (h1|h1);exact h1 this.1;exact this.2.1 h1)
  rw [ah h0]
  by_cases h1:x∈s.bK
  ·rw [av h1];exact ⟨fun h=>(by cases h),fun h=>absurd h1 (h.1 x (List.mem_singleton_self _)).2.2⟩
  rw [ah h1];refine ⟨fun _=>⟨fun i hi=>?_,by simp⟩,fun _=>rfl⟩;rw [sS.1 hi];exact ⟨nM.1 fun h=>h0 (.inl h),fun h=>h0 (.inr h),h1⟩
 rw [he]
 constructor
 ·rintro ⟨h,rfl⟩;exact ⟨h,by rw [jY,av (he.2 h)]⟩
 rintro ⟨h,rfl⟩;exact ⟨h,by rw [jY,av (he.2 h)]⟩
theorem xC {b:Bool} {e:Int} (he:e≠0):dx b e=0↔b=false:=by cases b <;> simp [dx,he]
theorem apo {C:bO} {body note:Bool} {t k i:Int} {s m:CS}:lY C body note t k i s=(0,m)↔OD body note t k i∧jM C.us s.bK (if k=6∨k=7 then [i] else [])∧m=⟨s.n,s.bK++(if k=6∨k=7 then [i] else [])⟩:=by
 unfold lY OD
 by_cases h3:k=3
 ·subst h3;rw [av rfl,wM,xC (by decide)];cases body <;> simp [jM.nil]
 rw [ah h3]
 by_cases h6:k=6
 ·subst h6;rw [av rfl,CX]
  simp only [wM,xC (show (19:Int)≠0 by decide),Uc]
  constructor
  ·rintro ⟨_,⟨h1,rfl⟩,h2,h4⟩;exact ⟨⟨fun h=>absurd h (by decide),fun _=>h1,fun h=>absurd h (by decide),fun h=>absurd h (by decide)⟩,by simpa using h2,by simpa using h4⟩
  rintro ⟨⟨-,h1,-,-⟩,h2,h4⟩;exact ⟨s,⟨h1 trivial,rfl⟩,by simpa using h2,by simpa using h4⟩
 rw [ah h6]
 by_cases h7:k=7
 ·subst h7;rw [av rfl,CX]
  simp only [wM,xC (show (17:Int)≠0 by decide),Uc,mM,Int.not_le]
  constructor
  ·rintro ⟨_,⟨h1,rfl⟩,h2,h4⟩;exact ⟨⟨fun h=>absurd h (by decide),fun h=>absurd h (by decide),fun _=>h1,fun h=>absurd h (by decide)⟩,by simpa using h2,by simpa using h4⟩
  rintro ⟨⟨-,-,h1,-⟩,h2,h4⟩;exact ⟨s,⟨h1 trivial,rfl⟩,by simpa using h2,by simpa using h4⟩
 rw [ah h7,ah (show ¬ (k=6∨k=7) by omega),gD]
 by_cases h8:k=8
 ·rw [av h8,wM,xC (by decide)]
  simp [h3,h6,h7,h8,jM.nil]
 rw [ah h8,wM];simp [h3,h6,h7,h8,jM.nil]
theorem apY {n:Nat} {f:CS→CR} {s s':CS}:lI n f s=(0,s')↔(n≠0∧n≤256)∧f s=(0,s'):=by
 unfold lI
 split
 ·rename_i h;simp [h]
 rename_i h
 split
 ·rename_i h2;simp [show ¬ n≤256 by omega]
 rename_i h2;simp [h,show n≤256 by omega]
mutual
theorem afi (C:bO) (body note:Bool) (t:Int):∀ (x:ay) (s s':CS),eY C body note t x s=(0,s')↔mZ C body note t x∧jM C.us s.bK (pF x)∧s'=⟨s.n+(uI x:Nat),s.bK++pF x⟩
 | .mk k c i tx h f r,s,s'=>by
  have hf:=Jj C false true t f;have hr:=Xq C note (t+1) r;rw [eY,mZ,pF,uI]
  simp only [CX,wM,apo]
  by_cases h6:k=6
  ·subst h6
   simp only [if_true,hf,jM.app,true_or,ah (show ¬ (6:Int)=7 by decide),ah (show ¬ (6:Int)=1 by decide),gD]
   constructor
   ·rintro ⟨_,⟨h1,rfl⟩,_,⟨h2,h3,rfl⟩,_,⟨h4,rfl⟩,h5,h7,rfl⟩;exact ⟨⟨h1,h2,h4,fun _=>h5,fun h=>absurd h (by decide)⟩,⟨h3,h7⟩,by rw [jd];congr 1;push_cast;omega⟩
   rintro ⟨⟨h1,h2,h4,h5,-⟩,⟨h3,h7⟩,rfl⟩;exact ⟨s,⟨h1,rfl⟩,_,⟨h2,h3,rfl⟩,_,⟨h4,rfl⟩,h5 trivial,h7,by rw [jd];congr 1;push_cast;omega⟩
  by_cases h7:k=7
  ·subst h7
   simp only [if_true,apY,hr,jM.app,or_true,ah (show ¬ (7:Int)=6 by decide),ah (show ¬ (7:Int)=1 by decide),oF]
   constructor
   ·rintro ⟨_,⟨h1,rfl⟩,_,⟨h2,h3,rfl⟩,_,⟨h4,rfl⟩,h0,h5,h8,rfl⟩;exact ⟨⟨h1,h2,h4,fun h=>absurd h (by decide),fun _=>⟨h0,h5⟩⟩,⟨h3,h8⟩,by rw [jd];congr 1;push_cast;omega⟩
   rintro ⟨⟨h1,h2,h4,-,h5⟩,⟨h3,h8⟩,rfl⟩;exact ⟨s,⟨h1,rfl⟩,_,⟨h2,h3,rfl⟩,_,⟨h4,rfl⟩,(h5 trivial).1,(h5 trivial).2,h8,by rw [jd];congr 1;push_cast;omega⟩
  simp only [ah h6,ah h7,ah (show ¬ (k=6∨k=7) by omega),gD,wM]
  constructor
  ·rintro ⟨_,⟨h1,rfl⟩,_,⟨h2,h3,rfl⟩,_,⟨h4,rfl⟩,-,rfl⟩;exact ⟨⟨h1,h2,h4,fun h=>absurd h h6,fun h=>absurd h h7⟩,jM.nil _ _,by simp⟩
  rintro ⟨⟨h1,h2,h4,-,-⟩,h3,rfl⟩;exact ⟨s,⟨h1,rfl⟩,_,⟨h2,jM.nil _ _,rfl⟩,_,⟨h4,rfl⟩,aU,by simp⟩
theorem afj (C:bO) (note:Bool) (t:Int):∀ (x:aX) (s s':CS),yj C note t x s=(0,s')↔rZ C note t x∧jM C.us s.bK (tL x)∧s'=⟨s.n+(uR x:Nat),s.bK++tL x⟩
 | .mk h cs,s,s'=>by
  have hc:=Xp C note t cs;rw [yj,rZ,tL,uR]
  simp only [CX,wM,hc]
  constructor
  ·rintro ⟨_,⟨h1,rfl⟩,h2,h3⟩;exact ⟨⟨h1,h2⟩,h3⟩
  rintro ⟨⟨h1,h2⟩,h3⟩;exact ⟨s,⟨h1,rfl⟩,h2,h3⟩
theorem afh (C:bO) (note:Bool) (t:Int):∀ (x:bC) (s s':CS),cellC C note t x s=(0,s')↔rY C note t x∧jM C.us s.bK (uQ x)∧s'=⟨s.n+(uC x:Nat),s.bK++uQ x⟩
 | .mk i h f,s,s'=>by
  have hf:=Jj C false note t f;rw [cellC,rY,uQ,uC,show i :: iQ f=[i]++iQ f from rfl]
  simp only [CX,wM,hf,Uc,jM.app]
  constructor
  ·rintro ⟨_,⟨h1,rfl⟩,_,⟨h2,rfl⟩,h3,h4,rfl⟩;exact ⟨⟨h2,h3⟩,⟨h1,h4⟩,by rw [jd]⟩
  rintro ⟨⟨h2,h3⟩,⟨h1,h4⟩,rfl⟩;exact ⟨_,⟨h1,rfl⟩,_,⟨h2,rfl⟩,h3,h4,by rw [jd]⟩
theorem Jj (C:bO) (body note:Bool) (t:Int):∀ (l:List ay) (s s':CS),jo C body note t l s=(0,s')↔jh C body note t l∧jM C.us s.bK (iQ l)∧s'=⟨s.n+(jy l:Nat),s.bK++iQ l⟩
 | [],s,s'=>by rw [jo,jh,iQ,jy,wM];simp [jM.nil]
 | x :: r,s,s'=>by
  have h1:=afi C body note t x;have h2:=Jj C body note t r;rw [jo,jh,iQ,jy]
  simp only [CX,h1,h2,jM.app]
  constructor
  ·rintro ⟨_,⟨q1,q2,rfl⟩,q3,q4,rfl⟩;exact ⟨⟨q1,q3⟩,⟨q2,q4⟩,by rw [jd];congr 1;push_cast;omega⟩
  rintro ⟨⟨q1,q3⟩,⟨q2,q4⟩,rfl⟩;exact ⟨_,⟨q1,q2,rfl⟩,q3,q4,by rw [jd];congr 1;push_cast;omega⟩
theorem Xq (C:bO) (note:Bool) (t:Int):∀ (l:List aX) (s s':CS),iE C note t l s=(0,s')↔lH C note t l∧jM C.us s.bK (lV l)∧s'=⟨s.n+(ni l:Nat),s.bK++lV l⟩
 | [],s,s'=>by rw [iE,lH,lV,ni,wM];simp [jM.nil]
 | x :: r,s,s'=>by
  have h1:=afj C note t x;have h2:=Xq C note t r;rw [iE,lH,lV,ni]
  simp only [CX,h1,h2,jM.app]
  constructor
  ·rintro ⟨_,⟨q1,q2,rfl⟩,q3,q4,rfl⟩;exact ⟨⟨q1,q3⟩,⟨q2,q4⟩,by rw [jd];congr 1;push_cast;omega⟩
  rintro ⟨⟨q1,q3⟩,⟨q2,q4⟩,rfl⟩;exact ⟨_,⟨q1,q2,rfl⟩,q3,q4,by rw [jd];congr 1;push_cast;omega⟩
theorem Xp (C:bO) (note:Bool) (t:Int):∀ (l:List bC) (s s':CS),oQ C note t l s=(0,s')↔mK C note t l∧jM C.us s.bK (mY l)∧s'=⟨s.n+(nT l:Nat),s.bK++mY l⟩
 | [],s,s'=>by rw [oQ,mK,mY,nT,wM];simp [jM.nil]
 | x :: r,s,s'=>by
  have h1:=afh C note t x;have h2:=Xp C note t r;rw [oQ,mK,mY,nT]
  simp only [CX,h1,h2,jM.app]
  constructor
  ·rintro ⟨_,⟨q1,q2,rfl⟩,q3,q4,rfl⟩;exact ⟨⟨q1,q3⟩,⟨q2,q4⟩,by rw [jd];congr 1;push_cast;omega⟩
  rintro ⟨⟨q1,q3⟩,⟨q2,q4⟩,rfl⟩;exact ⟨_,⟨q1,q2,rfl⟩,q3,q4,by rw [jd];congr 1;push_cast;omega⟩
end
theorem akc {a b c d:Int}:cO [a,b,c,d]=0↔a=0∧b=0∧c=0∧d=0:=by
 constructor
 ·intro h;have z:=lG h;exact ⟨z _ (by simp),z _ (by simp),z _ (by simp),z _ (by simp)⟩
 rintro ⟨rfl,rfl,rfl,rfl⟩;rfl
theorem RU {a b:Int}:cO [a,b]=0↔a=0∧b=0:=by
 constructor
 ·intro h;have z:=lG h;exact ⟨z _ (by simp),z _ (by simp)⟩
 rintro ⟨rfl,rfl⟩;rfl
theorem MP (d:gG):iO d=0↔(Ji d.iw=0∧En d.revs=0)∧(gY d.nY 3 d.fin=0∧qW d.fin.marks=false)∧jh d.nY true false 0 d.flow∧jM [] [] (iQ d.flow)∧jy d.flow≤16384:=by
 unfold iO
 rw [akc,RU,RU,xC (by decide),xC (by decide),mM]
 constructor
 ·rintro ⟨h1,h2,h3,h4⟩;obtain ⟨q1,q2,q3⟩:=(Jj d.nY true false 0 d.flow ⟨0,[]⟩ _).1 (QI h3);rw [q3] at h4;dsimp only at h4;exact ⟨h1,h2,q1,q2,by omega⟩
 rintro ⟨h1,h2,q1,q2,q3⟩;have h:=(Jj d.nY true false 0 d.flow ⟨0,[]⟩ _).2 ⟨q1,q2,rfl⟩;rw [h];exact ⟨h1,h2,rfl,by dsimp only;omega⟩
end
section
open Go.RowKit
def qg (z y:ay):ay:=.mk z.kind z.code z.id (z.text++y.text) z.head z.flow z.rows
def uz (y:ay):Prop:=(y.kind=7∧y.rows.length=0)∨(y.kind=1∧y.text.size=0)
def rX (z y:ay):Prop:=y.kind=1∧z.kind=1∧z.head=y.head
instance (y:ay):Decidable (uz y):=inferInstanceAs (Decidable (_∨_))
instance (z y:ay):Decidable (rX z y):=inferInstanceAs (Decidable (_∧_∧_))
def addN (out:List ay) (y:ay):List ay :=
 if uz y then out else match out.getLast? with
  | none=>out++[y]
  | some z=>if rX z y then out.dropLast++[qg z y] else out++[y]
theorem Qn {out:List ay} {y:ay} (h:uz y):addN out y=out:=av h
theorem CV {out:List ay} {y:ay} (h:¬ uz y) (hj:∀ o z,out=o++[z]→¬ rX z y):addN out y=out++[y]:=by
 unfold addN
 rw [ah h]
 split
 ·rfl
 rename_i z hz
 obtain ⟨o,rfl⟩:=List.getLast?_eq_some_iff.1 hz;rw [ah (hj o z rfl)]
theorem Mx {o:List ay} {z y:ay} (h:¬ uz y) (hj:rX z y):addN (o++[z]) y=o++[qg z y]:=by
 unfold addN
 rw [ah h,List.getLast?_concat];dsimp only;rw [av hj,List.dropLast_concat]
theorem WQ (out:List ay) (y:ay):addN out y=out∨addN out y=out++[y]∨∃ o z,out=o++[z]∧z.kind=1∧y.kind=1∧addN out y=o++[qg z y]:=by
 by_cases h:uz y
 ·exact .inl (Qn h)
 by_cases hj:∃ o z,out=o++[z]∧rX z y
 ·obtain ⟨o,z,rfl,hj⟩:=hj;exact .inr (.inr ⟨o,z,rfl,hj.2.1,hj.1,Mx h hj⟩)
 exact .inr (.inl (CV h fun o z e hz=>hj ⟨o,z,e,hz⟩))
mutual
/-- What becomes of an item in a normal form, of rows, of cells. -/
def nI:ay→ay
 | .mk k c i t h f r=>.mk k c i t h ((qh f).foldl addN []) (uW r)
def qh:List ay→List ay
 | []=>[]
 | x :: l=>nI x :: qh l
def nR:aX→aX
 | .mk h c=>.mk h (uV c)
def uW:List aX→List aX
 | []=>[]
 | x :: l=>nR x :: uW l
def nC:bC→bC
 | .mk i h f=>.mk i h ((qh f).foldl addN [])
def uV:List bC→List bC
 | []=>[]
 | x :: l=>nC x :: uV l
end
theorem Ou:∀ l:List ay,qh l=l.map nI
 | []=>by simp [qh]
 | x :: l=>by simp [qh,Ou l]
theorem Ov:∀ l:List aX,uW l=l.map nR
 | []=>by simp [uW]
 | x :: l=>by simp [uW,Ov l]
theorem UE:∀ l:List bC,uV l=l.map nC
 | []=>by simp [uV]
 | x :: l=>by simp [uV,UE l]
def sj (l:List ay) (k:Nat):List ay:=((l.take k).map nI).foldl addN []
def lW (l:List ay):List ay:=sj l l.length
theorem aaW (x:ay):nI x=.mk x.kind x.code x.id x.text x.head (lW x.flow) (x.rows.map nR):=by
 cases x;rw [nI,Ou,Ov];simp [lW,sj,ay.kind,ay.code,ay.id,ay.text,ay.head,ay.flow,ay.rows]
theorem aaX (x:aX):nR x=.mk x.head (x.cells.map nC):=by cases x;rw [nR,UE];rfl
theorem aoo (x:bC):nC x=.mk x.id x.head (lW x.flow):=by cases x;rw [nC,Ou];simp [lW,sj,bC.id,bC.head,bC.flow]
theorem abr {l:List ay} {k:Nat} (h:k < l.length):sj l (k+1)=addN (sj l k) (nI l[k]):=by
 unfold sj;rw [fQ h,kQ,List.foldl_append];rfl
theorem arZ (out:List ay) (y:ay):ng (addN out y)≤ng out+(y.text.size+1):=by
 rcases WQ out y with e|e|⟨o,z,rfl,-,-,e⟩ <;> rw [e]
 ·omega
 ·rw [FC];simp [ng]
 rw [FC,FC];have:(qg z y).text.size=z.text.size+y.text.size:=ByteArray.size_append
 simp only [ng,this];omega
theorem UO {l:List ay}:∀ {k:Nat},k≤l.length→ng (sj l k)≤ng (l.take k)
 | 0,_=>by simp [sj,ng]
 | k+1,h=>by
  have ih:=UO (l:=l) (k:=k) (by omega);have h1:=arZ (sj l k) (nI l[k])
  have h2:(nI l[k]).text=l[k].text:=by rw [aaW];rfl
  rw [h2] at h1;rw [abr (by omega),fQ (by omega),FC]
  simp only [ng];omega
theorem aoR {l:List ay} {k:Nat} (h:k≤l.length):(sj l k).length≤ng l:=by
 have h1:=Ut (sj l k);have h2:=UO h;have h3:=acK l k
 omega
mutual
/-- Tables whose rows all have cells. -/
def Il:ay→Prop
 | .mk _ _ _ _ _ f r=>tQ f∧Ch r
def tQ:List ay→Prop
 | []=>True
 | x :: l=>Il x∧tQ l
def DK:aX→Prop
 | .mk _ c=>c≠[]∧DJ c
def Ch:List aX→Prop
 | []=>True
 | x :: l=>DK x∧Ch l
def DI:bC→Prop
 | .mk _ _ f=>tQ f
def DJ:List bC→Prop
 | []=>True
 | x :: l=>DI x∧DJ l
end
theorem abe:∀ {l:List ay},tQ l→∀ x∈l,Il x
 | [],_,_,h=>by cases h
 | y :: l,h,x,hx=>by
  rw [tQ] at h
  rcases ko.1 hx with rfl|hx
  ·exact h.1
  exact abe h.2 x hx
theorem UH:∀ {l:List aX},Ch l→∀ x∈l,DK x
 | [],_,_,h=>by cases h
 | y :: l,h,x,hx=>by
  rw [Ch] at h
  rcases ko.1 hx with rfl|hx
  ·exact h.1
  exact UH h.2 x hx
theorem abd:∀ {l:List bC},DJ l→∀ x∈l,DI x
 | [],_,_,h=>by cases h
 | y :: l,h,x,hx=>by
  rw [DJ] at h
  rcases ko.1 hx with rfl|hx
  ·exact h.1
  exact abd h.2 x hx
theorem aot (x:ay):Il x=(tQ x.flow∧Ch x.rows):=by cases x;rw [Il];rfl
theorem abf (x:aX):DK x=(x.cells≠[]∧DJ x.cells):=by cases x;rw [DK];rfl
theorem aos (x:bC):DI x=tQ x.flow:=by cases x;rw [DI];rfl
end
section
open Go.RowKit
theorem Qr {a b:ByteArray} {i:Nat} (h:i < a.size):fZ (a++b) i=fZ a i:=by
 rw [kW h,kW (by rw [ByteArray.size_append];omega),ByteArray.getElem_append_left h]
theorem Qs (a b:ByteArray) (j:Nat):fZ (a++b) (a.size+j)=fZ b j:=by
 by_cases h:j < b.size
 ·rw [kW h,kW (by rw [ByteArray.size_append];omega),ByteArray.getElem_append_right (by omega)]
  congr 2
  simp
 unfold fZ
 rw [dif_neg (by rw [ByteArray.size_append];omega),dif_neg h]
theorem XG {a b:ByteArray} {t n:Nat}:∀ (f k:Nat) (low high p:Int),(oW a t n f k low high p).2.2=true→oW (a++b) t n f k low high p=oW a t n f k low high p
 | 0,_,_,_,_,_=>rfl
 | f+1,k,low,high,p,h=>by
  unfold oW at h ⊢
  by_cases h1:n≤k
  ·rw [av h1,av h1]
  rw [ah h1] at h;rw [ah h1,ah h1]
  by_cases h2:a.size≤t+k∨fZ a (t+k) < low∨high < fZ a (t+k)
  ·rw [av h2] at h;cases h
  rw [ah h2] at h
  have h3:t+k < a.size:=by omega
  rw [Qr h3,ah h2,ah (by rw [ByteArray.size_append];omega)];exact XG f (k+1) _ _ _ h
theorem XH (a b:ByteArray) (j n:Nat):∀ (f k:Nat) (low high p:Int),oW (a++b) (a.size+j) n f k low high p=oW b j n f k low high p
 | 0,_,_,_,_=>rfl
 | f+1,k,low,high,p=>by
  unfold oW
  have e:fZ (a++b) (a.size+j+k)=fZ b (j+k):=by rw [Nat.add_assoc];exact Qs a b (j+k)
  have e2:((a++b).size≤a.size+j+k)↔(b.size≤j+k):=by rw [ByteArray.size_append];omega
  rw [e,XH a b j n f]
  simp only [e2]
theorem XJ {a b:ByteArray} {i:Nat} (hi:i < a.size) (h:(kK a i).2.2=true):kK (a++b) i=kK a i:=by
 unfold kK at h ⊢
 simp only [Qr hi] at h ⊢
 split
 ·rfl
 rename_i h1
 rw [ah h1] at h
 split
 ·rfl
 rename_i h2
 rw [ah h2] at h;exact XG _ _ _ _ _ h
theorem XK (a b:ByteArray) (j:Nat):kK (a++b) (a.size+j)=kK b j:=by
 unfold kK
 simp only [Qs,XH]
theorem ake (a b:ByteArray):∀ (n j:Nat),b.size - j=n→rM b j < 0→rM (a++b) (a.size+j) < 0:=by
 intro n
 induction n using Nat.strongRecOn with
 | _ n ih =>
  intro j hn h;rw [rM]
  by_cases hj:j < b.size
  ·rw [rM,dif_pos hj] at h;rw [dif_pos (by rw [ByteArray.size_append];omega)]
   by_cases hd:(kK b j).2.2=true
   ·rw [dif_pos hd] at h;have hs:=(MZ b j hj).2 hd;rw [dif_pos (by rw [XK];exact hd),XK,Nat.add_assoc];exact ih _ (by omega) (j+(kK b j).2.1) rfl h
   rw [dif_neg hd] at h;omega
  rw [dif_neg (by rw [ByteArray.size_append];omega)];decide
theorem akd (a b:ByteArray) (hb:rM b 0 < 0):∀ (n i:Nat),a.size - i=n→i≤a.size→rM a i < 0→rM (a++b) i < 0:=by
 intro n
 induction n using Nat.strongRecOn with
 | _ n ih =>
  intro i hn hi h
  by_cases hj:i < a.size
  ·rw [rM,dif_pos hj] at h;rw [rM,dif_pos (by rw [ByteArray.size_append];omega)]
   by_cases hd:(kK a i).2.2=true
   ·rw [dif_pos hd] at h;have hs:=(MZ a i hj).2 hd;rw [dif_pos (by rw [XJ hj hd];exact hd),XJ hj hd];exact ih _ (by omega) (i+(kK a i).2.1) rfl hs.2 h
   rw [dif_neg hd] at h;omega
  obtain rfl:i=a.size:=by omega
  exact ake a b b.size 0 rfl hb
theorem adh {a b:ByteArray} (ha:qo a=true) (hb:qo b=true):qo (a++b)=true:=by
 unfold qo at *
 exact iT (akd a b (mD hb) a.size 0 rfl (gW _) (mD ha))
theorem Xy (a b:ByteArray):∀ (n j:Nat),b.size - j=n→oV (a++b) (a.size+j)=oV b j
 | 0,j,h=>by
  rw [oV.eq_def (a++b),oV.eq_def b,ah (show ¬ a.size+j < (a++b).size by rw [ByteArray.size_append];omega),ah (show ¬ j < b.size by omega)]
 | n+1,j,h=>by
  have ih:=Xy a b n (j+1) (by omega);rw [oV.eq_def (a++b),oV.eq_def b,av (show a.size+j < (a++b).size by rw [ByteArray.size_append];omega),av (show j < b.size by omega),Qs,Nat.add_assoc,ih]
theorem Xx (a b:ByteArray):∀ (n i:Nat),a.size - i=n→i≤a.size→oV (a++b) i=oV a i+oV b 0
 | 0,i,h,hi=>by
  obtain rfl:i=a.size:=by omega
  rw [oV.eq_def a a.size,ah (Nat.lt_irrefl _),fV];exact Xy a b b.size 0 rfl
 | n+1,i,h,hi=>by
  have ih:=Xx a b n (i+1) (by omega) (by omega);rw [oV.eq_def (a++b),oV.eq_def a i,av (show i < (a++b).size by rw [ByteArray.size_append];omega),av (show i < a.size by omega),Qr (show i < a.size by omega),ih,Nat.add_assoc]
theorem afJ {a b:ByteArray} (ha:qo a=true) (hb:qo b=true):rH (a++b)=rH a+rH b:=by
 unfold rH
 rw [av ha,av hb,av (adh ha hb)];exact Xx a b a.size 0 rfl (gW _)
end
section
open Go.RowKit
def CU (s:CS) (z:Nat) (r:CR):Prop:=r.2.bK.length≤s.bK.length+z
theorem CU.and {s:CS} {z y q:Nat} {r:CR} {f:CS→CR} (h:CU s z r) (hq:z+y≤q) (hf:∀ s,CU s y (f s)):CU s q (fT r f):=by
 unfold CU at *
 unfold fT
 split
 ·omega
 have:=hf r.2
 omega
theorem CU.zero (s:CS) (e:Int) (q:Nat):CU s q (e,s):=by unfold CU;dsimp only;omega
end
section
open Go.RowKit
structure LY where
 code:Int
 id:Int
 name:ByteArray
 flow:Int
 at_:Int
def LY.dat (x:LY):List Dat:=[li x.code,li x.id,.lf (.string x.name),li x.flow,li x.at_]
abbrev LY.cells (x:LY):List aj:=[vi x.code,vi x.id,.string x.name,vi x.flow,vi x.at_]
def VY (P:Program) (fv:aj) (Gi:GH) (xs:List AP) (J:Nat→GH→OL→Prop):Prop :=
 ∀ k args G L w,xD xs k args G→(∀ b o,Gi b=some o→G b=some o)→J k G L→fU G L w→qp P fv args w (fJ w G L fun _ G' L'=>J (k+1) G' L')
end
section
open Go.RowKit
instance FD:Ty prog 137 1 8 [.nilFunc] false:=⟨by kernel_rfl,by kernel_rfl⟩
instance Bb:Ty prog 41 1 24 [.slice none 0 0] false:=⟨by kernel_rfl,by kernel_rfl⟩
def LD (A:List oN):Int:=A.foldl (fun n f=>n+Dy f.items) 0
end
section
open Go.RowKit
theorem Rx:∀ args w,(callFunc 88 args).run prog w=.ok (.enter 88 args) w:=enters func88 rfl (by kernel_rfl)
mutual
/-- The heads of items, rows and cells, in document order. -/
def JN:ay→List dW
 | .mk k _ _ _ h f r=>h :: ((if k=6 then og f else [])++(if k=7 then Ap r else []))
def og:List ay→List dW
 | []=>[]
 | x :: r=>JN x++og r
def JU:aX→List dW
 | .mk h c=>h :: BH c
def Ap:List aX→List dW
 | []=>[]
 | x :: r=>JU x++Ap r
def JH:bC→List dW
 | .mk _ h f=>h :: og f
def BH:List bC→List dW
 | []=>[]
 | x :: r=>JH x++BH r
end
theorem akO (x:ay):JN x=x.head :: ((if x.kind=6 then og x.flow else [])++(if x.kind=7 then Ap x.rows else [])):=by cases x;rw [JN];rfl
theorem akZ (x:aX):JU x=x.head :: BH x.cells:=by cases x;rw [JU];rfl
theorem aku (x:bC):JH x=x.head :: og x.flow:=by cases x;rw [JH];rfl
def EF (h:dW):AP:=fun args G=>∃ p d y:Option Addr × Nat × Nat,args=[.agg #[aM p,vi h.marks.ins,vi h.marks.move,aM d,aM y]]∧fC G h (aM p) (aM d) (aM y)
theorem Tg {G:GH} {h:dW} {pA dA yA:Option Addr} {pn pc dn dc yn yc:Nat} (hr:fC G h (.slice pA pn pc) (.slice dA dn dc) (.slice yA yn yc)):EF h [.agg #[.slice pA pn pc,vi h.marks.ins,vi h.marks.move,.slice dA dn dc,.slice yA yn yc]] G:=⟨(pA,pn,pc),(dA,dn,dc),(yA,yn,yc),rfl,hr⟩
def P9 (n:Nat):Prop:=∀ (fv:aj) (Gi:GH) (xs:List AP) (J:Nat→GH→OL→Prop) (G:GH) (L:OL) (w0:World) (j:Nat) (l:List ay) (v:aj),
 (∀ b o,Gi b=some o→G b=some o)→VY prog fv Gi xs J→F4 J→J j G L→fU G L w0→au G (.sl 11 (l.map ay.dat)) v→cu l < n→(∀ i a,(og l)[i]?=some a→xs[j+i]?=some (EF a)) →
 Calls prog 88 #[v,fv] w0 (fJ w0 G L fun _ G' L'=>J (j+(og l).length) G' L')
theorem alO {n:Nat} (ih:P9 n) (hn:n≤4294967296):P9 (n+1):=by
 intro fv Gi xs J G L w0 j0 l v hGi hcb Ao hJ0 hO hv hz hx0;obtain ⟨A,c,rfl,hc1,hc2,hg⟩:=hv.slice;rw [bM] at *;have hll:=FP l;refine jg (N:=59) (T:=[(0,_),(1,_)]) func88 rfl ntmps88 rfl rfl hO ?_;refine ak 6 ?_;intro a H;refine eH (ι:=Nat × Nat × OL × GH) (Tc:=[(1,_),(10,_),(11,_)]) (Lc:=[]) (fun gh=>[(12,vi gh.1)]) (fun gh=>[]++gh.2.2.1) (fun gh=>gh.2.2.2) (fun gh=>gh.1≤l.length∧(∀ b o,G b=some o→gh.2.2.2 b=some o)∧Now xs EF J (j0+(og l).length) gh.2.1 (og (l.drop gh.1)) gh.2.2.2 gh.2.2.1) (fun gh=>l.length - gh.1) ((0,j0,L,G)) sB ?_ ?_
 ·exact ⟨by omega,fun _ _ h=>h,⟨hJ0,hx0,rfl⟩⟩
 clear H;rintro ⟨k,j,Lt,g1⟩ a w hI H;dsimp only at hI H;obtain ⟨hk,hgm,iW⟩:=hI;dsimp only [lca,bG] at H;refine dQ 4 H ?_ ?_ <;> clear H
 ·intro oJ
  have hk2:k < l.length:=by omega
  obtain ⟨b,o,pA,pn,pc,dA,dn,dc,yA,yn,yc,fA,fn,fc,rA,rn,rc,rfl,hrow,hhd,hfl,hrw⟩:=Eu hk2 hg;replace hrow:=fun j u hj=>aH hgm (hrow j u hj);replace hhd:=hhd.mono hgm;replace hfl:=hfl.mono hgm;replace hrw:=hrw.mono hgm;have hrn:=hrw.len;rw [bM] at hrn;subst hrn;have hsz1:=IU hk2;rw [pO hk2] at iW
  simp only [og,akO,jd,nu] at iW
  obtain ⟨x,hx⟩:∃ x,x=l[k]:=⟨_,rfl⟩;rw [← hx] at iW hrow hhd hfl hrw hsz1;have hrl:=IV x.rows;refine ak 5 ?_;intro a H;refine aS gB (cs:=[_,_,_,_,_,_,_,_,_,_,_]) H wn rfl rfl (fun j v hj=>H.hp.aI (hrow j v hj)) rfl ?_;clear H;intro a H;refine dz gB H wn rfl ?_;clear H;intro b5 a w hb5 H;refine aV gB 0 (vs:=[_,_,_,_,_,_,_,_,_,_,_]) _ H wn rfl rfl rfl rfl rfl rfl rfl rfl ?_;clear H;intro w H;dsimp only [List.set,setRow] at H;refine aD 4 H ?_;clear H;intro a H;refine aS dw (cs:=[_,_,_,_,_]) H wn rfl rfl (H.hp.bN 0 rfl rfl) rfl ?_;clear H;intro a H;refine Cq (Li:=[_]) (L:=Lt) H wn rfl rfl (hcb _ _ _ _ _ ⟨_,iW.head,Tg hhd⟩ (fun b o h=>hgm b o (hGi b o h)) iW.now (Hp.owns (Li:=[_]) H.hp)) rfl ?_;clear H;intro v19 FX Qf a w akP qF H;have BR:=iW.step akP;refine gQ 10 H ?_ ?_ <;> clear H
  ·intro iY
   rw [av iY,ah (by omega),oF] at BR;refine ak 4 ?_;intro a H;refine gF Rx (Li:=[_]) (L:=Qf) H wn rfl (ih fv Gi xs J _ _ _ (j+1) x.flow _ (fun b o h=>qF b o (hgm b o (hGi b o h))) hcb Ao BR.now (Hp.owns (Li:=[_]) H.hp) (hfl.mono qF) (by omega) BR.part) rfl ?_;clear H;intro v27 PW adS a w akQ ZC H;refine aD 4 H ?_;clear H;intro a H;refine aC ?_;refine cB ((k+1,j+1+(og x.flow).length,adS,PW)) (by exact (H.dY (Pl:=[_]) (dM:=[]) [] (by decide) rfl).sub ⟨rfl,rfl,rfl,rfl,aU⟩) ?_ ?_
   ·(try dsimp only);exact ⟨by omega,fun b o h=>ZC b o (qF b o (hgm b o h)),BR.jump akQ⟩
   first|omega|(dsimp only;omega)
  intro iY
  rw [ah iY,oF] at BR;refine goB 4 ?_ ?_
  ·intro p28
   rw [av p28] at BR;refine ak 7 ?_;intro a H;refine eH (ι:=Nat × Nat × OL × GH) (Tc:=[(1,_),(10,_),(11,_),(12,_),(31,_),(32,_)]) (Lc:=[(_,_)]) (fun gh=>[(33,vi gh.1)]) (fun gh=>[]++gh.2.2.1) (fun gh=>gh.2.2.2) (fun gh=>gh.1≤x.rows.length∧(∀ b o,FX b=some o→gh.2.2.2 b=some o)∧Now xs EF J (j0+(og l).length) gh.2.1 (Ap (x.rows.drop gh.1)++og (l.drop (k+1))) gh.2.2.2 gh.2.2.1) (fun gh=>x.rows.length - gh.1) ((0,j+1,Qf,FX)) sB ?_ ?_
   ·exact ⟨by omega,fun _ _ h=>h,BR⟩
   clear H;rintro ⟨rk,j3,Lt3,g3⟩ a w hI H;dsimp only at hI H;obtain ⟨hrk,hg3,Dr⟩:=hI;dsimp only [lca,bG] at H;refine dQ 4 H ?_ ?_ <;> clear H
   ·intro p34
    have hk3:rk < x.rows.length:=by omega
    obtain ⟨b2,o2,qA,qn,qc,eA,en,ec,zA,zn,zc,cA,cn,cc,rfl,hrow,Ca,hcl⟩:=KS hk3 ((hrw.mono qF).mono hg3).at_;have hcn:=hcl.len;rw [bM] at hcn;subst hcn;have hsz2:=LW hk3;have hcs:=IQ x.rows[rk].cells;rw [pO hk3] at Dr
    simp only [Ap,akZ,jd,nu] at Dr
    obtain ⟨y,hy⟩:∃ y,y=x.rows[rk]:=⟨_,rfl⟩;rw [← hy] at Dr hrow Ca hcl hsz2 hcs;refine ak 5 ?_;intro a H;refine aS jL (cs:=[_,_,_,_,_,_]) H wn rfl rfl (fun j v hj=>H.hp.aI (hrow j v hj)) rfl ?_;clear H;intro a H;refine dz jL H wn rfl ?_;clear H;intro b7 a w uM H;refine aV jL 0 (vs:=[_,_,_,_,_,_]) _ H wn rfl rfl rfl rfl rfl rfl rfl rfl ?_;clear H;intro w H;dsimp only [List.set,setRow] at H;refine aD 4 H ?_;clear H;intro a H;refine aS dw (cs:=[_,_,_,_,_]) H wn rfl rfl (H.hp.bN 0 rfl rfl) rfl ?_;clear H;intro a H;refine Cq (Li:=[_,_]) (L:=Lt3) H wn rfl rfl (hcb _ _ _ _ _ ⟨_,Dr.head,Tg Ca⟩ (fun b o h=>hg3 b o (qF b o (hgm b o (hGi b o h)))) Dr.now (Hp.owns (Li:=[_,_]) H.hp)) rfl ?_;clear H;intro v40 PZ adT a w akR EJ H;have amw:=Dr.step akR;refine aD 8 H ?_;clear H;intro a H;refine eH (ι:=Nat × Nat × OL × GH) (Tc:=[(1,_),(10,_),(11,_),(12,_),(31,_),(32,_),(33,_),(42,_),(43,_)]) (Lc:=[(_,_),(_,_)]) (fun gh=>[(44,vi gh.1)]) (fun gh=>[]++gh.2.2.1) (fun gh=>gh.2.2.2) (fun gh=>gh.1≤y.cells.length∧(∀ b o,PZ b=some o→gh.2.2.2 b=some o)∧Now xs EF J (j0+(og l).length) gh.2.1 (BH (y.cells.drop gh.1)++(Ap (x.rows.drop (rk+1))++og (l.drop (k+1)))) gh.2.2.2 gh.2.2.1) (fun gh=>y.cells.length - gh.1) ((0,j3+1,adT,PZ)) sB ?_ ?_
    ·exact ⟨by omega,fun _ _ h=>h,amw⟩
    clear H;rintro ⟨ck,j4,Lt4,g4⟩ a w hI H;dsimp only at hI H;obtain ⟨hck,hg4,EO⟩:=hI;dsimp only [lca,bG] at H;refine dQ 4 H ?_ ?_ <;> clear H
    ·intro p45
     have hk4:ck < y.cells.length:=by omega
     obtain ⟨b3,o3,sA,sn,sc,tA,tn,tc,uA,un,uc,gA,gn,gc,rfl,hrow,hch,hcf⟩:=Jg hk4 ((hcl.mono EJ).mono hg4).at_;have aue:=LV hk4;rw [pO hk4] at EO
     simp only [BH,aku,jd,nu] at EO
     refine ak 5 ?_;intro a H;refine aS jQ (cs:=[_,_,_,_,_,_,_]) H wn rfl rfl (fun j v hj=>H.hp.aI (hrow j v hj)) rfl ?_;clear H;intro a H;refine dz jQ H wn rfl ?_;clear H;intro b9 a w rQ H;refine aV jQ 0 (vs:=[_,_,_,_,_,_,_]) _ H wn rfl rfl rfl rfl rfl rfl rfl rfl ?_;clear H;intro w H;dsimp only [List.set,setRow] at H;refine aD 4 H ?_;clear H;intro a H;refine aS dw (cs:=[_,_,_,_,_]) H wn rfl rfl (H.hp.bN 0 rfl rfl) rfl ?_;clear H;intro a H;refine Cq (Li:=[_,_,_]) (L:=Lt4) H wn rfl rfl (hcb _ _ _ _ _ ⟨_,EO.head,Tg hch⟩ (fun b o h=>hg4 b o (EJ b o (hg3 b o (qF b o (hgm b o (hGi b o h)))))) EO.now (Hp.owns (Li:=[_,_,_]) H.hp)) rfl ?_;clear H;intro v51 G51 adU a w akS H8 H;have Tw:=EO.step akS;refine aD 5 H ?_;clear H;intro a H;refine gF Rx (Li:=[_,_,_]) (L:=adU) H wn rfl (ih fv Gi xs J _ _ _ (j4+1) y.cells[ck].flow _ (fun b o h=>H8 b o (hg4 b o (EJ b o (hg3 b o (qF b o (hgm b o (hGi b o h))))))) hcb Ao Tw.now (Hp.owns (Li:=[_,_,_]) H.hp) (hcf.mono H8) (by omega) Tw.part) rfl ?_;clear H;intro v55 I6 adV a w akT uO H;refine aD 4 H ?_;clear H;intro a H;refine aC ?_;refine cB ((ck+1,j4+1+(og y.cells[ck].flow).length,adV,I6)) (by exact (H.dY (Pl:=[_,_,_]) (dM:=[_,_]) [1,2] (by decide) rfl).sub ⟨rfl,rfl,rfl,rfl,rfl,rfl,rfl,rfl,rfl,rfl,aU⟩) ?_ ?_
     ·(try dsimp only);exact ⟨by omega,fun b o h=>uO b o (H8 b o (hg4 b o h)),Tw.jump akT⟩
     first|omega|(dsimp only;omega)
    intro p45
    refine ak 4 ?_;intro a H;refine aC ?_;refine cB ((rk+1,j4,Lt4,g4)) (by exact (H.dY (Pl:=[_,_]) (dM:=[_]) [1] (by decide) rfl).sub ⟨rfl,rfl,rfl,rfl,rfl,rfl,rfl,aU⟩) ?_ ?_
    ·(try dsimp only);exact ⟨by omega,fun b o h=>hg4 b o (EJ b o (hg3 b o h)),by rw [kC (by omega),BH,oF] at EO;exact EO⟩
    first|omega|(dsimp only;omega)
   intro p34
   refine ak 4 ?_;intro a H;refine aC ?_;refine cB ((k+1,j3,Lt3,g3)) (by exact (H.dY (Pl:=[_]) (dM:=[]) [] (by decide) rfl).sub ⟨rfl,rfl,rfl,rfl,aU⟩) ?_ ?_
   ·(try dsimp only);exact ⟨by omega,fun b o h=>hg3 b o (qF b o (hgm b o h)),by rw [kC (by omega),Ap,oF] at Dr;exact Dr⟩
   first|omega|(dsimp only;omega)
  intro p28
  rw [ah p28,oF] at BR;refine ak 4 ?_;intro a H;refine aC ?_;refine cB ((k+1,j+1,Qf,FX)) (by exact (H.dY (Pl:=[_]) (dM:=[]) [] (by decide) rfl).sub ⟨rfl,rfl,rfl,rfl,aU⟩) ?_ ?_
  ·(try dsimp only);exact ⟨by omega,fun b o h=>qF b o (hgm b o h),BR⟩
  first|omega|(dsimp only;omega)
 intro oJ
 intro a H;refine yS ?_;refine (leave0 H results88 ?_).2
 exact H.hp.kE (L':=Lt) (by repeat (first|exact jT _|apply List.Sublist.cons)) (by
   rw [kC (by omega),og] at iW;have:=iW.len
   simp only [List.length_nil,wG] at this
   rw [← this];exact iW.now)
theorem Zm:∀ n:Nat,n≤4294967297→P9 n
 | 0,_=>fun _ _ _ _ _ _ _ _ _ _ _ _ _ _ _ _ h=>absurd h (by omega)
 | n+1,hn=>alO (Zm n (by omega)) (by omega)
end
section
open Go.RowKit
theorem WO {Q:ay→Prop} (hj:∀ z y,Q z→Q y→rX z y→Q (qg z y)) {out:List ay} {y:ay} (hy:Q y) (ho:∀ z∈out,Q z):∀ z∈addN out y,Q z:=by
 by_cases hd:uz y
 ·rw [Qn hd];exact ho
 by_cases h:∃ o z,out=o++[z]∧rX z y
 ·obtain ⟨o,z,rfl,hz⟩:=h;rw [Mx hd hz];intro x hx
  rcases nW.1 hx with h|h
  ·exact ho x (List.mem_append_left _ h)
  rw [sS.1 h];exact hj z y (ho z (by simp)) hy hz
 rw [CV hd fun o z e hz=>h ⟨o,z,e,hz⟩];intro x hx
 rcases nW.1 hx with h|h
 ·exact ho x h
 rw [sS.1 h];exact hy
theorem YV {Q:ay→Prop} (hj:∀ z y,Q z→Q y→rX z y→Q (qg z y)):∀ (A out:List ay),(∀ y∈A,Q y)→(∀ z∈out,Q z)→∀ z∈A.foldl addN out,Q z
 | [],_,_,ho=>ho
 | y :: A,out,hA,ho=>YV hj A (addN out y) (fun x hx=>hA x (gH _ hx)) (WO hj (hA y fM) ho)
theorem fold_add {γ:Type} {F:List ay→γ} {op:γ→γ→γ} {Q:ay→Prop} (hF:∀ a b,F (a++b)=op (F a) (F b)) (hj:∀ z y,Q z→Q y→rX z y→Q (qg z y)) (hd:∀ y,Q y→¬ uz y)
  (hg:∀ o z y,Q z→Q y→rX z y→F (o++[qg z y])=op (F (o++[z])) (F [y])):∀ (A out:List ay),(∀ y∈A,Q y)→(∀ z∈out,Q z)→F (A.foldl addN out)=F (out++A)
 | [],out,_,_=>by rw [gD];rfl
 | y :: A,out,hA,ho=>by
  have hy:=hA y fM;rw [List.foldl_cons,fold_add hF hj hd hg A (addN out y) (fun x hx=>hA x (gH _ hx)) (WO hj hy ho),show out++y :: A=(out++[y])++A by simp,hF,hF (out++[y])]
  congr 1
  by_cases h:∃ o z,out=o++[z]∧rX z y
  ·obtain ⟨o,z,rfl,hz⟩:=h;rw [Mx (hd y hy) hz,hg o z y (ho z (by simp)) hy hz,← hF]
  rw [CV (hd y hy) fun o z e hz=>h ⟨o,z,e,hz⟩]
theorem R4 {x:ay} (h:jU x=0) (hk:x.kind=1):x.code=0∧x.id=0∧qo x.text=true∧pU x.text=false∧x.flow=[]∧x.rows=[]:=by
 have h0:=Ev h
 unfold jU at h
 have hc:vK x=false:=by simp [vK,hk]
 have hn:wB x=false:=by simp [wB,hk]
 split at h
 ·cases h
 split at h
 ·cases h
 rename_i h2
 split at h
 ·cases h
 split at h
 ·cases h
 rename_i h4
 rw [hk] at h4
 simp only [tq,hc,hn,Bool.not_false,CW,Bool.or_eq_true,not_or,Bool.not_eq_true,mM,nM] at h2
 refine ⟨h2.1.1.1.1,h2.1.1.1.2,h0.1,?_,h0.2.2.2 (by omega),h0.2.2.1 (by omega)⟩
 cases he:pU x.text
 ·rfl
 rw [he] at h4;simp at h4
theorem XV (s:ByteArray):pU s=decide (s.size=0):=by
 unfold pU
 rw [ByteArray.toList_eq,ByteArray.toList_eq,mE,lQ,beq_iff_eq]
 constructor
 ·intro h;have:=aB List.length h
  simpa using this
 intro h;exact List.eq_nil_of_length_eq_zero (by rw [sP];exact h)
theorem aki {z y:ay} (hz:jU z=0) (hy:jU y=0) (kz:z.kind=1) (ky:y.kind=1):jU (qg z y)=0:=by
 obtain ⟨a1,a2,a3,a4,a5,a6⟩:=R4 hz kz;obtain ⟨b1,b2,b3,b4,b5,b6⟩:=R4 hy ky;have hv:=adh a3 b3
 have he:pU (z.text++y.text)=false:=by
  rw [XV,mM] at a4 ⊢;rw [ByteArray.size_append];omega
 unfold jU qg codeOk tq yB yH vK wB
 simp only [ay.kind,ay.code,ay.id,ay.text,ay.flow,ay.rows] at *
 simp [kz,a1,a2,a5,a6,hv,he,yB,vK,wB,yH,ay.kind,ay.code]
theorem akj {k c i:Int} {tx:ByteArray} {h:dW} {f f':List ay} {r r':List aX} (hx:jU (.mk k c i tx h f r)=0) (hf:k≠6→f=[]→f'=[]) (hr:r'.length=r.length):jU (.mk k c i tx h f' r')=0:=by
 have h0:=(Ev hx).2.2.2
 have e:tq (.mk k c i tx h f' r')=tq (.mk k c i tx h f r):=by
  have hfl:k≠6→f'.length=f.length:=fun h6=>by rw [hf h6 (h0 h6),show f=[] from h0 h6]
  rw [mE]
  simp only [tq,Bool.or_eq_true,mq,lQ]
  have c1:vK (.mk k c i tx h f' r')=vK (.mk k c i tx h f r):=rfl;have c2:wB (.mk k c i tx h f' r')=wB (.mk k c i tx h f r):=rfl;have c3:yH (.mk k c i tx h f' r')=yH (.mk k c i tx h f r):=rfl;rw [c1,c2,c3]
  show (((((_∧c≠0)∨(_∧i≠0))∨(_∧(!pU tx)=true))∨(k≠6∧0 < (f'.length:Int)))∨(k≠7∧0 < (r'.length:Int)))↔(((((_∧c≠0)∨(_∧i≠0))∨(_∧(!pU tx)=true))∨(k≠6∧0 < (f.length:Int)))∨(k≠7∧0 < (r.length:Int)))
  rw [hr]
  by_cases h6:k=6
  ·simp [h6]
  rw [hfl h6]
 have e2:codeOk (.mk k c i tx h f' r')=codeOk (.mk k c i tx h f r):=rfl;have e3:yB (.mk k c i tx h f' r')=yB (.mk k c i tx h f r):=rfl
 unfold jU at hx ⊢
 rw [e,e2,e3];exact hx
theorem OA {C:bO} {body note:Bool} {t:Int} (x:ay):mZ C body note t x↔jU x=0∧OD body note t x.kind x.id∧gY C x.kind x.head=0∧(x.kind=6→jh C false true t x.flow)∧(x.kind=7→(x.rows.length≠0∧x.rows.length≤256)∧lH C note (t+1) x.rows):=by
 cases x;rw [mZ];rfl
theorem UL {C:bO} {body note:Bool} {t:Int} (z y:ay) (hz:mZ C body note t z) (hy:mZ C body note t y) (hj:rX z y):mZ C body note t (qg z y):=by
 rw [OA] at *;refine ⟨aki hz.1 hy.1 hj.2.1 hj.1,hz.2.1,hz.2.2.1,hz.2.2.2.1,hz.2.2.2.2⟩
theorem abm {C:bO} {body note:Bool} {t:Int} (y:ay) (hy:mZ C body note t y):¬ uz y:=by
 rw [OA] at hy;rintro (⟨h1,h2⟩|⟨h1,h2⟩)
 ·exact (hy.2.2.2.2 h1).1.1 h2
 have:=(R4 hy.1 h1).2.2.2.1;rw [XV] at this
 simp [h2] at this
theorem UN {C:bO} {body note:Bool} {t:Int} {A:List ay} (h:jh C body note t A):jh C body note t (A.foldl addN []):=Cj.2 (YV UL A [] (Cj.1 h) (fun _ h=>by cases h))
mutual
theorem aoO (C:bO) (body note:Bool) (t:Int):∀ x:ay,mZ C body note t x→mZ C body note t (nI x)
 | .mk k c i tx h f r,hx=>by
  have hf:=Fj C false true t f;have hr:=abp C note (t+1) r;rw [mZ] at hx;rw [nI,mZ];exact ⟨akj hx.1 (fun _ e=>by rw [e];rfl) (by rw [Ov,bM]),hx.2.1,hx.2.2.1,fun e=>UN (hf (hx.2.2.2.1 e)),fun e=>⟨by rw [Ov,bM];exact (hx.2.2.2.2 e).1,hr (hx.2.2.2.2 e).2⟩⟩
theorem aoP (C:bO) (note:Bool) (t:Int):∀ x:aX,rZ C note t x→rZ C note t (nR x)
 | .mk h cs,hx=>by
  have hc:=abo C note t cs;rw [rZ] at hx;rw [nR,rZ];exact ⟨by rw [UE,bM];exact hx.1,hc hx.2⟩
theorem aoN (C:bO) (note:Bool) (t:Int):∀ x:bC,rY C note t x→rY C note t (nC x)
 | .mk i h f,hx=>by
  have hf:=Fj C false note t f;rw [rY] at hx;rw [nC,rY];exact ⟨hx.1,UN (hf hx.2)⟩
theorem Fj (C:bO) (body note:Bool) (t:Int):∀ l:List ay,jh C body note t l→jh C body note t (qh l)
 | [],_=>by rw [qh,jh];trivial
 | x :: l,h=>by
  rw [jh] at h;rw [qh,jh];exact ⟨aoO C body note t x h.1,Fj C body note t l h.2⟩
theorem abp (C:bO) (note:Bool) (t:Int):∀ l:List aX,lH C note t l→lH C note t (uW l)
 | [],_=>by rw [uW,lH];trivial
 | x :: l,h=>by
  rw [lH] at h;rw [uW,lH];exact ⟨aoP C note t x h.1,abp C note t l h.2⟩
theorem abo (C:bO) (note:Bool) (t:Int):∀ l:List bC,mK C note t l→mK C note t (uV l)
 | [],_=>by rw [uV,mK];trivial
 | x :: l,h=>by
  rw [mK] at h;rw [uV,mK];exact ⟨aoN C note t x h.1,abo C note t l h.2⟩
end
theorem UJ (l:List ay):lW l=(qh l).foldl addN []:=by simp [lW,sj,Ou]
theorem abq {C:bO} {body note:Bool} {t:Int} {l:List ay} (h:jh C body note t l):jh C body note t (lW l):=by rw [UJ];exact UN (Fj C body note t l h)
end
section
open Go.RowKit
theorem KH:∀ a b:List ay,iQ (a++b)=iQ a++iQ b
 | [],b=>by rw [iQ];rfl
 | x :: a,b=>by rw [nu,iQ,iQ,KH a b,jd]
theorem Lm:∀ a b:List ay,jy (a++b)=jy a+jy b
 | [],b=>by rw [jy,fV];rfl
 | x :: a,b=>by rw [nu,jy,jy,Lm a b,Nat.add_assoc]
theorem Ub {x:ay} (h:x.kind=1):pF x=[]:=by
 cases x;dsimp only [ay.kind] at h;subst h;simp [pF]
theorem VD {x:ay} (h:x.kind=1):uI x=rH x.text:=by
 cases x;dsimp only [ay.kind] at h;subst h;simp [uI,ay.text]
theorem Ud {C:bO} {body note:Bool} {t:Int} {A:List ay} (h:jh C body note t A):iQ (A.foldl addN [])=iQ A :=
 (fold_add (F:=iQ) KH (UL (C:=C) (body:=body) (note:=note) (t:=t)) abm (fun o z y _ _ hj=>by
  rw [KH,KH];simp only [iQ];rw [Ub hj.2.1,Ub hj.1,Ub (x:=qg z y) hj.2.1];simp) A [] (Cj.1 h) (fun _ h=>by cases h))
theorem VE {C:bO} {body note:Bool} {t:Int} {A:List ay} (h:jh C body note t A):jy (A.foldl addN [])=jy A :=
 (fold_add (F:=jy) Lm (UL (C:=C) (body:=body) (note:=note) (t:=t)) abm (fun o z y hz hy hj=>by
  rw [OA] at hz hy
  rw [Lm,Lm];simp only [jy];rw [VD hj.2.1,VD hj.1,VD (x:=qg z y) hj.2.1,show (qg z y).text=z.text++y.text from rfl,afJ (Ev hz.1).1 (Ev hy.1).1];omega) A [] (Cj.1 h) (fun _ h=>by cases h))
mutual
theorem anK (C:bO) (body note:Bool) (t:Int):∀ x:ay,mZ C body note t x→pF (nI x)=pF x∧uI (nI x)=uI x
 | .mk k c i tx h f r,hx=>by
  have hf:=Oj C false true t f;have hr:=aaE C note (t+1) r;rw [mZ] at hx;rw [nI,pF,pF,uI,uI]
  by_cases h6:k=6
  ·subst h6;have ho:=hx.2.2.2.1 rfl;have hn:=Fj C false true t f ho
   simp only [if_true,ah (show ¬ (6:Int)=7 by decide)]
   rw [Ud hn,VE hn,(hf ho).1,(hf ho).2];exact ⟨rfl,rfl⟩
  by_cases h7:k=7
  ·subst h7;have ho:=(hx.2.2.2.2 rfl).2
   simp only [if_true,ah (show ¬ (7:Int)=6 by decide)]
   rw [(hr ho).1,(hr ho).2];exact ⟨rfl,rfl⟩
  simp only [ah h6,ah h7]
  exact ⟨aU,aU⟩
theorem anL (C:bO) (note:Bool) (t:Int):∀ x:aX,rZ C note t x→tL (nR x)=tL x∧uR (nR x)=uR x
 | .mk h cs,hx=>by
  have hc:=aaD C note t cs;rw [rZ] at hx;rw [nR,tL,tL,uR,uR];exact hc hx.2
theorem anJ (C:bO) (note:Bool) (t:Int):∀ x:bC,rY C note t x→uQ (nC x)=uQ x∧uC (nC x)=uC x
 | .mk i h f,hx=>by
  have hf:=Oj C false note t f;rw [rY] at hx;have hn:=Fj C false note t f hx.2;rw [nC,uQ,uQ,uC,uC,Ud hn,VE hn,(hf hx.2).1,(hf hx.2).2];exact ⟨rfl,rfl⟩
theorem Oj (C:bO) (body note:Bool) (t:Int):∀ l:List ay,jh C body note t l→iQ (qh l)=iQ l∧jy (qh l)=jy l
 | [],_=>by rw [qh];exact ⟨rfl,rfl⟩
 | x :: l,h=>by
  rw [jh] at h;have h1:=anK C body note t x h.1;have h2:=Oj C body note t l h.2;rw [qh,iQ,iQ,jy,jy,h1.1,h1.2,h2.1,h2.2];exact ⟨rfl,rfl⟩
theorem aaE (C:bO) (note:Bool) (t:Int):∀ l:List aX,lH C note t l→lV (uW l)=lV l∧ni (uW l)=ni l
 | [],_=>by rw [uW];exact ⟨rfl,rfl⟩
 | x :: l,h=>by
  rw [lH] at h;have h1:=anL C note t x h.1;have h2:=aaE C note t l h.2;rw [uW,lV,lV,ni,ni,h1.1,h1.2,h2.1,h2.2];exact ⟨rfl,rfl⟩
theorem aaD (C:bO) (note:Bool) (t:Int):∀ l:List bC,mK C note t l→mY (uV l)=mY l∧nT (uV l)=nT l
 | [],_=>by rw [uV];exact ⟨rfl,rfl⟩
 | x :: l,h=>by
  rw [mK] at h;have h1:=anJ C note t x h.1;have h2:=aaD C note t l h.2;rw [uV,mY,mY,nT,nT,h1.1,h1.2,h2.1,h2.2];exact ⟨rfl,rfl⟩
end
theorem anr {C:bO} {body note:Bool} {t:Int} {l:List ay} (h:jh C body note t l):iQ (lW l)=iQ l∧jy (lW l)=jy l:=by
 have hn:=Fj C body note t l h;rw [UJ,Ud hn,VE hn];exact Oj C body note t l h
theorem arX (z y:ay):bY (qg z y).dat≤bY z.dat+bY y.dat:=by
 rw [ay.pQ,ay.pQ,ay.pQ]
 simp only [qg,ay.kind,ay.code,ay.id,ay.text,ay.head,ay.flow,ay.rows,bY,lu,ByteArray.size_append]
 omega
theorem LX (a b:List ay):cu (a++b)=cu a+cu b:=by rw [cu,kQ,IC]
theorem VT (y:ay):cu [y]=1+bY y.dat:=by simp [cu,eG]
theorem asS (out:List ay) (y:ay):cu (addN out y)≤cu out+cu [y]:=by
 rcases WQ out y with e|e|⟨o,z,rfl,-,-,e⟩ <;> rw [e]
 ·omega
 ·rw [LX];exact bP _
 have:=arX z y;rw [LX,LX,VT,VT,VT];omega
theorem PI:∀ (A out:List ay),cu (A.foldl addN out)≤cu out+cu A
 | [],out=>Nat.le_add_right _ _
 | y :: A,out=>by
  have h1:=PI A (addN out y);have h2:=asS out y;have h3:=LX [y] A;rw [List.singleton_append] at h3;rw [List.foldl_cons,h3];omega
mutual
theorem asU:∀ x:ay,bY (nI x).dat≤bY x.dat
 | .mk k c i tx h f r=>by
  have hf:=PK f;have hr:=ady r;have hd:=PI (qh f) [];have h0:cu []=0:=rfl
  have Lg:∀ (a b:List Dat),bY (a++b)=bY a+bY b:=fun a b=>by
   induction a with
   | nil=>simp [bY]
   | cons x a ih=>simp only [nu,bY,ih];omega
  rw [nI,ay.pQ,ay.pQ]
  simp only [ay.kind,ay.code,ay.id,ay.text,ay.head,ay.flow,ay.rows,bY,lu,Lg]
  unfold cu at *
  unfold gK at hr
  omega
theorem asV:∀ x:aX,bY (nR x).dat≤bY x.dat
 | .mk h cs=>by
  have hc:=adx cs
  have Lg:∀ (a b:List Dat),bY (a++b)=bY a+bY b:=fun a b=>by
   induction a with
   | nil=>simp [bY]
   | cons x a ih=>simp only [nu,bY,ih];omega
  rw [nR,aX.pQ,aX.pQ]
  simp only [aX.head,aX.cells,bY,lu,Lg]
  unfold iK at hc
  omega
theorem asT:∀ x:bC,bY (nC x).dat≤bY x.dat
 | .mk i h f=>by
  have hf:=PK f;have hd:=PI (qh f) [];have h0:cu []=0:=rfl
  have Lg:∀ (a b:List Dat),bY (a++b)=bY a+bY b:=fun a b=>by
   induction a with
   | nil=>simp [bY]
   | cons x a ih=>simp only [nu,bY,ih];omega
  rw [nC,bC.pQ,bC.pQ]
  simp only [bC.id,bC.head,bC.flow,bY,lu,Lg]
  unfold cu at *
  omega
theorem PK:∀ l:List ay,cu (qh l)≤cu l
 | []=>by rw [qh];exact bP _
 | x :: l=>by
  have h1:=asU x;have h2:=PK l;rw [qh]
  simp only [cu,fq,eG] at *
  omega
theorem ady:∀ l:List aX,gK (uW l)≤gK l
 | []=>by rw [uW];exact bP _
 | x :: l=>by
  have h1:=asV x;have h2:=ady l;rw [uW]
  simp only [gK,fq,eG] at *
  omega
theorem adx:∀ l:List bC,iK (uV l)≤iK l
 | []=>by rw [uV];exact bP _
 | x :: l=>by
  have h1:=asT x;have h2:=adx l;rw [uV]
  simp only [iK,fq,eG] at *
  omega
end
theorem VR (l:List ay):cu (lW l)≤cu l:=by
 have h1:=PI (qh l) [];have h2:=PK l;have h0:cu []=0:=rfl;rw [UJ];omega
end
section
open Go.RowKit
mutual
def qY (acc rej:Int→Bool):ay→List ay
 | .mk k c i tx h f r=>if kX acc rej h then [] else if k=6 then [.mk k c i tx (lF acc rej h) (fB acc rej f) r] else if k=7 then (if (jE acc rej r).length=0 then [] else [.mk k c i tx (lF acc rej h) f (jE acc rej r)]) else [.mk k c i tx (lF acc rej h) f r]
def sD (acc rej:Int→Bool):aX→List aX
 | .mk h cs=>if kX acc rej h then [] else if (iq acc rej cs).length=0 then [] else [.mk (lF acc rej h) (iq acc rej cs)]
def uX (acc rej:Int→Bool):bC→List bC
 | .mk i h f=>if kX acc rej h then [] else [.mk i (lF acc rej h) (fB acc rej f)]
def fB (acc rej:Int→Bool):List ay→List ay
 | []=>[]
 | x :: l=>qY acc rej x++fB acc rej l
def jE (acc rej:Int→Bool):List aX→List aX
 | []=>[]
 | x :: l=>sD acc rej x++jE acc rej l
def iq (acc rej:Int→Bool):List bC→List bC
 | []=>[]
 | x :: l=>uX acc rej x++iq acc rej l
end
variable {acc rej:Int→Bool}
theorem U7 (x:ay):qY acc rej x=if kX acc rej x.head then [] else if x.kind=6 then [.mk x.kind x.code x.id x.text (lF acc rej x.head) (fB acc rej x.flow) x.rows] else if x.kind=7 then (if (jE acc rej x.rows).length=0 then [] else [.mk x.kind x.code x.id x.text (lF acc rej x.head) x.flow (jE acc rej x.rows)]) else [.mk x.kind x.code x.id x.text (lF acc rej x.head) x.flow x.rows]:=by cases x;rw [qY];rfl
theorem U9 (x:aX):sD acc rej x=if kX acc rej x.head then [] else if (iq acc rej x.cells).length=0 then [] else [.mk (lF acc rej x.head) (iq acc rej x.cells)]:=by cases x;rw [sD];rfl
theorem U6 (x:bC):uX acc rej x=if kX acc rej x.head then [] else [.mk x.id (lF acc rej x.head) (fB acc rej x.flow)]:=by cases x;rw [uX];rfl
theorem abQ:∀ a b:List ay,fB acc rej (a++b)=fB acc rej a++fB acc rej b
 | [],b=>by simp [fB]
 | x :: a,b=>by simp [fB,abQ a b]
theorem abR:∀ a b:List aX,jE acc rej (a++b)=jE acc rej a++jE acc rej b
 | [],b=>by simp [jE]
 | x :: a,b=>by simp [jE,abR a b]
theorem abN:∀ a b:List bC,iq acc rej (a++b)=iq acc rej a++iq acc rej b
 | [],b=>by simp [iq]
 | x :: a,b=>by simp [iq,abN a b]
theorem wC {l:List ay} {k:Nat} (h:k < l.length):fB acc rej (l.take (k+1))=fB acc rej (l.take k)++qY acc rej l[k]:=by rw [fQ h,abQ];simp [fB]
theorem yu {l:List aX} {k:Nat} (h:k < l.length):jE acc rej (l.take (k+1))=jE acc rej (l.take k)++sD acc rej l[k]:=by rw [fQ h,abR];simp [jE]
theorem DN {l:List bC} {k:Nat} (h:k < l.length):iq acc rej (l.take (k+1))=iq acc rej (l.take k)++uX acc rej l[k]:=by rw [fQ h,abN];simp [iq]
theorem aqb (x:ay):(qY acc rej x).length≤1:=by rw [U7];(repeat' split) <;> simp
theorem aqd (x:aX):(sD acc rej x).length≤1:=by rw [U9];(repeat' split) <;> simp
theorem aqa (x:bC):(uX acc rej x).length≤1:=by rw [U6];split <;> simp
theorem U8:∀ l:List ay,(fB acc rej l).length≤l.length
 | []=>by simp [fB]
 | x :: l=>by rw [fB,iC];have:=aqb (acc:=acc) (rej:=rej) x;have:=U8 l;simp only [ku];omega
theorem OT:∀ l:List aX,(jE acc rej l).length≤l.length
 | []=>by simp [jE]
 | x :: l=>by rw [jE,iC];have:=aqd (acc:=acc) (rej:=rej) x;have:=OT l;simp only [ku];omega
theorem OQ:∀ l:List bC,(iq acc rej l).length≤l.length
 | []=>by simp [iq]
 | x :: l=>by rw [iq,iC];have:=aqa (acc:=acc) (rej:=rej) x;have:=OQ l;simp only [ku];omega
theorem U0:∀ l:List aT,eG (l.map aT.dat)=3*l.length
 | []=>by simp [eG]
 | p :: l=>by rw [fq,eG,U0 l];simp [aT.dat,bY,lu];omega
theorem QN:∀ l:List fE,eG (l.map fE.dat)=3*l.length
 | []=>by simp [eG]
 | p :: l=>by rw [fq,eG,QN l];simp [fE.dat,bY,lu];omega
theorem Uw:∀ l:List cK,eG (l.map cK.dat)=5*l.length
 | []=>by simp [eG]
 | p :: l=>by rw [fq,eG,Uw l];simp [cK.dat,bY,lu];omega
theorem XE (props:List aT):∀ (L:List (Int × List cK)) (s:List aT × List cK),(vM acc rej props L s).1.length≤s.1.length+L.length∧(vM acc rej props L s).2.length≤s.2.length+(L.flatMap Prod.snd).length
 | [],s=>by simp [vM]
 | (k,l) :: r,s=>by
  rw [vM];obtain ⟨h1,h2⟩:=XE props r (yG s.1 k (qE acc rej props k l).2,s.2++(qE acc rej props k l).1);have h3:=adl s.1 k (qE acc rej props k l).2;have h4:=R7 acc rej props k l;dsimp only at h1 h2;rw [iC] at h2
  simp only [ku,List.flatMap_cons,iC]
  omega
theorem akp {f:Nat} {l:List cK} (h:l.length≤f):(pV f l).length≤l.length:=by
 obtain ⟨h1,h2⟩:=JB f l h
 have key:∀ (L:List (Int × List cK)),(∀ q∈L,q.2≠[])→L.length≤(L.flatMap Prod.snd).length:=by
  intro L
  induction L with
  | nil=>intro _;exact gW _
  | cons q L ih =>
   intro hq;have:=ih fun x hx=>hq x (gH _ hx);have h3:=List.length_pos_iff.2 (hq q fM)
   simp only [ku,List.flatMap_cons,iC];omega
 have:=key _ h2
 rwa [h1] at this
theorem MX (h:dW):kV (lF acc rej h)≤2*kV h:=by
 rw [D9,D9,U0,QN,Uw,U0,QN,Uw];obtain ⟨h1,h2⟩:=XE (acc:=acc) (rej:=rej) h.props (pV h.marks.layers.length h.marks.layers) (h.props,[]);have h3:=akp (bP h.marks.layers.length);rw [(JB _ _ (bP _)).1] at h2;have h4:=List.length_filter_le (fun x:fE=>!rej x.rev) h.marks.bL
 simp only [lF,List.length_nil] at h1 h2 ⊢
 omega
mutual
theorem aqg:∀ x:ay,cu (qY acc rej x)≤2*(1+bY x.dat)
 | .mk k c i tx h f r=>by
  have hf:=OU f;have hr:=abT r;have hh:=MX (acc:=acc) (rej:=rej) h;have e:=yJ (.mk k c i tx h f r)
  simp only [ay.text,ay.head,ay.flow,ay.rows] at e
  have one:∀ y:ay,cu [y]=1+bY y.dat:=fun y=>by simp [cu,eG]
  rw [qY]
  split
  ·simp [cu,eG]
  split
  ·rw [one,yJ];simp only [ay.text,ay.head,ay.flow,ay.rows];omega
  split
  ·split
   ·simp [cu,eG]
   rw [one,yJ];simp only [ay.text,ay.head,ay.flow,ay.rows];omega
  rw [one,yJ];simp only [ay.text,ay.head,ay.flow,ay.rows];omega
theorem aqh:∀ x:aX,gK (sD acc rej x)≤2*(1+bY x.dat)
 | .mk h cs=>by
  have hc:=abS cs;have hh:=MX (acc:=acc) (rej:=rej) h;have e:=CK (.mk h cs)
  simp only [aX.head,aX.cells] at e
  rw [sD]
  split
  ·simp [gK,eG]
  split
  ·simp [gK,eG]
  simp only [gK,fq,qO,eG];rw [CK];simp only [aX.head,aX.cells];omega
theorem aqf:∀ x:bC,iK (uX acc rej x)≤2*(1+bY x.dat)
 | .mk i h f=>by
  have hf:=OU f;have hh:=MX (acc:=acc) (rej:=rej) h;have e:=CJ (.mk i h f)
  simp only [bC.head,bC.flow] at e
  rw [uX]
  split
  ·simp [iK,eG]
  simp only [iK,fq,qO,eG];rw [CJ];simp only [bC.head,bC.flow];omega
theorem OU:∀ l:List ay,cu (fB acc rej l)≤2*cu l
 | []=>by simp [fB,cu,eG]
 | x :: l=>by
  have h1:=aqg x;have h2:=OU l;rw [fB,LX,show cu (x :: l)=1+bY x.dat+cu l by simp [cu,eG]];omega
theorem abT:∀ l:List aX,gK (jE acc rej l)≤2*gK l
 | []=>by simp [jE,gK,eG]
 | x :: l=>by
  have h1:=aqh x;have h2:=abT l;rw [jE,show ∀ a b:List aX,gK (a++b)=gK a+gK b from fun a b=>by rw [gK,kQ,IC],show gK (x :: l)=1+bY x.dat+gK l by simp [gK,eG]];omega
theorem abS:∀ l:List bC,iK (iq acc rej l)≤2*iK l
 | []=>by simp [iq,iK,eG]
 | x :: l=>by
  have h1:=aqf x;have h2:=abS l;rw [iq,show ∀ a b:List bC,iK (a++b)=iK a+iK b from fun a b=>by rw [iK,kQ,IC],show iK (x :: l)=1+bY x.dat+iK l by simp [iK,eG]];omega
end
end
section
open Go.RowKit
theorem KG {G:GH} {α:Type} {f:α→Int} {A:List α} {B:Option Addr} {n c k:Nat} (hv:au G (.sl 1 (A.map fun q=>[li (f q)])) (.slice B n c)) (hk:k < A.length):∃ b o,B=some ⟨b,o,none⟩∧aI G b (o+k)=some (vi (f A[k])):=by
 obtain ⟨b,o,cs,h1,h2,h3,h4⟩:=hv.at_ k [li (f A[k])] (by simp [hk])
 simp only [aW] at h4
 obtain ⟨_,_,rfl,⟨rfl,-⟩,rfl⟩:=h4;exact ⟨b,o,h1,by simpa using h3 0 _ rfl⟩
end
section
open Go.RowKit
theorem agv:∀ args w,(callFunc 114 args).run prog w=.ok (.enter 114 args) w:=enters func114 rfl (by kernel_rfl)
theorem agw:∀ args w,(callFunc 115 args).run prog w=.ok (.enter 115 args) w:=enters func115 rfl (by kernel_rfl)
theorem TV {p:Nat→Bool} (hp:∀ h,p h=true→p (h+1)=true):∀ (f i j:Nat),i≤j→j - i≤f→(∀ h,i≤h→h < lq p f i j→p h=false)∧(lq p f i j < j→p (lq p f i j)=true)
 | 0,i,j,h1,h2=>⟨fun h a b=>by simp only [lq] at b;omega,fun h=>by simp only [lq] at h;omega⟩
 | f+1,i,j,h1,h2=>by
  have up:∀ a b,a≤b→p a=true→p b=true:=fun a b hab=>by
   induction hab with
   | refl=>exact fun h=>h
   | step _ ih=>exact fun h=>hp _ (ih h)
  rw [lq]
  by_cases h:i < j
  ·rw [av h]
   cases hm:p ((i+j) / 2)
   ·rw [ah (by simp)];obtain ⟨r1,r2⟩:=TV hp f ((i+j) / 2+1) j (by omega) (by omega);refine ⟨fun q a b=>?_,r2⟩
    by_cases hq:(i+j) / 2+1≤q
    ·exact r1 q hq b
    cases hpq:p q
    ·rfl
    rw [up q _ (by omega) hpq] at hm;cases hm
   rw [av rfl];obtain ⟨r1,r2⟩:=TV hp f i ((i+j) / 2) (by omega) (by omega);refine ⟨r1,fun _=>?_⟩
   by_cases hq:lq p f i ((i+j) / 2) < (i+j) / 2
   ·exact r2 hq
   have:=Od (p:=p) f i ((i+j) / 2) (by omega);rw [show lq p f i ((i+j) / 2)=(i+j) / 2 by omega];exact hm
  rw [ah h];exact ⟨fun q a b=>by omega,fun q=>absurd q h⟩
theorem Xb {l:List Int} (hs:l.Pairwise (·≤·)) (t:Int):(∀ h (hh:h < l.length),h < gX l t→l[h] < t)∧∀ hh:gX l t < l.length,t≤l[gX l t]:=by
 -- the test,as if the list went on with its last number
 let p:Nat→Bool:=fun h=>decide (¬ l.getD h 0 < t)
 let p':Nat→Bool:=fun h=>decide (l.length≤h∨¬ l.getD h 0 < t)
 have hpp:∀ (f i j:Nat),j≤l.length→i≤j→lq p f i j=lq p' f i j:=by
  intro f
  induction f with
  | zero=>intro i j _ _;rfl
  | succ f ih =>
   intro i j hj hij;rw [lq,lq]
   by_cases h:i < j
   ·rw [av h,av h]
    have e:p ((i+j) / 2)=p' ((i+j) / 2):=by
     show decide _=decide _
     exact decide_eq_decide.2 ⟨.inr,fun h=>h.resolve_left (by omega)⟩
    rw [e,ih _ _ (by omega) (by omega),ih _ _ hj (by omega)]
   rw [ah h,ah h]
 have hmono:∀ h,p' h=true→p' (h+1)=true:=fun h e=>by
  have e:=mD e;refine iT ?_
  by_cases h1:l.length≤h+1
  ·exact .inl h1
  refine .inr ?_;have e2:=e.resolve_left (by omega);have h3:=List.pairwise_iff_getElem.1 hs h (h+1) (by omega) (by omega) (Nat.lt_succ_self _);rw [List.getD_eq_getElem?_getD,eO (show h < l.length by omega)] at e2;rw [List.getD_eq_getElem?_getD,eO (show h+1 < l.length by omega)]
  simp only [Option.getD_some] at e2 ⊢
  omega
 obtain ⟨r1,r2⟩:=TV hmono l.length 0 l.length (gW _) (by omega);have hn:gX l t=lq p' l.length 0 l.length:=hpp _ _ _ (bP _) (gW _);rw [← hn] at r1 r2;refine ⟨fun h hh h1=>?_,fun hh=>?_⟩
 ·have h2:=of_decide_eq_false (r1 h (gW _) h1);rw [List.getD_eq_getElem?_getD,eO hh] at h2
  simp only [Option.getD_some] at h2
  omega
 have h2:=(mD (r2 hh)).resolve_left (by omega);rw [List.getD_eq_getElem?_getD,eO hh] at h2
 simp only [Option.getD_some] at h2
 omega
theorem ala {l:List Int} (hs:l.Pairwise (·≤·)) (t:Int):mW l t=decide (t∈l):=by
 rw [mE,lQ]
 constructor
 ·intro h;exact kr (mD h)
 intro h;obtain ⟨k,hk,rfl⟩:=List.getElem_of_mem h;obtain ⟨r1,r2⟩:=Xb hs l[k]
 have hkn:gX l l[k]≤k:=by
  by_cases h:gX l l[k]≤k
  ·exact h
  have:=r1 k hk (by omega);omega
 have h2:=r2 (by omega)
 have h3:l[gX l l[k]]≤l[k]:=by
  rcases Nat.lt_or_eq_of_le hkn with h|h
  ·exact List.pairwise_iff_getElem.1 hs _ _ (by omega) hk h
  exact Int.le_of_eq (getElem_congr_idx h)
 exact iT (by rw [eO (by omega:gX l l[k] < l.length)];exact aB some (by omega))
theorem anT (G:GH) (w0:World) (hG:Hold G w0) (x y:Int):Calls prog 114 #[vi x,vi y] w0 (bB w0 G fun u G'=>u=.bool (decide (x < y))∧G=G'):=by
 refine eN [(0,_),(1,_)] func114 rfl ntmps114 rfl rfl hG ?_;refine ak 5 ?_;intro a H;refine s_call QY H wn rfl (Uh _ _ H.ro x) rfl ?_;clear H;rintro v6 G6 a w ⟨rfl,rfl⟩ EL H;refine kT 1 7 H ?_ ?_ <;> clear H
 ·intro h7
  intro a H
  cases h7
 intro h7
 refine ak 5 ?_;intro a H;(iterate 2 refine Fy H (wg H rfl rfl rfl) rfl rfl ?_;clear H;intro a H);refine Fw H (wg H rfl rfl rfl) rfl rfl rfl rfl ?_;clear H;refine aQ 3 ?_;exact ⟨rfl,rfl⟩
theorem anF (G:GH) (w0:World) (hG:Hold G w0) (x:Int):Calls prog 115 #[vi x] w0 (bB w0 G fun u G'=>u=.bool false∧G=G'):=by
 refine eN [(0,_)] func115 rfl ntmps115 rfl rfl hG ?_;refine aQ 9 ?_;exact ⟨by simp,rfl⟩
theorem Xa (G:GH) (w0:World) (hG:Hold G w0) (l:List Int) (t:Int) (v:aj) (hv:au G (.sl 1 (l.map fun k=>[li k])) v) (hl:l.length≤4294967296) :
  Calls prog 62 #[v,vi t] w0 (bB w0 G fun u G'=>u=.tuple #[vi (gX l t),.bool (mW l t)]∧G=G'):=by
 obtain ⟨A,c,rfl,hc1,hc2,-⟩:=hv.slice;rw [bM] at *;obtain ⟨p,hp⟩:∃ p:Nat→Bool,p=fun h=>decide (¬ l.getD h 0 < t):=⟨_,rfl⟩
 have hbs:gX l t=lq p l.length 0 l.length:=by rw [hp,gX]
 refine eN [(0,_),(1,_)] func62 rfl ntmps62 rfl rfl hG ?_;refine ak 16 ?_;intro a H;refine eH (ι:=Nat × Nat × Nat) (Tc:=[(0,_),(1,_),(6,_)]) (Lc:=[]) (fun gh=>[(7,vi gh.1),(8,vi gh.2.1)]) (fun gh=>[]) (fun gh=>G) (fun gh=>gh.1≤gh.2.1∧gh.2.1≤l.length∧gh.2.1 - gh.1≤gh.2.2∧lq p gh.2.2 gh.1 gh.2.1=gX l t) (fun gh=>gh.2.1 - gh.1) ((0,l.length,l.length)) sB ?_ ?_
 ·exact ⟨gW _,bP _,Nat.sub_le _ _,hbs.symm⟩
 clear H;rintro ⟨i,j,f⟩ a w hI H;dsimp only at hI H;obtain ⟨hij,hj,hf1,heq⟩:=hI;dsimp only [lca,bG] at H;refine dQ 6 H ?_ ?_ <;> clear H
 ·intro qX
  have hlt:i < j:=by omega
  rw [TW hf1 hlt] at heq;obtain ⟨m,hm⟩:∃ m,m=(i+j) / 2:=⟨_,rfl⟩;rw [← hm] at heq
  have hml:m < l.length:=by omega
  obtain ⟨b,o,rfl,hrow⟩:=KG (f:=fun q=>q) hv hml
  replace hrow:aI G b (o+m*1)=some (vi l[m]):=by rw [Nat.mul_one];exact hrow
  have hpm:p m=decide (¬ l[m] < t):=by rw [hp];simp [List.getD,hml]
  rw [hpm] at heq;refine ak 6 ?_;intro a H;rw [show ((i:Int)+(j:Int))=((i+j:Nat):Int) by push_cast;rfl] at H;refine AV ((i+j:Nat):Int) FJ kI H wn rfl (TY (by omega) (by omega)) rfl ?_;clear H;intro a H;refine O6 _ H wn rfl rfl rfl (by decide) rfl ?_;clear H;intro a H;rw [TU,← hm] at H;refine AV (m:Int) kI FJ H wn rfl (EX (by omega) (by omega)) rfl ?_;clear H;refine ak 8 ?_;intro a H;refine s_call agv H wn rfl (anT _ _ H.ro l[m] t) rfl ?_;clear H;rintro v27 PW a w ⟨rfl,rfl⟩ ZC H;refine gQ 1 H ?_ ?_ <;> clear H
  ·intro p27
   rw [ah (by simpa using p27)] at heq;refine ak 4 ?_;intro a H;refine aC ?_;refine cB ((m+1,j,f - 1)) sB ?_ ?_
   ·(try dsimp only);exact ⟨by omega,hj,by omega,heq⟩
   first|omega|(dsimp only;omega)
  intro p27
  rw [av (by simpa using p27)] at heq;refine ak 3 ?_;intro a H;refine aC ?_;refine cB ((i,m,f - 1)) sB ?_ ?_
  ·(try dsimp only);exact ⟨by omega,by omega,by omega,heq⟩
  first|omega|(dsimp only;omega)
 intro qX
 refine ak 1 ?_;rw [TT (by omega)] at heq;refine lT 6 35 ?_ ?_
 ·intro p35
  have hil:i < l.length:=by omega
  obtain ⟨b,o,rfl,hrow⟩:=KG (f:=fun q=>q) hv hil
  replace hrow:aI G b (o+i*1)=some (vi l[i]):=by rw [Nat.mul_one];exact hrow
  refine jV 7 42 ?_ ?_
  ·intro Np
   try have p42:=dT Np
   refine ak 14 ?_;intro a H;refine bZ ?_;refine (eT H results62 (.cons (bq H rfl) (.cons (bq H rfl) .nil)) ?_).1
   first
    | exact H.rt ⟨by rw [JV heq.symm (by omega),← heq];simp_all [MS],rfl⟩
    | exact H.rt ⟨by rw [JX heq.symm (by omega),← heq],rfl⟩
  intro Np
  try have p42:=dF Np
  refine ak 4 ?_;intro a H;refine s_call agw H (wg H rfl rfl Np) rfl (anF _ _ H.ro l[i]) rfl ?_;clear H;rintro v47 Wi a w ⟨rfl,rfl⟩ atV H;refine kT 1 48 H ?_ ?_ <;> clear H
  ·intro h48
   intro a H
   cases h48
  intro h48
  try have p48:=dF h48
  refine ak 8 ?_;intro a H;refine bZ ?_;refine (eT H results62 (.cons (bq H rfl) (.cons (bq H rfl) .nil)) ?_).1
  first
   | exact H.rt ⟨by rw [JV heq.symm (by omega),← heq];simp_all [MS],rfl⟩
   | exact H.rt ⟨by rw [JX heq.symm (by omega),← heq],rfl⟩
 intro p35
 refine ak 21 ?_;intro a H;refine bZ ?_;refine (eT H results62 (.cons (bq H rfl) (.cons (bq H rfl) .nil)) ?_).1
 first
  | exact H.rt ⟨by rw [JV heq.symm (by omega),← heq];simp_all [MS],rfl⟩
  | exact H.rt ⟨by rw [JX heq.symm (by omega),← heq],rfl⟩
end
section
open Go.RowKit
theorem ahB:∀ args w,(callFunc 211 args).run prog w=.ok (.enter 211 args) w:=enters func211 rfl (by kernel_rfl)
theorem Ym:∀ args w,(callFunc 62 args).run prog w=.ok (.enter 62 args) w:=enters func62 rfl (by kernel_rfl)
instance qK:Ty prog 242 2 16 [.int .i64 0,.bool false] true:=⟨by kernel_rfl,by kernel_rfl⟩
theorem acv:oO prog 242 [(0,1),(1,1)] [.int .i64 0,.bool false]:=⟨by kernel_rfl,by kernel_rfl⟩
theorem ahC:∀ args w,(callFunc 213 args).run prog w=.ok (.enter 213 args) w:=enters func213 rfl (by kernel_rfl)
instance:dS prog 242 0 0:=⟨by kernel_rfl⟩
instance:dS prog 242 1 1:=⟨by kernel_rfl⟩
theorem ahD:∀ args w,(callFunc 214 args).run prog w=.ok (.enter 214 args) w:=enters func214 rfl (by kernel_rfl)
theorem ahE:∀ args w,(callFunc 215 args).run prog w=.ok (.enter 215 args) w:=enters func215 rfl (by kernel_rfl)
theorem anv (G:GH) (w0:World) (hG:Hold G w0) (l:List fE) (p:fE→Bool) (v fv:aj) (hv:au G (.sl 2 (l.map fE.dat)) v) (hf:∀ x∈l,rC fv G x.dat (p x)) :
  Calls prog 211 #[v,fv] w0 (bB w0 G fun u G'=>u=vi (mJ (l.findIdx? p))):=by
 obtain ⟨A,c,rfl,hc1,hc2,hg⟩:=hv.slice;have hml:maxLen=9223372036854775807:=rfl;rw [bM] at *;refine eN [(0,_),(1,_)] func211 rfl ntmps211 rfl rfl hG ?_;refine ak 10 ?_;intro a H;refine eH (ι:=Nat × GH) (Tc:=[(0,_),(1,_),(7,_)]) (Lc:=[]) (fun gh=>[(8,vi gh.1)]) (fun gh=>[]) (fun gh=>gh.2) (fun gh=>gh.1≤l.length∧(l.take gh.1).findIdx? p=none∧(∀ b o,G b=some o→gh.2 b=some o)) (fun gh=>l.length - gh.1) ((0,G)) sB ?_ ?_
 ·exact ⟨by omega,rfl,fun _ _ h=>h⟩
 clear H;rintro ⟨k,g⟩ a w hI H;dsimp only at hI H;obtain ⟨hk,hno,hgm⟩:=hI;dsimp only [lca,bG] at H;refine dQ 4 H ?_ ?_ <;> clear H
 ·intro p9
  have hk2:k < l.length:=by omega
  obtain ⟨b,o,cs,rfl,hcl,hrow,hrep⟩:=hg k l[k].dat (by simp [hk2]);obtain rfl:=Jq hrep;replace hrow:=fun j u hj=>aH hgm (hrow j u hj);refine ak 12 ?_;intro a H;refine aS oz (cs:=[_,_]) H wn rfl rfl (fun j v hj=>H.hp.aI (hrow j v hj)) rfl ?_;clear H;intro a H;refine ji H wn rfl rfl (hf _ (lD hk2) _ _ _ hgm H.ro (hrep.mono hgm)) rfl ?_;clear H;rintro v16 nV a w rfl jv H;refine iU 1 H ?_ ?_ <;> clear H
  ·intro h16
   try have p16:=dT h16
   refine aQ 4 ?_
   first
    | exact (by rw [rW hk2 hno h16];rfl)
    | exact (by rw [show l.take k=l from fK (by omega)] at hno;rw [hno];rfl)
  intro h16
  try have p16:=dF h16
  refine ak 4 ?_;intro a H;refine aC ?_;refine cB ((k+1,nV)) sB ?_ ?_
  ·(try dsimp only);exact ⟨by omega,Cc hk2 hno h16,fun b o h=>jv b o (hgm b o h)⟩
  first|omega|(dsimp only;omega)
 intro p9
 refine aQ 4 ?_
 first
  | exact (by rw [rW hk2 hno h16];rfl)
  | exact (by rw [show l.take k=l from fK (by omega)] at hno;rw [hno];rfl)
theorem XA (G:GH) (w0:World) (hG:Hold G w0) (l:List fE) (p:fE→Bool) (v fv:aj) (hv:au G (.sl 2 (l.map fE.dat)) v) (hf:∀ x∈l,rC fv G x.dat (p x)) :
  Calls prog 157 #[v,fv] w0 (bB w0 G fun u G'=>u=.bool (l.findIdx? p).isSome):=by
 refine eN [(0,_),(1,_)] func157 rfl ntmps157 rfl rfl hG ?_;refine ak 6 ?_;intro a H;refine s_call ahB H wn rfl (anv _ _ H.ro l p _ _ hv hf) rfl ?_;clear H;rintro v7 G7 a w rfl wS H;refine fH 3 H ?_;cases h:l.findIdx? p <;> simp [mJ]
theorem UC (G:GH) (w0:World) (hG:Hold G w0) (l:List Int) (t:Int) (v:aj) (hv:au G (.sl 1 (l.map fun k=>[li k])) v) (hl:l.length≤4294967296) :
  Calls prog 76 #[v,vi t] w0 (bB w0 G fun u G'=>u=.bool (mW l t)):=by
 refine eN [(0,_),(1,_)] func76 rfl ntmps76 rfl rfl hG ?_;refine ak 6 ?_;intro a H;refine s_call Ym H wn rfl (Xa _ _ H.ro l t _ hv hl) rfl ?_;clear H;rintro v10 zS a w ⟨rfl,rfl⟩ BN H;refine aD 1 H ?_;clear H;intro a H;(iterate 2 refine jK H wn rfl rfl rfl ?_;clear H;intro a H);refine fH 7 H ?_;exact rfl
abbrev Fz (s:Int × Bool):aj:=.agg #[vi s.1,.bool s.2]
theorem aej (G:GH) (w0:World) (hG:Hold G w0) (y:cK):Calls prog 161 #[.agg y.cells.toArray] w0 (bB w0 G fun u G'=>u=Fz (y.before,y.had)):=by
 refine eN [(0,_)] func161 rfl ntmps161 rfl rfl hG ?_;refine ak 1 ?_;intro a H;refine dP (cs:=[_,_,_,_]) H wn rfl rfl rfl ?_;clear H;intro b1 a w hb1 H;refine dz qK H wn rfl ?_;clear H;intro b2 a w hb2 H;refine aD 6 H ?_;clear H;intro a H;refine iy acv [_,_] H wn rfl rfl rfl rfl ?_;clear H;intro a H;refine aV qK 0 (vs:=[_,_]) _ H wn rfl rfl rfl rfl rfl rfl rfl rfl ?_;clear H;intro w H;dsimp only [List.set,setRow] at H;refine aC ?_;refine dR ?_;refine bZ ?_;refine (leave1 H results161 (.cons (kF qK (cs:=[_,_]) H rfl rfl (H.hp.bN 0 rfl rfl)) .nil) ?_).1;exact H.rt rfl
theorem apq (G:GH) (w0:World) (hG:Hold G w0) (h:dW) (p d l:aj) (hh:fC G h p d l) (k:Int) (hl:h.props.length≤4294967296):Calls prog 162 #[pq h p d l,vi k] w0 (bB w0 G fun u G'=>u=Fz (yV h.props k)):=by
 obtain ⟨pA,pn,pc,rfl⟩:=hh.props.form;obtain ⟨dA,dn,dc,rfl⟩:=hh.bL.form;obtain ⟨lA,ln,lc,rfl⟩:=hh.layers.form;refine eN [(0,_),(1,_)] func162 rfl ntmps162 rfl rfl hG ?_;refine ak 1 ?_;intro a H;refine dP (cs:=[_,_,_,_,_]) H wn rfl rfl rfl ?_;clear H;intro b2 a w hb2 H;refine dz qK H wn rfl ?_;clear H;intro b4 a w hb4 H;refine aD 5 H ?_;clear H;intro a H;refine s_call ahC H wn rfl (ako _ _ H.ro h.props k _ hh.props hl) rfl ?_;clear H;rintro v11 ru a w rfl BO H;refine aD 1 H ?_;clear H;intro a H;(iterate 2 refine jK H wn rfl rfl rfl ?_;clear H;intro a H);refine aD 6 H ?_;clear H;intro a H;refine iy acv [_,_] H wn rfl rfl rfl rfl ?_;clear H;intro a H;refine aV qK 0 (vs:=[_,_]) _ H wn rfl rfl rfl rfl rfl rfl rfl rfl ?_;clear H;intro w H;dsimp only [List.set,setRow] at H;refine aC ?_;refine dR ?_;refine bZ ?_;refine (leave1 H results162 (.cons (kF qK (cs:=[_,_]) H rfl rfl (H.hp.bN 0 rfl rfl)) .nil) ?_).1;exact H.rt rfl
theorem akl (G:GH) (w0:World) (hG:Hold G w0) (y:cK) (s:Int × Bool):Calls prog 163 #[.agg y.cells.toArray,Fz s] w0 (bB w0 G fun u G'=>u=.agg (cK.cells ⟨y.rev,y.key,s.1,s.2⟩).toArray):=by
 refine eN [(0,_),(1,_)] func163 rfl ntmps163 rfl rfl hG ?_;refine ak 1 ?_;intro a H;refine dP (cs:=[_,_,_,_]) H wn rfl rfl rfl ?_;clear H;intro b2 a w hb2 H;refine dP (cs:=[_,_]) H wn rfl rfl rfl ?_;clear H;intro b3 a w hb3 H;refine dz jw H wn rfl ?_;clear H;intro b4 a w hb4 H;refine aD 2 H ?_;clear H;intro a H;refine aex (hmx) [[],[0],[],[2],[0,1],[0,1,4],(ra 0 6),(ra 0 7)] [6,7] (by kernel_rfl) (by kernel_rfl) 5 (by decide) (fun (aP:Nat) (v:aj) (G:GH)=>match aP with|0=>v=(aG b3 0)|1=>v=vi s.1|2=>v=(aG b3 1)|3=>v=.bool s.2|4=>v=(aG b2 2)|_=>True) 2 ((b2,.cells #[vi y.rev,vi y.key,vi s.1,.bool y.had] 161 (0,0))) H ?_ ?_ ?_ ?_ (by kernel_rfl)
 ·clear H;refine aF ?_ ?_ ?_ ?_ (aF ?_ ?_ (bQ rfl) (bQ rfl) cZ)
  ·intro aR a w G1 _ _ aL hc hG HT hv;have H:=HT;clear aL;have Hb:=H.full;have H:=Hb;clear hc;refine aD 1 H ?_;clear H;intro a H;refine aC ⟨rfl,?_⟩;exact dG (by kernel_rfl) (fun _ _ _ _ _ h=>h) rfl rfl HT Hb hG hv (fun _ _ h=>h) (rfl) H
  ·intro aR a w G1 _ _ aL hc hG HT hv;have H:=HT;clear aL;have H:=H.aN (hv 0 5 (hc 0 (by decide)) rfl) rfl;have Hb:=H.full;have H:=Hb;clear hc;refine aD 1 H ?_;clear H;intro a H;refine aC ⟨rfl,?_⟩;exact dG (by kernel_rfl) (fun _ _ _ _ _ h=>h) rfl rfl HT Hb hG hv (fun _ _ h=>h) (rfl) H
  ·intro aR a w G1 _ _ aL hc hG HT hv;have H:=HT;clear aL;have Hb:=H.full;have H:=Hb;clear hc;refine aD 1 H ?_;clear H;intro a H;refine aC ⟨rfl,?_⟩;exact dG (by kernel_rfl) (fun _ _ _ _ _ h=>h) rfl rfl HT Hb hG hv (fun _ _ h=>h) (rfl) H
  ·intro aR a w G1 _ _ aL hc hG HT hv;have H:=HT;clear aL;have H:=H.aN (hv 2 7 (hc 2 (by decide)) rfl) rfl;have Hb:=H.full;have H:=Hb;clear hc;refine aD 1 H ?_;clear H;intro a H;refine aC ⟨rfl,?_⟩;exact dG (by kernel_rfl) (fun _ _ _ _ _ h=>h) rfl rfl HT Hb hG hv (fun _ _ h=>h) (rfl) H
  ·intro aR a w G1 _ _ aL hc hG HT hv;have H:=HT;clear aL;have Hb:=H.full;have H:=Hb;clear hc;refine aD 1 H ?_;clear H;intro a H;refine aC ⟨rfl,?_⟩;exact dG (by kernel_rfl) (fun _ _ _ _ _ h=>h) rfl rfl HT Hb hG hv (fun _ _ h=>h) (rfl) H
  intro _ _ _ _ _ hB;exact absurd hB (by decide)
 ·clear H;intro o_ aR a w G1 jW _ hc hG HT hv;obtain rfl:_=o_:=Option.some.inj jW;clear jW;have H:=HT;have H:=H.aN (hv 4 9 (hc 4 (by decide)) rfl) rfl;have H:=H.aN (hv 1 6 (hc 1 (by decide)) rfl) rfl;have Hb:=H.full;have H:=Hb;clear hc;refine aV bR 2 (vs:=[_]) _ H wn rfl rfl rfl rfl rfl rfl rfl rfl ?_;clear H;intro w H;dsimp only [List.set,setRow] at H;refine aC ⟨rfl,?_⟩;exact QS rfl HT hG hv H
 ·clear H;refine aF (bQ rfl) (bQ rfl) ?_ ?_ (aF (bQ rfl) ?_ (bQ rfl) (bQ rfl) cZ)
  ·intro aR a w G1 _ _ aL hc hG HT hv;have H:=HT;dsimp only [List.set,List.append,lca,bG] at H;clear aL;have Hb:=H.full;have H:=Hb;clear hc;refine aD 1 H ?_;clear H;intro a H;refine aC ⟨rfl,?_⟩;exact dG (by kernel_rfl) (fun _ _ _ _ _ h=>h) rfl rfl HT Hb hG hv (fun _ _ h=>h) (rfl) H
  ·intro aR a w G1 _ _ aL hc hG HT hv;have H:=HT;dsimp only [List.set,List.append,lca,bG] at H;clear aL;have H:=H.aN (hv 2 7 (hc 2 (by decide)) rfl) rfl;have Hb:=H.full;have H:=Hb;clear hc;refine aD 1 H ?_;clear H;intro a H;refine aC ⟨rfl,?_⟩;exact dG (by kernel_rfl) (fun _ _ _ _ _ h=>h) rfl rfl HT Hb hG hv (fun _ _ h=>h) (rfl) H
  intro _ _ _ _ _ hB;exact absurd hB (by decide)
 clear H;intro a w G iP H hv;dsimp only [List.set,List.append,lca,bG] at H;have H:=H.aN (hv 3 8 rfl rfl) rfl;clear hv;refine kH H (Rf ajL rfl ?_);clear H;intro a H;refine aV asb 2 (vs:=[_]) _ H wn rfl rfl rfl rfl rfl rfl rfl rfl ?_;clear H;intro w H;dsimp only [List.set,setRow] at H;refine aC ⟨rfl,?_⟩;refine dR ?_;refine Am ?_;refine aS jw (cs:=[_,_,_,_]) H wn rfl rfl (H.hp.bN 2 rfl rfl) rfl ?_;clear H;intro a H;refine aV jw 0 (vs:=[_,_,_,_]) _ H wn rfl rfl rfl rfl rfl rfl rfl rfl ?_;clear H;intro w H;dsimp only [List.set,setRow] at H;refine aC ?_;refine dR ?_;refine bZ ?_;refine (leave1 H results163 (.cons (kF jw (cs:=[_,_,_,_]) H rfl rfl (H.hp.bN 0 rfl rfl)) .nil) ?_).1;exact H.rt rfl
theorem asM (G:GH) (w0:World) (hG:Hold G w0) (ps:List aT) (io mo:Int) (p:aj) (dA lA:Option Addr) (dn dc ln lc:Nat) (hp:au G (.sl 2 (ps.map aT.dat)) p) (k:Int) (s:Int × Bool) (hl:ps.length≤4294967295) :
  Calls prog 164 #[.agg #[p,vi io,vi mo,.slice dA dn dc,.slice lA ln lc],vi k,Fz s] w0 (bB w0 G fun u G'=>∃ p',u=.agg #[p',vi io,vi mo,.slice dA dn dc,.slice lA ln lc]∧au G' (.sl 2 ((yG ps k s).map aT.dat)) p'):=by
 obtain ⟨pA,pn,pc,rfl⟩:=hp.form;refine eN [(0,_),(1,_),(2,_)] func164 rfl ntmps164 rfl rfl hG ?_;refine ak 1 ?_;intro a H;refine dP (cs:=[_,_,_,_,_]) H wn rfl rfl rfl ?_;clear H;intro b3 a w hb3 H;refine dP (cs:=[_,_]) H wn rfl rfl rfl ?_;clear H;intro b5 a w hb5 H;refine dz dw H wn rfl ?_;clear H;intro b6 a w hb6 H;refine gQ 6 H ?_ ?_ <;> clear H
 ·intro p8
  refine ak 6 ?_;intro a H;refine s_call ahD H wn rfl (ari _ _ H.ro ps k s.1 _ hp hl) rfl ?_;clear H;rintro v14 zU a w qH wR H;obtain ⟨PN,n14,c14,rfl⟩:=qH.form;refine aD 1 H ?_;clear H;intro a H;refine aV FE 2 (vs:=[_]) _ H wn rfl rfl rfl rfl rfl rfl rfl rfl ?_;clear H;intro w H;dsimp only [List.set,setRow] at H;refine aD 2 H ?_;clear H;intro a H;refine aS dw (cs:=[_,_,_,_,_]) H wn rfl rfl (H.hp.bN 2 rfl rfl) rfl ?_;clear H;intro a H;refine aV dw 0 (vs:=[_,_,_,_,_]) _ H wn rfl rfl rfl rfl rfl rfl rfl rfl ?_;clear H;intro w H;dsimp only [List.set,setRow] at H;refine aC ?_;refine dR ?_;refine bZ ?_;refine (leave1 H results164 (.cons (kF dw (cs:=[_,_,_,_,_]) H rfl rfl (H.hp.bN 0 rfl rfl)) .nil) ?_).1;exact H.rt ⟨_,rfl,by rw [yG,av (by assumption)];exact qH⟩
 intro p8
 refine ak 4 ?_;intro a H;refine s_call ahE H wn rfl (afk _ _ H.ro ps k _ hp hl) rfl ?_;clear H;rintro v19 FX a w Kk qF H;obtain ⟨FT,n19,c19,rfl⟩:=Kk.form;refine aD 1 H ?_;clear H;intro a H;refine aV FE 2 (vs:=[_]) _ H wn rfl rfl rfl rfl rfl rfl rfl rfl ?_;clear H;intro w H;dsimp only [List.set,setRow] at H;refine aD 2 H ?_;clear H;intro a H;refine aS dw (cs:=[_,_,_,_,_]) H wn rfl rfl (H.hp.bN 2 rfl rfl) rfl ?_;clear H;intro a H;refine aV dw 0 (vs:=[_,_,_,_,_]) _ H wn rfl rfl rfl rfl rfl rfl rfl rfl ?_;clear H;intro w H;dsimp only [List.set,setRow] at H;refine aC ?_;refine dR ?_;refine bZ ?_;refine (leave1 H results164 (.cons (kF dw (cs:=[_,_,_,_,_]) H rfl rfl (H.hp.bN 0 rfl rfl)) .nil) ?_).1;exact H.rt ⟨_,rfl,by rw [yG,ah (by simp_all)];exact Kk⟩
end
section
open Go.RowKit
theorem Ya:∀ args w,(callFunc 212 args).run prog w=.ok (.enter 212 args) w:=enters func212 rfl (by kernel_rfl)
def gP (q:Int × List cK):AP:=fun args g=>∃ v,args=[vi q.1,v]∧au g (.sl 4 (q.2.map cK.dat)) v
theorem Y0 {A:List (Int × List cK)} {k:Nat} {args:List aj} {g:GH} (h:xD (A.map gP) k args g):∃ (hk:k < A.length) (B:Option Addr) (c:Nat),args=[vi A[k].1,.slice B A[k].2.length c]∧au g (.sl 4 (A[k].2.map cK.dat)) (.slice B A[k].2.length c):=by
 obtain ⟨p,hp,hargs⟩:=h;rw [qM] at hp;obtain ⟨q,hq,rfl⟩:=oP.1 hp;obtain ⟨hk,rfl⟩:=jA.1 hq;obtain ⟨v,h1,h2⟩:=hargs;obtain ⟨B,n,c,rfl⟩:=h2.form;have hn:=h2.len;rw [bM] at hn;subst hn;exact ⟨hk,B,c,h1,h2⟩
theorem au.hd {G:GH} {sz:Nat} {rows:List (List Dat)} {A:Option Addr} {n c:Nat} (h:au G (.sl sz rows) (.slice A n c)) (m:Nat) (hm:m≤rows.length):au G (.sl sz (rows.take m)) (.slice A m c):=by
 have h2:=h.part 0 m (gW _) hm;obtain ⟨A',c',he,hc1,-,-⟩:=h.slice;rw [List.drop_zero,Nat.sub_zero,Nat.sub_zero] at h2
 by_cases hc:c=0
 ·rw [av hc] at h2;exact h2
 rw [ah hc] at h2
 cases A with
 | none=>exact h2
 | some p=>simpa [Addr.add] using h2
theorem Pm {α:Type} {p:α→Bool}:∀ (r:List α) (i:Nat) (hi:i < r.length),i≤(r.takeWhile p).length→(p r[i]=true↔i < (r.takeWhile p).length)
 | [],_,hi,_=>absurd hi (by simp)
 | x :: r,i,hi,h=>by
  rw [List.takeWhile_cons] at h ⊢
  cases hx:p x
  ·rw [hx] at h
   simp only [rD,if_false,List.length_nil,Nat.le_zero] at h
   subst h
   simp [hx]
  rw [hx] at h
  simp only [if_true,ku] at h ⊢
  cases i with
  | zero=>simp [hx]
  | succ i=>simpa using Pm r i (by simpa using hi) (by omega)
theorem acH {α:Type} {p:α→Bool} (r:List α):r.drop (r.takeWhile p).length=r.dropWhile p:=by
 conv=>lhs;rw [← List.takeWhile_append_dropWhile (p:=p) (l:=r)]
 rw [List.drop_append_of_le_length (by simp [List.takeWhile_append_dropWhile])]
 simp [List.takeWhile_append_dropWhile]
theorem acI {α:Type} {p:α→Bool} (r:List α):r.take (r.takeWhile p).length=r.takeWhile p:=by
 have:=List.take_left (l₁:=r.takeWhile p) (l₂:=r.dropWhile p)
 rwa [List.takeWhile_append_dropWhile] at this
theorem akr {G:GH} {bd:Nat} {l:List cK} {v:aj} (hb:aI G bd 4=some v) (hv:au G (.sl 4 (l.map cK.dat)) v) (hz:l.length≤4294967290) :
  Iter prog G (.func (.func 212) #[] #[(aG bd 0)]) ((pV l.length l).map gP):=by
 intro J Jx fv G1 L w0 hfv hGi Ao hJx hJ hO hcb;refine iN (caps:=[(aG bd 0)]) Ya ?_;obtain ⟨A,c,rfl,hc1,hc2,hg⟩:=hv.slice;rw [bM] at *;replace hb:=aH hGi hb;refine jg (N:=42) (T:=[(0,_),(1,_)]) func212 rfl ntmps212 rfl rfl hO ?_;refine ak 7 ?_;intro a H;refine eH (ι:=Nat × List cK × Option Addr × Nat × Nat × OL × GH) (Tc:=[(0,_)]) (Lc:=[]) (fun gh=>[(3,.slice gh.2.2.1 gh.2.1.length gh.2.2.2.1)]) (fun gh=>[]++gh.2.2.2.2.2.1) (fun gh=>gh.2.2.2.2.2.2) (fun gh=>gh.2.1.length≤gh.1∧gh.2.1.length≤4294967290∧(∀ b o,G1 b=some o→gh.2.2.2.2.2.2 b=some o)∧au gh.2.2.2.2.2.2 (.sl 4 (gh.2.1.map cK.dat)) (.slice gh.2.2.1 gh.2.1.length gh.2.2.2.1)∧Now ((pV l.length l).map gP) gP J (pV l.length l).length gh.2.2.2.2.1 (pV gh.1 gh.2.1) gh.2.2.2.2.2.2 gh.2.2.2.2.2.1) (fun gh=>gh.2.1.length) ((l.length,l,A,c,0,L,G1)) sB ?_ ?_
 ·exact ⟨bP _,hz,fun _ _ h=>h,hv.mono hGi,⟨hJ,fun i a h=>by rw [fV,qM];rw [h];rfl,by simp⟩⟩
 clear H;rintro ⟨f,rest,B,d,j1,Lt,g⟩ a w hI H;dsimp only at hI H;obtain ⟨hf,hzr,hgm,om,iW⟩:=hI;dsimp only [lca,bG] at H;refine dQ 6 H ?_ ?_ <;> clear H
 ·intro iD
  obtain ⟨y,r,rfl⟩:∃ y r,rest=y :: r:=by cases rest with|nil=>simp at iD|cons y r=>exact ⟨y,r,rfl⟩
  obtain ⟨f,rfl⟩:∃ f',f=f'+1:=⟨f - 1,by rw [ku] at hf;omega⟩;rw [pV] at iW;obtain ⟨b,o,rfl,hr0⟩:=Dx om (k:=0) (by simp);obtain ⟨p,hp⟩:∃ p:cK→Bool,p=fun z=>decide (z.key=y.key):=⟨_,rfl⟩;rw [← hp] at iW;refine ak 7 ?_;intro a H;refine eH (ι:=Nat × GH) (Tc:=[(0,_),(3,_)]) (Lc:=[]) (fun gh=>[(4,vi gh.1)]) (fun gh=>[]++Lt) (fun gh=>gh.2) (fun gh=>1≤gh.1∧gh.1≤1+(r.takeWhile p).length∧(∀ b o,g b=some o→gh.2 b=some o)) (fun gh=>(y :: r).length - gh.1) ((1,g)) sB ?_ ?_
  ·exact ⟨bP _,by omega,fun _ _ h=>h⟩
  clear H;rintro ⟨m,g3⟩ a w hI H;dsimp only at hI H;obtain ⟨hm1,hm2,hg3⟩:=hI;dsimp only [lca,bG] at H;refine Dh ?_;refine Dh ?_
  obtain ⟨km,hkm⟩:∃ km:Int,∀ (h:m < (y :: r).length),(y :: r)[m].key=km:=by
   by_cases h:m < (y :: r).length
   ·exact ⟨((y :: r)[m]'h).key,fun _=>rfl⟩
   exact ⟨0,fun h2=>absurd h2 h⟩
  have hkc:m < (y :: r).length→aI g b (o+m*4+1)=some (vi km):=fun h=>by
   obtain ⟨b',o',he,hrm⟩:=Dx om (k:=m) h
   injection he with he
   injection he with e1 e2
   subst e1 e2;rw [← hkm h];exact hrm 1 _ rfl
  have hlen:(y :: r).length=r.length+1:=rfl
  have hdc:(y :: r).length≤d:=by
   obtain ⟨_,_,he,h1,-,-⟩:=om.slice
   injection he with _ _ e3
   rw [bM] at h1
   omega
  have htl:(r.takeWhile p).length≤r.length:=(List.takeWhile_sublist (l:=r) p).length_le
  by_cases c0:(m:Int) < ((y :: r).length:Int)
  ·refine dI hmx [[],[],[1],[0,1,2],(ra 0 4),(ra 0 5),(ra 0 5),(ra 0 7),(ra 0 8),(ra 0 9),(ra 0 5),[0,1,2,3,4,10],[0,1,2,3,4,10,11],[0,1,2,3,4,10,11,12],(ra 0 14),(ra 0 15)] [] (by kernel_rfl) [_,_,_,_,_,_,_,(aG b (o+m*4)),_,_,_,(aG b (o+0*4)),_,_,_,_] H (aF (Z0 rfl (Rm rfl)) (Z0 rfl (Rm rfl)) (Z1 1 12 rfl (Rl oC rfl)) (Z2 0 11 2 13 rfl (Rc rfl)) (aF (Z1 3 14 rfl (Rm rfl)) (Z1 4 15 rfl (YM (aK c0) rfl)) (Z1 4 15 rfl (YM (aK c0) rfl)) ?_ (aF (Z2 7 18 4 15 rfl (YF xQ (aK c0) rfl)) (X2 8 19 4 15 rfl fun hG=>YR bR (aK c0) rfl (aH hG (aH hg3 (hkc (by omega))))) (Z1 4 15 rfl (YM (aK c0) rfl)) ?_ (aF (Z2 11 22 4 15 rfl (YF xQ (aK c0) rfl)) (X2 12 23 4 15 rfl fun hG=>YR bR (aK c0) rfl (aH hG (aH hg3 (hr0 1 _ rfl)))) (Z3 9 20 13 24 4 15 rfl (YC (aK c0) rfl)) (Z2 4 15 14 25 rfl (Pt (aK c0) rfl)) cZ)))) ?_
   ·refine xI 5 16 6 17 4 15 rfl rfl fun _ a w G1 hG HT H fin=>?_;refine xq oC jw m H (wg H rfl rfl (aK c0)) rfl rfl rfl (by omega) rfl ?_;clear H;intro a H;exact fin H iJ rfl
   ·refine dH 10 21 4 15 rfl rfl fun _ a w G1 hG HT H fin=>?_;refine xq oC jw 0 H (wg H rfl rfl (aK c0)) rfl rfl rfl (by simp) rfl ?_;clear H;intro a H;exact fin H iJ rfl
   clear H;intro a w G tH H hv;have H:=H.aN (hv 15 26 rfl rfl) rfl;clear hv;refine t0 1 H ?_;clear H;refine goB 0 ?_ ?_
   ·intro p26
    have hmr:m - 1 < (r.takeWhile p).length:=by
     refine (Pm (p:=p) r (m - 1) (by omega) (by omega)).1 ?_;have h1:=hkm (by omega)
     have h2:(y :: r)[m]=r[m - 1]:=by
      obtain ⟨q,rfl⟩:∃ q,m=q+1:=⟨m - 1,by omega⟩
      rfl
     rw [hp];rw [h2] at h1;exact iT (by rw [h1];exact p26)
    refine ak 6 ?_;intro a H;refine aC ?_;refine cB ((m+1,_)) sB ?_ ?_
    ·(try dsimp only);exact ⟨by omega,by omega,fun b o h=>tH b o (hg3 b o h)⟩
    first|omega|(dsimp only;omega)
   intro p26
   refine ak 3 ?_
   have hmr:m=1+(r.takeWhile p).length:=by
    by_cases hlt:m < 1+(r.takeWhile p).length
    ·exfalso
     have h1:=(Pm (p:=p) r (m - 1) (by omega) (by omega)).2 (by omega);have h3:=hkm (by omega)
     have h2:(y :: r)[m]=r[m - 1]:=by
      obtain ⟨q,rfl⟩:∃ q,m=q+1:=⟨m - 1,by omega⟩
      rfl
     have h4:=mD ((congrFun hp _).symm.trans h1);rw [h2] at h3;rw [h3] at h4
     first|exact p26 h4|exact c0 (by omega)
    omega
   have htk:(y :: r).take m=y :: r.takeWhile p:=by rw [hmr,Nat.add_comm,List.take_succ_cons,acI]
   have hdr:(y :: r).drop m=r.dropWhile p:=by rw [hmr,Nat.add_comm,List.drop_succ_cons,acH]
   rw [← htk,← hdr] at iW;intro a H;refine dI hmx [[],[],[1],[1,2],[1,2,3],[],[],[5,6],(ra 0 8),(ra 0 9)] [8,9] (by kernel_rfl) [_,_,(aG b (o+0*4)),_,_,_,_,.slice (some ⟨b,o,none⟩) m d] H (aF (Z0 rfl (Rm rfl)) (Z0 rfl (Rm rfl)) ?_ (Z1 2 31 rfl (Rf xQ rfl)) (aF (X1 3 32 rfl fun hG=>Rg bR rfl (aH hG (aH tH (aH hg3 (hr0 1 _ rfl))))) (Z0 rfl (Rm rfl)) (Z0 rfl (Rm rfl)) ?_ (bH (bQ rfl) (bH (bQ rfl) cZ)))) ?_
   ·refine eu 1 30 rfl rfl fun _ a w G1 hG HT H fin=>?_;refine xq oC jw 0 H wn rfl rfl rfl (by simp) rfl ?_;clear H;intro a H;exact fin H iJ rfl
   ·refine dH 5 34 6 35 rfl rfl fun _ a w G1 hG HT H fin=>?_;refine DU oC jw m H wn rfl rfl rfl (by omega) rfl ?_;clear H;intro a H;exact fin H iJ rfl
   clear H;intro a w G kU H hv;have H:=H.aN (hv 0 29 rfl rfl) rfl;have H:=H.aN (hv 4 33 rfl rfl) rfl;have H:=H.aN (hv 7 36 rfl rfl) rfl;clear hv;refine Cq (Li:=[]) (L:=Lt) H wn rfl rfl (hcb j1 _ _ _ _ ⟨_,iW.head,_,rfl,by rw [List.map_take];exact ((om.hd m (by simp;omega)).mono fun b o h=>kU b o (tH b o (hg3 b o h)))⟩ (fun b o h=>kU b o (tH b o (hg3 b o (hgm b o h)))) (Ao _ _ _ _ (fun b o h=>kU b o (tH b o (hg3 b o h))) iW.now) (Hp.owns (Li:=[]) H.hp)) rfl ?_;clear H;rintro v37 I4 F5 a w ⟨b37,rfl,hb1,hb2⟩ BP H;refine kH H (Rn rfl ?_);clear H;intro a H;refine aC ⟨rfl,?_⟩;refine dR ?_;refine R6 0 H ?_ ?_ <;> clear H
   ·intro mF
    try have p38:=dT mF
    intro a H;refine bZ ?_;refine (leave0 H results212 ?_).1
    first
     | exact H.hp.kE (L':=F5) (by repeat (first|exact jT _|apply List.Sublist.cons)) (.inr (hb2 (by simpa using mF)))
     | exact H.hp.dJ (.inl (by
       have:=iW.len;rw [show rest=[] from List.eq_nil_of_length_eq_zero (by omega)] at this
       cases f <;> (simp only [pV,List.length_nil,wG] at this;first|(rw [bM,← this];exact iW.now)|(rw [← this];exact iW.now))))
   intro mF
   try have p38:=dF mF
   refine ak 4 ?_;intro a H;refine yx oC jw m H wn rfl rfl rfl (by omega) rfl ?_;clear H;refine ak 1 ?_;intro a H;refine aC ?_;refine cB ((f,(y :: r).drop m,_,d - m,j1+1,F5,I4)) (by exact (show St _ _ _ _ _ _ _ ((3,.slice _ ((y :: r).drop m).length (d - m)) :: _) _ _ from by rw [List.length_drop];exact H).sub ⟨rfl,rfl,aU⟩) ?_ ?_
   ·(try dsimp only);refine ⟨by rw [List.length_drop];omega,by rw [List.length_drop];omega,fun b o h=>BP b o (kU b o (tH b o (hg3 b o (hgm b o h)))),?_,iW.step (hb1 (by simpa using mF))⟩;have h1:=om.part m (y :: r).length (by omega) (by simp);rw [← List.map_drop,fK (by simp)] at h1;rw [List.length_drop];exact h1.mono fun b o h=>BP b o (kU b o (tH b o (hg3 b o h)))
   show ((y :: r).drop m).length < (y :: r).length;rw [List.length_drop];omega
  refine dI hmx [[],[],[1],[0,1,2],(ra 0 4),(ra 0 5),(ra 0 5),(ra 0 7),(ra 0 8),(ra 0 9),(ra 0 5),[0,1,2,3,4,10],[0,1,2,3,4,10,11],[0,1,2,3,4,10,11,12],(ra 0 14),(ra 0 15)] [] (by kernel_rfl) [_,_,_,_,_,undef,undef,undef,undef,undef,undef,undef,undef,undef,undef,_] H (aF (Z0 rfl (Rm rfl)) (Z0 rfl (Rm rfl)) (Z1 1 12 rfl (Rl oC rfl)) (Z2 0 11 2 13 rfl (Rc rfl)) (aF (Z1 3 14 rfl (Rm rfl)) (aZ 4 (bD c0) rfl rfl) (aZ 4 (bD c0) rfl rfl) (aZ 4 (bD c0) rfl rfl) (aF (aZ 4 (bD c0) rfl rfl) (aZ 4 (bD c0) rfl rfl) (aZ 4 (bD c0) rfl rfl) (aZ 4 (bD c0) rfl rfl) (aF (aZ 4 (bD c0) rfl rfl) (aZ 4 (bD c0) rfl rfl) (aZ 4 (bD c0) rfl rfl) (Z2 4 15 14 25 rfl (Pf (bD c0) rfl)) cZ)))) ?_
  clear H;intro a w G tH H hv;have H:=H.aN (hv 15 26 rfl rfl) rfl;clear hv;refine t0 5 H ?_;clear H
  have hmr:m=1+(r.takeWhile p).length:=by
   by_cases hlt:m < 1+(r.takeWhile p).length
   ·exfalso
    have h1:=(Pm (p:=p) r (m - 1) (by omega) (by omega)).2 (by omega);have h3:=hkm (by omega)
    have h2:(y :: r)[m]=r[m - 1]:=by
     obtain ⟨q,rfl⟩:∃ q,m=q+1:=⟨m - 1,by omega⟩
     rfl
    have h4:=mD ((congrFun hp _).symm.trans h1);rw [h2] at h3;rw [h3] at h4
    first|exact p26 h4|exact c0 (by omega)
   omega
  have htk:(y :: r).take m=y :: r.takeWhile p:=by rw [hmr,Nat.add_comm,List.take_succ_cons,acI]
  have hdr:(y :: r).drop m=r.dropWhile p:=by rw [hmr,Nat.add_comm,List.drop_succ_cons,acH]
  rw [← htk,← hdr] at iW;intro a H;refine dI hmx [[],[],[1],[1,2],[1,2,3],[],[],[5,6],(ra 0 8),(ra 0 9)] [8,9] (by kernel_rfl) [_,_,(aG b (o+0*4)),_,_,_,_,.slice (some ⟨b,o,none⟩) m d] H (aF (Z0 rfl (Rm rfl)) (Z0 rfl (Rm rfl)) ?_ (Z1 2 31 rfl (Rf xQ rfl)) (aF (X1 3 32 rfl fun hG=>Rg bR rfl (aH hG (aH tH (aH hg3 (hr0 1 _ rfl))))) (Z0 rfl (Rm rfl)) (Z0 rfl (Rm rfl)) ?_ (bH (bQ rfl) (bH (bQ rfl) cZ)))) ?_
  ·refine eu 1 30 rfl rfl fun _ a w G1 hG HT H fin=>?_;refine xq oC jw 0 H wn rfl rfl rfl (by simp) rfl ?_;clear H;intro a H;exact fin H iJ rfl
  ·refine dH 5 34 6 35 rfl rfl fun _ a w G1 hG HT H fin=>?_;refine DU oC jw m H wn rfl rfl rfl (by omega) rfl ?_;clear H;intro a H;exact fin H iJ rfl
  clear H;intro a w G kU H hv;have H:=H.aN (hv 0 29 rfl rfl) rfl;have H:=H.aN (hv 4 33 rfl rfl) rfl;have H:=H.aN (hv 7 36 rfl rfl) rfl;clear hv;refine Cq (Li:=[]) (L:=Lt) H wn rfl rfl (hcb j1 _ _ _ _ ⟨_,iW.head,_,rfl,by rw [List.map_take];exact ((om.hd m (by simp;omega)).mono fun b o h=>kU b o (tH b o (hg3 b o h)))⟩ (fun b o h=>kU b o (tH b o (hg3 b o (hgm b o h)))) (Ao _ _ _ _ (fun b o h=>kU b o (tH b o (hg3 b o h))) iW.now) (Hp.owns (Li:=[]) H.hp)) rfl ?_;clear H;rintro v37 I4 F5 a w ⟨b37,rfl,hb1,hb2⟩ BP H;refine kH H (Rn rfl ?_);clear H;intro a H;refine aC ⟨rfl,?_⟩;refine dR ?_;refine R6 0 H ?_ ?_ <;> clear H
  ·intro mF
   try have p38:=dT mF
   intro a H;refine bZ ?_;refine (leave0 H results212 ?_).1
   first
    | exact H.hp.kE (L':=F5) (by repeat (first|exact jT _|apply List.Sublist.cons)) (.inr (hb2 (by simpa using mF)))
    | exact H.hp.dJ (.inl (by
      have:=iW.len;rw [show rest=[] from List.eq_nil_of_length_eq_zero (by omega)] at this
      cases f <;> (simp only [pV,List.length_nil,wG] at this;first|(rw [bM,← this];exact iW.now)|(rw [← this];exact iW.now))))
  intro mF
  try have p38:=dF mF
  refine ak 4 ?_;intro a H;refine yx oC jw m H wn rfl rfl rfl (by omega) rfl ?_;clear H;refine ak 1 ?_;intro a H;refine aC ?_;refine cB ((f,(y :: r).drop m,_,d - m,j1+1,F5,I4)) (by exact (show St _ _ _ _ _ _ _ ((3,.slice _ ((y :: r).drop m).length (d - m)) :: _) _ _ from by rw [List.length_drop];exact H).sub ⟨rfl,rfl,aU⟩) ?_ ?_
  ·(try dsimp only);refine ⟨by rw [List.length_drop];omega,by rw [List.length_drop];omega,fun b o h=>BP b o (kU b o (tH b o (hg3 b o (hgm b o h)))),?_,iW.step (hb1 (by simpa using mF))⟩;have h1:=om.part m (y :: r).length (by omega) (by simp);rw [← List.map_drop,fK (by simp)] at h1;rw [List.length_drop];exact h1.mono fun b o h=>BP b o (kU b o (tH b o (hg3 b o h)))
  show ((y :: r).drop m).length < (y :: r).length;rw [List.length_drop];omega
 intro iD
 intro a H;refine yS ?_;refine (leave0 H results212 ?_).2
 first
  | exact H.hp.kE (L':=F5) (by repeat (first|exact jT _|apply List.Sublist.cons)) (.inr (hb2 (by simpa using mF)))
  | exact H.hp.dJ (.inl (by
    have:=iW.len;rw [show rest=[] from List.eq_nil_of_length_eq_zero (by omega)] at this
    cases f <;> (simp only [pV,List.length_nil,wG] at this;first|(rw [bM,← this];exact iW.now)|(rw [← this];exact iW.now))))
theorem aol (G:GH) (w0:World) (hG:Hold G w0) (h:dW) (p d l:aj) (hh:fC G h p d l) (hz:h.marks.layers.length≤4294967290) :
  Calls prog 160 #[pq h p d l] w0 (bB w0 G fun u G'=>∃ bd,u=.func (.func 212) #[] #[(aG bd 0)]∧Iter prog G' u ((pV h.marks.layers.length h.marks.layers).map gP)):=by
 obtain ⟨pA,pn,pc,rfl⟩:=hh.props.form;obtain ⟨dA,dn,dc,rfl⟩:=hh.bL.form;obtain ⟨lA,ln,lc,rfl⟩:=hh.layers.form;refine eN [(0,_)] func160 rfl ntmps160 rfl rfl hG ?_;refine ak 1 ?_;intro a H;refine dP (cs:=[_,_,_,_,_]) H wn rfl rfl rfl ?_;clear H;intro b1 a w hb1 H;refine aD 3 H ?_;clear H;intro a H;refine nS H wn rfl rfl ?_;clear H;refine ak 2 ?_;intro a H;refine bZ ?_;obtain ⟨G2,hm2,hb1,H⟩:=H.dZ;refine lv H results160 rfl ?_;exact H.rt ⟨b1,rfl,akr (v:=.slice lA ln lc) (by unfold aI;rw [hb1];rfl) (hh.layers.mono hm2) hz⟩
end
section
open Go.RowKit
theorem kL {G:GH} {b:Nat} {cs:List aj} {e:TypeId} {q:Nat × Nat} (h:G b=some (.cells cs.toArray e q)) (k:Nat) (ds:List aj) (hd:ds=(cs.drop k).take ds.length) (j:Nat) (v:aj) (hj:ds[j]?=some v):aI G b (k+j)=some v:=by
 unfold aI
 rw [h]
 show cs.toArray[k+j]?=some v
 rw [hd,rE] at hj
 split at hj
 ·simpa using hj
 cases hj
end
end Go.Proofs.YtdiflmikikiedaaGreat
