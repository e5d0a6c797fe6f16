/-
  What the claim stands on, part 4: Hdr Hea Frm Itc Vis Okd Rws Itm Its Rvs Chd Ck13 Nf Vc Ubf Av16 Frs Hds Np13 Nq13 Rs24 Iat Bi13 Mk24 Mg24 Gco.
-/
import Derived.Test.YtdiflmikikiedaaGreatWac
namespace Go.Proofs.YtdiflmikikiedaaGreat
set_option linter.all false
open Go.Proofs.Tryz
set_option maxRecDepth 20000
set_option maxHeartbeats 4000000
section
open Go.RowKit
instance Yg:dR prog 161 0 0:=⟨by kernel_rfl⟩
instance xI:dR prog 161 1 1:=⟨by kernel_rfl⟩
instance ajr:dR prog 161 3 3:=⟨by kernel_rfl⟩
instance MW:dR prog 161 2 2:=⟨by kernel_rfl⟩
theorem QH:∀ args w,(callFunc 130 args).run prog w=.ok (.enter 130 args) w:=enters func130 rfl (by kernel_rfl)
variable {us:List Int}
structure bN where
 st:List bS
 uL:List Int
 zI:List Int
 us:List Int
abbrev bE (us:List Int) (st:List bS) (li:List eD) (rv:List bX):bN:=⟨st,li.map eD.id,rv.map bX.id,us⟩
theorem Dp {G:GH} {l:List cK} {A:Option Addr} {n c k:Nat} (hv:au G (.sl 4 (l.map cK.dat)) (.slice A n c)) (hk:k < l.length):∃ b o,A=some ⟨b,o,none⟩∧(∀ j u,l[k].cells[j]?=some u→aI G b (o+k*4+j)=some u):=by
 obtain ⟨A',c',he,_,_,hg⟩:=hv.slice
 injection he with e1 e2 e3
 subst e1;obtain ⟨b,o,cs,h1,h2,h3,h4⟩:=hg k l[k].dat (by simp [hk]);have:=TW h4;subst this;exact ⟨b,o,h1,h3⟩
theorem MQ {G:GH} {l:List fF} {A:Option Addr} {n c k:Nat} (hv:au G (.sl 2 (l.map fF.dat)) (.slice A n c)) (hk:k < l.length):∃ b o,A=some ⟨b,o,none⟩∧(∀ j u,l[k].cells[j]?=some u→aI G b (o+k*2+j)=some u):=by
 obtain ⟨A',c',he,_,_,hg⟩:=hv.slice
 injection he with e1 e2 e3
 subst e1;obtain ⟨b,o,cs,h1,h2,h3,h4⟩:=hg k l[k].dat (by simp [hk]);have:=Jk h4;subst this;exact ⟨b,o,h1,h3⟩
def vT (C:bN) (e:Int) (k:Nat) (x:cK) (pk:Int):Int :=
 if x.rev∉C.zI then 22 else if rG e x.key=false then 4 else if 0 < k∧x.key < pk then 6 else if x.had=false then dx (decide (x.before≠0)) 21 else dh [rC x.key x.before,nP C.st C.uL x.key x.before]
def xP (C:bN) (e:Int) (l:List cK) (k:Nat):Int:=match l[k]? with|some x=>vT C e k x ((l[k - 1]?.map cK.key).getD 0)|none=>0
theorem anp (G:GH) (w0:World) (hG:Hold G w0) (st:List bS) (li:List eD) (rv:List bX) (b ms ml mr mb mu:Nat) (n:Int) (hck:uW us G st li rv ms ml mr mu) (hb:G b=some (fO b ms ml mr mb mu n).2)
  (e:Int) (l:List cK) (v:aj) (hv:au G (.sl 4 (l.map cK.dat)) v) (k:Nat) (hk:k < l.length) :
  Calls prog 132 #[(aG b 0),vi e,v,vi k] w0 (bC w0 G fun u G'=>u=vi (xP (bE us st li rv) e l k)):=by
 have hc2:aI G b 2=some (.map (some mr)):=by unfold aI;rw [hb];rfl
 obtain ⟨A,c,rfl,hl1,hl2,-⟩:=hv.slice;have hml:maxLen=9223372036854775807:=rfl;rw [bM] at *;obtain ⟨xb,xo,rfl,hrow⟩:=Dp hv hk
 have hk1:k - 1 < l.length:=by omega
 obtain ⟨b',o',he',hrow'⟩:=Dp hv hk1
 injection he' with he'
 injection he' with e1 e2
 subst e1;subst e2
 have he:xP (bE us st li rv) e l k=vT (bE us st li rv) e k l[k] l[k - 1].key:=by unfold xP;rw [eO hk,eO hk1];rfl
 obtain ⟨x,hx⟩:∃ x,x=l[k]:=⟨_,rfl⟩;obtain ⟨y,hy⟩:∃ y,y=l[k - 1]:=⟨_,rfl⟩;rw [← hx] at hrow he;rw [← hy] at hrow' he;have hq:=hrow' 1 _ rfl;refine eN [(0,_),(1,_),(2,_),(3,_)] func132 rfl ntmps132 rfl rfl hG ?_;refine ak 7 ?_;intro a H;refine aR jv (cs:=x.cells) H wn rfl rfl (fun j v hj=>H.hp.aI (hrow j v hj)) rfl ?_;clear H;intro a H;refine dz jv H wn rfl ?_;clear H;intro b9 a w tC H;refine aX jv 0 (vs:=[_,_,_,_]) _ H wn rfl rfl rfl rfl rfl rfl rfl rfl ?_;clear H;intro w H;dsimp only [List.set,setRow] at H;refine aD 4 H ?_;clear H;intro a H;refine dI hmx [[],[0],[0,1],[0,1,2],[],[4],(ra 0 6),(ra 0 7),(ra 0 8)] [8] (by kernel_rfl) [_,_,_,_,_,vi x.rev,.bool (decide (x.rev∈rv.map bX.id)),_] H (aF (Z0 rfl (Rm rfl)) (Z1 0 15 rfl (Rk rfl)) (Z1 1 16 rfl (Rf Jq rfl)) (X1 2 17 rfl fun hG=>Rg DN rfl (aH hG hc2)) (aF (Z0 rfl (Rf Yg rfl)) (Z1 4 19 rfl (Ro bR 0 rfl)) ?_ (Z1 6 21 rfl (Rn rfl)) (bH (bQ rfl) cO))) ?_
 ·refine dD 3 18 5 20 rfl rfl fun _ a w G1 hG HT H fin=>?_;refine zJ (zv:=.bool false) uT kE (by kernel_rfl) H wn rfl rfl (H.ro _ _ (hG _ _ hck.rev)) rfl ?_;clear H;intro a H;rw [Dr] at H;exact fin H iJ rfl
 clear H;intro a w G BA H hv;have H:=H.aN (hv 7 22 rfl rfl) rfl;clear hv;refine t1 2 H ?_;clear H;refine goB 0 ?_ ?_
 ·intro jX
  refine aP 3 ?_;rw [he];refine aB vi ?_;clear he hrow hrow' hq hx hy;unfold vT;(repeat' split) <;> first|rfl|(simp_all;done)|(exfalso;simp_all;done)
 intro jX
 refine ak 4 ?_;intro a H;refine s_call XO H wn rfl (WC (Yr _ _ H.ro e x.key)) rfl ?_;clear H;rintro v27 _ a w ⟨⟨_,rfl⟩,rfl⟩ - H;refine gF 3 H ?_ ?_ <;> clear H
 ·intro Az
  refine aP 3 ?_;rw [he];refine aB vi ?_;clear he hrow hrow' hq hx hy;unfold vT;(repeat' split) <;> first|rfl|(simp_all;done)|(exfalso;simp_all;done)
 intro Az
 refine ak 1 ?_;replace hq:=aH BA hq
 intro a H;by_cases c0:0 < (k:Int)
 ·skip
  by_cases c1:x.key < y.key
  ·refine dI hmx [[],[0],[0,1],[0,1,2],(ra 0 4),[0,1,2],[0,1,2],[0,1,2,6],[0,1,2,5,6,7],[0,1,2,5,6,7,8],[0,1,2,5,6,7,8,9],(ra 0 11),(ra 0 12),(ra 0 13)] [13] (by kernel_rfl) [_,_,_,_,vi x.key,_,_,vi ((k - 1:Nat):Int),_,_,_,_,_] H (aF (Z0 rfl (Rm rfl)) (Z1 0 30 rfl (Rc rfl)) (Z1 1 31 rfl (Rm rfl)) (Z1 2 32 rfl (YF xI (aK c0) rfl)) (aF (Z2 3 33 2 32 rfl (YO bR 0 (aK c0) rfl)) (Z1 2 32 rfl (YM (aK c0) rfl)) (Z1 2 32 rfl (YM (aK c0) rfl)) ?_ (aF (Z3 5 35 7 37 2 32 rfl (YI oz jv (aK c0) rfl rfl)) (Z2 8 38 2 32 rfl (YF xI (aK c0) rfl)) (X2 9 39 2 32 rfl fun hG=>YR bR (aK c0) rfl (aH hG hq)) (Z3 4 34 10 40 2 32 rfl (YC (aK c0) rfl)) (bH (Z2 2 32 11 41 rfl (Pt (aK c0) rfl)) (bH (bQ rfl) cO))))) ?_
   ·refine dD 6 36 2 32 rfl rfl fun _ a w G1 hG HT H fin=>?_;refine lK _ H (wg H rfl rfl (aK c0)) rfl rfl rfl (by omega) (by omega) rfl ?_;clear H;intro a H;exact fin H iJ (by show _=_;first|rfl|exact aB vi (by omega))
   clear H;intro a w G gD H hv;have H:=H.aN (hv 12 42 rfl rfl) rfl;clear hv;refine t1 3 H ?_;clear H;have hz:0 < k∧x.key < y.key:=⟨by omega,c1⟩;refine aP 3 ?_;rw [he];refine aB vi ?_;clear he hrow hrow' hq hx hy;unfold vT;(repeat' split) <;> first|rfl|(simp_all;done)|(exfalso;simp_all;done)
  refine dI hmx [[],[0],[0,1],[0,1,2],(ra 0 4),[0,1,2],[0,1,2],[0,1,2,6],[0,1,2,5,6,7],[0,1,2,5,6,7,8],[0,1,2,5,6,7,8,9],(ra 0 11),(ra 0 12),(ra 0 13)] [13] (by kernel_rfl) [_,_,_,_,vi x.key,_,_,vi ((k - 1:Nat):Int),_,_,_,_,_] H (aF (Z0 rfl (Rm rfl)) (Z1 0 30 rfl (Rc rfl)) (Z1 1 31 rfl (Rm rfl)) (Z1 2 32 rfl (YF xI (aK c0) rfl)) (aF (Z2 3 33 2 32 rfl (YO bR 0 (aK c0) rfl)) (Z1 2 32 rfl (YM (aK c0) rfl)) (Z1 2 32 rfl (YM (aK c0) rfl)) ?_ (aF (Z3 5 35 7 37 2 32 rfl (YI oz jv (aK c0) rfl rfl)) (Z2 8 38 2 32 rfl (YF xI (aK c0) rfl)) (X2 9 39 2 32 rfl fun hG=>YR bR (aK c0) rfl (aH hG hq)) (Z3 4 34 10 40 2 32 rfl (YC (aK c0) rfl)) (bH (Z2 2 32 11 41 rfl (Pt (aK c0) rfl)) (bH (bQ rfl) cO))))) ?_
  ·refine dD 6 36 2 32 rfl rfl fun _ a w G1 hG HT H fin=>?_;refine lK _ H (wg H rfl rfl (aK c0)) rfl rfl rfl (by omega) (by omega) rfl ?_;clear H;intro a H;exact fin H iJ (by show _=_;first|rfl|exact aB vi (by omega))
  clear H;intro a w G gD H hv;have H:=H.aN (hv 12 42 rfl rfl) rfl;clear hv;refine t1 3 H ?_;clear H
  have hz:¬ (0 < k∧x.key < y.key):=by first|exact fun h=>c1 h.2|exact fun h=>c0 (by omega)
  refine goB 6 ?_ ?_
  ·intro p43
   refine ak 4 ?_;intro a H;refine s_call jA H wn rfl (jF _ _ H.ro _ 21) rfl ?_;clear H;rintro v50 _ a w ⟨rfl,rfl⟩ - H;refine fu 2 H ?_;rw [he];refine aB vi ?_;clear he hrow hrow' hq hx hy;unfold vT;(repeat' split) <;> first|rfl|(simp_all;done)|(exfalso;simp_all;done)
  intro p43
  refine ak 2 ?_;replace hck:=(hck.mono BA).mono gD;replace hb:=gD _ _ (BA _ _ hb);intro a H;refine dI hmx [[],[0],[],[2],(ra 0 4),[],[],[6],[],[8],(ra 0 10),(ra 0 11),(ra 0 12),(ra 0 13)] [11,12,13] (by kernel_rfl) [_,vi x.key,_,vi x.before,vi (rC x.key x.before),_,_,vi x.key,_,vi x.before,vi (nP st (li.map eD.id) x.key x.before)] H (aF (Z0 rfl (Rf xI rfl)) (Z1 0 51 rfl (Ro bR 0 rfl)) (Z0 rfl (Rf MW rfl)) (Z1 2 53 rfl (Ro bR 0 rfl)) (aF ?_ (Z0 rfl (Rm rfl)) (Z0 rfl (Rf xI rfl)) (Z1 6 57 rfl (Ro bR 0 rfl)) (aF (Z0 rfl (Rf MW rfl)) (Z1 8 59 rfl (Ro bR 0 rfl)) ?_ (bQ rfl) (bH (bQ rfl) (bH (bQ rfl) cO))))) ?_
  ·refine dD 1 52 3 54 rfl rfl fun _ a w G1 hG HT H fin=>?_;refine s_call QN H wn rfl (Qn _ _ H.ro x.key x.before) rfl ?_;clear H;rintro v55 IW a w rfl R4 H;exact fin H R4 (rfl)
  ·refine xA 5 56 7 58 9 60 rfl rfl fun _ a w G1 hG HT H fin=>?_;refine s_call QH H wn rfl (Qq _ _ H.ro st li rv b ms ml mr mb mu n x.key x.before (hck.mono hG) (hG _ _ hb)) rfl ?_;clear H;rintro v61 G61 a w ⟨rfl,-⟩ R5 H;exact fin H R5 (rfl)
  clear H;intro a w G pW H hv;have H:=H.aN (hv 4 55 rfl rfl) rfl;have H:=H.aN (hv 10 61 rfl rfl) rfl;clear hv;refine gG ql iw [_,_] [_,_] H wn rfl rfl rfl rfl rfl (by intro i q h;match i,h with|0,h=>exact h|1,h=>exact h|n+2,h=>simp at h) rfl rfl ?_;clear H;intro b62 a w akQ H;obtain ⟨G62,alL,Sr,H⟩:=H.eu;refine s_call qC H wn rfl (qD _ _ H.ro _ _ (xZ Sr)) rfl ?_;clear H;rintro v63 _ a w ⟨rfl,rfl⟩ - H;refine kH H (Ra rfl ?_);clear H;intro a H;refine aC ⟨rfl,?_⟩;refine dQ ?_;refine uy 0 H ?_;rw [he];refine aB vi ?_;clear he hrow hrow' hq hx hy;unfold vT;(repeat' split) <;> first|rfl|(simp_all;done)|(exfalso;simp_all;done)
 refine dI hmx [[],[0],[0,1],[0,1,2],(ra 0 4),[0,1,2],[0,1,2],[0,1,2,6],[0,1,2,5,6,7],[0,1,2,5,6,7,8],[0,1,2,5,6,7,8,9],(ra 0 11),(ra 0 12),(ra 0 13)] [13] (by kernel_rfl) [_,_,_,undef,undef,undef,undef,undef,undef,undef,undef,undef,_] H (aF (Z0 rfl (Rm rfl)) (Z1 0 30 rfl (Rc rfl)) (Z1 1 31 rfl (Rm rfl)) (aY 2 (bD c0) rfl rfl) (aF (aY 2 (bD c0) rfl rfl) (aY 2 (bD c0) rfl rfl) (aY 2 (bD c0) rfl rfl) (aY 2 (bD c0) rfl rfl) (aF (aY 2 (bD c0) rfl rfl) (aY 2 (bD c0) rfl rfl) (aY 2 (bD c0) rfl rfl) (aY 2 (bD c0) rfl rfl) (bH (Z2 2 32 11 41 rfl (Pf (bD c0) rfl)) (bH (bQ rfl) cO))))) ?_
 clear H;intro a w G gD H hv;have H:=H.aN (hv 12 42 rfl rfl) rfl;clear hv;refine t1 3 H ?_;clear H
 have hz:¬ (0 < k∧x.key < y.key):=by first|exact fun h=>c1 h.2|exact fun h=>c0 (by omega)
 refine goB 6 ?_ ?_
 ·intro p43
  refine ak 4 ?_;intro a H;refine s_call jA H wn rfl (jF _ _ H.ro _ 21) rfl ?_;clear H;rintro v50 _ a w ⟨rfl,rfl⟩ - H;refine fu 2 H ?_;rw [he];refine aB vi ?_;clear he hrow hrow' hq hx hy;unfold vT;(repeat' split) <;> first|rfl|(simp_all;done)|(exfalso;simp_all;done)
 intro p43
 refine ak 2 ?_;replace hck:=(hck.mono BA).mono gD;replace hb:=gD _ _ (BA _ _ hb);intro a H;refine dI hmx [[],[0],[],[2],(ra 0 4),[],[],[6],[],[8],(ra 0 10),(ra 0 11),(ra 0 12),(ra 0 13)] [11,12,13] (by kernel_rfl) [_,vi x.key,_,vi x.before,vi (rC x.key x.before),_,_,vi x.key,_,vi x.before,vi (nP st (li.map eD.id) x.key x.before)] H (aF (Z0 rfl (Rf xI rfl)) (Z1 0 51 rfl (Ro bR 0 rfl)) (Z0 rfl (Rf MW rfl)) (Z1 2 53 rfl (Ro bR 0 rfl)) (aF ?_ (Z0 rfl (Rm rfl)) (Z0 rfl (Rf xI rfl)) (Z1 6 57 rfl (Ro bR 0 rfl)) (aF (Z0 rfl (Rf MW rfl)) (Z1 8 59 rfl (Ro bR 0 rfl)) ?_ (bQ rfl) (bH (bQ rfl) (bH (bQ rfl) cO))))) ?_
 ·refine dD 1 52 3 54 rfl rfl fun _ a w G1 hG HT H fin=>?_;refine s_call QN H wn rfl (Qn _ _ H.ro x.key x.before) rfl ?_;clear H;rintro v55 IW a w rfl R4 H;exact fin H R4 (rfl)
 ·refine xA 5 56 7 58 9 60 rfl rfl fun _ a w G1 hG HT H fin=>?_;refine s_call QH H wn rfl (Qq _ _ H.ro st li rv b ms ml mr mb mu n x.key x.before (hck.mono hG) (hG _ _ hb)) rfl ?_;clear H;rintro v61 G61 a w ⟨rfl,-⟩ R5 H;exact fin H R5 (rfl)
 clear H;intro a w G pW H hv;have H:=H.aN (hv 4 55 rfl rfl) rfl;have H:=H.aN (hv 10 61 rfl rfl) rfl;clear hv;refine gG ql iw [_,_] [_,_] H wn rfl rfl rfl rfl rfl (by intro i q h;match i,h with|0,h=>exact h|1,h=>exact h|n+2,h=>simp at h) rfl rfl ?_;clear H;intro b62 a w akQ H;obtain ⟨G62,alL,Sr,H⟩:=H.eu;refine s_call qC H wn rfl (qD _ _ H.ro _ _ (xZ Sr)) rfl ?_;clear H;rintro v63 _ a w ⟨rfl,rfl⟩ - H;refine kH H (Ra rfl ?_);clear H;intro a H;refine aC ⟨rfl,?_⟩;refine dQ ?_;refine uy 0 H ?_;rw [he];refine aB vi ?_;clear he hrow hrow' hq hx hy;unfold vT;(repeat' split) <;> first|rfl|(simp_all;done)|(exfalso;simp_all;done)
end
section
open Go.RowKit
instance O8:Ty prog 123 1 8 [.pointer none] false:=⟨by kernel_rfl,by kernel_rfl⟩
theorem agm:∀ args w,(callFunc 132 args).run prog w=.ok (.enter 132 args) w:=enters func132 rfl (by kernel_rfl)
instance Cv:Ty prog 27 4 64 [.int .i64 0,.int .i64 0,.slice none 0 0,.slice none 0 0] true:=⟨by kernel_rfl,by kernel_rfl⟩
instance Js:dR prog 159 0 0:=⟨by kernel_rfl⟩
instance:dR prog 159 1 1:=⟨by kernel_rfl⟩
theorem agl:∀ args w,(callFunc 131 args).run prog w=.ok (.enter 131 args) w:=enters func131 rfl (by kernel_rfl)
variable {us:List Int}
theorem anm {G:GH} {st:List bS} {li:List eD} {rv:List bX} {b ms ml mr mb mu:Nat} {n:Int} (hck:uW us G st li rv ms ml mr mu) (hb:G b=some (fO b ms ml mr mb mu n).2)
  {x3 x4 Vt:Nat} {e:Int} {l:List cK} {v:aj} (h3:aI G x3 0=some (aG b 0)) (h4:aI G x4 0=some (vi e)) (h11:aI G Vt 3=some v) (hv:au G (.sl 4 (l.map cK.dat)) v) :
  sJ (.func (.func 131) #[] #[(aG x3 0),(aG x4 0),(aG Vt 0)]) G l.length (xP (bE us st li rv) e l):=by
 intro k hk G1 w0 hm hG;refine iM (caps:=[(aG x3 0),(aG x4 0),(aG Vt 0)]) agl ?_;replace h3:=aH hm h3;replace h4:=aH hm h4;replace h11:=aH hm h11;replace hv:=hv.mono hm;obtain ⟨vA,vn,vc,rfl⟩:=hv.form;refine eN [(0,_),(1,_),(2,_),(3,_)] func131 rfl ntmps131 rfl rfl hG ?_;refine ak 9 ?_;intro a H;refine s_call agm H wn rfl (anp _ _ H.ro st li rv b ms ml mr mb mu n (hck.mono hm) (hm _ _ hb) e l _ hv k hk) rfl ?_;clear H;rintro v11 qX a w rfl BI H;refine fu 2 H ?_;exact rfl
def zH (C:bN) (l:List aT):Int:=dh (l.map fun p=>nP C.st C.uL p.key p.value)
def jG (C:bN) (m:xw):Int:=if m.ins≠0∧m.ins∉C.zI then 22 else if ¬ (0≤m.move∧m.move≤1073741824)∨(m.move≠0∧m.ins=0) then 21 else if 16 < (m.bL.length:Int) then 9 else 0
def sS (C:bN) (k:Nat) (x:fF) (pr:Int):Int:=if x.rev∉C.zI then 22 else if 0 < k∧x.rev≤pr then 6 else if ¬ (0≤x.move∧x.move≤1073741824) then 21 else 0
def sQ (C:bN) (l:List fF) (k:Nat):Int:=match l[k]? with|some x=>sS C k x ((l[k - 1]?.map fF.rev).getD 0)|none=>0
def gQ (C:bN) (e:Int) (h:dW):Int:=dh [gL e h.props,zH C h.props,jG C h.marks,iF (sQ C h.marks.bL) h.marks.bL.length,dx (decide (64 < (h.marks.layers.length:Int))) 9,iF (xP C e h.marks.layers) h.marks.layers.length]
theorem aln {C:bN} {e:Int} {h:dW} (h1:gL e h.props≠0):gQ C e h=gL e h.props:=by simp [gQ,dh,h1]
theorem alo {C:bN} {e:Int} {h:dW} (h1:gL e h.props=0) (h2:zH C h.props≠0):gQ C e h=zH C h.props:=by simp [gQ,dh,h1,h2]
theorem BG {C:bN} {e:Int} {h:dW} (h1:gL e h.props=0) (h2:zH C h.props=0) (h3:jG C h.marks≠0):gQ C e h=jG C h.marks:=by simp [gQ,dh,h1,h2,h3]
theorem alp {C:bN} {e:Int} {h:dW} (h1:gL e h.props=0) (h2:zH C h.props=0) (h3:jG C h.marks=0) (h4:iF (sQ C h.marks.bL) h.marks.bL.length≠0):gQ C e h=iF (sQ C h.marks.bL) h.marks.bL.length:=by simp [gQ,dh,h1,h2,h3,h4]
theorem alq {C:bN} {e:Int} {h:dW} (h1:gL e h.props=0) (h2:zH C h.props=0) (h3:jG C h.marks=0) (h4:iF (sQ C h.marks.bL) h.marks.bL.length=0) (h5:64 < (h.marks.layers.length:Int)):gQ C e h=9:=by simp [gQ,dh,h1,h2,h3,h4,dx,h5]
theorem alr {C:bN} {e:Int} {h:dW} (h1:gL e h.props=0) (h2:zH C h.props=0) (h3:jG C h.marks=0) (h4:iF (sQ C h.marks.bL) h.marks.bL.length=0) (h5:¬ 64 < (h.marks.layers.length:Int)):gQ C e h=iF (xP C e h.marks.layers) h.marks.layers.length:=by simp [gQ,dh,h1,h2,h3,h4,dx,h5];exact Eq.symm
theorem abm {C:bN} {l:List aT} {k:Nat} (h:k < l.length):dh ((l.map fun p=>nP C.st C.uL p.key p.value).drop k)=if nP C.st C.uL l[k].key l[k].value≠0 then nP C.st C.uL l[k].key l[k].value else dh ((l.map fun p=>nP C.st C.uL p.key p.value).drop (k+1)):=by
 rw [M0 (by simpa using h)];simp
theorem als (G:GH) (w0:World) (hG:Hold G w0) (st:List bS) (li:List eD) (rv:List bX) (b ms ml mr mb mu:Nat) (n:Int) (hck:uW us G st li rv ms ml mr mu) (hb:G b=some (fO b ms ml mr mb mu n).2)
  (e:Int) (h:dW) (p d l:aj) (hh:fD G h p d l) (hz:kU h≤4294967296) :
  Calls prog 70 #[(aG b 0),vi e,oW h p d l] w0 (bC w0 G fun u G'=>u=vi (gQ (bE us st li rv) e h)):=by
 obtain ⟨pA,pc,rfl,-,-,-⟩:=hh.props.slice;obtain ⟨dA,dc,rfl,-,-,-⟩:=hh.bL.slice;obtain ⟨lA,lc,rfl,-,-,-⟩:=hh.layers.slice;have hml:maxLen=9223372036854775807:=rfl;have hzz:=DW h;have hz1:=oq (h.props.map aT.dat);have hz2:=oq (h.marks.bL.map fF.dat);have hz3:=oq (h.marks.layers.map cK.dat)
 simp only [bM] at hh hz1 hz2 hz3 ⊢
 generalize kU h=zz at hz hzz
 refine eN [(0,_),(1,_),(2,_)] func70 rfl ntmps70 rfl rfl hG ?_;refine ak 1 ?_;intro a H;refine dP (cs:=[_]) H wn rfl rfl rfl ?_;clear H;intro b3 a w hb3 H;refine dP (cs:=[_]) H wn rfl rfl rfl ?_;clear H;intro b4 a w hb4 H;refine dP (cs:=[_,_,_,_,_]) H wn rfl rfl rfl ?_;clear H;intro b5 a w hb5 H;refine aD 3 H ?_;clear H;intro a H;obtain ⟨Ga5,NH,xJ,H⟩:=H.eu;obtain ⟨Ga4,H6,yV,H⟩:=H.eu;obtain ⟨Ga,Dh,rJ,H⟩:=H.eu;replace xJ:=Dh _ _ (H6 _ _ xJ);replace yV:=Dh _ _ yV;have hma:∀ b o,G b=some o→Ga b=some o:=fun b o h=>Dh _ _ (H6 _ _ (NH _ _ h));clear Dh H6 NH;replace hck:=hck.mono hma;replace hb:=hma _ _ hb;replace hh:=hh.mono hma
 have g3:aI Ga b3 0=some (aG b 0):=by unfold aI;rw [rJ];rfl
 have g4:aI Ga b4 0=some (vi e):=by unfold aI;rw [yV];rfl
 have g50:aI Ga b5 0=some (.slice pA h.props.length pc):=by unfold aI;rw [xJ];rfl
 have g51:∀ (j:Nat) (u:aj),[vi h.marks.ins,vi h.marks.move,.slice dA h.marks.bL.length dc,.slice lA h.marks.layers.length lc][j]?=some u→aI Ga b5 (1+j)=some u:=by
  intro j u hj
  unfold aI;rw [xJ]
  match j,hj with
  | 0,hj=>exact hj
  | 1,hj=>exact hj
  | 2,hj=>exact hj
  | 3,hj=>exact hj
  | n+4,hj=>simp at hj
 have hc2:aI Ga b 2=some (.map (some mr)):=by unfold aI;rw [hb];rfl
 refine fM 4 H ?_;clear H;intro a H;refine s_call XH H wn rfl (WC (abe _ _ H.ro e h.props _ hh.props)) rfl ?_;clear H;rintro v17 _ a w ⟨⟨_,rfl⟩,rfl⟩ - H;refine gF 6 H ?_ ?_ <;> clear H
 ·intro rX
  have hE:=aln (C:=bE us st li rv) (e:=e) (h:=h) rX;refine aP 4 ?_;rw [hE]
 intro rX
 have e1:gL e h.props=0:=by simpa using rX
 refine ak 9 ?_;intro a H;refine eH (ι:=Nat) (Tc:=[(3,_),(4,_),(5,_),(22,_),(23,_)]) (Lc:=[]) (fun gh=>[(24,vi gh)]) (fun gh=>[]) (fun gh=>Ga) (fun gh=>gh≤h.props.length∧dh ((h.props.map fun p=>nP st (li.map eD.id) p.key p.value).drop gh)=zH (bE us st li rv) h.props) (fun gh=>h.props.length - gh) (0) sB ?_ ?_
 ·exact ⟨gN _,rfl⟩
 clear H;intro k a w hI H;obtain ⟨hk,heq⟩:=hI;dsimp only [lca,bG] at H;refine dO 4 H ?_ ?_ <;> clear H
 ·intro p25
  have hk2:k < h.props.length:=by omega
  obtain ⟨xb,xo,rfl,hrow⟩:=Fq hh.props hk2;refine ak 5 ?_;intro a H;refine aR gM (cs:=[_,_]) H wn rfl rfl (fun j v hj=>H.hp.aI (hrow j v hj)) rfl ?_;clear H;intro a H;refine dz gM H wn rfl ?_;clear H;intro b9 a w tC H;refine aX gM 0 (vs:=[_,_]) _ H wn rfl rfl rfl rfl rfl rfl rfl rfl ?_;clear H;intro w H;dsimp only [List.set,setRow] at H;refine aD 7 H ?_;clear H;intro a H;refine s_call QH H wn rfl (Qq _ _ H.ro st li rv b ms ml mr mb mu n h.props[k].key h.props[k].value hck hb) rfl ?_;clear H;rintro v33 _ a w ⟨rfl,rfl⟩ - H;refine gF 6 H ?_ ?_ <;> clear H
  ·intro p35
   have hr:zH (bE us st li rv) h.props=nP st (li.map eD.id) h.props[k].key h.props[k].value:=by rw [← heq];exact (abm (C:=bE us st li rv) hk2).trans (av p35)
   have hE:=(alo (C:=bE us st li rv) (e:=e) (h:=h) e1 (by rw [hr];exact p35)).trans hr;refine aP 4 ?_;rw [hE]
  intro p35
  refine ak 4 ?_;intro a H;refine aC ?_;refine cB ((k+1)) (by exact (H.dY (Pl:=[_]) (dJ:=[]) [] (by decide) rfl).sub ⟨rfl,rfl,rfl,rfl,rfl,rfl,bq⟩) ?_ ?_
  ·exact ⟨by omega,by rw [abm (C:=bE us st li rv) hk2,ah (by simpa using p35)] at heq;exact heq⟩
  first|omega|(dsimp only;omega)
 intro p25
 refine ak 1 ?_
 have e2:zH (bE us st li rv) h.props=0:=by rw [← heq,ku (by rw [bM];omega)];rfl
 refine ak 2 ?_;intro a H;refine aR Cv (cs:=[vi h.marks.ins,vi h.marks.move,.slice dA h.marks.bL.length dc,.slice lA h.marks.layers.length lc]) H wn rfl rfl (fun j v hj=>H.hp.aI (g51 j v hj)) rfl ?_;clear H;intro a H;refine dz Cv H wn rfl ?_;clear H;intro b11 a w Ez H;refine aX Cv 0 (vs:=[_,_,_,_]) _ H wn rfl rfl rfl rfl rfl rfl rfl rfl ?_;clear H;intro w H;dsimp only [List.set,setRow] at H;obtain ⟨Gb,hmb,Ak,H⟩:=H.eu;replace hck:=hck.mono hmb;replace hb:=hmb _ _ hb;replace hh:=hh.mono hmb;replace g3:=aH hmb g3;replace g4:=aH hmb g4;replace hc2:=aH hmb hc2
 have q0:aI Gb b11 0=some (vi h.marks.ins):=by unfold aI;rw [Ak];rfl
 have q1:aI Gb b11 1=some (vi h.marks.move):=by unfold aI;rw [Ak];rfl
 have q2:aI Gb b11 2=some (.slice dA h.marks.bL.length dc):=by unfold aI;rw [Ak];rfl
 have q3:aI Gb b11 3=some (.slice lA h.marks.layers.length lc):=by unfold aI;rw [Ak];rfl
 have hcb:=anm hck hb g3 g4 q3 hh.layers;refine aC ?_;refine dQ ?_;refine qz (ι:=GH) (Tc:=[(3,_),(4,_),(11,_)]) (Lc:=[]) (fun gh=>[]) (fun gh=>[]) (fun gh=>gh) (fun gh=>jG (bE us st li rv) h.marks=0∧(∀ b o,Gb b=some o→gh b=some o)) sB ?_ ?_
 ·refine Mw ?_;refine C9 ?_
  by_cases c0:h.marks.ins≠0
  ·skip
   by_cases c1:h.marks.ins∉rv.map bX.id
   ·refine dI hmx [[],[0],[0,1],[0,1,2],(ra 0 4),(ra 0 5),(ra 0 6),(ra 0 7),(ra 0 4),[0,1,2,3,8],(ra 0 10),(ra 0 11),(ra 0 12),(ra 0 13)] [13] (by kernel_rfl) [_,_,_,_,_,(aG b 0),_,_,_,_,.bool (decide (h.marks.ins∈rv.map bX.id)),.bool (decide (h.marks.ins∉rv.map bX.id)),_] H (aF (Z0 rfl (Rf CY rfl)) (X1 0 41 rfl fun hG=>Rg bR rfl (aH hG q0)) (Z1 1 42 rfl (Rc rfl)) (Z1 2 43 rfl (Rm rfl)) (aF (X1 3 44 rfl fun hG=>YR O8 (aK c0) rfl (aH hG g3)) ?_ (Z2 5 46 3 44 rfl (YF Jq (aK c0) rfl)) (X2 6 47 3 44 rfl fun hG=>YR DN (aK c0) rfl (aH hG hc2)) (aF (Z1 3 44 rfl (YF CY (aK c0) rfl)) (X2 8 49 3 44 rfl fun hG=>YR bR (aK c0) rfl (aH hG q0)) ?_ ?_ (bH (Z2 3 44 11 52 rfl (Pt (aK c0) rfl)) (bH (bQ rfl) cO))))) ?_
    ·refine dD 4 45 3 44 rfl rfl fun _ a w G1 hG HT H fin=>?_;refine tT H (wg H rfl rfl (aK c0)) rfl rfl ?_;clear H;intro a H;exact fin H iJ rfl
    ·refine xA 7 48 9 50 3 44 rfl rfl fun _ a w G1 hG HT H fin=>?_;refine zJ (zv:=.bool false) uT kE (by kernel_rfl) H (wg H rfl rfl (aK c0)) rfl rfl (H.ro _ _ (hG _ _ hck.rev)) rfl ?_;clear H;intro a H;rw [Dr] at H;exact fin H iJ rfl
    ·refine dD 10 51 3 44 rfl rfl fun _ a w G1 hG HT H fin=>?_;refine aD 1 H ?_;clear H;intro a H;exact fin H iJ (by show _=_;first|rfl|exact dB decide_not.symm)
    clear H;intro a w G mV H hv;have H:=H.aN (hv 12 53 rfl rfl) rfl;clear hv;refine t1 3 H ?_;clear H;have e3:jG (bE us st li rv) h.marks=22:=av ⟨c0,c1⟩;have hE:=(BG (C:=bE us st li rv) (e:=e) (h:=h) e1 e2 (by rw [e3];decide)).trans e3;refine aP 3 ?_;rw [hE]
   refine dI hmx [[],[0],[0,1],[0,1,2],(ra 0 4),(ra 0 5),(ra 0 6),(ra 0 7),(ra 0 4),[0,1,2,3,8],(ra 0 10),(ra 0 11),(ra 0 12),(ra 0 13)] [13] (by kernel_rfl) [_,_,_,_,_,(aG b 0),_,_,_,_,.bool (decide (h.marks.ins∈rv.map bX.id)),.bool (decide (h.marks.ins∉rv.map bX.id)),_] H (aF (Z0 rfl (Rf CY rfl)) (X1 0 41 rfl fun hG=>Rg bR rfl (aH hG q0)) (Z1 1 42 rfl (Rc rfl)) (Z1 2 43 rfl (Rm rfl)) (aF (X1 3 44 rfl fun hG=>YR O8 (aK c0) rfl (aH hG g3)) ?_ (Z2 5 46 3 44 rfl (YF Jq (aK c0) rfl)) (X2 6 47 3 44 rfl fun hG=>YR DN (aK c0) rfl (aH hG hc2)) (aF (Z1 3 44 rfl (YF CY (aK c0) rfl)) (X2 8 49 3 44 rfl fun hG=>YR bR (aK c0) rfl (aH hG q0)) ?_ ?_ (bH (Z2 3 44 11 52 rfl (Pt (aK c0) rfl)) (bH (bQ rfl) cO))))) ?_
   ·refine dD 4 45 3 44 rfl rfl fun _ a w G1 hG HT H fin=>?_;refine tT H (wg H rfl rfl (aK c0)) rfl rfl ?_;clear H;intro a H;exact fin H iJ rfl
   ·refine xA 7 48 9 50 3 44 rfl rfl fun _ a w G1 hG HT H fin=>?_;refine zJ (zv:=.bool false) uT kE (by kernel_rfl) H (wg H rfl rfl (aK c0)) rfl rfl (H.ro _ _ (hG _ _ hck.rev)) rfl ?_;clear H;intro a H;rw [Dr] at H;exact fin H iJ rfl
   ·refine dD 10 51 3 44 rfl rfl fun _ a w G1 hG HT H fin=>?_;refine aD 1 H ?_;clear H;intro a H;exact fin H iJ (by show _=_;first|rfl|exact dB decide_not.symm)
   clear H;intro a w G mV H hv;have H:=H.aN (hv 12 53 rfl rfl) rfl;clear hv;refine t1 3 H ?_;clear H
   have hno:¬ (h.marks.ins≠0∧h.marks.ins∉(bE us st li rv).zI):=by first|exact fun h=>c1 h.2|exact fun h=>c0 h.1
   replace q0:=aH mV q0;replace q1:=aH mV q1;replace q2:=aH mV q2;refine ak 3 ?_;intro a H;refine s_call wE H wn rfl (wO _ _ H.ro h.marks.move 0 1073741824) rfl ?_;clear H;rintro v57 _ a w ⟨rfl,rfl⟩ - H;refine pU 2 59 H ?_ ?_ <;> clear H
   ·intro p59
    refine ak 12 ?_
    have e3:jG (bE us st li rv) h.marks=21:=by unfold jG;rw [ah hno,av (by first|(simp_all;done)|(simp_all;omega))]
    have hE:=(BG (C:=bE us st li rv) (e:=e) (h:=h) e1 e2 (by rw [e3];decide)).trans e3;refine aP 3 ?_;rw [hE]
   intro p59
   refine lU 4 63 ?_ ?_
   ·intro p63
    refine goB 7 ?_ ?_
    ·intro p54
     have e3:jG (bE us st li rv) h.marks=21:=by unfold jG;rw [ah hno,av (by first|(simp_all;done)|(simp_all;omega))]
     have hE:=(BG (C:=bE us st li rv) (e:=e) (h:=h) e1 e2 (by rw [e3];decide)).trans e3;refine aP 3 ?_;rw [hE]
    intro p54
    have hn2:¬ (¬ (0≤h.marks.move∧h.marks.move≤1073741824)∨(h.marks.move≠0∧h.marks.ins=0)):=by first|(simp_all;done)|(simp_all;omega)
    refine goC 7 ?_ ?_
    ·intro uD
     have e3:jG (bE us st li rv) h.marks=9:=by unfold jG;rw [ah hno,ah hn2,av (by simpa using uD)]
     have hE:=(BG (C:=bE us st li rv) (e:=e) (h:=h) e1 e2 (by rw [e3];decide)).trans e3;refine aP 3 ?_;rw [hE]
    intro uD
    have e3:jG (bE us st li rv) h.marks=0:=by unfold jG;rw [ah hno,ah hn2,ah (by simpa using uD)]
    intro a H;refine jL ?_;refine ⟨_,sB,?_⟩;exact ⟨e3,mV⟩
   intro p63
   refine ak 8 ?_
   have hn2:¬ (¬ (0≤h.marks.move∧h.marks.move≤1073741824)∨(h.marks.move≠0∧h.marks.ins=0)):=by first|(simp_all;done)|(simp_all;omega)
   refine goC 7 ?_ ?_
   ·intro uD
    have e3:jG (bE us st li rv) h.marks=9:=by unfold jG;rw [ah hno,ah hn2,av (by simpa using uD)]
    have hE:=(BG (C:=bE us st li rv) (e:=e) (h:=h) e1 e2 (by rw [e3];decide)).trans e3;refine aP 3 ?_;rw [hE]
   intro uD
   have e3:jG (bE us st li rv) h.marks=0:=by unfold jG;rw [ah hno,ah hn2,ah (by simpa using uD)]
   intro a H;refine jL ?_;refine ⟨_,sB,?_⟩;exact ⟨e3,mV⟩
  refine dI hmx [[],[0],[0,1],[0,1,2],(ra 0 4),(ra 0 5),(ra 0 6),(ra 0 7),(ra 0 4),[0,1,2,3,8],(ra 0 10),(ra 0 11),(ra 0 12),(ra 0 13)] [13] (by kernel_rfl) [_,_,_,_,undef,undef,undef,undef,undef,undef,undef,undef,_] H (aF (Z0 rfl (Rf CY rfl)) (X1 0 41 rfl fun hG=>Rg bR rfl (aH hG q0)) (Z1 1 42 rfl (Rc rfl)) (Z1 2 43 rfl (Rm rfl)) (aF (aY 3 (bD c0) rfl rfl) (aY 3 (bD c0) rfl rfl) (aY 3 (bD c0) rfl rfl) (aY 3 (bD c0) rfl rfl) (aF (aY 3 (bD c0) rfl rfl) (aY 3 (bD c0) rfl rfl) (aY 3 (bD c0) rfl rfl) (aY 3 (bD c0) rfl rfl) (bH (Z2 3 44 11 52 rfl (Pf (bD c0) rfl)) (bH (bQ rfl) cO))))) ?_
  clear H;intro a w G mV H hv;have H:=H.aN (hv 12 53 rfl rfl) rfl;clear hv;refine t1 3 H ?_;clear H
  have hno:¬ (h.marks.ins≠0∧h.marks.ins∉(bE us st li rv).zI):=by first|exact fun h=>c1 h.2|exact fun h=>c0 h.1
  replace q0:=aH mV q0;replace q1:=aH mV q1;replace q2:=aH mV q2;refine ak 3 ?_;intro a H;refine s_call wE H wn rfl (wO _ _ H.ro h.marks.move 0 1073741824) rfl ?_;clear H;rintro v57 _ a w ⟨rfl,rfl⟩ - H;refine pU 2 59 H ?_ ?_ <;> clear H
  ·intro p59
   refine ak 12 ?_
   have e3:jG (bE us st li rv) h.marks=21:=by unfold jG;rw [ah hno,av (by first|(simp_all;done)|(simp_all;omega))]
   have hE:=(BG (C:=bE us st li rv) (e:=e) (h:=h) e1 e2 (by rw [e3];decide)).trans e3;refine aP 3 ?_;rw [hE]
  intro p59
  refine lU 4 63 ?_ ?_
  ·intro p63
   refine goB 7 ?_ ?_
   ·intro p54
    have e3:jG (bE us st li rv) h.marks=21:=by unfold jG;rw [ah hno,av (by first|(simp_all;done)|(simp_all;omega))]
    have hE:=(BG (C:=bE us st li rv) (e:=e) (h:=h) e1 e2 (by rw [e3];decide)).trans e3;refine aP 3 ?_;rw [hE]
   intro p54
   have hn2:¬ (¬ (0≤h.marks.move∧h.marks.move≤1073741824)∨(h.marks.move≠0∧h.marks.ins=0)):=by first|(simp_all;done)|(simp_all;omega)
   refine goC 7 ?_ ?_
   ·intro uD
    have e3:jG (bE us st li rv) h.marks=9:=by unfold jG;rw [ah hno,ah hn2,av (by simpa using uD)]
    have hE:=(BG (C:=bE us st li rv) (e:=e) (h:=h) e1 e2 (by rw [e3];decide)).trans e3;refine aP 3 ?_;rw [hE]
   intro uD
   have e3:jG (bE us st li rv) h.marks=0:=by unfold jG;rw [ah hno,ah hn2,ah (by simpa using uD)]
   intro a H;refine jL ?_;refine ⟨_,sB,?_⟩;exact ⟨e3,mV⟩
  intro p63
  refine ak 8 ?_
  have hn2:¬ (¬ (0≤h.marks.move∧h.marks.move≤1073741824)∨(h.marks.move≠0∧h.marks.ins=0)):=by first|(simp_all;done)|(simp_all;omega)
  refine goC 7 ?_ ?_
  ·intro uD
   have e3:jG (bE us st li rv) h.marks=9:=by unfold jG;rw [ah hno,ah hn2,av (by simpa using uD)]
   have hE:=(BG (C:=bE us st li rv) (e:=e) (h:=h) e1 e2 (by rw [e3];decide)).trans e3;refine aP 3 ?_;rw [hE]
  intro uD
  have e3:jG (bE us st li rv) h.marks=0:=by unfold jG;rw [ah hno,ah hn2,ah (by simpa using uD)]
  intro a H;refine jL ?_;refine ⟨_,sB,?_⟩;exact ⟨e3,mV⟩
 clear H;intro g a w hI H;obtain ⟨e3,wM⟩:=hI;replace hck:=hck.mono wM;replace hb:=wM _ _ hb;replace hh:=hh.mono wM;replace g3:=aH wM g3;replace q2:=aH wM q2;replace q3:=aH wM q3;replace hc2:=aH wM hc2;replace hcb:=hcb.mono wM;dsimp only [lca,bG] at H;refine fM 8 H ?_;clear H;intro a H;refine eH (ι:=Nat × GH) (Tc:=[(3,_),(4,_),(11,_),(75,_),(76,_)]) (Lc:=[]) (fun gh=>[(77,vi gh.1)]) (fun gh=>[]) (fun gh=>gh.2) (fun gh=>gh.1≤h.marks.bL.length∧dh (((List.range h.marks.bL.length).map (sQ (bE us st li rv) h.marks.bL)).drop gh.1)=iF (sQ (bE us st li rv) h.marks.bL) h.marks.bL.length∧(∀ b o,g b=some o→gh.2 b=some o)) (fun gh=>h.marks.bL.length - gh.1) ((0,g)) sB ?_ ?_
 ·exact ⟨gN _,rfl,fun _ _ h=>h⟩
 clear H;rintro ⟨k,g2⟩ a w hI H;dsimp only at hI H;obtain ⟨hk,heq,hgm⟩:=hI;dsimp only [lca,bG] at H;refine dO 4 H ?_ ?_ <;> clear H
 ·intro p78
  have hk2:k < h.marks.bL.length:=by omega
  have hd2:=hh.bL.mono hgm;obtain ⟨xb,xo,rfl,hrow⟩:=MQ hd2 hk2
  have hk1:k - 1 < h.marks.bL.length:=by omega
  obtain ⟨b',o',he',hrow'⟩:=MQ hd2 hk1
  intro a H;injection he' with he'
  injection he' with e1 e2
  subst e1;subst e2
  have hde:sQ (bE us st li rv) h.marks.bL k=sS (bE us st li rv) k h.marks.bL[k] h.marks.bL[k - 1].rev:=by unfold sQ;rw [eO hk2,eO hk1];rfl
  have hX:∀ v,sS (bE us st li rv) k h.marks.bL[k] h.marks.bL[k - 1].rev=v→v≠0→gQ (bE us st li rv) e h=v:=fun v h1 h2=>by
   have h4:iF (sQ (bE us st li rv) h.marks.bL) h.marks.bL.length=v:=by rw [← heq,Bn hk2,hde,h1,av h2]
   exact (alp e1 e2 e3 (by rw [h4];exact h2)).trans h4
  have hp:=hrow' 0 _ rfl;have g3':=aH hgm g3;have hc2':=aH hgm hc2;have q2':=aH hgm q2;refine fM 6 H ?_;clear H;intro a H;refine aR ow (cs:=h.marks.bL[k].cells) H wn rfl rfl (fun j v hj=>H.hp.aI (hrow j v hj)) rfl ?_;clear H;intro a H;refine dz ow H wn rfl ?_;clear H;intro b13 a w JN H;refine aD 1 H ?_;clear H;intro a H;refine aX ow 0 (vs:=[_,_]) _ H wn rfl rfl rfl rfl rfl rfl rfl rfl ?_;clear H;intro w H;dsimp only [List.set,setRow] at H;refine aD 3 H ?_;clear H;intro a H;refine dI hmx [[],[0],[0,1],[0,1,2],[],[4],(ra 0 6),(ra 0 7),(ra 0 8)] [8] (by kernel_rfl) [_,_,_,_,_,vi h.marks.bL[k].rev,.bool (decide (h.marks.bL[k].rev∈rv.map bX.id)),_] H (aF (X0 rfl fun hG=>Rg O8 rfl (aH hG g3')) (Z1 0 83 rfl (Rk rfl)) (Z1 1 84 rfl (Rf Jq rfl)) (X1 2 85 rfl fun hG=>Rg DN rfl (aH hG hc2')) (aF (Z0 rfl (Rf Js rfl)) (Z1 4 87 rfl (Ro bR 0 rfl)) ?_ (Z1 6 89 rfl (Rn rfl)) (bH (bQ rfl) cO))) ?_
  ·refine dD 3 86 5 88 rfl rfl fun _ a w G1 hG HT H fin=>?_;refine zJ (zv:=.bool false) uT kE (by kernel_rfl) H wn rfl rfl (H.ro _ _ (hG _ _ (hgm _ _ hck.rev))) rfl ?_;clear H;intro a H;rw [Dr] at H;exact fin H iJ rfl
  clear H;intro a w G He H hv;have H:=H.aN (hv 7 90 rfl rfl) rfl;clear hv;refine t1 2 H ?_;clear H;refine goC 0 ?_ ?_
  ·intro Ni
   have hE:=hX 22 (by unfold sS;rw [av (by simpa using Ni)]) (by decide);refine aP 3 ?_;rw [hE]
  intro Ni
  try have p82:=dF Ni
  have JY:¬ (h.marks.bL[k].rev∉(bE us st li rv).zI):=by simpa using Ni
  refine ak 1 ?_;replace hp:=aH He hp;replace q2':=aH He q2'
  intro a H;by_cases c3:0 < (k:Int)
  ·skip
   by_cases c4:h.marks.bL[k].rev≤h.marks.bL[k - 1].rev
   ·refine dI hmx [[],[0],[0,1],[0,1,2],(ra 0 4),[0,1,2],[0,1,2,5],[0,1,2],[0,1,2,7],[0,1,2,5,6,7,8],[0,1,2,5,6,7,8,9],([0,1,2]++ra 5 6),(ra 0 12),(ra 0 13),(ra 0 14)] [14] (by kernel_rfl) [_,_,_,_,vi h.marks.bL[k].rev,_,_,_,vi ((k - 1:Nat):Int),_,_,_,_,_] H (aF (Z0 rfl (Rm rfl)) (Z1 0 92 rfl (Rc rfl)) (Z1 1 93 rfl (Rm rfl)) (Z1 2 94 rfl (YF Js (aK c3) rfl)) (aF (Z2 3 95 2 94 rfl (YO bR 0 (aK c3) rfl)) (Z1 2 94 rfl (YF GR (aK c3) rfl)) (X2 5 97 2 94 rfl fun hG=>YR Cu (aK c3) rfl (aH hG q2')) (Z1 2 94 rfl (YM (aK c3) rfl)) (aF ?_ (Z3 6 98 8 100 2 94 rfl (YI yj ow (aK c3) rfl rfl)) (Z2 9 101 2 94 rfl (YF Js (aK c3) rfl)) (X2 10 102 2 94 rfl fun hG=>YR bR (aK c3) rfl (aH hG hp)) (bH (Z3 4 96 11 103 2 94 rfl (YC (aK c3) rfl)) (bH (Z2 2 94 12 104 rfl (Pt (aK c3) rfl)) (bH (bQ rfl) cO)))))) ?_
    ·refine dD 7 99 2 94 rfl rfl fun _ a w G1 hG HT H fin=>?_;refine lK _ H (wg H rfl rfl (aK c3)) rfl rfl rfl (by omega) (by omega) rfl ?_;clear H;intro a H;exact fin H iJ (by show _=_;first|rfl|exact aB vi (by omega))
    clear H;intro a w G Nk H hv;have H:=H.aN (hv 13 105 rfl rfl) rfl;clear hv;refine t1 3 H ?_;clear H;have hz:0 < k∧h.marks.bL[k].rev≤h.marks.bL[k - 1].rev:=⟨by omega,c4⟩;have hE:=hX 6 (by unfold sS;rw [ah JY,av hz]) (by decide);refine aP 3 ?_;rw [hE]
   refine dI hmx [[],[0],[0,1],[0,1,2],(ra 0 4),[0,1,2],[0,1,2,5],[0,1,2],[0,1,2,7],[0,1,2,5,6,7,8],[0,1,2,5,6,7,8,9],([0,1,2]++ra 5 6),(ra 0 12),(ra 0 13),(ra 0 14)] [14] (by kernel_rfl) [_,_,_,_,vi h.marks.bL[k].rev,_,_,_,vi ((k - 1:Nat):Int),_,_,_,_,_] H (aF (Z0 rfl (Rm rfl)) (Z1 0 92 rfl (Rc rfl)) (Z1 1 93 rfl (Rm rfl)) (Z1 2 94 rfl (YF Js (aK c3) rfl)) (aF (Z2 3 95 2 94 rfl (YO bR 0 (aK c3) rfl)) (Z1 2 94 rfl (YF GR (aK c3) rfl)) (X2 5 97 2 94 rfl fun hG=>YR Cu (aK c3) rfl (aH hG q2')) (Z1 2 94 rfl (YM (aK c3) rfl)) (aF ?_ (Z3 6 98 8 100 2 94 rfl (YI yj ow (aK c3) rfl rfl)) (Z2 9 101 2 94 rfl (YF Js (aK c3) rfl)) (X2 10 102 2 94 rfl fun hG=>YR bR (aK c3) rfl (aH hG hp)) (bH (Z3 4 96 11 103 2 94 rfl (YC (aK c3) rfl)) (bH (Z2 2 94 12 104 rfl (Pt (aK c3) rfl)) (bH (bQ rfl) cO)))))) ?_
   ·refine dD 7 99 2 94 rfl rfl fun _ a w G1 hG HT H fin=>?_;refine lK _ H (wg H rfl rfl (aK c3)) rfl rfl rfl (by omega) (by omega) rfl ?_;clear H;intro a H;exact fin H iJ (by show _=_;first|rfl|exact aB vi (by omega))
   clear H;intro a w G Nk H hv;have H:=H.aN (hv 13 105 rfl rfl) rfl;clear hv;refine t1 3 H ?_;clear H
   have hz:¬ (0 < k∧h.marks.bL[k].rev≤h.marks.bL[k - 1].rev):=by first|exact fun h=>c4 h.2|exact fun h=>c3 (by omega)
   refine ak 3 ?_;intro a H;refine s_call wE H wn rfl (wO _ _ H.ro h.marks.bL[k].move 0 1073741824) rfl ?_;clear H;rintro v109 _ a w ⟨rfl,rfl⟩ - H;refine iR 3 H ?_ ?_ <;> clear H
   ·intro yQ
    try have Uw:=dT yQ
    have hE:=hX 21 (by unfold sS;rw [ah JY,ah hz,av (by have h0:=yQ;simp at h0;omega)]) (by decide);refine aP 3 ?_;rw [hE]
   intro yQ
   try have Uw:=dF yQ
   have SF:sS (bE us st li rv) k h.marks.bL[k] h.marks.bL[k - 1].rev=0:=by unfold sS;rw [ah JY,ah hz,ah (by have h0:=yQ;simp at h0;omega)]
   have RQ:=fun b o h=>Nk b o (He b o (hgm b o h));refine ak 4 ?_;intro a H;refine aC ?_;refine cB ((k+1,G)) (by exact (H.dY (Pl:=[_]) (dJ:=[]) [] (by decide) rfl).sub ⟨rfl,rfl,rfl,rfl,rfl,rfl,bq⟩) ?_ ?_
   ·(try dsimp only);exact ⟨by omega,by rw [Bn hk2,ah (by rw [hde];simpa using SF)] at heq;exact heq,RQ⟩
   first|omega|(dsimp only;omega)
  refine dI hmx [[],[0],[0,1],[0,1,2],(ra 0 4),[0,1,2],[0,1,2,5],[0,1,2],[0,1,2,7],[0,1,2,5,6,7,8],[0,1,2,5,6,7,8,9],([0,1,2]++ra 5 6),(ra 0 12),(ra 0 13),(ra 0 14)] [14] (by kernel_rfl) [_,_,_,undef,undef,undef,undef,undef,undef,undef,undef,undef,undef,_] H (aF (Z0 rfl (Rm rfl)) (Z1 0 92 rfl (Rc rfl)) (Z1 1 93 rfl (Rm rfl)) (aY 2 (bD c3) rfl rfl) (aF (aY 2 (bD c3) rfl rfl) (aY 2 (bD c3) rfl rfl) (aY 2 (bD c3) rfl rfl) (aY 2 (bD c3) rfl rfl) (aF (aY 2 (bD c3) rfl rfl) (aY 2 (bD c3) rfl rfl) (aY 2 (bD c3) rfl rfl) (aY 2 (bD c3) rfl rfl) (bH (aY 2 (bD c3) rfl rfl) (bH (Z2 2 94 12 104 rfl (Pf (bD c3) rfl)) (bH (bQ rfl) cO)))))) ?_
  clear H;intro a w G Nk H hv;have H:=H.aN (hv 13 105 rfl rfl) rfl;clear hv;refine t1 3 H ?_;clear H
  have hz:¬ (0 < k∧h.marks.bL[k].rev≤h.marks.bL[k - 1].rev):=by first|exact fun h=>c4 h.2|exact fun h=>c3 (by omega)
  refine ak 3 ?_;intro a H;refine s_call wE H wn rfl (wO _ _ H.ro h.marks.bL[k].move 0 1073741824) rfl ?_;clear H;rintro v109 _ a w ⟨rfl,rfl⟩ - H;refine iR 3 H ?_ ?_ <;> clear H
  ·intro yQ
   try have Uw:=dT yQ
   have hE:=hX 21 (by unfold sS;rw [ah JY,ah hz,av (by have h0:=yQ;simp at h0;omega)]) (by decide);refine aP 3 ?_;rw [hE]
  intro yQ
  try have Uw:=dF yQ
  have SF:sS (bE us st li rv) k h.marks.bL[k] h.marks.bL[k - 1].rev=0:=by unfold sS;rw [ah JY,ah hz,ah (by have h0:=yQ;simp at h0;omega)]
  have RQ:=fun b o h=>Nk b o (He b o (hgm b o h));refine ak 4 ?_;intro a H;refine aC ?_;refine cB ((k+1,G)) (by exact (H.dY (Pl:=[_]) (dJ:=[]) [] (by decide) rfl).sub ⟨rfl,rfl,rfl,rfl,rfl,rfl,bq⟩) ?_ ?_
  ·(try dsimp only);exact ⟨by omega,by rw [Bn hk2,ah (by rw [hde];simpa using SF)] at heq;exact heq,RQ⟩
  first|omega|(dsimp only;omega)
 intro p78
 refine ak 2 ?_
 have e4:iF (sQ (bE us st li rv) h.marks.bL) h.marks.bL.length=0:=by rw [← heq,ku (by simp;omega)];rfl
 replace q3:=aH hgm q3;refine goB 6 ?_ ?_
 ·intro Ux
  have hE:=alq (C:=bE us st li rv) (e:=e) (h:=h) e1 e2 e3 e4 Ux;refine aP 3 ?_;rw [hE]
 intro Ux
 refine ak 1 ?_;have hE:=alr (C:=bE us st li rv) (e:=e) (h:=h) e1 e2 e3 e4 Ux;refine ak 4 ?_;intro a H;refine nQ H wn rfl rfl ?_;clear H;intro a H;refine s_call GD H wn rfl (I8 _ _ H.ro h.marks.layers.length (xP (bE us st li rv) e h.marks.layers) _ (by omega) (hcb.mono hgm)) rfl ?_;clear H;rintro atW asC a w rfl asQ H;refine fu 2 H ?_;rw [hE]
end
section
open Go.RowKit
instance:dR prog 68 1 1:=⟨by kernel_rfl⟩
def codeOk (x:ay):Bool:=if x.kind=4 then decide (1≤x.code∧x.code≤3) else if x.kind=6 then decide (1≤x.code∧x.code≤2) else if x.kind=8 then decide (1≤x.code∧x.code≤4) else true
def xY (x:ay):Bool:=decide (x.kind=8∧x.code=1)
def yw (x:ay):Bool:=decide (x.kind=1∨x.kind=5) || xY x
def vV (x:ay):Bool:=decide (x.kind=6∨x.kind=7∨x.kind=8)
def vo (x:ay):Bool:=decide (x.kind=4∨x.kind=6∨x.kind=8)
def pQ (s:ByteArray):Bool:=s.toList == (⟨#[]⟩:ByteArray).toList
def sV (x:ay):Bool:=!vo x && decide (x.code≠0) || !vV x && decide (x.id≠0) || !yw x && !pQ x.text || decide (x.kind≠6) && decide (0 < (x.flow.length:Int)) || decide (x.kind≠7) && decide (0 < (x.rows.length:Int))
def jS (x:ay):Int :=
 if (!decide (1≤x.kind∧x.kind≤8) || !codeOk x)=true then 3 else if sV x=true then 15 else if qm x.text=false then 12 else if (decide (x.kind=1∨x.kind=5) && pQ x.text)=true then 11
 else if (decide (x.kind=5) && decide (1024 < (x.text.size:Int)))=true then 10 else if (xY x && !qO x.text)=true then 13 else 0
theorem ajO (G:GH) (w0:World) (hG:Hold G w0) (x:ay) (p d l:aj) (fA rA:Option Addr) (fc rc:Nat) (hs:x.text.size < 4611686018427387904) :
  Calls prog 196 #[.agg #[vi x.kind,vi x.code,vi x.id,.string x.text,p,vi x.head.marks.ins,vi x.head.marks.move,d,l,.slice fA x.flow.length fc,.slice rA x.rows.length rc]] w0 (bC w0 G fun u G'=>u=vi (jS x)∧G=G'):=by
 refine eN [(0,_)] func196 rfl ntmps196 rfl rfl hG ?_;refine ak 1 ?_;intro a H;refine dP (cs:=[_,_,_,_,_,_,_,_,_,_,_]) H wn rfl rfl rfl ?_;clear H;intro b1 a w hb1 H;refine aD 2 H ?_;clear H;intro a H;refine qz (ι:=Bool) (Tc:=[(1,_)]) (Lc:=[(_,_)]) (fun gh=>[(3,.bool gh)]) (fun gh=>[]) (fun gh=>G) (fun gh=>gh=xY x) sB ?_ ?_
 ·refine Ag 5 11 H ?_ ?_ <;> clear H
  ·intro qg
   refine ak 5 ?_;intro a H;refine aC ?_;refine ⟨_,sB,?_⟩
   unfold xY;first|(simp_all;done)
  intro qg
  refine ak 5 ?_;intro a H;refine aC ?_;refine ⟨_,sB,?_⟩
  unfold xY;first|(simp_all;done)
 clear H;intro st a w hI H;have hst:=hI;dsimp only [lca,bG] at H;refine qz (ι:=Bool) (Tc:=[(1,_),(3,_)]) (Lc:=[(_,_)]) (fun gh=>[(4,.bool gh)]) (fun gh=>[]) (fun gh=>G) (fun gh=>gh=yw x) sB ?_ ?_
 ·refine Ag 5 19 H ?_ ?_ <;> clear H
  ·intro rX
   refine ak 8 ?_;intro a H;refine aC ?_;refine ⟨_,sB,?_⟩
   unfold yw;first|(simp_all;done)
  intro rX
  refine lU 5 24 ?_ ?_
  ·intro jq
   refine ak 3 ?_;intro a H;refine aC ?_;refine ⟨_,sB,?_⟩
   unfold yw;first|(simp_all;done)
  intro jq
  refine ak 3 ?_;intro a H;refine aC ?_;refine ⟨_,sB,?_⟩
  unfold yw;first|(simp_all;done)
 clear H;intro wd a w hI H;have hwd:=hI;dsimp only [lca,bG] at H;refine qz (ι:=Bool) (Tc:=[(1,_),(3,_),(4,_)]) (Lc:=[(_,_)]) (fun gh=>[(5,.bool gh)]) (fun gh=>[]) (fun gh=>G) (fun gh=>gh=vV x) sB ?_ ?_
 ·refine Ag 5 30 H ?_ ?_ <;> clear H
  ·intro p30
   refine ak 10 ?_;intro a H;refine aC ?_;refine ⟨_,sB,?_⟩
   unfold vV;first|(simp_all;done)
  intro p30
  refine lU 5 35 ?_ ?_
  ·intro p35
   refine ak 5 ?_;intro a H;refine aC ?_;refine ⟨_,sB,?_⟩
   unfold vV;first|(simp_all;done)
  intro p35
  refine ak 5 ?_;intro a H;refine aC ?_;refine ⟨_,sB,?_⟩
  unfold vV;first|(simp_all;done)
 clear H;intro nm a w hI H;have hnm:=hI;dsimp only [lca,bG] at H;refine fM 3 H ?_;clear H;intro a H;refine qz (ι:=Bool) (Tc:=[(1,_),(3,_),(4,_),(5,_)]) (Lc:=[(_,_)]) (fun gh=>[(6,.bool gh)]) (fun gh=>[]) (fun gh=>G) (fun gh=>gh=codeOk x) sB ?_ ?_
 ·refine dO 9 H ?_ ?_ <;> clear H
  ·intro p42
   refine ak 3 ?_;intro a H;refine s_call wE H wn rfl (wO _ _ H.ro x.code 1 3) rfl ?_;clear H;rintro v46 _ a w ⟨rfl,rfl⟩ - H;refine aD 1 H ?_;clear H;intro a H;refine aC ?_;refine ⟨_,sB,?_⟩
   unfold codeOk;first|(simp_all;done)
  intro p42
  refine goB 4 ?_ ?_
  ·intro p47
   refine ak 3 ?_;intro a H;refine s_call wE H wn rfl (wO _ _ H.ro x.code 1 2) rfl ?_;clear H;rintro v51 _ a w ⟨rfl,rfl⟩ - H;refine aD 1 H ?_;clear H;intro a H;refine aC ?_;refine ⟨_,sB,?_⟩
   unfold codeOk;first|(simp_all;done)
  intro p47
  refine goB 4 ?_ ?_
  ·intro p52
   refine ak 3 ?_;intro a H;refine s_call wE H wn rfl (wO _ _ H.ro x.code 1 4) rfl ?_;clear H;rintro v56 _ a w ⟨rfl,rfl⟩ - H;refine aD 1 H ?_;clear H;intro a H;refine aC ?_;refine ⟨_,sB,?_⟩
   unfold codeOk;first|(simp_all;done)
  intro p52
  intro a H;refine jL ?_;refine ⟨_,sB,?_⟩
  unfold codeOk;first|(simp_all;done)
 clear H;intro ck a w hI H;have hck:=hI;dsimp only [lca,bG] at H;refine qz (ι:=Bool) (Tc:=[(1,_),(3,_),(4,_),(5,_),(6,_)]) (Lc:=[(_,_)]) (fun gh=>[(7,.bool gh)]) (fun gh=>[]) (fun gh=>G) (fun gh=>gh=vo x) sB ?_ ?_
 ·refine Ag 5 60 H ?_ ?_ <;> clear H
  ·intro p60
   refine ak 10 ?_;intro a H;refine aC ?_;refine ⟨_,sB,?_⟩
   unfold vo;first|(simp_all;done)
  intro p60
  refine lU 5 65 ?_ ?_
  ·intro p65
   refine ak 5 ?_;intro a H;refine aC ?_;refine ⟨_,sB,?_⟩
   unfold vo;first|(simp_all;done)
  intro p65
  refine ak 5 ?_;intro a H;refine aC ?_;refine ⟨_,sB,?_⟩
  unfold vo;first|(simp_all;done)
 clear H;intro cd a w hI H;have hcd:=hI;dsimp only [lca,bG] at H;refine fM 3 H ?_;clear H;intro a H;refine Cx (ι:=Bool) (Tc:=[(1,_),(3,_),(4,_),(5,_),(7,_)]) 8 (fun (q0:Bool)=>[(78,.bool q0)]) (fun (q0:Bool)=>q0=(!decide (1≤x.kind∧x.kind≤8) || !codeOk x)) sB ?_ ?_
 ·intro YK;refine aD 2 H ?_;clear H;intro a H;refine s_call wE H wn rfl (wO _ _ H.ro x.kind 1 8) rfl ?_;clear H;rintro v73 _ a w ⟨rfl,rfl⟩ - H;refine pU 2 75 H ?_ ?_ <;> clear H
  ·intro p75
   refine ak 3 ?_;intro a H;refine YK (_) _ _ ?_ sB;rw [← hck];clear hst hwd hnm hck hcd;(try clear hq1);(try clear hq2);(try clear hq3);(try clear hq0);(try clear hq4);(try clear nA);(try clear nE);(try clear nG);simp_all
  intro p75
  refine ak 3 ?_;intro a H;refine YK (_) _ _ ?_ sB;rw [← hck];clear hst hwd hnm hck hcd;(try clear hq1);(try clear hq2);(try clear hq3);(try clear hq0);(try clear hq4);(try clear nA);(try clear nE);(try clear nG);simp_all
 clear H;intro q0 a w hI H;dsimp only [lca,bG] at H;(repeat with_reducible refine dK ?_);refine d0 ?_;have hq0:=hI;refine iR 2 H ?_ ?_ <;> clear H
 ·intro Ng
  have e:jS x=3:=by unfold jS;rw [av (by rw [← hq0];exact Ng)]
  refine aP 3 ?_;exact ⟨by rw [e],rfl⟩
 intro Ng
 try have p70:=dF Ng
 have f0:¬ (!decide (1≤x.kind∧x.kind≤8) || !codeOk x)=true:=by rw [← hq0,Ng];decide
 refine ak 1 ?_;intro a H;refine Cx (ι:=Bool) (Tc:=[(1,_),(3,_),(4,_),(5,_)]) 7 (fun (q1:Bool)=>[(86,.bool q1)]) (fun (q1:Bool)=>q1=(!vo x && decide (x.code≠0))) sB ?_ ?_
 ·intro YP;refine pU 3 82 H ?_ ?_ <;> clear H
  ·intro p82
   refine ak 4 ?_;intro a H;refine YP (_) _ _ ?_ sB;rw [← hcd];clear hst hwd hnm hck hcd;(try clear hq1);(try clear hq2);(try clear hq3);(try clear hq0);(try clear hq4);(try clear nA);(try clear nE);(try clear nG);simp_all
  intro p82
  refine ak 4 ?_;intro a H;refine YP (_) _ _ ?_ sB;rw [← hcd];clear hst hwd hnm hck hcd;(try clear hq1);(try clear hq2);(try clear hq3);(try clear hq0);(try clear hq4);(try clear nA);(try clear nE);(try clear nG);simp_all
 clear H;intro q1 a w hI H;dsimp only [lca,bG] at H;(repeat with_reducible refine dK ?_);refine d0 ?_;have hq1:=hI;refine Cx (ι:=Bool) (Tc:=[(1,_),(3,_),(4,_)]) 9 (fun (q2:Bool)=>[(95,.bool q2)]) (fun (q2:Bool)=>q2=(q1 || !vV x && decide (x.id≠0))) sB ?_ ?_
 ·intro Sd;refine pU 1 87 H ?_ ?_ <;> clear H
  ·intro Uz
   refine ak 8 ?_;intro a H;refine Sd (_) _ _ ?_ sB;rw [← hnm];clear hst hwd hnm hck hcd;(try clear hq1);(try clear hq2);(try clear hq3);(try clear hq0);(try clear hq4);(try clear nA);(try clear nE);(try clear nG);simp_all
  intro Uz
  refine lU 3 90 ?_ ?_
  ·intro p90
   refine ak 5 ?_;intro a H;refine Sd (_) _ _ ?_ sB;rw [← hnm];clear hst hwd hnm hck hcd;(try clear hq1);(try clear hq2);(try clear hq3);(try clear hq0);(try clear hq4);(try clear nA);(try clear nE);(try clear nG);simp_all
  intro p90
  refine ak 5 ?_;intro a H;refine Sd (_) _ _ ?_ sB;rw [← hnm];clear hst hwd hnm hck hcd;(try clear hq1);(try clear hq2);(try clear hq3);(try clear hq0);(try clear hq4);(try clear nA);(try clear nE);(try clear nG);simp_all
 clear H;intro q2 a w hI H;dsimp only [lca,bG] at H;(repeat with_reducible refine dK ?_);refine d0 ?_;have hq2:=hI;refine Cx (ι:=Bool) (Tc:=[(1,_),(3,_)]) 9 (fun (q3:Bool)=>[(104,.bool q3)]) (fun (q3:Bool)=>q3=(q2 || !yw x && !pQ x.text)) sB ?_ ?_
 ·intro R9;refine pU 1 96 H ?_ ?_ <;> clear H
  ·intro KH
   refine ak 8 ?_;intro a H;refine R9 (_) _ _ ?_ sB;rw [← hwd];clear hst hwd hnm hck hcd;(try clear hq1);(try clear hq2);(try clear hq3);(try clear hq0);(try clear hq4);(try clear nA);(try clear nE);(try clear nG);simp_all [pQ]
  intro KH
  refine jM 3 99 ?_ ?_
  ·intro Nj
   try have p99:=dT Nj
   refine ak 2 ?_;intro a H;refine aqc H (wg H rfl rfl Nj) rfl rfl rfl ?_;clear H;refine ak 2 ?_;intro a H;refine R9 (_) _ _ ?_ sB;rw [← hwd];clear hst hwd hnm hck hcd;(try clear hq1);(try clear hq2);(try clear hq3);(try clear hq0);(try clear hq4);(try clear nA);(try clear nE);(try clear nG);simp_all [pQ]
  intro Nj
  try have p99:=dF Nj
  refine ak 5 ?_;intro a H;refine R9 (_) _ _ ?_ sB;rw [← hwd];clear hst hwd hnm hck hcd;(try clear hq1);(try clear hq2);(try clear hq3);(try clear hq0);(try clear hq4);(try clear nA);(try clear nE);(try clear nG);simp_all [pQ]
 clear H;intro q3 a w hI H;dsimp only [lca,bG] at H;(repeat with_reducible refine dK ?_);refine d0 ?_;have hq3:=hI;refine Cx (ι:=Bool) (Tc:=[(1,_),(3,_)]) 11 (fun (q4:Bool)=>[(115,.bool q4)]) (fun (q4:Bool)=>q4=(q3 || decide (x.kind≠6) && decide (0 < (x.flow.length:Int)))) sB ?_ ?_
 ·intro Sb;refine pU 1 105 H ?_ ?_ <;> clear H
  ·intro Ik
   refine ak 10 ?_;intro a H;refine Sb (_) _ _ ?_ sB;clear hst hwd hnm hck hcd;(try clear hq1);(try clear hq2);(try clear hq3);(try clear hq0);(try clear hq4);(try clear nA);(try clear nE);(try clear nG);simp_all
  intro Ik
  refine lU 4 109 ?_ ?_
  ·intro aow
   refine ak 6 ?_;intro a H;refine Sb (_) _ _ ?_ sB;clear hst hwd hnm hck hcd;(try clear hq1);(try clear hq2);(try clear hq3);(try clear hq0);(try clear hq4);(try clear nA);(try clear nE);(try clear nG);simp_all
  intro aow
  refine ak 6 ?_;intro a H;refine Sb (_) _ _ ?_ sB;clear hst hwd hnm hck hcd;(try clear hq1);(try clear hq2);(try clear hq3);(try clear hq0);(try clear hq4);(try clear nA);(try clear nE);(try clear nG);simp_all
 clear H;intro q4 a w hI H;dsimp only [lca,bG] at H;(repeat with_reducible refine dK ?_);refine d0 ?_;have hq4:=hI;refine Cx (ι:=Bool) (Tc:=[(1,_),(3,_)]) 11 (fun (q5:Bool)=>[(126,.bool q5)]) (fun (q5:Bool)=>q5=sV x) sB ?_ ?_
 ·intro Sc;refine pU 1 116 H ?_ ?_ <;> clear H
  ·intro aoz
   refine ak 10 ?_;intro a H;refine Sc (_) _ _ ?_ sB;rw [show sV x=(q4 || decide (x.kind≠7) && decide (0 < (x.rows.length:Int))) by rw [hq4,hq3,hq2,hq1];rfl];clear hq4;clear hst hwd hnm hck hcd;(try clear hq1);(try clear hq2);(try clear hq3);(try clear hq0);(try clear hq4);(try clear nA);(try clear nE);(try clear nG);simp_all
  intro aoz
  refine lU 4 120 ?_ ?_
  ·intro aoB
   refine ak 6 ?_;intro a H;refine Sc (_) _ _ ?_ sB;rw [show sV x=(q4 || decide (x.kind≠7) && decide (0 < (x.rows.length:Int))) by rw [hq4,hq3,hq2,hq1];rfl];clear hq4;clear hst hwd hnm hck hcd;(try clear hq1);(try clear hq2);(try clear hq3);(try clear hq0);(try clear hq4);(try clear nA);(try clear nE);(try clear nG);simp_all
  intro aoB
  refine ak 6 ?_;intro a H;refine Sc (_) _ _ ?_ sB;rw [show sV x=(q4 || decide (x.kind≠7) && decide (0 < (x.rows.length:Int))) by rw [hq4,hq3,hq2,hq1];rfl];clear hq4;clear hst hwd hnm hck hcd;(try clear hq1);(try clear hq2);(try clear hq3);(try clear hq0);(try clear hq4);(try clear nA);(try clear nE);(try clear nG);simp_all
 clear H;intro q5 a w hI H;dsimp only [lca,bG] at H;(repeat with_reducible refine dK ?_);refine d0 ?_;have nA:=hI;refine iR 2 H ?_ ?_ <;> clear H
 ·intro Nh
  have e:jS x=15:=by unfold jS;rw [ah f0,av (by rw [← nA];exact Nh)]
  refine aP 3 ?_;exact ⟨by rw [e],rfl⟩
 intro Nh
 try have Uy:=dF Nh
 have f1:¬ sV x=true:=by rw [← nA,Nh];decide
 refine ak 3 ?_;intro a H;refine s_call Jm H wn rfl (Le _ _ H.ro x.text hs) rfl ?_;clear H;rintro v130 _ a w ⟨rfl,rfl⟩ - H;refine iR 3 H ?_ ?_ <;> clear H
 ·intro h127
  have e:jS x=12:=by unfold jS;rw [ah f0,ah f1,av (by simpa using h127)]
  refine aP 3 ?_;exact ⟨by rw [e],rfl⟩
 intro h127
 try have atQ:=dF h127
 have f2:¬ qm x.text=false:=by simpa using h127
 refine ak 1 ?_;intro a H;refine Cx (ι:=Bool) (Tc:=[(1,_),(3,_)]) 13 (fun (q6:Bool)=>[(145,.bool q6)]) (fun (q6:Bool)=>q6=(decide (x.kind=1∨x.kind=5) && pQ x.text)) sB ?_ ?_
 ·intro Sg;refine pU 4 136 H ?_ ?_ <;> clear H
  ·intro aoD
   refine ak 5 ?_;intro a H;refine Iu GU H (wg H rfl rfl rfl) rfl rfl ?_;clear H;intro a H;refine iC mh H (wg H rfl rfl rfl) rfl (H.hp.qH 0 rfl rfl) rfl ?_;clear H;intro a H;refine AO H (wg H rfl rfl rfl) rfl rfl rfl ?_;clear H;refine ak 1 ?_;intro a H;refine Sg (_) _ _ ?_ sB;clear hst hwd hnm hck hcd;(try clear hq1);(try clear hq2);(try clear hq3);(try clear hq0);(try clear hq4);(try clear nA);(try clear nE);(try clear nG);simp_all [pQ]
  intro aoD
  refine jM 5 141 ?_ ?_
  ·intro M7
   try have aoF:=dT M7
   refine ak 2 ?_;intro a H;refine AO H (wg H rfl rfl M7) rfl rfl rfl ?_;clear H;refine ak 1 ?_;intro a H;refine Sg (_) _ _ ?_ sB;clear hst hwd hnm hck hcd;(try clear hq1);(try clear hq2);(try clear hq3);(try clear hq0);(try clear hq4);(try clear nA);(try clear nE);(try clear nG);simp_all [pQ]
  intro M7
  try have aoF:=dF M7
  refine ak 4 ?_;intro a H;refine Sg (_) _ _ ?_ sB;clear hst hwd hnm hck hcd;(try clear hq1);(try clear hq2);(try clear hq3);(try clear hq0);(try clear hq4);(try clear nA);(try clear nE);(try clear nG);simp_all [pQ]
 clear H;intro q6 a w hI H;dsimp only [lca,bG] at H;(repeat with_reducible refine dK ?_);refine d0 ?_;have nE:=hI;refine iR 2 H ?_ ?_ <;> clear H
 ·intro M6
  have e:jS x=11:=by unfold jS;rw [ah f0,ah f1,ah f2,av (by rw [← nE];exact M6)]
  refine aP 3 ?_;exact ⟨by rw [e],rfl⟩
 intro M6
 try have aaZ:=dF M6
 have f3:¬ (decide (x.kind=1∨x.kind=5) && pQ x.text)=true:=by rw [← nE,M6];decide
 refine ak 1 ?_;intro a H;refine Cx (ι:=Bool) (Tc:=[(1,_),(3,_)]) 9 (fun (q7:Bool)=>[(155,.bool q7)]) (fun (q7:Bool)=>q7=(decide (x.kind=5) && decide (1024 < (x.text.size:Int)))) sB ?_ ?_
 ·intro YQ;refine kJ 4 150 H ?_ ?_ <;> clear H
  ·intro M9
   try have aoG:=dT M9
   refine ak 2 ?_;intro a H;refine DI jE H (wg H rfl rfl M9) rfl rfl ?_;clear H;refine ak 2 ?_;intro a H;refine YQ (_) _ _ ?_ sB;clear hst hwd hnm hck hcd;(try clear hq1);(try clear hq2);(try clear hq3);(try clear hq0);(try clear hq4);(try clear nA);(try clear nE);(try clear nG);simp_all
  intro M9
  try have aoG:=dF M9
  refine ak 5 ?_;intro a H;refine YQ (_) _ _ ?_ sB;clear hst hwd hnm hck hcd;(try clear hq1);(try clear hq2);(try clear hq3);(try clear hq0);(try clear hq4);(try clear nA);(try clear nE);(try clear nG);simp_all
 clear H;intro q7 a w hI H;dsimp only [lca,bG] at H;(repeat with_reducible refine dK ?_);refine d0 ?_;have nG:=hI;refine iR 2 H ?_ ?_ <;> clear H
 ·intro M8
  have e:jS x=10:=by unfold jS;rw [ah f0,ah f1,ah f2,ah f3,av (by rw [← nG];exact M8)]
  refine aP 3 ?_;exact ⟨by rw [e],rfl⟩
 intro M8
 try have atS:=dF M8
 have f4:¬ (decide (x.kind=5) && decide (1024 < (x.text.size:Int)))=true:=by rw [← nG,M8];decide
 refine ak 1 ?_;intro a H;refine Cx (ι:=Bool) (Tc:=[]) 7 (fun (q8:Bool)=>[(163,.bool q8)]) (fun (q8:Bool)=>q8=(xY x && !qO x.text)) (by exact H.sub trivial) ?_ ?_
 ·intro YS;refine kJ 2 158 H ?_ ?_ <;> clear H
  ·intro Na
   try have aoH:=dT Na
   refine ak 2 ?_;intro a H;refine s_call QM H (wg H rfl rfl Na) rfl (Qw _ _ H.ro x.text hs) rfl ?_;clear H;rintro atZ _ a w ⟨rfl,rfl⟩ - H;refine aD 2 H ?_;clear H;intro a H;refine YS (_) _ _ ?_ sB;rw [← hst];clear hst hwd hnm hck hcd;(try clear hq1);(try clear hq2);(try clear hq3);(try clear hq0);(try clear hq4);(try clear nA);(try clear nE);(try clear nG);simp_all
  intro Na
  try have aoH:=dF Na
  refine ak 5 ?_;intro a H;refine YS (_) _ _ ?_ sB;rw [← hst];clear hst hwd hnm hck hcd;(try clear hq1);(try clear hq2);(try clear hq3);(try clear hq0);(try clear hq4);(try clear nA);(try clear nE);(try clear nG);simp_all
 clear H;intro q8 a w hI H;dsimp only [lca,bG] at H;(repeat with_reducible refine dK ?_);refine d0 ?_;have hq8:=hI;refine iR 2 H ?_ ?_ <;> clear H
 ·intro RO
  have e:jS x=13:=by unfold jS;rw [ah f0,ah f1,ah f2,ah f3,ah f4,av (by rw [← hq8];exact RO)]
  refine aP 3 ?_;exact ⟨by rw [e],rfl⟩
 intro RO
 refine ak 1 ?_
 have e:jS x=0:=by unfold jS;rw [ah f0,ah f1,ah f2,ah f3,ah f4,ah (by rw [← hq8,RO];decide)]
 refine aP 3 ?_;exact ⟨by rw [e],rfl⟩
end
section
open Go.RowKit
structure CS where
 n:Int
 bK:List Int
abbrev CR:=Int × CS
def fQ (r:CR) (f:CS→CR):CR:=if r.1≠0 then r else f r.2
theorem Gg {r:CR} {f:CS→CR} (h:r.1=0):fQ r f=f r.2:=by rw [fQ,ah (fun h'=>h' h)]
theorem Mq {r:CR} {f:CS→CR} (h:r.1≠0):fQ r f=r:=by rw [fQ,av h]
def jW (C:bN) (s:CS) (x:Int):CR:=(pz C.us s.bK x,⟨s.n,jV C.us s.bK x⟩)
def lZ (C:bN) (body note:Bool) (t k i:Int) (s:CS):CR :=
 if k=3 then (dx (!body) 19,s) else if k=6 then fQ (dx note 19,s) fun s=>jW C s i else if k=7 then fQ (dx (decide (4≤t)) 17,s) fun s=>jW C s i else if k=8 then (dx (!decide (1≤i∧i≤1073741824)) 18,s) else (0,s)
def Ch (C:bN) (h:dW) (n:Nat):Int:=dh [gQ C 9 h,dx (decide ((n:Int)=0)) 11,dx (decide (32 < (n:Int))) 9]
def lI (n:Nat) (f:CS→CR) (s:CS):CR:=if n=0 then (11,s) else if 256 < n then (9,s) else f s
mutual
def eY (C:bN) (body note:Bool) (t:Int):ay→CS→CR
 | .mk k c i tx h f r,s =>
  fQ (jS (.mk k c i tx h f r),s) fun s=>fQ (lZ C body note t k i ⟨s.n+(if k=1 then rD tx else 1:Nat),s.bK⟩) fun s=>fQ (gQ C k h,s) fun s =>
   if k=6 then jo C false true t f s else if k=7 then lI r.length (fun s=>iB C note (t+1) r s) s else (0,s)
def xU (C:bN) (note:Bool) (t:Int):aV→CS→CR
 | .mk h cs,s=>fQ (Ch C h cs.length,s) fun s=>oP C note t cs s
def cellC (C:bN) (note:Bool) (t:Int):bB→CS→CR
 | .mk i h f,s=>fQ (jW C s i) fun s=>fQ (gQ C 10 h,s) fun s=>jo C false note t f s
def jo (C:bN) (body note:Bool) (t:Int):List ay→CS→CR
 | [],s=>(0,s)
 | x :: r,s=>fQ (eY C body note t x s) fun s=>jo C body note t r s
def iB (C:bN) (note:Bool) (t:Int):List aV→CS→CR
 | [],s=>(0,s)
 | x :: r,s=>fQ (xU C note t x s) fun s=>iB C note t r s
def oP (C:bN) (note:Bool) (t:Int):List bB→CS→CR
 | [],s=>(0,s)
 | x :: r,s=>fQ (cellC C note t x s) fun s=>oP C note t r s
end
theorem aaj (C:bN) (body note:Bool) (t:Int) (x:ay) (s:CS):eY C body note t x s=fQ (jS x,s) fun s=>fQ (lZ C body note t x.kind x.id ⟨s.n+(jl x:Nat),s.bK⟩) fun s=>fQ (gQ C x.kind x.head,s) fun s =>
  if x.kind=6 then jo C false true t x.flow s else if x.kind=7 then lI x.rows.length (fun s=>iB C note (t+1) x.rows s) s else (0,s):=by cases x;rw [eY];rfl
theorem OC (C:bN) (note:Bool) (t:Int) (x:aV) (s:CS):xU C note t x s=fQ (Ch C x.head x.cells.length,s) fun s=>oP C note t x.cells s:=by cases x;rw [xU];rfl
theorem MC (C:bN) (note:Bool) (t:Int) (x:bB) (s:CS):cellC C note t x s=fQ (jW C s x.id) fun s=>fQ (gQ C 10 x.head,s) fun s=>jo C false note t x.flow s:=by cases x;rw [cellC];rfl
def Up (s:CS) (z:Nat) (r:CR):Prop:=s.n≤r.2.n∧r.2.n≤s.n+z
theorem Up.and {s:CS} {z y q:Nat} {r:CR} {f:CS→CR} (h:Up s z r) (hq:z+y≤q) (hf:∀ s,Up s y (f s)):Up s q (fQ r f):=by
 obtain ⟨h1,h2⟩:=h
 unfold fQ
 split
 ·exact ⟨h1,by omega⟩
 obtain ⟨h3,h4⟩:=hf r.2;exact ⟨by omega,by omega⟩
theorem Up.zero (s:CS) (e:Int) (q:Nat):Up s q (e,s):=⟨Int.le_refl _,by dsimp only;omega⟩
theorem Up.le {s:CS} {z y:Nat} {r:CR} (h:Up s z r) (hq:z≤y):Up s y r:=⟨h.1,by have:=h.2;omega⟩
theorem acE (C:bN) (s:CS) (x:Int) (q:Nat):Up s q (jW C s x):=⟨Int.le_refl _,by dsimp only [jW];omega⟩
theorem arL (C:bN) (body note:Bool) (t k i:Int) (s:CS) (q:Nat):Up s q (lZ C body note t k i s):=by
 unfold lZ
 (repeat' split) <;> first|exact Up.zero _ _ _|exact (Up.zero _ _ 0).and (y:=0) (by omega) fun s=>acE _ _ _ _
mutual
theorem acF (C:bN) (body note:Bool) (t:Int):∀ (x:ay) (s:CS),Up s (bY x.dat) (eY C body note t x s)
 | .mk k c i tx h f r,s=>by
  have hz:=yB (.mk k c i tx h f r);have hf:=Pm C false true t f;have hr:=acG C note (t+1) r;rw [eY];obtain ⟨u,hu'⟩:∃ u,u=(if k=1 then rD tx else 1:Nat):=⟨_,rfl⟩
  have hu:u≤tx.size+1:=by
   have:=Xd tx
   rw [hu'];split <;> omega
  rw [← hu'];dsimp only [ay.text,ay.flow,ay.rows,ay.head] at hz;refine (Up.zero s _ 0).and (Nat.le_of_eq (fU _)) fun s=>?_
  have h2:Up s (u) (lZ C body note t k i ⟨s.n+(u:Nat),s.bK⟩):=by
   obtain ⟨h3,h4⟩:=arL C body note t k i ⟨s.n+(u:Nat),s.bK⟩ 0;dsimp only at h3 h4;exact ⟨by omega,by omega⟩
  refine h2.and (y:=bZ f+gH r) (by omega) fun s=>(Up.zero s _ 0).and (Nat.le_of_eq (fU _)) fun s=>?_
  by_cases h6:k=6
  ·rw [av h6];exact (hf s).le (by omega)
  rw [ah h6]
  by_cases h7:k=7
  ·rw [av h7]
   unfold lI
   by_cases c1:r.length=0
   ·rw [av c1];exact Up.zero _ _ _
   rw [ah c1]
   by_cases c2:256 < r.length
   ·rw [av c2];exact Up.zero _ _ _
   rw [ah c2];exact (hr s).le (by omega)
  rw [ah h7];exact Up.zero _ _ _
theorem arM (C:bN) (note:Bool) (t:Int):∀ (x:aV) (s:CS),Up s (bY x.dat) (xU C note t x s)
 | .mk h cs,s=>by
  have hz:=Cz (.mk h cs);have hc:=acD C note t cs;rw [OC];dsimp only [aV.cells,aV.head] at hz ⊢;exact (Up.zero s _ 0).and (y:=iI cs) (by omega) fun s=>hc s
theorem arK (C:bN) (note:Bool) (t:Int):∀ (x:bB) (s:CS),Up s (bY x.dat) (cellC C note t x s)
 | .mk i h f,s=>by
  have hz:=Cy (.mk i h f);have hf:=Pm C false note t f;rw [MC];dsimp only [bB.flow,bB.head,bB.id] at hz ⊢;exact (acE C s _ 0).and (y:=bZ f) (by omega) fun s=>(Up.zero s _ 0).and (Nat.le_of_eq (fU _)) fun s=>hf s
theorem Pm (C:bN) (body note:Bool) (t:Int):∀ (l:List ay) (s:CS),Up s (bZ l) (jo C body note t l s)
 | [],s=>by rw [jo];exact Up.zero _ _ _
 | x :: r,s=>by
  rw [jo];exact (acF C body note t x s).and (y:=bZ r) (by simp only [bZ,eZ,eG];omega) fun s=>Pm C body note t r s
theorem acG (C:bN) (note:Bool) (t:Int):∀ (l:List aV) (s:CS),Up s (gH l) (iB C note t l s)
 | [],s=>by rw [iB];exact Up.zero _ _ _
 | x :: r,s=>by
  rw [iB];exact (arM C note t x s).and (y:=gH r) (by simp only [gH,eZ,eG];omega) fun s=>acG C note t r s
theorem acD (C:bN) (note:Bool) (t:Int):∀ (l:List bB) (s:CS),Up s (iI l) (oP C note t l s)
 | [],s=>by rw [oP];exact Up.zero _ _ _
 | x :: r,s=>by
  rw [oP];exact (arK C note t x s).and (y:=iI r) (by simp only [iI,eZ,eG];omega) fun s=>acD C note t r s
end
def qj {α:Type} (f:α→CS→CR) (l:List α) (s:CS):Nat→CS
 | 0=>s
 | i+1=>match l[i]? with|some x=>(f x (qj f l s i)).2|none=>qj f l s i
def Bt {α:Type} (f:α→CS→CR) (l:List α) (s:CS) (i:Nat):Int:=match l[i]? with|some x=>(f x (qj f l s i)).1|none=>0
theorem U7 {α:Type} (f:α→CS→CR) (x:α) (l:List α) (s:CS):∀ i,qj f (x :: l) s (i+1)=qj f l (f x s).2 i
 | 0=>rfl
 | i+1=>by
  have ih:=U7 f x l s i
  simp only [qj,List.getElem?_cons_succ] at ih ⊢
  rw [ih]
theorem ajb {α:Type} (f:α→CS→CR) (x:α) (l:List α) (s:CS) (i:Nat):Bt f (x :: l) s (i+1)=Bt f l (f x s).2 i:=by
 unfold Bt
 simp only [List.getElem?_cons_succ,U7]
theorem adJ (E:Nat→Int) (n:Nat):iF E (n+1)=if E 0≠0 then E 0 else iF (fun i=>E (i+1)) n:=by
 unfold iF
 rw [List.range_succ_eq_map,eZ,dh,List.map_map]
 rfl
theorem aak (C:bN) (body note:Bool) (t:Int):∀ (l:List ay) (s:CS),(jo C body note t l s).1=iF (Bt (eY C body note t) l s) l.length∧((jo C body note t l s).1=0→(jo C body note t l s).2=qj (eY C body note t) l s l.length)
 | [],s=>by rw [jo];exact ⟨rfl,fun _=>rfl⟩
 | x :: r,s=>by
  obtain ⟨h1,h2⟩:=aak C body note t r (eY C body note t x s).2;have e0:Bt (eY C body note t) (x :: r) s 0=(eY C body note t x s).1:=rfl;rw [jo,kr,adJ,e0,U7]
  simp only [ajb]
  unfold fQ
  split
  ·next h=>exact ⟨rfl,fun h0=>absurd h0 h⟩
  exact ⟨h1,h2⟩
theorem acH (C:bN) (body note:Bool) (t:Int) (l:List ay) (s:CS):∀ i,i≤l.length→s.n≤(qj (eY C body note t) l s i).n∧(qj (eY C body note t) l s i).n+(bZ (l.drop i):Nat)≤s.n+(bZ l:Nat)
 | 0,_=>⟨Int.le_refl _,Int.le_refl _⟩
 | i+1,hi=>by
  have hi':i < l.length:=hi;obtain ⟨h1,h2⟩:=acH C body note t l s i (by omega)
  have hs:qj (eY C body note t) l s (i+1)=(eY C body note t l[i] (qj (eY C body note t) l s i)).2:=by rw [qj,eO hi']
  have hd:bZ (l.drop i)=1+bY l[i].dat+bZ (l.drop (i+1)):=by
   simp only [bZ];rw [pJ hi',eZ,eG]
  obtain ⟨h3,h4⟩:=acF C body note t l[i] (qj (eY C body note t) l s i);rw [hs];exact ⟨by omega,by omega⟩
end
section
open Go.RowKit
mutual
/-- The ids in items, in document order. -/
def pq:ay→List Int
 | .mk k _ i _ _ f r=>(if k=6∨k=7 then [i] else [])++((if k=6 then iO f else [])++(if k=7 then lW r else []))
def iO:List ay→List Int
 | []=>[]
 | x :: r=>pq x++iO r
def tJ:aV→List Int
 | .mk _ c=>mW c
def lW:List aV→List Int
 | []=>[]
 | x :: r=>tJ x++lW r
def uJ:bB→List Int
 | .mk i _ f=>i :: iO f
def mW:List bB→List Int
 | []=>[]
 | x :: r=>uJ x++mW r
end
end
section
open Go.RowKit
theorem lT {r:CR} {f:CS→CR} {s':CS} (h:fQ r f=(0,s')):r.1=0∧f r.2=(0,s'):=by
 unfold fQ at h
 split at h
 ·rename_i h1;rw [h] at h1;exact absurd rfl h1
 rename_i h1;exact ⟨nK.1 h1,h⟩
theorem Qx {r:CR} (h:r.1=0):r=(0,r.2):=Prod.ext h rfl
structure lM (a b c:List Int):Prop where
 eq:c=a++b
 nd:a.Nodup→c.Nodup
 pos:∀ i∈b,1≤i∧i≤1073741824
theorem lM.nil (a:List Int):lM a [] a:=⟨by simp,fun h=>h,fun i h=>by cases h⟩
theorem lM.trans {a b c d e:List Int} (h:lM a b c) (g:lM c d e):lM a (b++d) e:=⟨by rw [g.eq,h.eq,iZ],fun h1=>g.nd (h.nd h1),fun i hi=>(nV.1 hi).elim (h.pos i) (g.pos i)⟩
theorem lM.id {us a:List Int} {x:Int} (h:pz us a x=0):lM a [x] (jV us a x):=by
 unfold jV
 rw [av h]
 unfold pz at h
 by_cases h0:¬ (1≤x∧x≤1073741824)∨x∈us
 ·rw [av h0] at h;cases h
 rw [ah h0] at h;have h1:1≤x∧x≤1073741824:=nK.1 fun h'=>h0 (.inl h')
 by_cases h2:x∈a
 ·rw [av h2] at h;cases h
 exact ⟨rfl,fun h3=>List.nodup_append.2 ⟨h3,by simp,fun u hu v hv=>by rw [sN.1 hv];exact fun e=>h2 (e ▸ hu)⟩,fun i hi=>by rw [sN.1 hi];exact h1⟩
theorem lM.jW {C:bN} {s s':CS} {x:Int} (h:jW C s x=(0,s')):lM s.bK [x] s'.bK:=by
 unfold Go.Proofs.YtdiflmikikiedaaGreat.jW at h
 injection h with h1 h2
 rw [← h2];exact lM.id h1
theorem aoM {C:bN} {body note:Bool} {t k i:Int} {s s':CS} (h:lZ C body note t k i s=(0,s')):lM s.bK (if k=6∨k=7 then [i] else []) s'.bK:=by
 unfold lZ at h
 by_cases h3:k=3
 ·rw [av h3] at h;injection h with _ h2;rw [ah (by omega),← h2];exact lM.nil _
 rw [ah h3] at h
 by_cases h6:k=6
 ·rw [av h6] at h;rw [av (.inl h6)];exact lM.jW (lT h).2
 rw [ah h6] at h
 by_cases h7:k=7
 ·rw [av h7] at h;rw [av (.inr h7)];exact lM.jW (lT h).2
 rw [ah h7] at h;rw [ah (by omega)]
 by_cases h8:k=8
 ·rw [av h8] at h;injection h with _ h2;rw [← h2];exact lM.nil _
 rw [ah h8] at h;injection h with _ h2;rw [← h2];exact lM.nil _
theorem UH {n:Nat} {f:CS→CR} {s s':CS} (h:lI n f s=(0,s')):n≠0∧f s=(0,s'):=by
 unfold lI at h
 split at h
 ·cases h
 rename_i h1
 split at h
 ·cases h
 exact ⟨h1,h⟩
mutual
theorem ajf (C:bN) (body note:Bool) (t:Int):∀ (x:ay) (s s':CS),eY C body note t x s=(0,s')→lM s.bK (pq x) s'.bK
 | .mk k c i tx h f r,s,s',e=>by
  have hf:=MV C false true t f;have hr:=Ye C note (t+1) r;rw [eY] at e;obtain ⟨-,e⟩:=lT e;obtain ⟨e1,e⟩:=lT e;obtain ⟨-,e⟩:=lT e;have h1:=aoM (Qx e1);rw [pq];refine h1.trans ?_
  by_cases h6:k=6
  ·rw [av h6] at e ⊢;rw [ah (show ¬ k=7 by omega),gu];exact hf _ _ e
  rw [ah h6] at e ⊢;rw [oD]
  by_cases h7:k=7
  ·rw [av h7] at e ⊢;exact hr _ _ (UH e).2
  rw [ah h7] at e ⊢
  injection e with _ e
  rw [← e];exact lM.nil _
theorem ajg (C:bN) (note:Bool) (t:Int):∀ (x:aV) (s s':CS),xU C note t x s=(0,s')→lM s.bK (tJ x) s'.bK
 | .mk h cs,s,s',e=>by
  have hc:=Yd C note t cs;rw [OC] at e;rw [tJ];exact hc _ _ (lT e).2
theorem aje (C:bN) (note:Bool) (t:Int):∀ (x:bB) (s s':CS),cellC C note t x s=(0,s')→lM s.bK (uJ x) s'.bK
 | .mk i h f,s,s',e=>by
  have hf:=MV C false note t f;rw [MC] at e;dsimp only [bB.id,bB.head,bB.flow] at e;obtain ⟨e1,e⟩:=lT e;have h1:=lM.jW (s':=(jW C s i).2) (Prod.ext e1 rfl);rw [uJ];exact h1.trans (hf _ _ (lT e).2)
theorem MV (C:bN) (body note:Bool) (t:Int):∀ (l:List ay) (s s':CS),jo C body note t l s=(0,s')→lM s.bK (iO l) s'.bK
 | [],s,s',e=>by rw [jo] at e;injection e with _ e;rw [← e];exact lM.nil _
 | x :: r,s,s',e=>by
  rw [jo] at e;obtain ⟨e1,e⟩:=lT e;rw [iO];exact (ajf C body note t x s _ (Prod.ext e1 rfl)).trans (MV C body note t r _ _ e)
theorem Ye (C:bN) (note:Bool) (t:Int):∀ (l:List aV) (s s':CS),iB C note t l s=(0,s')→lM s.bK (lW l) s'.bK
 | [],s,s',e=>by rw [iB] at e;injection e with _ e;rw [← e];exact lM.nil _
 | x :: r,s,s',e=>by
  rw [iB] at e;obtain ⟨e1,e⟩:=lT e;rw [lW];exact (ajg C note t x s _ (Prod.ext e1 rfl)).trans (Ye C note t r _ _ e)
theorem Yd (C:bN) (note:Bool) (t:Int):∀ (l:List bB) (s s':CS),oP C note t l s=(0,s')→lM s.bK (mW l) s'.bK
 | [],s,s',e=>by rw [oP] at e;injection e with _ e;rw [← e];exact lM.nil _
 | x :: r,s,s',e=>by
  rw [oP] at e;obtain ⟨e1,e⟩:=lT e;rw [mW];exact (aje C note t x s _ (Prod.ext e1 rfl)).trans (Yd C note t r _ _ e)
end
def qw (l:List ay):Prop:=∃ (C:bN) (body note:Bool) (t:Int) (s s':CS),jo C body note t l s=(0,s')
structure F5 (x:ay):Prop where
 txt:qm x.text=true
 kd:1≤x.kind∧x.kind≤8
 rw0:x.kind≠7→x.rows=[]
 fl0:x.kind≠6→x.flow=[]
 fl:qw x.flow
 rw:∀ r∈x.rows,∀ c∈r.cells,qw c.flow
theorem aom:qw []:=⟨⟨[],[],[],[]⟩,false,false,0,⟨0,[]⟩,⟨0,[]⟩,by rw [jo]⟩
theorem Et {x:ay} (h:jS x=0):qm x.text=true∧(1≤x.kind∧x.kind≤8)∧(x.kind≠7→x.rows=[])∧(x.kind≠6→x.flow=[]):=by
 unfold jS at h
 split at h
 ·cases h
 rename_i h1
 split at h
 ·cases h
 rename_i h2
 split at h
 ·cases h
 rename_i h3
 have hk:decide (1≤x.kind∧x.kind≤8)=true:=by
  cases hd:decide (1≤x.kind∧x.kind≤8)
  ·rw [hd] at h1;exact absurd rfl h1
  rfl
 refine ⟨by simpa using h3,mE hk,fun h7=>?_,fun h6=>?_⟩
 ·rw [Bool.not_eq_true] at h2
  unfold sV at h2
  simp only [Bool.or_eq_false_iff] at h2
  have h4:=h2.2;rw [iQ h7,CO,mM] at h4;exact List.length_eq_zero_iff.1 (by omega)
 rw [Bool.not_eq_true] at h2
 unfold sV at h2
 simp only [Bool.or_eq_false_iff] at h2
 have h4:=h2.1.2;rw [iQ h6,CO,mM] at h4;exact List.length_eq_zero_iff.1 (by omega)
theorem cells_ok {C:bN} {note:Bool} {t:Int}:∀ {l:List bB} {s s':CS},oP C note t l s=(0,s')→∀ c∈l,qw c.flow
 | [],_,_,_,_,h=>by cases h
 | x :: r,s,s',e,c,h=>by
  rw [oP] at e;obtain ⟨e1,e⟩:=lT e
  rcases kg.1 h with rfl|h
  ·have e2:cellC C note t c s=(0,(cellC C note t c s).2):=Prod.ext e1 rfl
   generalize (cellC C note t c s).2=s2 at e2
   rw [MC] at e2;exact ⟨C,false,note,t,_,_,(lT (lT e2).2).2⟩
  exact cells_ok e c h
theorem abr {C:bN} {note:Bool} {t:Int}:∀ {l:List aV} {s s':CS},iB C note t l s=(0,s')→∀ r∈l,∀ c∈r.cells,qw c.flow
 | [],_,_,_,_,h=>by cases h
 | x :: r,s,s',e,q,h=>by
  rw [iB] at e;obtain ⟨e1,e⟩:=lT e
  rcases kg.1 h with rfl|h
  ·have e2:xU C note t q s=(0,(xU C note t q s).2):=Prod.ext e1 rfl
   generalize (xU C note t q s).2=s2 at e2
   rw [OC] at e2;exact cells_ok (lT e2).2
  exact abr e q h
theorem qw.head {x:ay} {l:List ay} (h:qw (x :: l)):F5 x∧qw l:=by
 obtain ⟨C,body,note,t,s,s',e⟩:=h;rw [jo] at e;obtain ⟨e1,e⟩:=lT e;have e2:eY C body note t x s=(0,(eY C body note t x s).2):=Prod.ext e1 rfl
 generalize (eY C body note t x s).2=s2 at e2
 refine ⟨?_,⟨C,body,note,t,_,_,e⟩⟩;rw [aaj] at e2;obtain ⟨f1,e2⟩:=lT e2;(iterate 2 obtain ⟨-,e2⟩:=lT e2);obtain ⟨h1,h2,h3,h4⟩:=Et f1;refine ⟨h1,h2,h3,h4,?_,?_⟩
 ·by_cases h6:x.kind=6
  ·rw [av h6] at e2;exact ⟨_,_,_,_,_,_,e2⟩
  rw [h4 h6];exact aom
 by_cases h7:x.kind=7
 ·rw [ah (by omega),av h7] at e2;exact abr (UH e2).2
 rw [h3 h7];exact fun _ h=>by cases h
theorem qw.tail {x:ay} {l:List ay} (h:qw (x :: l)):qw l:=h.head.2
theorem qw.mem:∀ {l:List ay} {x:ay},qw l→x∈l→F5 x
 | y :: l,x,h,hx=>by
  rcases kg.1 hx with rfl|hx
  ·exact h.head.1
  exact qw.mem h.head.2 hx
theorem F5.e {x:ay} (h:F5 x):Lb x=0:=by unfold Lb IG;rw [av h.txt];split <;> rfl
theorem F5.n1 {x:ay} (h:F5 x):n1 x=jl x:=by unfold Go.Proofs.YtdiflmikikiedaaGreat.n1;rw [av h.e]
theorem qw.div {l:List ay} (h:qw l):MR l=true:=by
 unfold MR
 rw [jQ];exact fun x hx=>iQ (h.mem hx).e
theorem qw.len {l:List ay} (h:qw l):Dq l=Fy l:=by unfold Dq;rw [av h.div]
mutual
theorem asb (note:Bool) (t:Int):∀ x:ay,((Lj note t x).map oM.id).Sublist (pq x)
 | .mk k c i tx h f r=>by
  have hf:=Pp true t f;have hr:=acP note t r;rw [Lj,pq]
  by_cases h6:k=6
  ·rw [av h6,av (.inl h6),av h6,ah (by omega),gu];exact List.Sublist.cons_cons _ hf
  rw [ah h6,ah h6,oD]
  by_cases h7:k=7
  ·rw [av h7,av h7,av (.inr h7)];exact List.Sublist.cons _ hr
  rw [ah h7];exact List.nil_sublist _
theorem Pp (note:Bool) (t:Int):∀ l:List ay,((Ba note t l).map oM.id).Sublist (iO l)
 | []=>by rw [Ba];exact List.nil_sublist _
 | x :: l=>by
  rw [Ba,iO,kM];exact (asb note t x).append (Pp note t l)
theorem asc (note:Bool) (t:Int):∀ x:aV,((Ll note t x).map oM.id).Sublist (tJ x)
 | .mk h cs=>by rw [Ll,tJ];exact acO note t cs
theorem acP (note:Bool) (t:Int):∀ l:List aV,((DV note t l).map oM.id).Sublist (lW l)
 | []=>by rw [DV];exact List.nil_sublist _
 | x :: l=>by
  rw [DV,lW,kM];exact (asc note t x).append (acP note t l)
theorem asa (note:Bool) (t:Int):∀ x:bB,((Lg note t x).map oM.id).Sublist (uJ x)
 | .mk i h f=>by rw [Lg,uJ];exact List.Sublist.cons_cons _ (Pp note (t+1) f)
theorem acO (note:Bool) (t:Int):∀ l:List bB,((DU note t l).map oM.id).Sublist (mW l)
 | []=>by rw [DU];exact List.nil_sublist _
 | x :: l=>by
  rw [DU,mW,kM];exact (asa note t x).append (acO note t l)
end
structure Mf (l:List ay):Prop where
 ok:qw l
 nd:(iO l).Nodup
 pos:∀ i∈iO l,1≤i∧i≤1073741824
theorem Mf.of {C:bN} {body note:Bool} {t n:Int} {l:List ay} {s':CS} (h:jo C body note t l ⟨n,[]⟩=(0,s')):Mf l:=by
 have he:=MV C body note t l _ _ h;have hn:=he.nd List.nodup_nil;rw [he.eq] at hn;exact ⟨⟨C,body,note,t,_,_,h⟩,by simpa using hn,he.pos⟩
theorem Mf.ids {l:List ay} (h:Mf l):((GY l).map oM.id).Nodup:=by
 have hs:=Pp false 0 l;rw [GY,eZ,List.nodup_cons];exact ⟨fun hm=>by have:=h.pos _ (hs.subset hm);dsimp only at this;omega,hs.nodup h.nd⟩
end
section
open Go.RowKit
theorem GJ:∀ args w,(callFunc 70 args).run prog w=.ok (.enter 70 args) w:=enters func70 rfl (by kernel_rfl)
theorem QO:∀ args w,(callFunc 198 args).run prog w=.ok (.enter 198 args) w:=enters func198 rfl (by kernel_rfl)
theorem Jp:∀ args w,(callFunc 72 args).run prog w=.ok (.enter 72 args) w:=enters func72 rfl (by kernel_rfl)
variable {us:List Int}
theorem Ho (G:GH) (L:OL) (w0:World) (st:List bS) (li:List eD) (rv:List bX) (b ms ml mr mb mu:Nat) (n:Int) (hck:uW us G st li rv ms ml mr mu) (hO:fT G (fO b ms ml mr mb mu n :: L) w0)
  (e:Int) (h:dW) (p d l:aj) (hh:fD G h p d l) (hz:kU h≤4294967296) :
  Calls prog 70 #[(aG b 0),vi e,oW h p d l] w0 (fI w0 G (fO b ms ml mr mb mu n :: L) fun v G' L'=>G=G'∧L'=fO b ms ml mr mb mu n :: L∧v=vi (gQ (bE us st li rv) e h)):=by
 have hm:=GH.F8 G (o:=(fO b ms ml mr mb mu n).2) (hO.sep _ fK);exact (als (G.add b (fO b ms ml mr mb mu n).2) w0 hO.add st li rv b ms ml mr mb mu n (hck.mono hm) (GH.F9 _ _ _) e h p d l (hh.mono hm) hz).mono fun _ _=>apq (b:=b) (o:=(fO b ms ml mr mb mu n).2) (R':=fun v=>v=vi (gQ (bE us st li rv) e h)) hO fun _ _ h=>h
abbrev LM (b ms ml mr mb mu:Nat) (L:OL) (r:CR):aj→OL→Prop:=fun u L'=>∃ s:CS,u=vi r.1∧L'=fO b ms ml mr mb mu s.n :: (mb,eT (fH s.bK)) :: L∧(r.1=0→s=r.2)
def FX (us:List Int) (m:Nat):Prop:=∀ (G:GH) (L:OL) (w0:World) (st:List bS) (li:List eD) (rv:List bX) (b ms ml mr mb mu:Nat) (s:CS) (l:List ay) (v:aj) (body note:Bool) (t:Int),
 uW us G st li rv ms ml mr mu→fT G (fO b ms ml mr mb mu s.n :: (mb,eT (fH s.bK)) :: L) w0→au G (.sl 11 (l.map ay.dat)) v→bZ l < m→0≤t→t≤4→0≤s.n→s.n+(bZ l:Nat)≤1099511627776 →
 Calls prog 72 #[(aG b 0),v,.agg #[.bool body,.bool note,vi t]] w0 (fI w0 G (fO b ms ml mr mb mu s.n :: (mb,eT (fH s.bK)) :: L) fun u G' L'=>G=G'∧LM b ms ml mr mb mu L (jo (bE us st li rv) body note t l s) u L')
theorem rows_ok {m:Nat} (ih:FX us m) (hm:m≤4294967296) (Gt:GH) (L:OL) (w0:World) (st:List bS) (li:List eD) (rv:List bX) (b ms ml mr mb mu:Nat) (s:CS) (l:List aV) (v:aj) (note:Bool) (t:Int)
  (hck:uW us Gt st li rv ms ml mr mu) (hO:fT Gt (fO b ms ml mr mb mu s.n :: (mb,eT (fH s.bK)) :: L) w0) (hv:au Gt (.sl 6 (l.map aV.dat)) v) (hz:gH l < m) (ht0:0≤t) (zx:t≤4) (hs0:0≤s.n) (hs1:s.n+(gH l:Nat)≤1099511627776) :
  Calls prog 199 #[(aG b 0),v,.agg #[.bool false,.bool note,vi t]] w0 (fI w0 Gt (fO b ms ml mr mb mu s.n :: (mb,eT (fH s.bK)) :: L) fun u G' L'=>LM b ms ml mr mb mu L (lI l.length (fun s=>iB (bE us st li rv) note t l s) s) u L'):=by
 obtain ⟨A,c,rfl,hc1,hc2,hg⟩:=hv.slice;rw [bM] at *;have hll:=IQ l;refine jf (N:=77) (T:=[(0,_),(1,_),(2,_)]) func199 rfl ntmps199 rfl rfl hO ?_;refine ak 1 ?_;intro a H;refine dP (cs:=[_,_,_]) H wn rfl rfl rfl ?_;clear H;intro b5 a w hb5 H;refine gF 8 H ?_ ?_ <;> clear H
 ·intro jH
  have hE:lI l.length (fun s=>iB (bE us st li rv) note t l s) s=(11,s):=av (by omega);refine ak 3 ?_;intro a H;refine lr H results199 rfl ?_;exact H.hp.kC (L':=fO b ms ml mr mb mu s.n :: (mb,eT (fH s.bK)) :: L) (by repeat (first|exact jR _|apply List.Sublist.cons)) ⟨s,by rw [hE],rfl,fun h=>by rw [hE]⟩
 intro jH
 refine goB 7 ?_ ?_
 ·intro Fp
  have hE:lI l.length (fun s=>iB (bE us st li rv) note t l s) s=(9,s):=by rw [lI,ah (by omega),av (by omega)]
  refine ak 3 ?_;intro a H;refine lr H results199 rfl ?_;exact H.hp.kC (L':=fO b ms ml mr mb mu s.n :: (mb,eT (fH s.bK)) :: L) (by repeat (first|exact jR _|apply List.Sublist.cons)) ⟨s,by rw [hE],rfl,fun h=>by rw [hE]⟩
 intro Fp
 refine ak 2 ?_
 have hE:lI l.length (fun s=>iB (bE us st li rv) note t l s) s=iB (bE us st li rv) note t l s:=by rw [lI,ah (by omega),ah (by omega)]
 refine ak 6 ?_;intro a H;refine eH (ι:=Nat × CS × GH) (Tc:=[(0,_),(5,_),(21,_),(22,_)]) (Lc:=[(_,_)]) (fun gh=>[(23,vi gh.1)]) (fun gh=>[fO b ms ml mr mb mu gh.2.1.n,(mb,eT (fH gh.2.1.bK))]++L) (fun gh=>gh.2.2) (fun gh=>gh.1≤l.length∧(∀ b o,Gt b=some o→gh.2.2 b=some o)∧iB (bE us st li rv) note t l s=iB (bE us st li rv) note t (l.drop gh.1) gh.2.1∧0≤gh.2.1.n∧gh.2.1.n+(gH (l.drop gh.1):Nat)≤1099511627776) (fun gh=>l.length - gh.1) ((0,s,Gt)) sB ?_ ?_
 ·exact ⟨gN _,fun _ _ h=>h,rfl,hs0,hs1⟩
 clear H;rintro ⟨k,s1,g⟩ a w hI H;dsimp only at hI H;obtain ⟨hk,hgm,hR,hn0,hn1⟩:=hI;dsimp only [lca,bG] at H;refine dO 4 H ?_ ?_ <;> clear H
 ·intro jq
  have hk2:k < l.length:=by omega
  have hsz:=LG hk2;have hcs:=IK l[k].cells
  have hdz:gH (l.drop k)=1+bY l[k].dat+gH (l.drop (k+1)):=by simp only [gH];rw [pJ hk2,eZ,eG]
  have hrz:=Cz l[k];obtain ⟨xb,xo,qA,qn,qc,eA,en,ec,zA,zn,zc,cA,cn,cc,rfl,hrow,BR,hcl⟩:=KJ hk2 hg;replace hrow:=fun j u hj=>aH hgm (hrow j u hj);replace BR:=BR.mono hgm;replace hcl:=hcl.mono hgm;have hcn:=hcl.len;rw [bM] at hcn;subst hcn;have alc:=hck.mono hgm;rw [pJ hk2,iB,OC] at hR;refine ak 5 ?_;intro a H;refine aR jI (cs:=[_,_,_,_,_,_]) H wn rfl rfl (fun j v hj=>H.hp.aI (hrow j v hj)) rfl ?_;clear H;intro a H;refine dz jI H wn rfl ?_;clear H;intro b8 a w Al H;refine aX jI 0 (vs:=[_,_,_,_,_,_]) _ H wn rfl rfl rfl rfl rfl rfl rfl rfl ?_;clear H;intro w H;dsimp only [List.set,setRow] at H;refine aD 3 H ?_;clear H;intro a H;refine dI hmx [[],[],[1],[0,1,2],[],[4],[4,5],[4,5,6],(ra 0 8),[],[9],[9,10],[9,10,11],(ra 0 13),(ra 0 14),(ra 0 15),(ra 0 16)] [14,15,16] (by kernel_rfl) [_,_,oW l[k].head (.slice qA qn qc) (.slice eA en ec) (.slice zA zn zc),vi (gQ (bE us st li rv) 9 l[k].head),_,.slice cA l[k].cells.length cc,_,_,vi (dx (decide ((l[k].cells.length:Int)=0)) 11),_,.slice cA l[k].cells.length cc,_,_,vi (dx (decide (32 < (l[k].cells.length:Int))) 9)] H (aF (Z0 rfl (Rm rfl)) (Z0 rfl (Rf Rw rfl)) ?_ ?_ (aF (Z0 rfl (Rf Ju rfl)) (Z1 4 31 rfl (Ro IB 0 rfl)) (Z1 5 32 rfl (Rl Cw rfl)) (Z1 6 33 rfl (Rc rfl)) (aF ?_ (Z0 rfl (Rf Ju rfl)) (Z1 9 36 rfl (Ro IB 0 rfl)) (Z1 10 37 rfl (Rl Cw rfl)) (aF (Z1 11 38 rfl (Rc rfl)) ?_ (bQ rfl) (bQ rfl) (bH (bQ rfl) cO))))) ?_
  ·refine dZ 1 28 rfl rfl fun _ a w G1 hG HT H fin=>?_;refine aR dw (cs:=[_,_,_,_,_]) H wn rfl rfl (H.hp.bO 0 rfl rfl) rfl ?_;clear H;intro a H;exact fin H iJ rfl
  ·refine dD 0 27 2 29 rfl rfl fun _ a w G1 hG HT H fin=>?_;refine gy GJ (Li:=[_,_]) (L:=fO b ms ml mr mb mu s1.n :: (mb,eT (fH s1.bK)) :: L) H wn rfl (Ho _ _ _ st li rv b ms ml mr mb mu _ (alc.mono hG) (Hp.owns (Li:=[_,_]) H.hp) 9 l[k].head _ _ _ (BR.mono hG) (by omega)) rfl ?_;clear H;rintro v30 _ _ a w ⟨rfl,rfl,rfl⟩ RX H;dsimp only [lca,bG] at H;exact fin H RX (rfl)
  ·refine dZ 7 34 rfl rfl fun _ a w G1 hG HT H fin=>?_;refine s_call jA H wn rfl (jF _ _ H.ro _ 11) rfl ?_;clear H;rintro v35 VO a w ⟨rfl,-⟩ RY H;exact fin H RY (rfl)
  ·refine dZ 12 39 rfl rfl fun _ a w G1 hG HT H fin=>?_;refine s_call jA H wn rfl (jF _ _ H.ro _ 9) rfl ?_;clear H;rintro v40 PL a w ⟨rfl,-⟩ akj H;exact fin H akj (rfl)
  clear H;intro a w G nL H hv;have H:=H.aN (hv 3 30 rfl rfl) rfl;have H:=H.aN (hv 8 35 rfl rfl) rfl;have H:=H.aN (hv 13 40 rfl rfl) rfl;clear hv;refine gG ql iw [_,_,_] [_,_,_] H wn rfl rfl rfl rfl rfl (by intro i q h;match i,h with|0,h=>exact h|1,h=>exact h|2,h=>exact h|n+3,h=>simp at h) rfl rfl ?_;clear H;intro b41 a w ata H;obtain ⟨D7,uE,akN,H⟩:=H.eu;have Y7:∀ b o,Gt b=some o→D7 b=some o:=fun b o h=>uE _ _ (nL _ _ (hgm _ _ h));refine s_call qC H wn rfl (qD _ _ H.ro _ _ (EX [gQ (bE us st li rv) 9 l[k].head,dx (decide ((l[k].cells.length:Int)=0)) 11,dx (decide (32 < (l[k].cells.length:Int))) 9] akN (show 3≤maxLen by decide))) rfl ?_;clear H;rintro v42 _ a w ⟨rfl,rfl⟩ - H;refine kH H (Ra rfl ?_);clear H;intro a H;refine aC ⟨rfl,?_⟩;refine dQ ?_;refine dO 4 H ?_ ?_ <;> clear H
  ·intro p44
   have e44:Ch (bE us st li rv) l[k].head l[k].cells.length≠0:=p44
   have hF1:(lI l.length (fun s=>iB (bE us st li rv) note t l s) s).1=Ch (bE us st li rv) l[k].head l[k].cells.length:=by rw [hE,hR,Mq (r:=(Ch (bE us st li rv) l[k].head l[k].cells.length,s1)) e44,Mq e44]
   have hF2:(lI l.length (fun s=>iB (bE us st li rv) note t l s) s).1=0→s1=(lI l.length (fun s=>iB (bE us st li rv) note t l s) s).2:=fun h=>absurd (hF1.symm.trans h) e44;refine ak 4 ?_;intro a H;refine lr H results199 rfl ?_;exact H.hp.kC (L':=fO b ms ml mr mb mu s1.n :: (mb,eT (fH s1.bK)) :: L) (by repeat (first|exact jR _|apply List.Sublist.cons)) ⟨s1,aB vi hF1.symm,rfl,hF2⟩
  intro p44
  have e44:Ch (bE us st li rv) l[k].head l[k].cells.length=0:=nK.1 p44;rw [Gg (r:=(Ch (bE us st li rv) l[k].head l[k].cells.length,s1)) e44] at hR;intro a H;dsimp only at hR;have ald:=hck.mono Y7;replace hcl:=hcl.mono (fun b o h=>uE _ _ (nL b o h));refine fM 8 H ?_;clear H;intro a H;refine eH (ι:=Nat × CS × GH) (Tc:=[(0,_),(5,_),(21,_),(22,_),(23,_),(47,_),(48,_)]) (Lc:=[(_,_),(_,_)]) (fun gh=>[(49,vi gh.1)]) (fun gh=>[fO b ms ml mr mb mu gh.2.1.n,(mb,eT (fH gh.2.1.bK))]++L) (fun gh=>gh.2.2) (fun gh=>gh.1≤l[k].cells.length∧(∀ b o,D7 b=some o→gh.2.2 b=some o)∧iB (bE us st li rv) note t l s=fQ (oP (bE us st li rv) note t (l[k].cells.drop gh.1) gh.2.1) (fun s=>iB (bE us st li rv) note t (l.drop (k+1)) s)∧0≤gh.2.1.n∧gh.2.1.n+(iI (l[k].cells.drop gh.1):Nat)+(gH (l.drop (k+1)):Nat)≤1099511627776) (fun gh=>l[k].cells.length - gh.1) ((0,s1,D7)) sB ?_ ?_
  ·exact ⟨gN _,fun _ _ h=>h,hR,hn0,by dsimp only;rw [List.drop_zero];omega⟩
  clear H;rintro ⟨c,s2,g2⟩ a w hI H;dsimp only at hI H;obtain ⟨hc,Nw,hR2,hm0,hm1⟩:=hI;have iT:=fun b o h=>Nw b o (Y7 b o h);dsimp only [lca,bG] at H;refine dO 4 H ?_ ?_ <;> clear H
  ·intro p50
   have hk4:c < l[k].cells.length:=by omega
   have amx:=LD hk4
   have alm:iI (l[k].cells.drop c)=1+bY l[k].cells[c].dat+iI (l[k].cells.drop (c+1)):=by simp only [iI];rw [pJ hk4,eZ,eG]
   have hcz:=Cy l[k].cells[c];obtain ⟨b3',o3,sA,sn,sc,tA,tn,tc,uA,un,uc,gA,gn,gc,rfl,hrow,hch,hcf⟩:=Jb hk4 (hcl.mono Nw).at_;have SA:=ald.mono Nw;rw [pJ hk4,oP,MC] at hR2;obtain ⟨y,hy⟩:∃ y,y=l[k].cells[c]:=⟨_,rfl⟩;rw [← hy] at hR2 hrow hch hcf hcz amx alm;refine ak 5 ?_;intro a H;refine aR jO (cs:=[_,_,_,_,_,_,_]) H wn rfl rfl (fun j v hj=>H.hp.aI (hrow j v hj)) rfl ?_;clear H;intro a H;refine dz jO H wn rfl ?_;clear H;intro b11 a w Ez H;refine aX jO 0 (vs:=[_,_,_,_,_,_,_]) _ H wn rfl rfl rfl rfl rfl rfl rfl rfl ?_;clear H;intro w H;dsimp only [List.set,setRow] at H;refine aD 6 H ?_;clear H;intro a H;refine gy QO (Li:=[_,_,_]) (L:=fO b ms ml mr mb mu s2.n :: (mb,eT (fH s2.bK)) :: L) H wn rfl (Qp _ _ _ st li rv b ms ml mr mb mu _ s2.bK y.id SA (Hp.owns (Li:=[_,_,_]) H.hp)) rfl ?_;clear H;rintro v56 _ _ a w ⟨rfl,rfl,rfl⟩ - H;dsimp only [lca,bG] at H;refine gF 6 H ?_ ?_ <;> clear H
   ·intro p58
    have hF1:(lI l.length (fun s=>iB (bE us st li rv) note t l s) s).1=pz us s2.bK y.id:=by rw [hE,hR2];simp [fQ,jW,p58]
    have hF2:(lI l.length (fun s=>iB (bE us st li rv) note t l s) s).1=0→(⟨s2.n,jV us s2.bK y.id⟩:CS)=(lI l.length (fun s=>iB (bE us st li rv) note t l s) s).2:=fun h=>absurd (hF1.symm.trans h) p58;refine ak 4 ?_;intro a H;refine lr H results199 rfl ?_;exact H.hp.kC (L':=fO b ms ml mr mb mu s2.n :: (mb,eT (fH (jV us s2.bK y.id))) :: L) (by repeat (first|exact jR _|apply List.Sublist.cons)) ⟨⟨s2.n,jV us s2.bK y.id⟩,aB vi hF1.symm,rfl,hF2⟩
   intro p58
   have e58:pz us s2.bK y.id=0:=nK.1 p58;refine ak 5 ?_;intro a H;refine aR dw (cs:=[_,_,_,_,_]) H wn rfl rfl (H.hp.bO 0 rfl rfl) rfl ?_;clear H;intro a H;refine gy GJ (Li:=[_,_,_]) (L:=fO b ms ml mr mb mu s2.n :: (mb,eT (fH (jV us s2.bK y.id))) :: L) H wn rfl (Ho _ _ _ st li rv b ms ml mr mb mu _ SA (Hp.owns (Li:=[_,_,_]) H.hp) 10 y.head _ _ _ hch (by omega)) rfl ?_;clear H;rintro v63 _ _ a w ⟨rfl,rfl,rfl⟩ - H;dsimp only [lca,bG] at H;refine gF 6 H ?_ ?_ <;> clear H
   ·intro p65
    have hF1:(lI l.length (fun s=>iB (bE us st li rv) note t l s) s).1=gQ (bE us st li rv) 10 y.head:=by rw [hE,hR2];simp [fQ,jW,e58,p65]
    have hF2:(lI l.length (fun s=>iB (bE us st li rv) note t l s) s).1=0→(⟨s2.n,jV us s2.bK y.id⟩:CS)=(lI l.length (fun s=>iB (bE us st li rv) note t l s) s).2:=fun h=>absurd (hF1.symm.trans h) p65;refine ak 4 ?_;intro a H;refine lr H results199 rfl ?_;exact H.hp.kC (L':=fO b ms ml mr mb mu s2.n :: (mb,eT (fH (jV us s2.bK y.id))) :: L) (by repeat (first|exact jR _|apply List.Sublist.cons)) ⟨⟨s2.n,jV us s2.bK y.id⟩,aB vi hF1.symm,rfl,hF2⟩
   intro p65
   have e65:gQ (bE us st li rv) 10 y.head=0:=nK.1 p65;refine ak 5 ?_;intro a H;refine aR acp (cs:=[_,_,_]) H wn rfl rfl (H.hp.bO 2 rfl rfl) rfl ?_;clear H;intro a H;refine gy Jp (Li:=[_,_,_]) (L:=fO b ms ml mr mb mu s2.n :: (mb,eT (fH (jV us s2.bK y.id))) :: L) H wn rfl (ih _ _ _ st li rv b ms ml mr mb mu ⟨s2.n,jV us s2.bK y.id⟩ y.flow _ false note t SA (Hp.owns (Li:=[_,_,_]) H.hp) hcf (by omega) ht0 zx hm0 (by dsimp only;omega)) rfl ?_;clear H;rintro v71 _ _ a w ⟨rfl,s3,rfl,rfl,h3⟩ - H;dsimp only [lca,bG] at H;refine gF 6 H ?_ ?_ <;> clear H
   ·intro p73
    have hF1:(lI l.length (fun s=>iB (bE us st li rv) note t l s) s).1=(jo (bE us st li rv) false note t y.flow ⟨s2.n,jV us s2.bK y.id⟩).1:=by rw [hE,hR2];simp [fQ,jW,e58,e65,p73]
    have hF2:(lI l.length (fun s=>iB (bE us st li rv) note t l s) s).1=0→s3=(lI l.length (fun s=>iB (bE us st li rv) note t l s) s).2:=fun h=>absurd (hF1.symm.trans h) p73;refine ak 4 ?_;intro a H;refine lr H results199 rfl ?_;exact H.hp.kC (L':=fO b ms ml mr mb mu s3.n :: (mb,eT (fH s3.bK)) :: L) (by repeat (first|exact jR _|apply List.Sublist.cons)) ⟨s3,aB vi hF1.symm,rfl,hF2⟩
   intro p73
   have QE:(jo (bE us st li rv) false note t y.flow ⟨s2.n,jV us s2.bK y.id⟩).1=0:=nK.1 p73;obtain ⟨hu1,hu2⟩:=Pm (bE us st li rv) false note t y.flow ⟨s2.n,jV us s2.bK y.id⟩;rw [← h3 QE] at hu1 hu2;intro a H;dsimp only at hu1 hu2
   have hS:fQ (fQ (fQ (jW (bE us st li rv) s2 y.id) fun s=>fQ (gQ (bE us st li rv) 10 y.head,s) fun s=>jo (bE us st li rv) false note t y.flow s) fun s=>oP (bE us st li rv) note t (l[k].cells.drop (c+1)) s) (fun s=>iB (bE us st li rv) note t (l.drop (k+1)) s)=fQ (oP (bE us st li rv) note t (l[k].cells.drop (c+1)) s3) (fun s=>iB (bE us st li rv) note t (l.drop (k+1)) s):=by
    rw [h3 QE];simp [fQ,jW,e58,e65,QE]
   refine fM 4 H ?_;clear H;intro a H;refine aC ?_;refine cB ((c+1,s3,g2)) (by exact (H.dY (Pl:=[_,_,_,_,_]) (dJ:=[_,_,_,_]) [1,2,3,4] (by decide) rfl).sub ⟨rfl,rfl,rfl,rfl,rfl,rfl,rfl,rfl,bq⟩) ?_ ?_
   ·(try dsimp only);exact ⟨by omega,Nw,hR2.trans hS,by omega,by omega⟩
   first|omega|(dsimp only;omega)
  intro p50
  refine ak 4 ?_;intro a H;refine aC ?_;refine cB ((k+1,s2,g2)) (by exact (H.dY (Pl:=[_,_,_,_]) (dJ:=[_,_,_]) [1,2,3] (by decide) rfl).sub ⟨rfl,rfl,rfl,rfl,rfl,bq⟩) ?_ ?_
  ·(try dsimp only);exact ⟨by omega,iT,by rw [hR2,ku (by omega),oP,Gg rfl],hm0,by omega⟩
  first|omega|(dsimp only;omega)
 intro jq
 refine ak 1 ?_
 have hF1:(lI l.length (fun s=>iB (bE us st li rv) note t l s) s).1=0:=by rw [hE,hR,ku (by omega),iB]
 have hF2:(lI l.length (fun s=>iB (bE us st li rv) note t l s) s).1=0→s1=(lI l.length (fun s=>iB (bE us st li rv) note t l s) s).2:=fun h=>by rw [hE,hR,ku (by omega),iB]
 refine ak 3 ?_;intro a H;refine lr H results199 rfl ?_;exact H.hp.kC (L':=fO b ms ml mr mb mu s1.n :: (mb,eT (fH s1.bK)) :: L) (by repeat (first|exact jR _|apply List.Sublist.cons)) ⟨s1,aB vi hF1.symm,rfl,hF2⟩
end
section
open Go.RowKit
theorem ahg:∀ args w,(callFunc 199 args).run prog w=.ok (.enter 199 args) w:=enters func199 rfl (by kernel_rfl)
theorem ahe:∀ args w,(callFunc 196 args).run prog w=.ok (.enter 196 args) w:=enters func196 rfl (by kernel_rfl)
instance:dR prog 133 5 5:=⟨by kernel_rfl⟩
instance:dR prog 129 0 0:=⟨by kernel_rfl⟩
variable {us:List Int}
theorem aoq {G:GH} {b:Nat} {x:Int} (h:G b=some (.cells #[vi x] 49 (0,0))):au G (.sl 1 ([x].map fun k=>[li k])) (.slice (some ⟨b,0,none⟩) 1 1):=EX [x] h (show 1≤maxLen by decide)
theorem anc {m:Nat} (ih:FX us m) (hm:m≤4294967296) (Gt:GH) (L:OL) (w0:World) (st:List bS) (li:List eD) (rv:List bX) (b ms ml mr mb mu:Nat) (s:CS) (x:ay) (p d y f r:aj) (body note:Bool) (t:Int)
  (hck:uW us Gt st li rv ms ml mr mu) (hO:fT Gt (fO b ms ml mr mb mu s.n :: (mb,eT (fH s.bK)) :: L) w0) (hh:fD Gt x.head p d y) (hf:au Gt (.sl 11 (x.flow.map ay.dat)) f) (hr:au Gt (.sl 6 (x.rows.map aV.dat)) r) (hz:bY x.dat≤m) (ht0:0≤t) (zx:t≤4) (hs0:0≤s.n) (hs1:s.n+(bY x.dat:Nat)≤1099511627776) :
  Calls prog 134 #[(aG b 0),.agg #[vi x.kind,vi x.code,vi x.id,.string x.text,p,vi x.head.marks.ins,vi x.head.marks.move,d,y,f,r],.agg #[.bool body,.bool note,vi t]] w0 (fI w0 Gt (fO b ms ml mr mb mu s.n :: (mb,eT (fH s.bK)) :: L) fun u G' L'=>LM b ms ml mr mb mu L (eY (bE us st li rv) body note t x s) u L'):=by
 obtain ⟨pA,pn,pc,rfl⟩:=hh.props.form;obtain ⟨dA,dn,dc,rfl⟩:=hh.bL.form;obtain ⟨lA,ln,lc,rfl⟩:=hh.layers.form;obtain ⟨fA,fc,rfl,-⟩:=hf.slice;obtain ⟨rA,rc,rfl,-⟩:=hr.slice;(iterate 2 rw [bM] at *);have hxz:=yB x;have hcl:=Xd x.text
 have ZY:jl x≤x.text.size+1:=by unfold jl;split <;> omega
 have hE:=aaj (bE us st li rv) body note t x s;refine jf (N:=117) (T:=[(0,_),(1,_),(2,_)]) func134 rfl ntmps134 rfl rfl hO ?_;refine ak 1 ?_;intro a H;refine dP (cs:=[_,_,_,_,_,_,_,_,_,_,_]) H wn rfl rfl rfl ?_;clear H;intro b4 a w hb4 H;refine dP (cs:=[_,_,_]) H wn rfl rfl rfl ?_;clear H;intro b5 a w hb5 H;refine aD 4 H ?_;clear H;intro a H;refine aR fZ (cs:=[_,_,_,_,_,_,_,_,_,_,_]) H wn rfl rfl (H.hp.bO 1 rfl rfl) rfl ?_;clear H;intro a H;refine s_call ahe H wn rfl (ajO _ _ H.ro x _ _ _ _ _ _ _ (by omega)) rfl ?_;clear H;rintro v15 _ a w ⟨rfl,rfl⟩ - H;refine gF 6 H ?_ ?_ <;> clear H
 ·intro jH
  rw [Mq (r:=(jS x,s)) jH] at hE;refine ak 4 ?_;intro a H;refine lr H results134 rfl ?_;exact H.hp.kC (L':=fO b ms ml mr mb mu s.n :: (mb,eT (fH s.bK)) :: L) (by repeat (first|exact jR _|apply List.Sublist.cons)) ⟨s,by rw [hE],rfl,fun h=>by rw [hE]⟩
 intro jH
 rw [Gg (r:=(jS x,s)) (nK.1 jH)] at hE;intro a H;dsimp only at hE;refine fM 9 H ?_;clear H;intro a H;refine aX bR 2 (vs:=[_]) _ H wn rfl rfl rfl rfl rfl rfl rfl rfl ?_;clear H;intro w H;dsimp only [List.set,setRow] at H;refine aC ?_;refine dQ ?_;refine qz (ι:=CS × GH) (Tc:=[(0,_),(4,_),(5,_)]) (Lc:=[(_,_),(_,_)]) (fun gh=>[]) (fun gh=>[fO b ms ml mr mb mu gh.1.n,(mb,eT (fH gh.1.bK))]++L) (fun gh=>gh.2) (fun gh=>lZ (bE us st li rv) body note t x.kind x.id ⟨s.n+(jl x:Nat),s.bK⟩=(0,gh.1)∧(∀ b o,Gt b=some o→gh.2 b=some o)∧gh.1.n=s.n+(jl x:Nat)∧(x.kind=7→t < 4)) sB ?_ ?_
 ·refine dO 9 H ?_ ?_ <;> clear H
  ·intro p28
   have hu:((jl x:Nat):Int)=rD x.text:=by rw [jl,av p28]
   refine ak 3 ?_;intro a H;refine s_call ahf H wn rfl (afu _ _ H.ro x.text (by omega)) rfl ?_;clear H;rintro v33 _ a w ⟨rfl,rfl⟩ - H;refine aD 1 H ?_;clear H;intro a H;(iterate 2 refine jY H wn rfl rfl rfl ?_;clear H;intro a H);refine aD 11 H ?_;clear H;intro a H;rw [show s.n+1+((rD x.text:Int) - 1)=s.n+(jl x:Nat) by omega] at H;refine aD 2 H ?_;clear H;intro a H;refine aX bR 2 (vs:=[_]) _ H wn rfl rfl rfl rfl rfl rfl rfl rfl ?_;clear H;intro w H;dsimp only [List.set,setRow] at H;refine aC ?_;refine ⟨(⟨s.n+(jl x:Nat),s.bK⟩,Gt),sB,?_⟩;(try dsimp only)
   first
   | exact ⟨by simp_all [lZ,dx,fQ,jW],fun _ _ h=>h,rfl,fun h7=>by first|omega|(exfalso;simp_all)⟩
   | exact ⟨by simp_all [lZ,dx,fQ,jW],uG,rfl,fun h7=>by first|omega|(exfalso;simp_all)⟩
  intro p28
  have hu:((jl x:Nat):Int)=1:=by rw [jl,ah p28];rfl
  intro a H;rw [show s.n+1=s.n+((jl x:Nat):Int) by omega] at H;refine dO 4 H ?_ ?_ <;> clear H
  ·intro p45
   refine goC 5 ?_ ?_
   ·intro Nc
    try have p49:=dT Nc
    have hF1:(eY (bE us st li rv) body note t x s).1=19:=by rw [hE];simp [fQ,lZ,p45,dx,Nc]
    have hF2:(eY (bE us st li rv) body note t x s).1=0→(⟨s.n+(jl x:Nat),s.bK⟩:CS)=(eY (bE us st li rv) body note t x s).2:=fun h=>absurd (hF1.symm.trans h) (by decide);refine ak 3 ?_;intro a H;refine lr H results134 rfl ?_;exact H.hp.kC (L':=fO b ms ml mr mb mu (s.n+(jl x:Nat)) :: (mb,eT (fH (s.bK))) :: L) (by repeat (first|exact jR _|apply List.Sublist.cons)) ⟨⟨s.n+(jl x:Nat),s.bK⟩,aB vi hF1.symm,rfl,hF2⟩
   intro Nc
   try have p49:=dF Nc
   intro a H;refine jL ?_;refine ⟨(⟨s.n+(jl x:Nat),s.bK⟩,Gt),sB,?_⟩;(try dsimp only)
   first
   | exact ⟨by simp_all [lZ,dx,fQ,jW],fun _ _ h=>h,rfl,fun h7=>by first|omega|(exfalso;simp_all)⟩
   | exact ⟨by simp_all [lZ,dx,fQ,jW],uG,rfl,fun h7=>by first|omega|(exfalso;simp_all)⟩
  intro p45
  refine goB 4 ?_ ?_
  ·intro p50
   refine ak 4 ?_;intro a H;refine s_call jA H wn rfl (jF _ _ H.ro _ 19) rfl ?_;clear H;rintro v54 _ a w ⟨rfl,rfl⟩ - H;refine gG ql iw [_] [_] H wn rfl rfl rfl rfl rfl (by intro i q h;match i,h with|0,h=>exact h|n+1,h=>simp at h) rfl rfl ?_;clear H;intro b55 a w ate H;obtain ⟨IW,uG,akP,H⟩:=H.eu;refine s_call qC H wn rfl (qD _ _ H.ro _ _ (aoq akP)) rfl ?_;clear H;rintro v56 _ a w ⟨rfl,rfl⟩ - H;refine gF 6 H ?_ ?_ <;> clear H
   ·intro p58
    have e58:dx note 19≠0:=fun h=>p58 (by rw [h];rfl)
    have amM:dh [dx note 19]=dx note 19:=by simp [dh,e58]
    intro a H;rw [amM] at H
    have hF1:(eY (bE us st li rv) body note t x s).1=dx note 19:=by rw [hE];simp [fQ,lZ,p50,e58]
    have hF2:(eY (bE us st li rv) body note t x s).1=0→(⟨s.n+(jl x:Nat),s.bK⟩:CS)=(eY (bE us st li rv) body note t x s).2:=fun h=>absurd (hF1.symm.trans h) (e58);refine fM 4 H ?_;clear H;intro a H;refine lr H results134 rfl ?_;exact H.hp.kC (L':=fO b ms ml mr mb mu (s.n+(jl x:Nat)) :: (mb,eT (fH (s.bK))) :: L) (by repeat (first|exact jR _|apply List.Sublist.cons)) ⟨⟨s.n+(jl x:Nat),s.bK⟩,aB vi hF1.symm,rfl,hF2⟩
   intro p58
   have e58:dx note 19=0:=Decidable.byContradiction fun h=>p58 (by simp [dh,h]);refine ak 5 ?_;intro a H;refine gy QO (Li:=[_,_]) (L:=fO b ms ml mr mb mu _ :: (mb,eT (fH s.bK)) :: L) H wn rfl (Qp _ _ _ st li rv b ms ml mr mb mu _ s.bK x.id (hck.mono uG) (Hp.owns (Li:=[_,_]) H.hp)) rfl ?_;clear H;rintro v63 _ _ a w ⟨rfl,rfl,rfl⟩ - H;dsimp only [lca,bG] at H;refine gF 6 H ?_ ?_ <;> clear H
   ·intro p65
    have hF1:(eY (bE us st li rv) body note t x s).1=pz us s.bK x.id:=by rw [hE];simp [fQ,lZ,p50,e58,jW,p65]
    have hF2:(eY (bE us st li rv) body note t x s).1=0→(⟨s.n+(jl x:Nat),jV us s.bK x.id⟩:CS)=(eY (bE us st li rv) body note t x s).2:=fun h=>absurd (hF1.symm.trans h) (p65);refine ak 4 ?_;intro a H;refine lr H results134 rfl ?_;exact H.hp.kC (L':=fO b ms ml mr mb mu (s.n+(jl x:Nat)) :: (mb,eT (fH (jV us s.bK x.id))) :: L) (by repeat (first|exact jR _|apply List.Sublist.cons)) ⟨⟨s.n+(jl x:Nat),jV us s.bK x.id⟩,aB vi hF1.symm,rfl,hF2⟩
   intro p65
   have e65:pz us s.bK x.id=0:=nK.1 p65;intro a H;refine jL ?_;refine ⟨(⟨s.n+(jl x:Nat),jV us s.bK x.id⟩,IW),sB,?_⟩;(try dsimp only)
   first
   | exact ⟨by simp_all [lZ,dx,fQ,jW],fun _ _ h=>h,rfl,fun h7=>by first|omega|(exfalso;simp_all)⟩
   | exact ⟨by simp_all [lZ,dx,fQ,jW],uG,rfl,fun h7=>by first|omega|(exfalso;simp_all)⟩
  intro p50
  refine goB 4 ?_ ?_
  ·intro p67
   refine goB 6 ?_ ?_
   ·intro p71
    have hF1:(eY (bE us st li rv) body note t x s).1=17:=by rw [hE];simp [fQ,lZ,p67,dx,p71]
    have hF2:(eY (bE us st li rv) body note t x s).1=0→(⟨s.n+(jl x:Nat),s.bK⟩:CS)=(eY (bE us st li rv) body note t x s).2:=fun h=>absurd (hF1.symm.trans h) (by decide);refine ak 3 ?_;intro a H;refine lr H results134 rfl ?_;exact H.hp.kC (L':=fO b ms ml mr mb mu (s.n+(jl x:Nat)) :: (mb,eT (fH (s.bK))) :: L) (by repeat (first|exact jR _|apply List.Sublist.cons)) ⟨⟨s.n+(jl x:Nat),s.bK⟩,aB vi hF1.symm,rfl,hF2⟩
   intro p71
   have e71:¬ 4≤t:=by omega
   refine ak 5 ?_;intro a H;refine gy QO (Li:=[_,_]) (L:=fO b ms ml mr mb mu _ :: (mb,eT (fH s.bK)) :: L) H wn rfl (Qp _ _ _ st li rv b ms ml mr mb mu _ s.bK x.id hck (Hp.owns (Li:=[_,_]) H.hp)) rfl ?_;clear H;rintro v75 _ _ a w ⟨rfl,rfl,rfl⟩ - H;dsimp only [lca,bG] at H;refine gF 6 H ?_ ?_ <;> clear H
   ·intro Il
    have hF1:(eY (bE us st li rv) body note t x s).1=pz us s.bK x.id:=by rw [hE];simp [fQ,lZ,p67,dx,e71,jW,Il]
    have hF2:(eY (bE us st li rv) body note t x s).1=0→(⟨s.n+(jl x:Nat),jV us s.bK x.id⟩:CS)=(eY (bE us st li rv) body note t x s).2:=fun h=>absurd (hF1.symm.trans h) (Il);refine ak 4 ?_;intro a H;refine lr H results134 rfl ?_;exact H.hp.kC (L':=fO b ms ml mr mb mu (s.n+(jl x:Nat)) :: (mb,eT (fH (jV us s.bK x.id))) :: L) (by repeat (first|exact jR _|apply List.Sublist.cons)) ⟨⟨s.n+(jl x:Nat),jV us s.bK x.id⟩,aB vi hF1.symm,rfl,hF2⟩
   intro Il
   have e77:pz us s.bK x.id=0:=nK.1 Il;intro a H;refine jL ?_;refine ⟨(⟨s.n+(jl x:Nat),jV us s.bK x.id⟩,Gt),sB,?_⟩;(try dsimp only)
   first
   | exact ⟨by simp_all [lZ,dx,fQ,jW],fun _ _ h=>h,rfl,fun h7=>by first|omega|(exfalso;simp_all)⟩
   | exact ⟨by simp_all [lZ,dx,fQ,jW],uG,rfl,fun h7=>by first|omega|(exfalso;simp_all)⟩
  intro p67
  refine goB 4 ?_ ?_
  ·intro Uy
   refine ak 3 ?_;intro a H;refine s_call wE H wn rfl (wO _ _ H.ro x.id 1 1073741824) rfl ?_;clear H;rintro v83 _ a w ⟨rfl,rfl⟩ - H;refine iR 2 H ?_ ?_ <;> clear H
   ·intro h84
    try have p84:=dT h84
    have e84:¬ (1≤x.id∧x.id≤1073741824):=by have h0:=h84;simp at h0;omega
    have hF1:(eY (bE us st li rv) body note t x s).1=18:=by rw [hE];simp [fQ,lZ,Uy,dx,e84]
    have hF2:(eY (bE us st li rv) body note t x s).1=0→(⟨s.n+(jl x:Nat),s.bK⟩:CS)=(eY (bE us st li rv) body note t x s).2:=fun h=>absurd (hF1.symm.trans h) (by decide);refine ak 3 ?_;intro a H;refine lr H results134 rfl ?_;exact H.hp.kC (L':=fO b ms ml mr mb mu (s.n+(jl x:Nat)) :: (mb,eT (fH (s.bK))) :: L) (by repeat (first|exact jR _|apply List.Sublist.cons)) ⟨⟨s.n+(jl x:Nat),s.bK⟩,aB vi hF1.symm,rfl,hF2⟩
   intro h84
   try have p84:=dF h84
   intro a H;refine jL ?_;refine ⟨(⟨s.n+(jl x:Nat),s.bK⟩,Gt),sB,?_⟩;(try dsimp only)
   first
   | exact ⟨by simp_all [lZ,dx,fQ,jW],fun _ _ h=>h,rfl,fun h7=>by first|omega|(exfalso;simp_all)⟩
   | exact ⟨by simp_all [lZ,dx,fQ,jW],uG,rfl,fun h7=>by first|omega|(exfalso;simp_all)⟩
  intro Uy
  intro a H;refine jL ?_;refine ⟨(⟨s.n+(jl x:Nat),s.bK⟩,Gt),sB,?_⟩;(try dsimp only)
  first
  | exact ⟨by simp_all [lZ,dx,fQ,jW],fun _ _ h=>h,rfl,fun h7=>by first|omega|(exfalso;simp_all)⟩
  | exact ⟨by simp_all [lZ,dx,fQ,jW],uG,rfl,fun h7=>by first|omega|(exfalso;simp_all)⟩
 clear H;rintro ⟨s1,g⟩ a w hI H;dsimp only at hI H;obtain ⟨hP,wM,atF,ht7⟩:=hI;rw [hP,Gg rfl] at hE;dsimp only at hE;replace hck:=hck.mono wM;replace hh:=hh.mono wM;replace hf:=hf.mono wM;replace hr:=hr.mono wM;dsimp only [lca,bG] at H;refine fM 6 H ?_;clear H;intro a H;refine aR dw (cs:=[_,_,_,_,_]) H wn rfl rfl (H.hp.bO 1 rfl rfl) rfl ?_;clear H;intro a H;refine gy GJ (Li:=[_,_]) (L:=fO b ms ml mr mb mu s1.n :: (mb,eT (fH s1.bK)) :: L) H wn rfl (Ho _ _ _ st li rv b ms ml mr mb mu _ hck (Hp.owns (Li:=[_,_]) H.hp) x.kind x.head _ _ _ hh (by omega)) rfl ?_;clear H;rintro v90 _ _ a w ⟨rfl,rfl,rfl⟩ - H;dsimp only [lca,bG] at H;refine gF 6 H ?_ ?_ <;> clear H
 ·intro Im
  have hF1:(eY (bE us st li rv) body note t x s).1=gQ (bE us st li rv) x.kind x.head:=by rw [hE,Mq (r:=(gQ (bE us st li rv) x.kind x.head,s1)) Im]
  have hF2:(eY (bE us st li rv) body note t x s).1=0→s1=(eY (bE us st li rv) body note t x s).2:=fun h=>absurd (hF1.symm.trans h) Im;refine ak 4 ?_;intro a H;refine lr H results134 rfl ?_;exact H.hp.kC (L':=fO b ms ml mr mb mu (s1.n) :: (mb,eT (fH (s1.bK))) :: L) (by repeat (first|exact jR _|apply List.Sublist.cons)) ⟨s1,aB vi hF1.symm,rfl,hF2⟩
 intro Im
 rw [Gg (r:=(gQ (bE us st li rv) x.kind x.head,s1)) (nK.1 Im)] at hE;intro a H;dsimp only at hE;refine dO 11 H ?_ ?_ <;> clear H
 ·intro KH
  rw [av KH] at hE;refine ak 6 ?_;intro a H;refine jh KR [_,_,_] H wn rfl rfl rfl rfl ?_;clear H;intro a H;refine gy Jp (Li:=[_,_]) (L:=fO b ms ml mr mb mu s1.n :: (mb,eT (fH s1.bK)) :: L) H wn rfl (ih _ _ _ st li rv b ms ml mr mb mu s1 x.flow _ false true t hck (Hp.owns (Li:=[_,_]) H.hp) hf (by omega) ht0 zx (by omega) (by omega)) rfl ?_;clear H;rintro arT _ _ a w ⟨rfl,s3,rfl,rfl,h3⟩ - H;dsimp only [lca,bG] at H
  have hF1:(eY (bE us st li rv) body note t x s).1=(jo (bE us st li rv) false true t x.flow s1).1:=by rw [hE]
  have hF2:(eY (bE us st li rv) body note t x s).1=0→s3=(eY (bE us st li rv) body note t x s).2:=by rw [hE];exact h3
  refine aD 2 H ?_;clear H;intro a H;refine lr H results134 rfl ?_;exact H.hp.kC (L':=fO b ms ml mr mb mu (s3.n) :: (mb,eT (fH (s3.bK))) :: L) (by repeat (first|exact jR _|apply List.Sublist.cons)) ⟨s3,aB vi hF1.symm,rfl,hF2⟩
 intro KH
 rw [ah KH] at hE;refine goB 4 ?_ ?_
 ·intro Ik
  rw [av Ik] at hE;refine ak 9 ?_;intro a H;refine jh KR [_,_,_] H wn rfl rfl rfl rfl ?_;clear H;intro a H;refine gy ahg (Li:=[_,_]) (L:=fO b ms ml mr mb mu s1.n :: (mb,eT (fH s1.bK)) :: L) H wn rfl (rows_ok ih hm _ _ _ st li rv b ms ml mr mb mu s1 x.rows _ note (t+1) hck (Hp.owns (Li:=[_,_]) H.hp) hr (by omega) (by omega) (by have:=ht7 Ik;omega) (by omega) (by omega)) rfl ?_;clear H;rintro atV _ _ a w ⟨s3,rfl,rfl,h3⟩ - H;dsimp only [lca,bG] at H
  have hF1:(eY (bE us st li rv) body note t x s).1=(lI x.rows.length (fun s=>iB (bE us st li rv) note (t+1) x.rows s) s1).1:=by rw [hE]
  have hF2:(eY (bE us st li rv) body note t x s).1=0→s3=(eY (bE us st li rv) body note t x s).2:=by rw [hE];exact h3
  refine aD 2 H ?_;clear H;intro a H;refine lr H results134 rfl ?_;exact H.hp.kC (L':=fO b ms ml mr mb mu (s3.n) :: (mb,eT (fH (s3.bK))) :: L) (by repeat (first|exact jR _|apply List.Sublist.cons)) ⟨s3,aB vi hF1.symm,rfl,hF2⟩
 intro Ik
 rw [ah Ik] at hE
 have hF1:(eY (bE us st li rv) body note t x s).1=0:=by rw [hE]
 have hF2:(eY (bE us st li rv) body note t x s).1=0→s1=(eY (bE us st li rv) body note t x s).2:=fun h=>by rw [hE]
 refine ak 4 ?_;intro a H;refine lr H results134 rfl ?_;exact H.hp.kC (L':=fO b ms ml mr mb mu (s1.n) :: (mb,eT (fH (s1.bK))) :: L) (by repeat (first|exact jR _|apply List.Sublist.cons)) ⟨s1,aB vi hF1.symm,rfl,hF2⟩
end
section
open Go.RowKit
theorem agp:∀ args w,(callFunc 134 args).run prog w=.ok (.enter 134 args) w:=enters func134 rfl (by kernel_rfl)
theorem agn:∀ args w,(callFunc 133 args).run prog w=.ok (.enter 133 args) w:=enters func133 rfl (by kernel_rfl)
variable {us:List Int}
def VZ (fv:aj) (Gi:GH) (n:Nat) (E:Nat→Int) {σ:Type} (B:σ→OL) (S:Nat→σ):Prop:=∀ i,i < n→∀ (G1:GH) (w1:World),(∀ b o,Gi b=some o→G1 b=some o)→fT G1 (B (S i)) w1 →
 qo prog fv [vi i] w1 (fI w1 G1 (B (S i)) fun u G' L'=>∃ s,u=vi (E i)∧L'=B s∧(E i=0→s=S (i+1)))
theorem adK (G:GH) (w0:World) {σ:Type} (B:σ→OL) (S:Nat→σ) (n:Nat) (E:Nat→Int) (fv:aj) (hO:fT G (B (S 0)) w0) (hn:n≤4611686018427387904) (hf:VZ fv G n E B S) :
  Calls prog 123 #[vi n,fv] w0 (fI w0 G (B (S 0)) fun u G' L'=>∃ s,u=vi (iF E n)∧L'=B s∧(iF E n=0→s=S n)):=by
 refine jf (N:=18) (T:=[(0,_),(1,_)]) func123 rfl ntmps123 rfl rfl hO ?_;refine ak 9 ?_;intro a H;refine eH (ι:=Nat × GH) (Tc:=[(1,_),(7,_)]) (Lc:=[]) (fun gh=>[(8,vi gh.1)]) (fun gh=>[]++B (S gh.1)) (fun gh=>gh.2) (fun gh=>gh.1≤n∧dh (((List.range n).map E).drop gh.1)=iF E n∧(∀ b o,G b=some o→gh.2 b=some o)) (fun gh=>n - gh.1) ((0,G)) sB ?_ ?_
 ·exact ⟨gN _,rfl,fun _ _ h=>h⟩
 clear H;rintro ⟨k,g⟩ a w hI H;dsimp only at hI H;obtain ⟨hk,he,hgm⟩:=hI;dsimp only [lca,bG] at H;refine dO 4 H ?_ ?_ <;> clear H
 ·intro p9
  have hk2:k < n:=by omega
  refine ak 10 ?_;intro a H;refine Cj (Li:=[]) (L:=B (S k)) H wn rfl rfl (hf k hk2 _ _ hgm (Hp.owns (Li:=[]) H.hp)) rfl ?_;clear H;rintro v13 D6 L13 a w ⟨s3,rfl,rfl,h3⟩ za H;refine gF 6 H ?_ ?_ <;> clear H
  ·intro qh
   have hE:iF E n=E k:=by rw [Bn hk2,av qh] at he;exact he.symm
   refine ak 4 ?_;intro a H;refine lr H results123 rfl ?_;exact H.hp.dG ⟨s3,by rw [hE],rfl,fun h=>absurd (hE.symm.trans h) qh⟩
  intro qh
  have hS:=h3 (nK.1 qh);subst hS;refine ak 4 ?_;intro a H;refine aC ?_;refine cB ((k+1,D6)) sB ?_ ?_
  ·(try dsimp only);exact ⟨by omega,by rw [Bn hk2,ah qh] at he;exact he,fun b o h=>za b o (hgm b o h)⟩
  first|omega|(dsimp only;omega)
 intro p9
 refine ak 4 ?_;intro a H;refine lr H results123 rfl ?_;exact H.hp.dG ⟨S n,aB vi (by rw [ku (by simp;omega)] at he;exact he),by rw [show k=n by omega],fun _=>rfl⟩
abbrev MH (b ms ml mr mb mu:Nat) (L:OL) (s:CS):OL:=fO b ms ml mr mb mu s.n :: (mb,eT (fH s.bK)) :: L
theorem anb {m:Nat} (ih:FX us m) (hm:m≤4294967296) {G:GH} {L:OL} {st:List bS} {li:List eD} {rv:List bX} {b ms ml mr mb mu:Nat} {s:CS} {l:List ay} {v:aj} {body note:Bool} {t:Int} {x3 x4 x5:Nat}
  (hck:uW us G st li rv ms ml mr mu) (h3:aI G x3 0=some (aG b 0)) (h4:aI G x4 0=some v) (h5:∀ (j:Nat) (u:aj),[.bool body,.bool note,vi t][j]?=some u→aI G x5 (0+j)=some u)
  (hv:au G (.sl 11 (l.map ay.dat)) v) (hz:bZ l≤m) (ht0:0≤t) (zx:t≤4) (hs0:0≤s.n) (hs1:s.n+(bZ l:Nat)≤1099511627776) :
  VZ (.func (.func 133) #[] #[(aG x3 0),(aG x4 0),(aG x5 0)]) G l.length (Bt (eY (bE us st li rv) body note t) l s) (MH b ms ml mr mb mu L) (qj (eY (bE us st li rv) body note t) l s):=by
 intro k hk G1 w0 J2 hO;refine iM (caps:=[(aG x3 0),(aG x4 0),(aG x5 0)]) agn ?_;replace h3:=aH J2 h3;replace h4:=aH J2 h4;replace h5:=fun j u hj=>aH J2 (h5 j u hj);replace hck:=hck.mono J2;replace hv:=hv.mono J2;obtain ⟨A,c,rfl,hc1,hc2,hg⟩:=hv.slice;rw [bM] at *;obtain ⟨o,xo,pA,pn,pc,dA,dn,dc,yA,yn,yc,fA,fn,fc,rA,rn,rc,rfl,hrow,hhd,hfl,hrw⟩:=Es hk hg;obtain ⟨hn0,hn1⟩:=acH (bE us st li rv) body note t l s k (by omega)
 have hdz:bZ (l.drop k)=1+bY l[k].dat+bZ (l.drop (k+1)):=by
  simp only [bZ];rw [pJ hk,eZ,eG]
 have hzm:=Vv (lD hk)
 have hE:Bt (eY (bE us st li rv) body note t) l s k=(eY (bE us st li rv) body note t l[k] (qj (eY (bE us st li rv) body note t) l s k)).1:=by unfold Bt;rw [eO hk]
 have hS:qj (eY (bE us st li rv) body note t) l s (k+1)=(eY (bE us st li rv) body note t l[k] (qj (eY (bE us st li rv) body note t) l s k)).2:=by rw [qj,eO hk]
 rw [hE,hS]
 generalize qj (eY (bE us st li rv) body note t) l s k=s1 at *
 refine jf (N:=13) (T:=[(0,_),(1,_),(2,_),(3,_)]) func133 rfl ntmps133 rfl rfl hO ?_;refine ak 4 ?_;intro a H;refine dI hmx [[],[],[],[1,2],[1,2,3],[],(ra 0 6),(ra 0 7)] [6,7] (by kernel_rfl) [_,_,_,_,.agg #[vi l[k].kind,vi l[k].code,vi l[k].id,.string l[k].text,.slice pA pn pc,vi l[k].head.marks.ins,vi l[k].head.marks.move,.slice dA dn dc,.slice yA yn yc,.slice fA fn fc,.slice rA rn rc],.agg #[.bool body,.bool note,vi t]] H (aF (X0 rfl fun hG=>Rg O8 rfl (aH hG h3)) (X0 rfl fun hG=>Rg pG rfl (aH hG h4)) (Z0 rfl (Rm rfl)) (Z2 1 7 2 8 rfl (Ri nT fZ rfl rfl)) (aF ?_ ?_ (bQ rfl) (bQ rfl) cO)) ?_
 ·refine dZ 3 9 rfl rfl fun _ a w G1 hG HT H fin=>?_;refine aR fZ (cs:=[_,_,_,_,_,_,_,_,_,_,_]) H wn rfl rfl (fun j v hj=>H.hp.aI (aH hG (hrow j v hj))) rfl ?_;clear H;intro a H;exact fin H iJ rfl
 ·refine Bh rfl fun _ a w G1 hG HT H fin=>?_;refine aR acp (cs:=[.bool body,.bool note,vi t]) H wn rfl rfl (fun j v hj=>H.hp.aI (aH hG (h5 j v hj))) rfl ?_;clear H;intro a H;exact fin H iJ rfl
 clear H;intro a w G iN H hv;have H:=H.aN (hv 0 6 rfl rfl) rfl;have H:=H.aN (hv 4 10 rfl rfl) rfl;have H:=H.aN (hv 5 11 rfl rfl) rfl;clear hv;refine gy agp (Li:=[]) (L:=MH b ms ml mr mb mu L s1) H wn rfl (anc ih hm _ _ _ st li rv b ms ml mr mb mu s1 l[k] _ _ _ _ _ body note t (hck.mono iN) (Hp.owns (Li:=[]) H.hp) (hhd.mono iN) (hfl.mono iN) (hrw.mono iN) (by omega) ht0 zx (by omega) (by omega)) rfl ?_;clear H;rintro v12 _ _ a w ⟨s3,rfl,rfl,h12⟩ - H;dsimp only [List.nil_append] at H;refine kH H (Ra rfl ?_);clear H;intro a H;refine aC ⟨rfl,?_⟩;refine dQ ?_;refine lr H results133 rfl ?_;exact H.hp.dG ⟨s3,rfl,rfl,h12⟩
theorem ane {m:Nat} (ih:FX us m) (hm:m≤4294967296):FX us (m+1):=by
 intro G L w0 st li rv b ms ml mr mb mu s l v body note t hck hO hv hz ht0 zx hs0 hs1;obtain ⟨hA1,hA2⟩:=aak (bE us st li rv) body note t l s;refine Calls.adN (R:=fun u G' L'=>LM b ms ml mr mb mu L (jo (bE us st li rv) body note t l s) u L') ?_ fun _ _ _ h=>h;obtain ⟨A,c,rfl,hc1,hc2,-⟩:=hv.slice;rw [bM] at *;have hll:=FM l;refine jf (N:=11) (T:=[(0,_),(1,_),(2,_)]) func72 rfl ntmps72 rfl rfl hO ?_;refine ak 1 ?_;intro a H;refine dP (cs:=[_]) H wn rfl rfl rfl ?_;clear H;intro b3 a w hb3 H;refine dP (cs:=[_]) H wn rfl rfl rfl ?_;clear H;intro b4 a w hb4 H;refine dP (cs:=[_,_,_]) H wn rfl rfl rfl ?_;clear H;intro b5 a w hb5 H;refine aD 2 H ?_;clear H;intro a H;obtain ⟨Ga5,NH,xJ,H⟩:=H.eu;obtain ⟨Ga4,H6,yV,H⟩:=H.eu;obtain ⟨Ga,Dh,rJ,H⟩:=H.eu;replace xJ:=Dh _ _ (H6 _ _ xJ);replace yV:=Dh _ _ yV;have hma:∀ b o,G b=some o→Ga b=some o:=fun b o h=>Dh _ _ (H6 _ _ (NH _ _ h))
 have g3:aI Ga b3 0=some (aG b 0):=by unfold aI;rw [rJ];rfl
 have g4:aI Ga b4 0=some (.slice A l.length c):=by unfold aI;rw [yV];rfl
 have g5:∀ (j:Nat) (u:aj),[.bool body,.bool note,vi t][j]?=some u→aI Ga b5 (0+j)=some u:=by
  intro j u hj;unfold aI;rw [xJ];simpa using hj
 have hcb:=anb (mb:=mb) (L:=L) (s:=s) ih hm (hck.mono hma) g3 g4 g5 (hv.mono hma) (by omega) ht0 zx hs0 hs1;refine fM 3 H ?_;clear H;intro a H;refine nQ H wn rfl rfl ?_;clear H;intro a H;refine gy GD (Li:=[]) (L:=MH b ms ml mr mb mu L s) H wn rfl (adK _ _ (MH b ms ml mr mb mu L) (qj (eY (bE us st li rv) body note t) l s) l.length (Bt (eY (bE us st li rv) body note t) l s) _ (Hp.owns (Li:=[]) H.hp) (by omega) hcb) rfl ?_;clear H;rintro v10 _ _ a w ⟨s3,rfl,rfl,h10⟩ - H;dsimp only [List.nil_append] at H;refine aD 2 H ?_;clear H;intro a H;refine lr H results72 rfl ?_;exact H.hp.dG ⟨s3,by rw [hA1],rfl,fun h=>by rw [hA1] at h;exact (h10 h).trans (hA2 (hA1.trans h)).symm⟩
theorem N8:∀ m:Nat,m≤4294967297→FX us m
 | 0,_=>fun _ _ _ _ _ _ _ _ _ _ _ _ _ _ _ _ _ _ _ _ _ h=>absurd h (by omega)
 | m+1,hm=>ane (N8 m (by omega)) (by omega)
end
section
open Go.RowKit
instance ajk:dR prog 102 1 1:=⟨by kernel_rfl⟩
instance ajl:dR prog 102 2 2:=⟨by kernel_rfl⟩
theorem agk:∀ args w,(callFunc 126 args).run prog w=.ok (.enter 126 args) w:=enters func126 rfl (by kernel_rfl)
theorem agj:∀ args w,(callFunc 124 args).run prog w=.ok (.enter 124 args) w:=enters func124 rfl (by kernel_rfl)
theorem apP {G:GH} {bl:Nat} {l:List bX} {A:Option Addr} {n c:Nat} (hb:aI G bl 0=some (.slice A n c)) (hv:au G (.sl 3 (l.map bX.dat)) (.slice A n c)):sJ (.func (.func 126) #[] #[(aG bl 0)]) G l.length fun k=>(l[k]?.map bX.id).getD 0:=by
 intro k hk G1 w0 hm hG;refine iM (caps:=[(aG bl 0)]) agk ?_;replace hb:=aH hm hb
 obtain rfl:n=l.length:=by have:=hv.len;simpa using this
 obtain ⟨b,o,rfl,hrow⟩:=UU (hv.mono hm) hk;have hq:=hrow 0 _ rfl;refine eN [(0,_),(1,_)] func126 rfl ntmps126 rfl rfl hG ?_;refine aP 11 ?_;dsimp only;rw [eO hk];rfl
def UG (l:List bX) (i:Nat) (x:bX):Int:=dh [pY (fun k=>(l[k]?.map bX.id).getD 0) i,dx (!wB x.author) 39,dx (!decide (0≤x.time∧x.time≤1099511627776)) 40]
def Dz (l:List bX) (i:Nat):Int:=match l[i]? with|some x=>UG l i x|none=>0
theorem apr {G:GH} {bl:Nat} {l:List bX} {A:Option Addr} {n c:Nat} (hb:aI G bl 0=some (.slice A n c)) (hv:au G (.sl 3 (l.map bX.dat)) (.slice A n c)) (hl:l.length≤4294967296) (ht:∀ x∈l,x.author.size < 4611686018427387904):sJ (.func (.func 124) #[] #[(aG bl 0)]) G l.length (Dz l):=by
 intro k hk G1 w0 hm hG;refine iM (caps:=[(aG bl 0)]) agj ?_;replace hb:=aH hm hb;replace hv:=hv.mono hm;have hcb:=apP hb hv
 obtain rfl:n=l.length:=by have:=hv.len;simpa using this
 obtain ⟨b,o,rfl,hrow⟩:=UU hv hk;have hte:=ht _ (lD hk)
 have he:Dz l k=UG l k l[k]:=by unfold Dz;rw [eO hk]
 obtain ⟨x,hx⟩:∃ x,x=l[k]:=⟨_,rfl⟩;rw [← hx] at hrow hte he;refine eN [(0,_),(1,_)] func124 rfl ntmps124 rfl rfl hG ?_;refine ak 4 ?_;intro a H;have H:=H.sub (T':=[(0,_),(1,_)]) ⟨rfl,rfl,bq⟩;refine dI hmx [[],[],[0,1],[],[],[3,4],[3,4,5],(ra 3 4),(ra 0 8),(ra 0 9),(ra 0 10),[],[],[11,12],[11,12,13],(ra 11 4),(ra 0 16),(ra 0 17),(ra 0 18),(ra 0 19),(ra 0 20),(ra 0 21)] [19,20,21] (by kernel_rfl) [_,.func (.func 126) #[] #[(aG bl 0)],vi (pY (fun k=>(l[k]?.map bX.id).getD 0) k),_,_,_,_,_,.bool (wB x.author),_,vi (dx (!wB x.author) 39),_,_,_,_,_,.bool (decide (0≤x.time∧x.time≤1099511627776)),_,vi (dx (!decide (0≤x.time∧x.time≤1099511627776)) 40)] H (aF (Z0 rfl (Rm rfl)) ?_ ?_ (X0 rfl fun hG=>Rg zK rfl (aH hG hb)) (aF (Z0 rfl (Rm rfl)) (Z2 3 7 4 8 rfl (Ri sG ou rfl rfl)) (Z1 5 9 rfl (Rf ajk rfl)) (X1 6 10 rfl fun hG=>Rg mh rfl (aH hG (hrow 1 _ rfl))) (aF ?_ (Z1 8 12 rfl (Rn rfl)) ?_ (X0 rfl fun hG=>Rg zK rfl (aH hG hb)) (aF (Z0 rfl (Rm rfl)) (Z2 11 15 12 16 rfl (Ri sG ou rfl rfl)) (Z1 13 17 rfl (Rf ajl rfl)) (X1 14 18 rfl fun hG=>Rg bR rfl (aH hG (hrow 2 _ rfl))) (aF ?_ (Z1 16 20 rfl (Rn rfl)) ?_ (bQ rfl) (bH (bQ rfl) (bH (bQ rfl) cO))))))) ?_
 ·refine Bh rfl fun _ a w G1 hG HT H fin=>?_;refine nQ H wn rfl rfl ?_;clear H;intro a H;exact fin H iJ rfl
 ·refine dD 0 4 1 5 rfl rfl fun _ a w G1 hG HT H fin=>?_;refine s_call QF H wn rfl (TM _ _ H.ro k _ _ (by omega) (fun i hi=>(hcb.mono hG) i (by omega))) rfl ?_;clear H;rintro v6 G6 a w rfl gD H;exact fin H gD (rfl)
 ·refine dZ 7 11 rfl rfl fun _ a w G1 hG HT H fin=>?_;refine s_call XG H wn rfl (Wy _ _ H.ro x.author hte) rfl ?_;clear H;rintro v12 Bf a w ⟨rfl,-⟩ mV H;exact fin H mV (rfl)
 ·refine dZ 9 13 rfl rfl fun _ a w G1 hG HT H fin=>?_;refine s_call jA H wn rfl (jF _ _ H.ro _ 39) rfl ?_;clear H;rintro v14 zP a w ⟨rfl,-⟩ wI H;exact fin H wI (rfl)
 ·refine dZ 15 19 rfl rfl fun _ a w G1 hG HT H fin=>?_;refine s_call wE H wn rfl (wO _ _ H.ro x.time 0 1099511627776) rfl ?_;clear H;rintro v20 FU a w ⟨rfl,-⟩ akd H;exact fin H akd (rfl)
 ·refine dZ 17 21 rfl rfl fun _ a w G1 hG HT H fin=>?_;refine s_call jA H wn rfl (jF _ _ H.ro _ 40) rfl ?_;clear H;rintro v22 VK a w ⟨rfl,-⟩ RS H;exact fin H RS (rfl)
 clear H;intro a w G iN H hv;have H:=H.aN (hv 2 6 rfl rfl) rfl;have H:=H.aN (hv 10 14 rfl rfl) rfl;have H:=H.aN (hv 18 22 rfl rfl) rfl;clear hv;refine gG ql iw [_,_,_] [_,_,_] H wn rfl rfl rfl rfl rfl (by intro i q h;match i,h with|0,h=>exact h|1,h=>exact h|2,h=>exact h|n+3,h=>simp at h) rfl rfl ?_;clear H;intro b23 a w asW H;obtain ⟨VL,Db,akI,H⟩:=H.eu;refine s_call qC H wn rfl (qD _ _ H.ro _ _ (EX [pY (fun k=>(l[k]?.map bX.id).getD 0) k,dx (!wB x.author) 39,dx (!decide (0≤x.time∧x.time≤1099511627776)) 40] akI (show 3≤maxLen by decide))) rfl ?_;clear H;rintro v24 _ a w ⟨rfl,rfl⟩ - H;refine kH H (Ra rfl ?_);clear H;intro a H;refine aC ⟨rfl,?_⟩;refine dQ ?_;refine uy 0 H ?_;rw [he,UG]
def El (l:List bX):Int:=dh [dx (decide (256 < (l.length:Int))) 9,iF (Dz l) (min l.length 256)]
theorem aeG (G:GH) (w0:World) (hG:Hold G w0) (l:List bX) (v:aj) (hv:au G (.sl 3 (l.map bX.dat)) v) (hl:l.length≤4294967296) (ht:∀ x∈l,x.author.size < 4611686018427387904) :
  Calls prog 68 #[v] w0 (bC w0 G fun u G'=>u=vi (El l)):=by
 obtain ⟨A,c,rfl,hc1,hc2,-⟩:=hv.slice;rw [bM] at *;refine eN [(0,_)] func68 rfl ntmps68 rfl rfl hG ?_;refine ak 1 ?_;intro a H;refine dP (cs:=[_]) H wn rfl rfl rfl ?_;clear H;intro b1 a w hb1 H;refine aD 3 H ?_;clear H;intro a H;have H:=H.sub (T':=[(1,_)]) ⟨rfl,bq⟩;obtain ⟨Ga,hma,hb1',H⟩:=H.eu
 have hbl:aI Ga b1 0=some (.slice A l.length c):=by unfold aI;rw [hb1'];rfl
 have hcb:=apr hbl (hv.mono hma) hl ht;refine dI hmx [[],[0],[0,1],[0,1,2],[],[4],[4,5],[],(ra 0 8),(ra 0 9),(ra 0 10),(ra 0 11)] [9,10,11] (by kernel_rfl) [_,_,_,vi (dx (decide (256 < (l.length:Int))) 9),_,_,vi ((min l.length 256:Nat):Int),.func (.func 124) #[] #[(aG b1 0)],vi (iF (Dz l) (min l.length 256))] H (aF (X0 rfl fun hG=>Rg zK rfl (aH hG hbl)) (Z1 0 3 rfl (Rl sG rfl)) (Z1 1 4 rfl (Rc rfl)) ?_ (aF (X0 rfl fun hG=>Rg zK rfl (aH hG hbl)) (Z1 4 7 rfl (Rl sG rfl)) ?_ ?_ (aF ?_ (bQ rfl) (bQ rfl) (bQ rfl) cO))) ?_
 ·refine dZ 2 5 rfl rfl fun _ a w G1 hG HT H fin=>?_;refine s_call jA H wn rfl (jF _ _ H.ro _ 9) rfl ?_;clear H;rintro v6 G6 a w ⟨rfl,-⟩ gD H;exact fin H gD (rfl)
 ·refine dZ 5 8 rfl rfl fun _ a w G1 hG HT H fin=>?_;refine OP H wn rfl rfl rfl ?_;clear H;intro a H;exact fin H iJ (aB vi (by omega))
 ·refine Bh rfl fun _ a w G1 hG HT H fin=>?_;refine nQ H wn rfl rfl ?_;clear H;intro a H;exact fin H iJ rfl
 ·refine dD 6 9 7 10 rfl rfl fun _ a w G1 hG HT H fin=>?_;refine s_call GD H wn rfl (I8 _ _ H.ro (min l.length 256) (Dz l) _ (by omega) ((hcb.mono hG).le (Nat.min_le_left _ _))) rfl ?_;clear H;rintro v11 qX a w rfl kZ H;exact fin H kZ (rfl)
 clear H;intro a w G iN H hv;have H:=H.aN (hv 3 6 rfl rfl) rfl;have H:=H.aN (hv 8 11 rfl rfl) rfl;clear hv;refine gG ql iw [_,_] [_,_] H wn rfl rfl rfl rfl rfl (by intro i q h;match i,h with|0,h=>exact h|1,h=>exact h|n+2,h=>simp at h) rfl rfl ?_;clear H;intro b12 a w EA H;obtain ⟨Bf,BJ,EB,H⟩:=H.eu;refine s_call qC H wn rfl (qD _ _ H.ro _ _ (xZ EB)) rfl ?_;clear H;rintro v13 _ a w ⟨rfl,rfl⟩ - H;refine kH H (Ra rfl ?_);clear H;intro a H;refine aC ⟨rfl,?_⟩;refine dQ ?_;refine uy 0 H ?_;exact rfl
theorem lG:∀ {l:List Int},dh l=0→∀ x∈l,x=0
 | [],_,_,h=>by cases h
 | e :: r,h,x,hx=>by
  unfold dh at h
  by_cases he:e=0
  ·rw [ah (fun h'=>h' he)] at h
   rcases kg.1 hx with rfl|hx
   ·exact he
   exact lG h x hx
  rw [av he] at h;exact absurd h he
theorem Ee {E:Nat→Int} {n:Nat} (h:iF E n=0) (i:Nat) (hi:i < n):E i=0:=lG h _ (by simp;exact ⟨i,hi,rfl⟩)
theorem TL {id:Nat→Int} {i:Nat} (h:pY id i=0):1≤id i∧id i≤1073741824∧(0 < i→id (i - 1) < id i):=by
 unfold pY at h
 by_cases h1:1≤id i∧id i≤1073741824
 ·rw [ah (fun h'=>h' h1)] at h
  by_cases h2:0 < i∧id i=id (i - 1)
  ·rw [av h2] at h;cases h
  rw [ah h2] at h
  by_cases h3:0 < i∧id i < id (i - 1)
  ·rw [av h3] at h;cases h
  exact ⟨h1.1,h1.2,fun h0=>by omega⟩
 rw [av h1] at h;cases h
theorem aah {l:List Int} (h:∀ i (h:i+1 < l.length),l[i] < l[i+1]):Bd l:=by
 have hlt:∀ (j i:Nat) (hj:j < l.length) (hi:i < j),l[i] < l[j]:=by
  intro j
  induction j with
  | zero=>intro i _ hi;omega
  | succ j ih =>
   intro i hj hi;have h1:=h j hj
   by_cases e:i=j
   ·subst e;exact h1
   have:=ih i (by omega) (by omega);omega
 intro k hk hm;obtain ⟨i,hi,he⟩:=List.getElem_of_mem hm;rw [List.length_take] at hi;have:=hlt k i hk (by omega);rw [List.getElem_take] at he
 omega
theorem aps {l:List bX} (h:El l=0):Bd (l.map bX.id):=by
 have h1:=lG h _ (fK);have h2:=lG h _ (gB _ fK)
 have hl:l.length≤256:=by
  unfold dx at h1
  by_cases hd:256 < (l.length:Int)
  ·rw [av (aK hd)] at h1;cases h1
  omega
 refine aah fun i hi=>?_;rw [bM] at hi;have h3:=Ee h2 (i+1) (by omega)
 unfold Dz at h3
 rw [eO hi] at h3;have h4:=(TL (lG h3 _ fK)).2.2 (by omega);rw [Nat.add_sub_cancel,eO hi,eO (show i < l.length by omega)] at h4
 simpa using h4
theorem anx {l:List eD} (h:Jc l=0):Bd (l.map eD.id):=by
 have h1:=lG h _ (fK);have h2:=lG h _ (gB _ fK)
 have hl:l.length≤64:=by
  unfold dx at h1
  by_cases hd:64 < (l.length:Int)
  ·rw [av (aK hd)] at h1;cases h1
  omega
 refine aah fun i hi=>?_;rw [bM] at hi;have h3:=Ee h2 (i+1) (by omega)
 unfold E8 at h3
 have h4:=(TL (lG h3 _ fK)).2.2 (by omega);rw [Nat.add_sub_cancel,eO hi,eO (show i < l.length by omega)] at h4
 simpa using h4
theorem arv {l:List bS} (h:gJ l=0):Bd (l.map bS.id):=by
 unfold gJ at h
 by_cases h1:128 < l.length
 ·rw [av h1] at h;cases h
 rw [ah h1] at h
 by_cases h2:sU (zF l) 0 l.length≠0
 ·rw [av h2] at h;exact absurd h h2
 intro k hk;rw [bM] at hk;have:=aaY (nK.1 h2) k hk;rw [← List.map_take,List.getElem_map];exact this
end
section
open Go.RowKit
theorem aiq:∀ args w,(callFunc 69 args).run prog w=.ok (.enter 69 args) w:=enters func69 rfl (by kernel_rfl)
instance sD:Ty prog 36 4 96 [.slice none 0 0,.slice none 0 0,.slice none 0 0,.slice none 0 0] true:=⟨by kernel_rfl,by kernel_rfl⟩
theorem aio:∀ args w,(callFunc 67 args).run prog w=.ok (.enter 67 args) w:=enters func67 rfl (by kernel_rfl)
theorem aip:∀ args w,(callFunc 68 args).run prog w=.ok (.enter 68 args) w:=enters func68 rfl (by kernel_rfl)
instance Rq:dR prog 38 1 1:=⟨by kernel_rfl⟩
theorem RD (e:Int):dh [e]=e:=by
 by_cases h:e=0 <;> simp [dh,h]
structure gI where
 flow:List ay
 fin:dW
 revs:List bX
 gZ:zU
structure jP (G:GH) (D:iE) (d:gI):Prop where
 fl:au G (.sl 11 (d.flow.map ay.dat)) (aM D.f)
 hd:fD G d.fin (aM D.p) (aM D.d) (aM D.y)
 ins:D.ins=d.fin.marks.ins
 mv:D.move=d.fin.marks.move
 rv:au G (.sl 3 (d.revs.map bX.dat)) (aM D.r)
 st:xC G d.gZ (aM D.s1) (aM D.s2) (aM D.s3) (aM D.s4)
theorem xC.mono {G G':GH} (hm:∀ b o,G b=some o→G' b=some o) {s:zU} {a b c d:aj} (h:xC G s a b c d):xC G' s a b c d:=⟨h.st.mono hm,h.li.mono hm,h.cm.mono hm,h.va.mono hm⟩
theorem jP.mono {G G':GH} (hm:∀ b o,G b=some o→G' b=some o) {D:iE} {d:gI} (h:jP G D d):jP G' D d:=⟨h.fl.mono hm,h.hd.mono hm,h.ins,h.mv,h.rv.mono hm,h.st.mono hm⟩
structure xk (d:gI):Prop where
 fl:bZ d.flow≤1073741824
 hd:kU d.fin≤4294967296
 rn:d.revs.length≤4294967296
 rt:∀ x∈d.revs,x.author.size < 4611686018427387904
 sn:d.gZ.styles.length≤4294967296
 st:Qa d.gZ
abbrev gI.nX (d:gI):bN:=bE [] d.gZ.styles d.gZ.lists d.revs
def qU (m:xw):Bool:=decide ((m.ins≠0∨m.move≠0)∨0 < (m.bL.length:Int))
def jc (d:gI):Int:=dh [dh [Jd d.gZ,El d.revs],dh [gQ d.nX 3 d.fin,dx (qU d.fin.marks) 21],(jo d.nX true false 0 d.flow ⟨0,[]⟩).1,dx (decide (16384 < (jo d.nX true false 0 d.flow ⟨0,[]⟩).2.n)) 9]
theorem aeJ (G:GH) (w0:World) (hG:Hold G w0) (D:iE) (d:gI) (hR:jP G D d) (hz:xk d) :
  Calls prog 21 #[D.val] w0 (bC w0 G fun u G'=>u=vi (jc d)):=by
 obtain ⟨df,dp,dd,dy,dr,d1,d2,d3,d4,ins,mv⟩:=D;obtain ⟨hfl,hhd,hin,hmv,og,hst⟩:=hR;dsimp only at hfl hhd hin hmv og hst;subst hin;subst hmv;obtain ⟨zf,zh,zr,zt,zs,zg⟩:=hz;have hdl:=hhd.bL.len;rw [bM] at hdl
 have hdn:d.fin.marks.bL.length≤4294967296:=by
  have h1:=DW d.fin;have h2:=oq (d.fin.marks.bL.map fF.dat);rw [bM] at h2;omega
 refine eN [(0,_)] func21 rfl ntmps21 rfl rfl hG ?_;refine ak 1 ?_;intro a H;refine dP (cs:=[_,_,_,_,_,_,_,_,_,_,_]) H wn rfl rfl rfl ?_;clear H;intro b1 a w hb1 H;refine aD 4 H ?_;clear H;intro a H;refine dI hmx [[],[0],[0,1],[],[3],(ra 0 5),(ra 0 6),(ra 0 7),(ra 0 8)] [6,7,8] (by kernel_rfl) [_,.agg #[aM d1,aM d2,aM d3,aM d4],vi (Jd d.gZ),_,aM dr,vi (El d.revs)] H (aF (Z0 rfl (Rf ajA rfl)) ?_ ?_ (Z0 rfl (Rf Rt rfl)) (aF (Z1 3 11 rfl (Ro zK 0 rfl)) ?_ (bQ rfl) (bQ rfl) (bH (bQ rfl) cO))) ?_
 ·refine dZ 0 8 rfl rfl fun _ a w G1 hG HT H fin=>?_;refine aR sD (cs:=[_,_,_,_]) H wn rfl rfl (H.hp.bO 0 rfl rfl) rfl ?_;clear H;intro a H;exact fin H iJ rfl
 ·refine dZ 1 9 rfl rfl fun _ a w G1 hG HT H fin=>?_;refine s_call aio H wn rfl (aeH _ _ H.ro d.gZ _ _ _ _ (hst.mono hG) zg) rfl ?_;clear H;rintro v10 zO a w rfl pW H;exact fin H pW (rfl)
 ·refine dZ 4 12 rfl rfl fun _ a w G1 hG HT H fin=>?_;refine s_call aip H wn rfl (aeG _ _ H.ro d.revs _ (og.mono hG) zr zt) rfl ?_;clear H;rintro v13 D6 a w rfl JD H;exact fin H JD (rfl)
 clear H;intro a w G iN H hv;have H:=H.aN (hv 2 10 rfl rfl) rfl;have H:=H.aN (hv 5 13 rfl rfl) rfl;clear hv;refine gG ql iw [_,_] [_,_] H wn rfl rfl rfl rfl rfl (by intro i q h;match i,h with|0,h=>exact h|1,h=>exact h|n+2,h=>simp at h) rfl rfl ?_;clear H;intro b14 a w YU H;obtain ⟨zP,wK,Sm,H⟩:=H.eu;have hg1:=fun b o h=>wK b o (iN b o h);replace hfl:=hfl.mono hg1;replace hhd:=hhd.mono hg1;replace og:=og.mono hg1;replace hst:=hst.mono hg1;refine s_call qC H wn rfl (qD _ _ H.ro _ _ (xZ Sm)) rfl ?_;clear H;rintro v15 _ a w ⟨rfl,rfl⟩ - H;refine kH H (Ra rfl ?_);clear H;intro a H;refine aC ⟨rfl,?_⟩;refine dQ ?_;refine dO 4 H ?_ ?_ <;> clear H
 ·intro jH
  have hE:jc d=dh [Jd d.gZ,El d.revs]:=by rw [jc,dh,av jH]
  refine aP 4 ?_;rw [hE]
 intro jH
 have e1:=nK.1 jH;have s1:=lG e1 _ fK;have s2:=lG e1 _ (gB _ fK);have t1:=lG s1 _ fK;have t2:=lG s1 _ (gB _ fK);refine ak 2 ?_;intro a H;refine aR iq (cs:=[_,_,_,_,_,_,_,_,_,_,_]) H wn rfl rfl (H.hp.bO 0 rfl rfl) rfl ?_;clear H;intro a H;refine gy aiq (Li:=[_]) (L:=[]) H wn rfl (anZ _ _ (Hp.owns (Li:=[_]) H.hp) ⟨df,dp,dd,dy,dr,d1,d2,d3,d4,d.fin.marks.ins,d.fin.marks.move⟩ d.gZ.styles d.gZ.lists d.revs hst.st hst.li og (arv t1) (anx t2) (aps s2) zs zg.ln zr) rfl ?_;clear H;rintro v20 FU _ a w ⟨b,ms,ml,mr,mb,mu,rfl,rfl,hck⟩ nN H;dsimp only [lca,bG] at H;have H:=H.dY (Pl:=[_,_,_,_]) (dJ:=[_,_,_,_]) [3,0,1,2] (by decide) rfl;obtain ⟨Gu,hmu,hu,H⟩:=H.eu;replace hck:=hck.with (us:=[]) hmu hu;replace hfl:=(hfl.mono nN).mono hmu;replace hhd:=(hhd.mono nN).mono hmu;refine aD 5 H ?_;clear H;intro a H;refine aR Cv (cs:=[_,_,_,_]) H wn rfl rfl (H.hp.bO 0 rfl rfl) rfl ?_;clear H;intro a H;refine dz Cv H wn rfl ?_;clear H;intro b5 a w hb5 H;refine aX Cv 0 (vs:=[_,_,_,_]) _ H wn rfl rfl rfl rfl rfl rfl rfl rfl ?_;clear H;intro w H;dsimp only [List.set,setRow] at H;refine aD 3 H ?_;clear H
 intro a H;by_cases c0:d.fin.marks.ins≠0
 ·have c1:d.fin.marks.ins≠0∨d.fin.marks.move≠0:=Or.inl c0;refine dI hmx [[],[],[1],[0,1,2],[],[4],[4,5],(ra 0 7),(ra 0 8),(ra 0 9),(ra 0 10),(ra 0 11),(ra 0 12),(ra 0 13),(ra 0 14),(ra 0 15),(ra 0 16),(ra 0 17),(ra 0 18),(ra 0 19),(ra 0 20),(ra 0 21)] [19,20,21] (by kernel_rfl) [_,_,oW d.fin (aM dp) (aM dd) (aM dy),vi (gQ d.nX 3 d.fin),_,vi d.fin.marks.ins,_,_,undef,undef,undef,.bool (decide (d.fin.marks.ins≠0∨d.fin.marks.move≠0)),_,undef,undef,undef,undef,.bool (qU d.fin.marks),vi (dx (qU d.fin.marks) 21)] H (aF (Z0 rfl (Rm rfl)) (Z0 rfl (Rf Rq rfl)) ?_ ?_ (aF (Z0 rfl (Rf CY rfl)) (Z1 4 28 rfl (Ro bR 0 rfl)) (Z1 5 29 rfl (Rc rfl)) (Z1 6 30 rfl (Rm rfl)) (aF (aY 7 (aK c0) rfl rfl) (aY 7 (aK c0) rfl rfl) (aY 7 (aK c0) rfl rfl) ?_ (aF (Z1 11 35 rfl (Rm rfl)) (aY 12 (aK c1) rfl rfl) (aY 12 (aK c1) rfl rfl) (aY 12 (aK c1) rfl rfl) (aF (aY 12 (aK c1) rfl rfl) ?_ ?_ (bQ rfl) (bH (bQ rfl) (bH (bQ rfl) cO))))))) ?_
  ·refine dZ 1 25 rfl rfl fun _ a w G1 hG HT H fin=>?_;refine aR dw (cs:=[_,_,_,_,_]) H wn rfl rfl (H.hp.bO 1 rfl rfl) rfl ?_;clear H;intro a H;exact fin H iJ rfl
  ·refine dD 0 24 2 26 rfl rfl fun _ a w G1 hG HT H fin=>?_;refine gy GJ (Li:=[_,_]) (L:=fO b ms ml mr mb mu 0 :: (mb,eT []) :: []) H wn rfl (Ho _ _ _ d.gZ.styles d.gZ.lists d.revs b ms ml mr mb mu _ (hck.mono hG) (Hp.owns (Li:=[_,_]) H.hp) 3 d.fin _ _ _ (hhd.mono hG) zh) rfl ?_;clear H;rintro v27 _ _ a w ⟨rfl,rfl,rfl⟩ Ev H;dsimp only [lca,bG] at H;exact fin H Ev (rfl)
  ·refine dD 7 31 10 34 rfl rfl fun _ a w G1 hG HT H fin=>?_;refine aD 1 H ?_;clear H;intro a H;exact fin H iJ (by show _=_;first|exact dB (aK c1).symm|exact dB (by simp [c0]))
  ·refine dD 12 36 16 40 rfl rfl fun _ a w G1 hG HT H fin=>?_;refine aD 1 H ?_;clear H;intro a H;exact fin H iJ (by show _=_;first|exact dB (iQ (Or.inl c1)).symm|exact dB (by simp [qU,c1]))
  ·refine dZ 17 41 rfl rfl fun _ a w G1 hG HT H fin=>?_;refine s_call jA H wn rfl (jF _ _ H.ro _ 21) rfl ?_;clear H;rintro v42 LW a w ⟨rfl,-⟩ Ey H;exact fin H Ey (rfl)
  clear H;intro a w G gD H hv;have H:=H.aN (hv 3 27 rfl rfl) rfl;have H:=H.aN (hv 18 42 rfl rfl) rfl;clear hv;refine gG ql iw [_,_] [_,_] H wn rfl rfl rfl rfl rfl (by intro i q h;match i,h with|0,h=>exact h|1,h=>exact h|n+2,h=>simp at h) rfl rfl ?_;clear H;intro Qg a w Nq H;obtain ⟨FV,BL,JO,H⟩:=H.eu;have Da:=fun b o h=>BL b o (gD b o h);replace hfl:=hfl.mono Da;replace hck:=hck.mono Da;refine s_call qC H wn rfl (qD _ _ H.ro _ _ (xZ JO)) rfl ?_;clear H;rintro v44 _ a w ⟨rfl,rfl⟩ - H;refine kH H (Ra rfl ?_);clear H;intro a H;refine aC ⟨rfl,?_⟩;refine dQ ?_;refine dO 4 H ?_ ?_ <;> clear H
  ·intro p46
   have hE:jc d=dh [gQ d.nX 3 d.fin,dx (qU d.fin.marks) 21]:=by rw [jc,dh,ah (by simpa using e1),dh,av p46]
   refine aP 4 ?_;rw [hE]
  intro p46
  have e2:=nK.1 p46;refine ak 6 ?_;intro a H;refine jh KR [_,_,_] H wn rfl rfl rfl rfl ?_;clear H;intro a H;refine gy Jp (Li:=[_,_]) (L:=fO b ms ml mr mb mu 0 :: (mb,eT []) :: []) H wn rfl (N8 4294967297 (by omega) _ _ _ d.gZ.styles d.gZ.lists d.revs b ms ml mr mb mu ⟨0,[]⟩ d.flow _ true false 0 hck (Hp.owns (Li:=[_,_]) H.hp) hfl (by omega) (by omega) (by omega) (by decide) (by dsimp only;omega)) rfl ?_;clear H;rintro v52 _ _ a w ⟨rfl,s3,rfl,rfl,h3⟩ - H;dsimp only [lca,bG] at H;refine gF 6 H ?_ ?_ <;> clear H
  ·intro p54
   have hE:jc d=(jo d.nX true false 0 d.flow ⟨0,[]⟩).1:=by rw [jc,dh,ah (by simpa using e1),dh,ah (by simpa using e2),dh,av p54]
   refine aP 4 ?_;rw [hE]
  intro p54
  have e3:=nK.1 p54;have hs3:=h3 e3;subst hs3;refine ak 7 ?_;intro a H;refine s_call jA H wn rfl (jF _ _ H.ro _ 9) rfl ?_;clear H;rintro v61 _ a w ⟨rfl,rfl⟩ - H
  have hE:jc d=dx (decide (16384 < (jo d.nX true false 0 d.flow ⟨0,[]⟩).2.n)) 9:=by rw [jc,dh,ah (by simpa using e1),dh,ah (by simpa using e2),dh,ah (by simpa using e3)];exact RD _
  refine fu 2 H ?_;rw [hE]
 by_cases c1:d.fin.marks.ins≠0∨d.fin.marks.move≠0
 ·refine dI hmx [[],[],[1],[0,1,2],[],[4],[4,5],(ra 0 7),(ra 0 8),(ra 0 9),(ra 0 10),(ra 0 11),(ra 0 12),(ra 0 13),(ra 0 14),(ra 0 15),(ra 0 16),(ra 0 17),(ra 0 18),(ra 0 19),(ra 0 20),(ra 0 21)] [19,20,21] (by kernel_rfl) [_,_,oW d.fin (aM dp) (aM dd) (aM dy),vi (gQ d.nX 3 d.fin),_,vi d.fin.marks.ins,_,_,_,vi d.fin.marks.move,_,.bool (decide (d.fin.marks.ins≠0∨d.fin.marks.move≠0)),_,undef,undef,undef,undef,.bool (qU d.fin.marks),vi (dx (qU d.fin.marks) 21)] H (aF (Z0 rfl (Rm rfl)) (Z0 rfl (Rf Rq rfl)) ?_ ?_ (aF (Z0 rfl (Rf CY rfl)) (Z1 4 28 rfl (Ro bR 0 rfl)) (Z1 5 29 rfl (Rc rfl)) (Z1 6 30 rfl (Rm rfl)) (aF (Z1 7 31 rfl (YF Yi (bD c0) rfl)) (Z2 8 32 7 31 rfl (YO bR 0 (bD c0) rfl)) (Z2 9 33 7 31 rfl (YC (bD c0) rfl)) ?_ (aF (Z1 11 35 rfl (Rm rfl)) (aY 12 (aK c1) rfl rfl) (aY 12 (aK c1) rfl rfl) (aY 12 (aK c1) rfl rfl) (aF (aY 12 (aK c1) rfl rfl) ?_ ?_ (bQ rfl) (bH (bQ rfl) (bH (bQ rfl) cO))))))) ?_
  ·refine dZ 1 25 rfl rfl fun _ a w G1 hG HT H fin=>?_;refine aR dw (cs:=[_,_,_,_,_]) H wn rfl rfl (H.hp.bO 1 rfl rfl) rfl ?_;clear H;intro a H;exact fin H iJ rfl
  ·refine dD 0 24 2 26 rfl rfl fun _ a w G1 hG HT H fin=>?_;refine gy GJ (Li:=[_,_]) (L:=fO b ms ml mr mb mu 0 :: (mb,eT []) :: []) H wn rfl (Ho _ _ _ d.gZ.styles d.gZ.lists d.revs b ms ml mr mb mu _ (hck.mono hG) (Hp.owns (Li:=[_,_]) H.hp) 3 d.fin _ _ _ (hhd.mono hG) zh) rfl ?_;clear H;rintro v27 _ _ a w ⟨rfl,rfl,rfl⟩ Ev H;dsimp only [lca,bG] at H;exact fin H Ev (rfl)
  ·refine dD 7 31 10 34 rfl rfl fun _ a w G1 hG HT H fin=>?_;refine aD 1 H ?_;clear H;intro a H;exact fin H iJ (by show _=_;first|exact dB (aK c1).symm|exact dB (by simp [c0]))
  ·refine dD 12 36 16 40 rfl rfl fun _ a w G1 hG HT H fin=>?_;refine aD 1 H ?_;clear H;intro a H;exact fin H iJ (by show _=_;first|exact dB (iQ (Or.inl c1)).symm|exact dB (by simp [qU,c1]))
  ·refine dZ 17 41 rfl rfl fun _ a w G1 hG HT H fin=>?_;refine s_call jA H wn rfl (jF _ _ H.ro _ 21) rfl ?_;clear H;rintro v42 LW a w ⟨rfl,-⟩ Ey H;exact fin H Ey (rfl)
  clear H;intro a w G gD H hv;have H:=H.aN (hv 3 27 rfl rfl) rfl;have H:=H.aN (hv 18 42 rfl rfl) rfl;clear hv;refine gG ql iw [_,_] [_,_] H wn rfl rfl rfl rfl rfl (by intro i q h;match i,h with|0,h=>exact h|1,h=>exact h|n+2,h=>simp at h) rfl rfl ?_;clear H;intro Qg a w Nq H;obtain ⟨FV,BL,JO,H⟩:=H.eu;have Da:=fun b o h=>BL b o (gD b o h);replace hfl:=hfl.mono Da;replace hck:=hck.mono Da;refine s_call qC H wn rfl (qD _ _ H.ro _ _ (xZ JO)) rfl ?_;clear H;rintro v44 _ a w ⟨rfl,rfl⟩ - H;refine kH H (Ra rfl ?_);clear H;intro a H;refine aC ⟨rfl,?_⟩;refine dQ ?_;refine dO 4 H ?_ ?_ <;> clear H
  ·intro p46
   have hE:jc d=dh [gQ d.nX 3 d.fin,dx (qU d.fin.marks) 21]:=by rw [jc,dh,ah (by simpa using e1),dh,av p46]
   refine aP 4 ?_;rw [hE]
  intro p46
  have e2:=nK.1 p46;refine ak 6 ?_;intro a H;refine jh KR [_,_,_] H wn rfl rfl rfl rfl ?_;clear H;intro a H;refine gy Jp (Li:=[_,_]) (L:=fO b ms ml mr mb mu 0 :: (mb,eT []) :: []) H wn rfl (N8 4294967297 (by omega) _ _ _ d.gZ.styles d.gZ.lists d.revs b ms ml mr mb mu ⟨0,[]⟩ d.flow _ true false 0 hck (Hp.owns (Li:=[_,_]) H.hp) hfl (by omega) (by omega) (by omega) (by decide) (by dsimp only;omega)) rfl ?_;clear H;rintro v52 _ _ a w ⟨rfl,s3,rfl,rfl,h3⟩ - H;dsimp only [lca,bG] at H;refine gF 6 H ?_ ?_ <;> clear H
  ·intro p54
   have hE:jc d=(jo d.nX true false 0 d.flow ⟨0,[]⟩).1:=by rw [jc,dh,ah (by simpa using e1),dh,ah (by simpa using e2),dh,av p54]
   refine aP 4 ?_;rw [hE]
  intro p54
  have e3:=nK.1 p54;have hs3:=h3 e3;subst hs3;refine ak 7 ?_;intro a H;refine s_call jA H wn rfl (jF _ _ H.ro _ 9) rfl ?_;clear H;rintro v61 _ a w ⟨rfl,rfl⟩ - H
  have hE:jc d=dx (decide (16384 < (jo d.nX true false 0 d.flow ⟨0,[]⟩).2.n)) 9:=by rw [jc,dh,ah (by simpa using e1),dh,ah (by simpa using e2),dh,ah (by simpa using e3)];exact RD _
  refine fu 2 H ?_;rw [hE]
 refine dI hmx [[],[],[1],[0,1,2],[],[4],[4,5],(ra 0 7),(ra 0 8),(ra 0 9),(ra 0 10),(ra 0 11),(ra 0 12),(ra 0 13),(ra 0 14),(ra 0 15),(ra 0 16),(ra 0 17),(ra 0 18),(ra 0 19),(ra 0 20),(ra 0 21)] [19,20,21] (by kernel_rfl) [_,_,oW d.fin (aM dp) (aM dd) (aM dy),vi (gQ d.nX 3 d.fin),_,vi d.fin.marks.ins,_,_,_,vi d.fin.marks.move,_,.bool (decide (d.fin.marks.ins≠0∨d.fin.marks.move≠0)),_,_,aM dd,vi d.fin.marks.bL.length,_,.bool (qU d.fin.marks),vi (dx (qU d.fin.marks) 21)] H (aF (Z0 rfl (Rm rfl)) (Z0 rfl (Rf Rq rfl)) ?_ ?_ (aF (Z0 rfl (Rf CY rfl)) (Z1 4 28 rfl (Ro bR 0 rfl)) (Z1 5 29 rfl (Rc rfl)) (Z1 6 30 rfl (Rm rfl)) (aF (Z1 7 31 rfl (YF Yi (bD c0) rfl)) (Z2 8 32 7 31 rfl (YO bR 0 (bD c0) rfl)) (Z2 9 33 7 31 rfl (YC (bD c0) rfl)) ?_ (aF (Z1 11 35 rfl (Rm rfl)) (Z1 12 36 rfl (YF GR (bD c1) rfl)) (Z2 13 37 12 36 rfl (YO Cu 0 (bD c1) rfl)) ?_ (aF (Z2 15 39 12 36 rfl (YC (bD c1) rfl)) ?_ ?_ (bQ rfl) (bH (bQ rfl) (bH (bQ rfl) cO))))))) ?_
 ·refine dZ 1 25 rfl rfl fun _ a w G1 hG HT H fin=>?_;refine aR dw (cs:=[_,_,_,_,_]) H wn rfl rfl (H.hp.bO 1 rfl rfl) rfl ?_;clear H;intro a H;exact fin H iJ rfl
 ·refine dD 0 24 2 26 rfl rfl fun _ a w G1 hG HT H fin=>?_;refine gy GJ (Li:=[_,_]) (L:=fO b ms ml mr mb mu 0 :: (mb,eT []) :: []) H wn rfl (Ho _ _ _ d.gZ.styles d.gZ.lists d.revs b ms ml mr mb mu _ (hck.mono hG) (Hp.owns (Li:=[_,_]) H.hp) 3 d.fin _ _ _ (hhd.mono hG) zh) rfl ?_;clear H;rintro v27 _ _ a w ⟨rfl,rfl,rfl⟩ Ev H;dsimp only [lca,bG] at H;exact fin H Ev (rfl)
 ·refine dD 7 31 10 34 rfl rfl fun _ a w G1 hG HT H fin=>?_;refine aD 1 H ?_;clear H;intro a H;exact fin H iJ (by show _=_;first|exact dB (aK c1).symm|exact dB (by simp [c0]))
 ·refine dD 14 38 12 36 rfl rfl fun _ a w G1 hG HT H fin=>?_;refine aD 1 H ?_;clear H;intro a H;exact fin H iJ (by show _=_;first|rfl|exact aB (fun n:Nat=>vi n) hdl)
 ·refine dD 12 36 16 40 rfl rfl fun _ a w G1 hG HT H fin=>?_;refine aD 1 H ?_;clear H;intro a H;exact fin H iJ (by show _=_;first|exact dB (iQ (Or.inl c1)).symm|exact dB (by simp [qU,c1]))
 ·refine dZ 17 41 rfl rfl fun _ a w G1 hG HT H fin=>?_;refine s_call jA H wn rfl (jF _ _ H.ro _ 21) rfl ?_;clear H;rintro v42 LW a w ⟨rfl,-⟩ Ey H;exact fin H Ey (rfl)
 clear H;intro a w G gD H hv;have H:=H.aN (hv 3 27 rfl rfl) rfl;have H:=H.aN (hv 18 42 rfl rfl) rfl;clear hv;refine gG ql iw [_,_] [_,_] H wn rfl rfl rfl rfl rfl (by intro i q h;match i,h with|0,h=>exact h|1,h=>exact h|n+2,h=>simp at h) rfl rfl ?_;clear H;intro Qg a w Nq H;obtain ⟨FV,BL,JO,H⟩:=H.eu;have Da:=fun b o h=>BL b o (gD b o h);replace hfl:=hfl.mono Da;replace hck:=hck.mono Da;refine s_call qC H wn rfl (qD _ _ H.ro _ _ (xZ JO)) rfl ?_;clear H;rintro v44 _ a w ⟨rfl,rfl⟩ - H;refine kH H (Ra rfl ?_);clear H;intro a H;refine aC ⟨rfl,?_⟩;refine dQ ?_;refine dO 4 H ?_ ?_ <;> clear H
 ·intro p46
  have hE:jc d=dh [gQ d.nX 3 d.fin,dx (qU d.fin.marks) 21]:=by rw [jc,dh,ah (by simpa using e1),dh,av p46]
  refine aP 4 ?_;rw [hE]
 intro p46
 have e2:=nK.1 p46;refine ak 6 ?_;intro a H;refine jh KR [_,_,_] H wn rfl rfl rfl rfl ?_;clear H;intro a H;refine gy Jp (Li:=[_,_]) (L:=fO b ms ml mr mb mu 0 :: (mb,eT []) :: []) H wn rfl (N8 4294967297 (by omega) _ _ _ d.gZ.styles d.gZ.lists d.revs b ms ml mr mb mu ⟨0,[]⟩ d.flow _ true false 0 hck (Hp.owns (Li:=[_,_]) H.hp) hfl (by omega) (by omega) (by omega) (by decide) (by dsimp only;omega)) rfl ?_;clear H;rintro v52 _ _ a w ⟨rfl,s3,rfl,rfl,h3⟩ - H;dsimp only [lca,bG] at H;refine gF 6 H ?_ ?_ <;> clear H
 ·intro p54
  have hE:jc d=(jo d.nX true false 0 d.flow ⟨0,[]⟩).1:=by rw [jc,dh,ah (by simpa using e1),dh,ah (by simpa using e2),dh,av p54]
  refine aP 4 ?_;rw [hE]
 intro p54
 have e3:=nK.1 p54;have hs3:=h3 e3;subst hs3;refine ak 7 ?_;intro a H;refine s_call jA H wn rfl (jF _ _ H.ro _ 9) rfl ?_;clear H;rintro v61 _ a w ⟨rfl,rfl⟩ - H
 have hE:jc d=dx (decide (16384 < (jo d.nX true false 0 d.flow ⟨0,[]⟩).2.n)) 9:=by rw [jc,dh,ah (by simpa using e1),dh,ah (by simpa using e2),dh,ah (by simpa using e3)];exact RD _
 refine fu 2 H ?_;rw [hE]
end
section
open Go.RowKit
def Ou (body note:Bool) (t k i:Int):Prop:=(k=3→body=true)∧(k=6→note=false)∧(k=7→t < 4)∧(k=8→1≤i∧i≤1073741824)
mutual
def mX (C:bN) (body note:Bool) (t:Int):ay→Prop
 | .mk k c i tx h f r=>jS (.mk k c i tx h f r)=0∧Ou body note t k i∧gQ C k h=0∧(k=6→jg C false true t f)∧(k=7→(r.length≠0∧r.length≤256)∧lH C note (t+1) r)
def rV (C:bN) (note:Bool) (t:Int):aV→Prop
 | .mk h cs=>Ch C h cs.length=0∧mK C note t cs
def rU (C:bN) (note:Bool) (t:Int):bB→Prop
 | .mk _ h f=>gQ C 10 h=0∧jg C false note t f
def jg (C:bN) (body note:Bool) (t:Int):List ay→Prop
 | []=>True
 | x :: l=>mX C body note t x∧jg C body note t l
def lH (C:bN) (note:Bool) (t:Int):List aV→Prop
 | []=>True
 | x :: l=>rV C note t x∧lH C note t l
def mK (C:bN) (note:Bool) (t:Int):List bB→Prop
 | []=>True
 | x :: l=>rU C note t x∧mK C note t l
end
theorem Cc {C:bN} {body note:Bool} {t:Int}:∀ {l:List ay},jg C body note t l↔∀ x∈l,mX C body note t x
 | []=>by simp [jg]
 | x :: l=>by rw [jg,Cc (l:=l)];simp
theorem Oq {C:bN} {note:Bool} {t:Int}:∀ {l:List aV},lH C note t l↔∀ x∈l,rV C note t x
 | []=>by simp [lH]
 | x :: l=>by rw [lH,Oq (l:=l)];simp
theorem Om {C:bN} {note:Bool} {t:Int}:∀ {l:List bB},mK C note t l↔∀ x∈l,rU C note t x
 | []=>by simp [mK]
 | x :: l=>by rw [mK,Om (l:=l)];simp
mutual
/-- The units that a check counts. -/
def uI:ay→Nat
 | .mk k _ _ tx _ f r=>(if k=1 then rD tx else 1)+(if k=6 then jw f else if k=7 then ng r else 0)
def uR:aV→Nat
 | .mk _ cs=>nS cs
def uC:bB→Nat
 | .mk _ _ f=>jw f
def jw:List ay→Nat
 | []=>0
 | x :: l=>uI x+jw l
def ng:List aV→Nat
 | []=>0
 | x :: l=>uR x+ng l
def nS:List bB→Nat
 | []=>0
 | x :: l=>uC x+nS l
end
def jJ (us bK ids:List Int):Prop:=(∀ i∈ids,(1≤i∧i≤1073741824)∧i∉us∧i∉bK)∧ids.Nodup
theorem jJ.nil (us bK:List Int):jJ us bK []:=⟨fun _ h=>(by cases h),List.nodup_nil⟩
theorem jJ.app {us bK a b:List Int}:jJ us bK (a++b)↔jJ us bK a∧jJ us (bK++a) b:=by
 unfold jJ
 rw [List.nodup_append]
 constructor
 ·rintro ⟨h,h1,h2,h3⟩;exact ⟨⟨fun i hi=>h i (List.mem_append_left _ hi),h1⟩,fun i hi=>⟨(h i (List.mem_append_right _ hi)).1,(h i (List.mem_append_right _ hi)).2.1,fun hm=>(nV.1 hm).elim (h i (List.mem_append_right _ hi)).2.2 fun ha=>h3 i ha i hi rfl⟩,h2⟩
 rintro ⟨⟨h,h1⟩,h2,h3⟩;exact ⟨fun i hi=>(nV.1 hi).elim (h i) fun hb=>⟨(h2 i hb).1,(h2 i hb).2.1,fun hm=>(h2 i hb).2.2 (List.mem_append_left _ hm)⟩,h1,h3,fun i hi j hj e=>(h2 j hj).2.2 (List.mem_append_right _ (e ▸ hi))⟩
theorem jJ.sub {us bK a b:List Int} (h:jJ us bK a) (hs:b.Sublist a):jJ us bK b:=⟨fun i hi=>h.1 i (hs.subset hi),hs.nodup h.2⟩
theorem CP {r:CR} {f:CS→CR} {s':CS}:fQ r f=(0,s')↔∃ m,r=(0,m)∧f m=(0,s'):=by
 constructor
 ·intro h;obtain ⟨h1,h2⟩:=lT h;exact ⟨r.2,Prod.ext h1 rfl,h2⟩
 rintro ⟨m,rfl,h⟩;rw [Gg rfl];exact h
theorem wF {e:Int} {s m:CS}:((e,s):CR)=(0,m)↔e=0∧m=s:=by rw [gV,@eq_comm _ s m]
theorem TJ {C:bN} {s m:CS} {x:Int}:jW C s x=(0,m)↔jJ C.us s.bK [x]∧m=⟨s.n,s.bK++[x]⟩:=by
 unfold jW
 rw [wF]
 have he:pz C.us s.bK x=0↔jJ C.us s.bK [x]:=by
  unfold pz jJ
  by_cases h0:¬ (1≤x∧x≤1073741824)∨x∈C.us
  ·rw [av h0];refine ⟨fun h=>(by cases h),fun h=>?_⟩;have:=h.1 x (List.mem_singleton_self _);exact absurd h0 (by rintro (h1|h1);exact h1 this.1;exact this.2.1 h1)
  rw [ah h0]
  by_cases h1:x∈s.bK
  ·rw [av h1];exact ⟨fun h=>(by cases h),fun h=>absurd h1 (h.1 x (List.mem_singleton_self _)).2.2⟩
  rw [ah h1];refine ⟨fun _=>⟨fun i hi=>?_,by simp⟩,fun _=>rfl⟩;rw [sN.1 hi];exact ⟨nK.1 fun h=>h0 (.inl h),fun h=>h0 (.inr h),h1⟩
 rw [he]
 constructor
 ·rintro ⟨h,rfl⟩;exact ⟨h,by rw [jV,av (he.2 h)]⟩
 rintro ⟨h,rfl⟩;exact ⟨h,by rw [jV,av (he.2 h)]⟩
theorem wZ {b:Bool} {e:Int} (he:e≠0):dx b e=0↔b=false:=by cases b <;> simp [dx,he]
theorem aoN {C:bN} {body note:Bool} {t k i:Int} {s m:CS}:lZ C body note t k i s=(0,m)↔Ou body note t k i∧jJ C.us s.bK (if k=6∨k=7 then [i] else [])∧m=⟨s.n,s.bK++(if k=6∨k=7 then [i] else [])⟩:=by
 unfold lZ Ou
 by_cases h3:k=3
 ·subst h3;rw [av rfl,wF,wZ (by decide)];cases body <;> simp [jJ.nil]
 rw [ah h3]
 by_cases h6:k=6
 ·subst h6;rw [av rfl,CP]
  simp only [wF,wZ (show (19:Int)≠0 by decide),TJ]
  constructor
  ·rintro ⟨_,⟨h1,rfl⟩,h2,h4⟩;exact ⟨⟨fun h=>absurd h (by decide),fun _=>h1,fun h=>absurd h (by decide),fun h=>absurd h (by decide)⟩,by simpa using h2,by simpa using h4⟩
  rintro ⟨⟨-,h1,-,-⟩,h2,h4⟩;exact ⟨s,⟨h1 trivial,rfl⟩,by simpa using h2,by simpa using h4⟩
 rw [ah h6]
 by_cases h7:k=7
 ·subst h7;rw [av rfl,CP]
  simp only [wF,wZ (show (17:Int)≠0 by decide),TJ,mM,Int.not_le]
  constructor
  ·rintro ⟨_,⟨h1,rfl⟩,h2,h4⟩;exact ⟨⟨fun h=>absurd h (by decide),fun h=>absurd h (by decide),fun _=>h1,fun h=>absurd h (by decide)⟩,by simpa using h2,by simpa using h4⟩
  rintro ⟨⟨-,-,h1,-⟩,h2,h4⟩;exact ⟨s,⟨h1 trivial,rfl⟩,by simpa using h2,by simpa using h4⟩
 rw [ah h7,ah (show ¬ (k=6∨k=7) by omega),gu]
 by_cases h8:k=8
 ·rw [av h8,wF,wZ (by decide)]
  simp [h3,h6,h7,h8,jJ.nil]
 rw [ah h8,wF];simp [h3,h6,h7,h8,jJ.nil]
theorem apy {n:Nat} {f:CS→CR} {s s':CS}:lI n f s=(0,s')↔(n≠0∧n≤256)∧f s=(0,s'):=by
 unfold lI
 split
 ·rename_i h;simp [h]
 rename_i h
 split
 ·rename_i h2;simp [show ¬ n≤256 by omega]
 rename_i h2;simp [h,show n≤256 by omega]
mutual
theorem aeN (C:bN) (body note:Bool) (t:Int):∀ (x:ay) (s s':CS),eY C body note t x s=(0,s')↔mX C body note t x∧jJ C.us s.bK (pq x)∧s'=⟨s.n+(uI x:Nat),s.bK++pq x⟩
 | .mk k c i tx h f r,s,s'=>by
  have hf:=Je C false true t f;have hr:=WZ C note (t+1) r;rw [eY,mX,pq,uI]
  simp only [CP,wF,aoN]
  by_cases h6:k=6
  ·subst h6
   simp only [if_true,hf,jJ.app,true_or,ah (show ¬ (6:Int)=7 by decide),ah (show ¬ (6:Int)=1 by decide),gu]
   constructor
   ·rintro ⟨_,⟨h1,rfl⟩,_,⟨h2,h3,rfl⟩,_,⟨h4,rfl⟩,h5,h7,rfl⟩;exact ⟨⟨h1,h2,h4,fun _=>h5,fun h=>absurd h (by decide)⟩,⟨h3,h7⟩,by rw [iZ];congr 1;push_cast;omega⟩
   rintro ⟨⟨h1,h2,h4,h5,-⟩,⟨h3,h7⟩,rfl⟩;exact ⟨s,⟨h1,rfl⟩,_,⟨h2,h3,rfl⟩,_,⟨h4,rfl⟩,h5 trivial,h7,by rw [iZ];congr 1;push_cast;omega⟩
  by_cases h7:k=7
  ·subst h7
   simp only [if_true,apy,hr,jJ.app,or_true,ah (show ¬ (7:Int)=6 by decide),ah (show ¬ (7:Int)=1 by decide),oD]
   constructor
   ·rintro ⟨_,⟨h1,rfl⟩,_,⟨h2,h3,rfl⟩,_,⟨h4,rfl⟩,h0,h5,h8,rfl⟩;exact ⟨⟨h1,h2,h4,fun h=>absurd h (by decide),fun _=>⟨h0,h5⟩⟩,⟨h3,h8⟩,by rw [iZ];congr 1;push_cast;omega⟩
   rintro ⟨⟨h1,h2,h4,-,h5⟩,⟨h3,h8⟩,rfl⟩;exact ⟨s,⟨h1,rfl⟩,_,⟨h2,h3,rfl⟩,_,⟨h4,rfl⟩,(h5 trivial).1,(h5 trivial).2,h8,by rw [iZ];congr 1;push_cast;omega⟩
  simp only [ah h6,ah h7,ah (show ¬ (k=6∨k=7) by omega),gu,wF]
  constructor
  ·rintro ⟨_,⟨h1,rfl⟩,_,⟨h2,h3,rfl⟩,_,⟨h4,rfl⟩,-,rfl⟩;exact ⟨⟨h1,h2,h4,fun h=>absurd h h6,fun h=>absurd h h7⟩,jJ.nil _ _,by simp⟩
  rintro ⟨⟨h1,h2,h4,-,-⟩,h3,rfl⟩;exact ⟨s,⟨h1,rfl⟩,_,⟨h2,jJ.nil _ _,rfl⟩,_,⟨h4,rfl⟩,bq,by simp⟩
theorem aeO (C:bN) (note:Bool) (t:Int):∀ (x:aV) (s s':CS),xU C note t x s=(0,s')↔rV C note t x∧jJ C.us s.bK (tJ x)∧s'=⟨s.n+(uR x:Nat),s.bK++tJ x⟩
 | .mk h cs,s,s'=>by
  have hc:=WY C note t cs;rw [xU,rV,tJ,uR]
  simp only [CP,wF,hc]
  constructor
  ·rintro ⟨_,⟨h1,rfl⟩,h2,h3⟩;exact ⟨⟨h1,h2⟩,h3⟩
  rintro ⟨⟨h1,h2⟩,h3⟩;exact ⟨s,⟨h1,rfl⟩,h2,h3⟩
theorem aeM (C:bN) (note:Bool) (t:Int):∀ (x:bB) (s s':CS),cellC C note t x s=(0,s')↔rU C note t x∧jJ C.us s.bK (uJ x)∧s'=⟨s.n+(uC x:Nat),s.bK++uJ x⟩
 | .mk i h f,s,s'=>by
  have hf:=Je C false note t f;rw [cellC,rU,uJ,uC,show i :: iO f=[i]++iO f from rfl]
  simp only [CP,wF,hf,TJ,jJ.app]
  constructor
  ·rintro ⟨_,⟨h1,rfl⟩,_,⟨h2,rfl⟩,h3,h4,rfl⟩;exact ⟨⟨h2,h3⟩,⟨h1,h4⟩,by rw [iZ]⟩
  rintro ⟨⟨h2,h3⟩,⟨h1,h4⟩,rfl⟩;exact ⟨_,⟨h1,rfl⟩,_,⟨h2,rfl⟩,h3,h4,by rw [iZ]⟩
theorem Je (C:bN) (body note:Bool) (t:Int):∀ (l:List ay) (s s':CS),jo C body note t l s=(0,s')↔jg C body note t l∧jJ C.us s.bK (iO l)∧s'=⟨s.n+(jw l:Nat),s.bK++iO l⟩
 | [],s,s'=>by rw [jo,jg,iO,jw,wF];simp [jJ.nil]
 | x :: r,s,s'=>by
  have h1:=aeN C body note t x;have h2:=Je C body note t r;rw [jo,jg,iO,jw]
  simp only [CP,h1,h2,jJ.app]
  constructor
  ·rintro ⟨_,⟨q1,q2,rfl⟩,q3,q4,rfl⟩;exact ⟨⟨q1,q3⟩,⟨q2,q4⟩,by rw [iZ];congr 1;push_cast;omega⟩
  rintro ⟨⟨q1,q3⟩,⟨q2,q4⟩,rfl⟩;exact ⟨_,⟨q1,q2,rfl⟩,q3,q4,by rw [iZ];congr 1;push_cast;omega⟩
theorem WZ (C:bN) (note:Bool) (t:Int):∀ (l:List aV) (s s':CS),iB C note t l s=(0,s')↔lH C note t l∧jJ C.us s.bK (lW l)∧s'=⟨s.n+(ng l:Nat),s.bK++lW l⟩
 | [],s,s'=>by rw [iB,lH,lW,ng,wF];simp [jJ.nil]
 | x :: r,s,s'=>by
  have h1:=aeO C note t x;have h2:=WZ C note t r;rw [iB,lH,lW,ng]
  simp only [CP,h1,h2,jJ.app]
  constructor
  ·rintro ⟨_,⟨q1,q2,rfl⟩,q3,q4,rfl⟩;exact ⟨⟨q1,q3⟩,⟨q2,q4⟩,by rw [iZ];congr 1;push_cast;omega⟩
  rintro ⟨⟨q1,q3⟩,⟨q2,q4⟩,rfl⟩;exact ⟨_,⟨q1,q2,rfl⟩,q3,q4,by rw [iZ];congr 1;push_cast;omega⟩
theorem WY (C:bN) (note:Bool) (t:Int):∀ (l:List bB) (s s':CS),oP C note t l s=(0,s')↔mK C note t l∧jJ C.us s.bK (mW l)∧s'=⟨s.n+(nS l:Nat),s.bK++mW l⟩
 | [],s,s'=>by rw [oP,mK,mW,nS,wF];simp [jJ.nil]
 | x :: r,s,s'=>by
  have h1:=aeM C note t x;have h2:=WY C note t r;rw [oP,mK,mW,nS]
  simp only [CP,h1,h2,jJ.app]
  constructor
  ·rintro ⟨_,⟨q1,q2,rfl⟩,q3,q4,rfl⟩;exact ⟨⟨q1,q3⟩,⟨q2,q4⟩,by rw [iZ];congr 1;push_cast;omega⟩
  rintro ⟨⟨q1,q3⟩,⟨q2,q4⟩,rfl⟩;exact ⟨_,⟨q1,q2,rfl⟩,q3,q4,by rw [iZ];congr 1;push_cast;omega⟩
end
theorem ajG {a b c d:Int}:dh [a,b,c,d]=0↔a=0∧b=0∧c=0∧d=0:=by
 constructor
 ·intro h;have z:=lG h;exact ⟨z _ (by simp),z _ (by simp),z _ (by simp),z _ (by simp)⟩
 rintro ⟨rfl,rfl,rfl,rfl⟩;rfl
theorem RB {a b:Int}:dh [a,b]=0↔a=0∧b=0:=by
 constructor
 ·intro h;have z:=lG h;exact ⟨z _ (by simp),z _ (by simp)⟩
 rintro ⟨rfl,rfl⟩;rfl
theorem MG (d:gI):jc d=0↔(Jd d.gZ=0∧El d.revs=0)∧(gQ d.nX 3 d.fin=0∧qU d.fin.marks=false)∧jg d.nX true false 0 d.flow∧jJ [] [] (iO d.flow)∧jw d.flow≤16384:=by
 unfold jc
 rw [ajG,RB,RB,wZ (by decide),wZ (by decide),mM]
 constructor
 ·rintro ⟨h1,h2,h3,h4⟩;obtain ⟨q1,q2,q3⟩:=(Je d.nX true false 0 d.flow ⟨0,[]⟩ _).1 (Qx h3);rw [q3] at h4;dsimp only at h4;exact ⟨h1,h2,q1,q2,by omega⟩
 rintro ⟨h1,h2,q1,q2,q3⟩;have h:=(Je d.nX true false 0 d.flow ⟨0,[]⟩ _).2 ⟨q1,q2,rfl⟩;rw [h];exact ⟨h1,h2,rfl,by dsimp only;omega⟩
end
section
open Go.RowKit
def qb (z y:ay):ay:=.mk z.kind z.code z.id (z.text++y.text) z.head z.flow z.rows
def um (y:ay):Prop:=(y.kind=7∧y.rows.length=0)∨(y.kind=1∧y.text.size=0)
def rT (z y:ay):Prop:=y.kind=1∧z.kind=1∧z.head=y.head
instance (y:ay):Decidable (um y):=inferInstanceAs (Decidable (_∨_))
instance (z y:ay):Decidable (rT z y):=inferInstanceAs (Decidable (_∧_∧_))
def addN (out:List ay) (y:ay):List ay :=
 if um y then out else match out.getLast? with
  | none=>out++[y]
  | some z=>if rT z y then out.dropLast++[qb z y] else out++[y]
theorem Qc {out:List ay} {y:ay} (h:um y):addN out y=out:=av h
theorem CK {out:List ay} {y:ay} (h:¬ um y) (hj:∀ o z,out=o++[z]→¬ rT z y):addN out y=out++[y]:=by
 unfold addN
 rw [ah h]
 split
 ·rfl
 rename_i z hz
 obtain ⟨o,rfl⟩:=List.getLast?_eq_some_iff.1 hz;rw [ah (hj o z rfl)]
theorem Mk {o:List ay} {z y:ay} (h:¬ um y) (hj:rT z y):addN (o++[z]) y=o++[qb z y]:=by
 unfold addN
 rw [ah h,List.getLast?_concat];dsimp only;rw [av hj,List.dropLast_concat]
theorem Wv (out:List ay) (y:ay):addN out y=out∨addN out y=out++[y]∨∃ o z,out=o++[z]∧z.kind=1∧y.kind=1∧addN out y=o++[qb z y]:=by
 by_cases h:um y
 ·exact .inl (Qc h)
 by_cases hj:∃ o z,out=o++[z]∧rT z y
 ·obtain ⟨o,z,rfl,hj⟩:=hj;exact .inr (.inr ⟨o,z,rfl,hj.2.1,hj.1,Mk h hj⟩)
 exact .inr (.inl (CK h fun o z e hz=>hj ⟨o,z,e,hz⟩))
mutual
/-- What becomes of an item in a normal form, of rows, of cells. -/
def nI:ay→ay
 | .mk k c i t h f r=>.mk k c i t h ((qd f).foldl addN []) (uO r)
def qd:List ay→List ay
 | []=>[]
 | x :: l=>nI x :: qd l
def nR:aV→aV
 | .mk h c=>.mk h (uN c)
def uO:List aV→List aV
 | []=>[]
 | x :: l=>nR x :: uO l
def nC:bB→bB
 | .mk i h f=>.mk i h ((qd f).foldl addN [])
def uN:List bB→List bB
 | []=>[]
 | x :: l=>nC x :: uN l
end
theorem Og:∀ l:List ay,qd l=l.map nI
 | []=>by simp [qd]
 | x :: l=>by simp [qd,Og l]
theorem Oh:∀ l:List aV,uO l=l.map nR
 | []=>by simp [uO]
 | x :: l=>by simp [uO,Oh l]
theorem Ul:∀ l:List bB,uN l=l.map nC
 | []=>by simp [uN]
 | x :: l=>by simp [uN,Ul l]
def rW (l:List ay) (k:Nat):List ay:=((l.take k).map nI).foldl addN []
def lX (l:List ay):List ay:=rW l l.length
theorem aaE (x:ay):nI x=.mk x.kind x.code x.id x.text x.head (lX x.flow) (x.rows.map nR):=by
 cases x;rw [nI,Og,Oh];simp [lX,rW,ay.kind,ay.code,ay.id,ay.text,ay.head,ay.flow,ay.rows]
theorem aaF (x:aV):nR x=.mk x.head (x.cells.map nC):=by cases x;rw [nR,Ul];rfl
theorem anN (x:bB):nC x=.mk x.id x.head (lX x.flow):=by cases x;rw [nC,Og];simp [lX,rW,bB.id,bB.head,bB.flow]
theorem aaV {l:List ay} {k:Nat} (h:k < l.length):rW l (k+1)=addN (rW l k) (nI l[k]):=by
 unfold rW;rw [fP h,kM,List.foldl_append];rfl
theorem arz (out:List ay) (y:ay):mZ (addN out y)≤mZ out+(y.text.size+1):=by
 rcases Wv out y with e|e|⟨o,z,rfl,-,-,e⟩ <;> rw [e]
 ·omega
 ·rw [Fz];simp [mZ]
 rw [Fz,Fz];have:(qb z y).text.size=z.text.size+y.text.size:=ByteArray.size_append
 simp only [mZ,this];omega
theorem Uu {l:List ay}:∀ {k:Nat},k≤l.length→mZ (rW l k)≤mZ (l.take k)
 | 0,_=>by simp [rW,mZ]
 | k+1,h=>by
  have ih:=Uu (l:=l) (k:=k) (by omega);have h1:=arz (rW l k) (nI l[k])
  have h2:(nI l[k]).text=l[k].text:=by rw [aaE];rfl
  rw [h2] at h1;rw [aaV (by omega),fP (by omega),Fz]
  simp only [mZ];omega
theorem aor {l:List ay} {k:Nat} (h:k≤l.length):(rW l k).length≤mZ l:=by
 have h1:=Ub (rW l k);have h2:=Uu h;have h3:=aco l k
 omega
mutual
/-- Tables whose rows all have cells. -/
def Ii:ay→Prop
 | .mk _ _ _ _ _ f r=>tN f∧Ca r
def tN:List ay→Prop
 | []=>True
 | x :: l=>Ii x∧tN l
def Dy:aV→Prop
 | .mk _ c=>c≠[]∧Dx c
def Ca:List aV→Prop
 | []=>True
 | x :: l=>Dy x∧Ca l
def Dw:bB→Prop
 | .mk _ _ f=>tN f
def Dx:List bB→Prop
 | []=>True
 | x :: l=>Dw x∧Dx l
end
theorem aaK:∀ {l:List ay},tN l→∀ x∈l,Ii x
 | [],_,_,h=>by cases h
 | y :: l,h,x,hx=>by
  rw [tN] at h
  rcases kg.1 hx with rfl|hx
  ·exact h.1
  exact aaK h.2 x hx
theorem Un:∀ {l:List aV},Ca l→∀ x∈l,Dy x
 | [],_,_,h=>by cases h
 | y :: l,h,x,hx=>by
  rw [Ca] at h
  rcases kg.1 hx with rfl|hx
  ·exact h.1
  exact Un h.2 x hx
theorem aaJ:∀ {l:List bB},Dx l→∀ x∈l,Dw x
 | [],_,_,h=>by cases h
 | y :: l,h,x,hx=>by
  rw [Dx] at h
  rcases kg.1 hx with rfl|hx
  ·exact h.1
  exact aaJ h.2 x hx
theorem anS (x:ay):Ii x=(tN x.flow∧Ca x.rows):=by cases x;rw [Ii];rfl
theorem aaL (x:aV):Dy x=(x.cells≠[]∧Dx x.cells):=by cases x;rw [Dy];rfl
theorem anR (x:bB):Dw x=tN x.flow:=by cases x;rw [Dw];rfl
end
section
open Go.RowKit
theorem Qh {a b:ByteArray} {i:Nat} (h:i < a.size):fV (a++b) i=fV a i:=by
 rw [kV h,kV (by rw [ByteArray.size_append];omega),ByteArray.getElem_append_left h]
theorem Qi (a b:ByteArray) (j:Nat):fV (a++b) (a.size+j)=fV b j:=by
 by_cases h:j < b.size
 ·rw [kV h,kV (by rw [ByteArray.size_append];omega),ByteArray.getElem_append_right (by omega)]
  congr 2
  simp
 unfold fV
 rw [dif_neg (by rw [ByteArray.size_append];omega),dif_neg h]
theorem Xn {a b:ByteArray} {t n:Nat}:∀ (f k:Nat) (low high p:Int),(oU a t n f k low high p).2.2=true→oU (a++b) t n f k low high p=oU a t n f k low high p
 | 0,_,_,_,_,_=>rfl
 | f+1,k,low,high,p,h=>by
  unfold oU at h ⊢
  by_cases h1:n≤k
  ·rw [av h1,av h1]
  rw [ah h1] at h;rw [ah h1,ah h1]
  by_cases h2:a.size≤t+k∨fV a (t+k) < low∨high < fV a (t+k)
  ·rw [av h2] at h;cases h
  rw [ah h2] at h
  have h3:t+k < a.size:=by omega
  rw [Qh h3,ah h2,ah (by rw [ByteArray.size_append];omega)];exact Xn f (k+1) _ _ _ h
theorem Xo (a b:ByteArray) (j n:Nat):∀ (f k:Nat) (low high p:Int),oU (a++b) (a.size+j) n f k low high p=oU b j n f k low high p
 | 0,_,_,_,_=>rfl
 | f+1,k,low,high,p=>by
  unfold oU
  have e:fV (a++b) (a.size+j+k)=fV b (j+k):=by rw [Nat.add_assoc];exact Qi a b (j+k)
  have e2:((a++b).size≤a.size+j+k)↔(b.size≤j+k):=by rw [ByteArray.size_append];omega
  rw [e,Xo a b j n f]
  simp only [e2]
theorem Xq {a b:ByteArray} {i:Nat} (hi:i < a.size) (h:(kG a i).2.2=true):kG (a++b) i=kG a i:=by
 unfold kG at h ⊢
 simp only [Qh hi] at h ⊢
 split
 ·rfl
 rename_i h1
 rw [ah h1] at h
 split
 ·rfl
 rename_i h2
 rw [ah h2] at h;exact Xn _ _ _ _ _ h
theorem Xr (a b:ByteArray) (j:Nat):kG (a++b) (a.size+j)=kG b j:=by
 unfold kG
 simp only [Qi,Xo]
theorem ajI (a b:ByteArray):∀ (n j:Nat),b.size - j=n→rF b j < 0→rF (a++b) (a.size+j) < 0:=by
 intro n
 induction n using Nat.strongRecOn with
 | _ n ih =>
  intro j hn h;rw [rF]
  by_cases hj:j < b.size
  ·rw [rF,dif_pos hj] at h;rw [dif_pos (by rw [ByteArray.size_append];omega)]
   by_cases hd:(kG b j).2.2=true
   ·rw [dif_pos hd] at h;have hs:=(MP b j hj).2 hd;rw [dif_pos (by rw [Xr];exact hd),Xr,Nat.add_assoc];exact ih _ (by omega) (j+(kG b j).2.1) rfl h
   rw [dif_neg hd] at h;omega
  rw [dif_neg (by rw [ByteArray.size_append];omega)];decide
theorem ajH (a b:ByteArray) (hb:rF b 0 < 0):∀ (n i:Nat),a.size - i=n→i≤a.size→rF a i < 0→rF (a++b) i < 0:=by
 intro n
 induction n using Nat.strongRecOn with
 | _ n ih =>
  intro i hn hi h
  by_cases hj:i < a.size
  ·rw [rF,dif_pos hj] at h;rw [rF,dif_pos (by rw [ByteArray.size_append];omega)]
   by_cases hd:(kG a i).2.2=true
   ·rw [dif_pos hd] at h;have hs:=(MP a i hj).2 hd;rw [dif_pos (by rw [Xq hj hd];exact hd),Xq hj hd];exact ih _ (by omega) (i+(kG a i).2.1) rfl hs.2 h
   rw [dif_neg hd] at h;omega
  obtain rfl:i=a.size:=by omega
  exact ajI a b b.size 0 rfl hb
theorem acM {a b:ByteArray} (ha:qm a=true) (hb:qm b=true):qm (a++b)=true:=by
 unfold qm at *
 exact iQ (ajH a b (mE hb) a.size 0 rfl (gN _) (mE ha))
theorem Xf (a b:ByteArray):∀ (n j:Nat),b.size - j=n→oQ (a++b) (a.size+j)=oQ b j
 | 0,j,h=>by
  rw [oQ.eq_def (a++b),oQ.eq_def b,ah (show ¬ a.size+j < (a++b).size by rw [ByteArray.size_append];omega),ah (show ¬ j < b.size by omega)]
 | n+1,j,h=>by
  have ih:=Xf a b n (j+1) (by omega);rw [oQ.eq_def (a++b),oQ.eq_def b,av (show a.size+j < (a++b).size by rw [ByteArray.size_append];omega),av (show j < b.size by omega),Qi,Nat.add_assoc,ih]
theorem Xe (a b:ByteArray):∀ (n i:Nat),a.size - i=n→i≤a.size→oQ (a++b) i=oQ a i+oQ b 0
 | 0,i,h,hi=>by
  obtain rfl:i=a.size:=by omega
  rw [oQ.eq_def a a.size,ah (Nat.lt_irrefl _),fU];exact Xf a b b.size 0 rfl
 | n+1,i,h,hi=>by
  have ih:=Xe a b n (i+1) (by omega) (by omega);rw [oQ.eq_def (a++b),oQ.eq_def a i,av (show i < (a++b).size by rw [ByteArray.size_append];omega),av (show i < a.size by omega),Qh (show i < a.size by omega),ih,Nat.add_assoc]
theorem afn {a b:ByteArray} (ha:qm a=true) (hb:qm b=true):rD (a++b)=rD a+rD b:=by
 unfold rD
 rw [av ha,av hb,av (acM ha hb)];exact Xe a b a.size 0 rfl (gN _)
end
section
open Go.RowKit
def CJ (s:CS) (z:Nat) (r:CR):Prop:=r.2.bK.length≤s.bK.length+z
theorem CJ.and {s:CS} {z y q:Nat} {r:CR} {f:CS→CR} (h:CJ s z r) (hq:z+y≤q) (hf:∀ s,CJ s y (f s)):CJ s q (fQ r f):=by
 unfold CJ at *
 unfold fQ
 split
 ·omega
 have:=hf r.2
 omega
theorem CJ.zero (s:CS) (e:Int) (q:Nat):CJ s q (e,s):=by unfold CJ;dsimp only;omega
end
section
open Go.RowKit
structure LJ where
 code:Int
 id:Int
 name:ByteArray
 flow:Int
 at_:Int
def LJ.dat (x:LJ):List Dat:=[li x.code,li x.id,.lf (.string x.name),li x.flow,li x.at_]
abbrev LJ.cells (x:LJ):List aj:=[vi x.code,vi x.id,.string x.name,vi x.flow,vi x.at_]
def VE (P:Program) (fv:aj) (Gi:GH) (xs:List AP) (J:Nat→GH→OL→Prop):Prop :=
 ∀ k args G L w,xg xs k args G→(∀ b o,Gi b=some o→G b=some o)→J k G L→fT G L w→qo P fv args w (fI w G L fun _ G' L'=>J (k+1) G' L')
end
section
open Go.RowKit
instance FB:Ty prog 137 1 8 [.nilFunc] false:=⟨by kernel_rfl,by kernel_rfl⟩
instance AX:Ty prog 41 1 24 [.slice none 0 0] false:=⟨by kernel_rfl,by kernel_rfl⟩
def La (A:List oM):Int:=A.foldl (fun n f=>n+Dq f.items) 0
end
section
open Go.RowKit
theorem Q5:∀ args w,(callFunc 88 args).run prog w=.ok (.enter 88 args) w:=enters func88 rfl (by kernel_rfl)
mutual
/-- The heads of items, rows and cells, in document order. -/
def JF:ay→List dW
 | .mk k _ _ _ h f r=>h :: ((if k=6 then nZ f else [])++(if k=7 then Aj r else []))
def nZ:List ay→List dW
 | []=>[]
 | x :: r=>JF x++nZ r
def JJ:aV→List dW
 | .mk h c=>h :: Bw c
def Aj:List aV→List dW
 | []=>[]
 | x :: r=>JJ x++Aj r
def JC:bB→List dW
 | .mk _ h f=>h :: nZ f
def Bw:List bB→List dW
 | []=>[]
 | x :: r=>JC x++Bw r
end
theorem aks (x:ay):JF x=x.head :: ((if x.kind=6 then nZ x.flow else [])++(if x.kind=7 then Aj x.rows else [])):=by cases x;rw [JF];rfl
theorem akB (x:aV):JJ x=x.head :: Bw x.cells:=by cases x;rw [JJ];rfl
theorem ajY (x:bB):JC x=x.head :: nZ x.flow:=by cases x;rw [JC];rfl
def ED (h:dW):AP:=fun args G=>∃ p d y:Option Addr × Nat × Nat,args=[.agg #[aM p,vi h.marks.ins,vi h.marks.move,aM d,aM y]]∧fD G h (aM p) (aM d) (aM y)
theorem SG {G:GH} {h:dW} {pA dA yA:Option Addr} {pn pc dn dc yn yc:Nat} (hr:fD G h (.slice pA pn pc) (.slice dA dn dc) (.slice yA yn yc)):ED h [.agg #[.slice pA pn pc,vi h.marks.ins,vi h.marks.move,.slice dA dn dc,.slice yA yn yc]] G:=⟨(pA,pn,pc),(dA,dn,dc),(yA,yn,yc),rfl,hr⟩
def PS (n:Nat):Prop:=∀ (fv:aj) (Gi:GH) (xs:List AP) (J:Nat→GH→OL→Prop) (G:GH) (L:OL) (w0:World) (j:Nat) (l:List ay) (v:aj),
 (∀ b o,Gi b=some o→G b=some o)→VE prog fv Gi xs J→FZ J→J j G L→fT G L w0→au G (.sl 11 (l.map ay.dat)) v→bZ l < n→(∀ i a,(nZ l)[i]?=some a→xs[j+i]?=some (ED a)) →
 Calls prog 88 #[v,fv] w0 (fI w0 G L fun _ G' L'=>J (j+(nZ l).length) G' L')
theorem alk {n:Nat} (ih:PS n) (hn:n≤4294967296):PS (n+1):=by
 intro fv Gi xs J G L w0 j0 l v hGi hcb Ai hJ0 hO hv hz hx0;obtain ⟨A,c,rfl,hc1,hc2,hg⟩:=hv.slice;rw [bM] at *;have hll:=FM l;refine jf (N:=59) (T:=[(0,_),(1,_)]) func88 rfl ntmps88 rfl rfl hO ?_;refine ak 6 ?_;intro a H;refine eH (ι:=Nat × Nat × OL × GH) (Tc:=[(1,_),(10,_),(11,_)]) (Lc:=[]) (fun gh=>[(12,vi gh.1)]) (fun gh=>[]++gh.2.2.1) (fun gh=>gh.2.2.2) (fun gh=>gh.1≤l.length∧(∀ b o,G b=some o→gh.2.2.2 b=some o)∧Now xs ED J (j0+(nZ l).length) gh.2.1 (nZ (l.drop gh.1)) gh.2.2.2 gh.2.2.1) (fun gh=>l.length - gh.1) ((0,j0,L,G)) sB ?_ ?_
 ·exact ⟨by omega,fun _ _ h=>h,⟨hJ0,hx0,rfl⟩⟩
 clear H;rintro ⟨k,j,Lt,g1⟩ a w hI H;dsimp only at hI H;obtain ⟨hk,hgm,iU⟩:=hI;dsimp only [lca,bG] at H;refine dO 4 H ?_ ?_ <;> clear H
 ·intro oJ
  have hk2:k < l.length:=by omega
  obtain ⟨b,o,pA,pn,pc,dA,dn,dc,yA,yn,yc,fA,fn,fc,rA,rn,rc,rfl,hrow,hhd,hfl,hrw⟩:=Es hk2 hg;replace hrow:=fun j u hj=>aH hgm (hrow j u hj);replace hhd:=hhd.mono hgm;replace hfl:=hfl.mono hgm;replace hrw:=hrw.mono hgm;have hrn:=hrw.len;rw [bM] at hrn;subst hrn;have hsz1:=IL hk2;rw [pJ hk2] at iU
  simp only [nZ,aks,iZ,nu] at iU
  obtain ⟨x,hx⟩:∃ x,x=l[k]:=⟨_,rfl⟩;rw [← hx] at iU hrow hhd hfl hrw hsz1;have hrl:=IQ x.rows;refine ak 5 ?_;intro a H;refine aR fZ (cs:=[_,_,_,_,_,_,_,_,_,_,_]) H wn rfl rfl (fun j v hj=>H.hp.aI (hrow j v hj)) rfl ?_;clear H;intro a H;refine dz fZ H wn rfl ?_;clear H;intro b5 a w hb5 H;refine aX fZ 0 (vs:=[_,_,_,_,_,_,_,_,_,_,_]) _ H wn rfl rfl rfl rfl rfl rfl rfl rfl ?_;clear H;intro w H;dsimp only [List.set,setRow] at H;refine aD 4 H ?_;clear H;intro a H;refine aR dw (cs:=[_,_,_,_,_]) H wn rfl rfl (H.hp.bO 0 rfl rfl) rfl ?_;clear H;intro a H;refine Cj (Li:=[_]) (L:=Lt) H wn rfl rfl (hcb _ _ _ _ _ ⟨_,iU.head,SG hhd⟩ (fun b o h=>hgm b o (hGi b o h)) iU.now (Hp.owns (Li:=[_]) H.hp)) rfl ?_;clear H;intro v19 FT PZ a w akt qF H;have BM:=iU.step akt;refine gF 10 H ?_ ?_ <;> clear H
  ·intro iW
   rw [av iW,ah (by omega),oD] at BM;refine ak 4 ?_;intro a H;refine gy Q5 (Li:=[_]) (L:=PZ) H wn rfl (ih fv Gi xs J _ _ _ (j+1) x.flow _ (fun b o h=>qF b o (hgm b o (hGi b o h))) hcb Ai BM.now (Hp.owns (Li:=[_]) H.hp) (hfl.mono qF) (by omega) BM.part) rfl ?_;clear H;intro v27 PG adx a w aku Zi H;refine aD 4 H ?_;clear H;intro a H;refine aC ?_;refine cB ((k+1,j+1+(nZ x.flow).length,adx,PG)) (by exact (H.dY (Pl:=[_]) (dJ:=[]) [] (by decide) rfl).sub ⟨rfl,rfl,rfl,rfl,bq⟩) ?_ ?_
   ·(try dsimp only);exact ⟨by omega,fun b o h=>Zi b o (qF b o (hgm b o h)),BM.jump aku⟩
   first|omega|(dsimp only;omega)
  intro iW
  rw [ah iW,oD] at BM;refine goB 4 ?_ ?_
  ·intro p28
   rw [av p28] at BM;refine ak 7 ?_;intro a H;refine eH (ι:=Nat × Nat × OL × GH) (Tc:=[(1,_),(10,_),(11,_),(12,_),(31,_),(32,_)]) (Lc:=[(_,_)]) (fun gh=>[(33,vi gh.1)]) (fun gh=>[]++gh.2.2.1) (fun gh=>gh.2.2.2) (fun gh=>gh.1≤x.rows.length∧(∀ b o,FT b=some o→gh.2.2.2 b=some o)∧Now xs ED J (j0+(nZ l).length) gh.2.1 (Aj (x.rows.drop gh.1)++nZ (l.drop (k+1))) gh.2.2.2 gh.2.2.1) (fun gh=>x.rows.length - gh.1) ((0,j+1,PZ,FT)) sB ?_ ?_
   ·exact ⟨by omega,fun _ _ h=>h,BM⟩
   clear H;rintro ⟨rk,j3,Lt3,g3⟩ a w hI H;dsimp only at hI H;obtain ⟨hrk,hg3,Dj⟩:=hI;dsimp only [lca,bG] at H;refine dO 4 H ?_ ?_ <;> clear H
   ·intro p34
    have hk3:rk < x.rows.length:=by omega
    obtain ⟨b2,o2,qA,qn,qc,eA,en,ec,zA,zn,zc,cA,cn,cc,rfl,hrow,BR,hcl⟩:=KJ hk3 ((hrw.mono qF).mono hg3).at_;have hcn:=hcl.len;rw [bM] at hcn;subst hcn;have hsz2:=LG hk3;have hcs:=IK x.rows[rk].cells;rw [pJ hk3] at Dj
    simp only [Aj,akB,iZ,nu] at Dj
    obtain ⟨y,hy⟩:∃ y,y=x.rows[rk]:=⟨_,rfl⟩;rw [← hy] at Dj hrow BR hcl hsz2 hcs;refine ak 5 ?_;intro a H;refine aR jI (cs:=[_,_,_,_,_,_]) H wn rfl rfl (fun j v hj=>H.hp.aI (hrow j v hj)) rfl ?_;clear H;intro a H;refine dz jI H wn rfl ?_;clear H;intro b7 a w vG H;refine aX jI 0 (vs:=[_,_,_,_,_,_]) _ H wn rfl rfl rfl rfl rfl rfl rfl rfl ?_;clear H;intro w H;dsimp only [List.set,setRow] at H;refine aD 4 H ?_;clear H;intro a H;refine aR dw (cs:=[_,_,_,_,_]) H wn rfl rfl (H.hp.bO 0 rfl rfl) rfl ?_;clear H;intro a H;refine Cj (Li:=[_,_]) (L:=Lt3) H wn rfl rfl (hcb _ _ _ _ _ ⟨_,Dj.head,SG BR⟩ (fun b o h=>hg3 b o (qF b o (hgm b o (hGi b o h)))) Dj.now (Hp.owns (Li:=[_,_]) H.hp)) rfl ?_;clear H;intro v40 PL ady a w akv EI H;have alT:=Dj.step akv;refine aD 8 H ?_;clear H;intro a H;refine eH (ι:=Nat × Nat × OL × GH) (Tc:=[(1,_),(10,_),(11,_),(12,_),(31,_),(32,_),(33,_),(42,_),(43,_)]) (Lc:=[(_,_),(_,_)]) (fun gh=>[(44,vi gh.1)]) (fun gh=>[]++gh.2.2.1) (fun gh=>gh.2.2.2) (fun gh=>gh.1≤y.cells.length∧(∀ b o,PL b=some o→gh.2.2.2 b=some o)∧Now xs ED J (j0+(nZ l).length) gh.2.1 (Bw (y.cells.drop gh.1)++(Aj (x.rows.drop (rk+1))++nZ (l.drop (k+1)))) gh.2.2.2 gh.2.2.1) (fun gh=>y.cells.length - gh.1) ((0,j3+1,ady,PL)) sB ?_ ?_
    ·exact ⟨by omega,fun _ _ h=>h,alT⟩
    clear H;rintro ⟨ck,j4,Lt4,g4⟩ a w hI H;dsimp only at hI H;obtain ⟨hck,hg4,EN⟩:=hI;dsimp only [lca,bG] at H;refine dO 4 H ?_ ?_ <;> clear H
    ·intro p45
     have hk4:ck < y.cells.length:=by omega
     obtain ⟨b3,o3,sA,sn,sc,tA,tn,tc,uA,un,uc,gA,gn,gc,rfl,hrow,hch,hcf⟩:=Jb hk4 ((hcl.mono EI).mono hg4).at_;have atH:=LD hk4;rw [pJ hk4] at EN
     simp only [Bw,ajY,iZ,nu] at EN
     refine ak 5 ?_;intro a H;refine aR jO (cs:=[_,_,_,_,_,_,_]) H wn rfl rfl (fun j v hj=>H.hp.aI (hrow j v hj)) rfl ?_;clear H;intro a H;refine dz jO H wn rfl ?_;clear H;intro b9 a w tC H;refine aX jO 0 (vs:=[_,_,_,_,_,_,_]) _ H wn rfl rfl rfl rfl rfl rfl rfl rfl ?_;clear H;intro w H;dsimp only [List.set,setRow] at H;refine aD 4 H ?_;clear H;intro a H;refine aR dw (cs:=[_,_,_,_,_]) H wn rfl rfl (H.hp.bO 0 rfl rfl) rfl ?_;clear H;intro a H;refine Cj (Li:=[_,_,_]) (L:=Lt4) H wn rfl rfl (hcb _ _ _ _ _ ⟨_,EN.head,SG hch⟩ (fun b o h=>hg4 b o (EI b o (hg3 b o (qF b o (hgm b o (hGi b o h)))))) EN.now (Hp.owns (Li:=[_,_,_]) H.hp)) rfl ?_;clear H;intro v51 G51 adz a w akw HY H;have S9:=EN.step akw;refine aD 5 H ?_;clear H;intro a H;refine gy Q5 (Li:=[_,_,_]) (L:=adz) H wn rfl (ih fv Gi xs J _ _ _ (j4+1) y.cells[ck].flow _ (fun b o h=>HY b o (hg4 b o (EI b o (hg3 b o (qF b o (hgm b o (hGi b o h))))))) hcb Ai S9.now (Hp.owns (Li:=[_,_,_]) H.hp) (hcf.mono HY) (by omega) S9.part) rfl ?_;clear H;intro v55 IW adA a w akx uG H;refine aD 4 H ?_;clear H;intro a H;refine aC ?_;refine cB ((ck+1,j4+1+(nZ y.cells[ck].flow).length,adA,IW)) (by exact (H.dY (Pl:=[_,_,_]) (dJ:=[_,_]) [1,2] (by decide) rfl).sub ⟨rfl,rfl,rfl,rfl,rfl,rfl,rfl,rfl,rfl,rfl,bq⟩) ?_ ?_
     ·(try dsimp only);exact ⟨by omega,fun b o h=>uG b o (HY b o (hg4 b o h)),S9.jump akx⟩
     first|omega|(dsimp only;omega)
    intro p45
    refine ak 4 ?_;intro a H;refine aC ?_;refine cB ((rk+1,j4,Lt4,g4)) (by exact (H.dY (Pl:=[_,_]) (dJ:=[_]) [1] (by decide) rfl).sub ⟨rfl,rfl,rfl,rfl,rfl,rfl,rfl,bq⟩) ?_ ?_
    ·(try dsimp only);exact ⟨by omega,fun b o h=>hg4 b o (EI b o (hg3 b o h)),by rw [ku (by omega),Bw,oD] at EN;exact EN⟩
    first|omega|(dsimp only;omega)
   intro p34
   refine ak 4 ?_;intro a H;refine aC ?_;refine cB ((k+1,j3,Lt3,g3)) (by exact (H.dY (Pl:=[_]) (dJ:=[]) [] (by decide) rfl).sub ⟨rfl,rfl,rfl,rfl,bq⟩) ?_ ?_
   ·(try dsimp only);exact ⟨by omega,fun b o h=>hg3 b o (qF b o (hgm b o h)),by rw [ku (by omega),Aj,oD] at Dj;exact Dj⟩
   first|omega|(dsimp only;omega)
  intro p28
  rw [ah p28,oD] at BM;refine ak 4 ?_;intro a H;refine aC ?_;refine cB ((k+1,j+1,PZ,FT)) (by exact (H.dY (Pl:=[_]) (dJ:=[]) [] (by decide) rfl).sub ⟨rfl,rfl,rfl,rfl,bq⟩) ?_ ?_
  ·(try dsimp only);exact ⟨by omega,fun b o h=>qF b o (hgm b o h),BM⟩
  first|omega|(dsimp only;omega)
 intro oJ
 intro a H;refine yK ?_;refine (leave0 H results88 ?_).2
 exact H.hp.kC (L':=Lt) (by repeat (first|exact jR _|apply List.Sublist.cons)) (by
   rw [ku (by omega),nZ] at iU;have:=iU.len
   simp only [List.length_nil,wu] at this
   rw [← this];exact iU.now)
theorem Y3:∀ n:Nat,n≤4294967297→PS n
 | 0,_=>fun _ _ _ _ _ _ _ _ _ _ _ _ _ _ _ _ h=>absurd h (by omega)
 | n+1,hn=>alk (Y3 n (by omega)) (by omega)
end
section
open Go.RowKit
theorem Wu {Q:ay→Prop} (hj:∀ z y,Q z→Q y→rT z y→Q (qb z y)) {out:List ay} {y:ay} (hy:Q y) (ho:∀ z∈out,Q z):∀ z∈addN out y,Q z:=by
 by_cases hd:um y
 ·rw [Qc hd];exact ho
 by_cases h:∃ o z,out=o++[z]∧rT z y
 ·obtain ⟨o,z,rfl,hz⟩:=h;rw [Mk hd hz];intro x hx
  rcases nV.1 hx with h|h
  ·exact ho x (List.mem_append_left _ h)
  rw [sN.1 h];exact hj z y (ho z (by simp)) hy hz
 rw [CK hd fun o z e hz=>h ⟨o,z,e,hz⟩];intro x hx
 rcases nV.1 hx with h|h
 ·exact ho x h
 rw [sN.1 h];exact hy
theorem Yw {Q:ay→Prop} (hj:∀ z y,Q z→Q y→rT z y→Q (qb z y)):∀ (A out:List ay),(∀ y∈A,Q y)→(∀ z∈out,Q z)→∀ z∈A.foldl addN out,Q z
 | [],_,_,ho=>ho
 | y :: A,out,hA,ho=>Yw hj A (addN out y) (fun x hx=>hA x (gB _ hx)) (Wu hj (hA y fK) ho)
theorem fold_add {γ:Type} {F:List ay→γ} {op:γ→γ→γ} {Q:ay→Prop} (hF:∀ a b,F (a++b)=op (F a) (F b)) (hj:∀ z y,Q z→Q y→rT z y→Q (qb z y)) (hd:∀ y,Q y→¬ um y)
  (hg:∀ o z y,Q z→Q y→rT z y→F (o++[qb z y])=op (F (o++[z])) (F [y])):∀ (A out:List ay),(∀ y∈A,Q y)→(∀ z∈out,Q z)→F (A.foldl addN out)=F (out++A)
 | [],out,_,_=>by rw [gu];rfl
 | y :: A,out,hA,ho=>by
  have hy:=hA y fK;rw [List.foldl_cons,fold_add hF hj hd hg A (addN out y) (fun x hx=>hA x (gB _ hx)) (Wu hj hy ho),show out++y :: A=(out++[y])++A by simp,hF,hF (out++[y])]
  congr 1
  by_cases h:∃ o z,out=o++[z]∧rT z y
  ·obtain ⟨o,z,rfl,hz⟩:=h;rw [Mk (hd y hy) hz,hg o z y (ho z (by simp)) hy hz,← hF]
  rw [CK (hd y hy) fun o z e hz=>h ⟨o,z,e,hz⟩]
theorem RI {x:ay} (h:jS x=0) (hk:x.kind=1):x.code=0∧x.id=0∧qm x.text=true∧pQ x.text=false∧x.flow=[]∧x.rows=[]:=by
 have h0:=Et h
 unfold jS at h
 have hc:vo x=false:=by simp [vo,hk]
 have hn:vV x=false:=by simp [vV,hk]
 split at h
 ·cases h
 split at h
 ·cases h
 rename_i h2
 split at h
 ·cases h
 split at h
 ·cases h
 rename_i h4
 rw [hk] at h4
 simp only [sV,hc,hn,Bool.not_false,CO,Bool.or_eq_true,not_or,Bool.not_eq_true,mM,nK] at h2
 refine ⟨h2.1.1.1.1,h2.1.1.1.2,h0.1,?_,h0.2.2.2 (by omega),h0.2.2.1 (by omega)⟩
 cases he:pQ x.text
 ·rfl
 rw [he] at h4;simp at h4
theorem XD (s:ByteArray):pQ s=decide (s.size=0):=by
 unfold pQ
 rw [ByteArray.toList_eq,ByteArray.toList_eq,mF,lS,beq_iff_eq]
 constructor
 ·intro h;have:=aB List.length h
  simpa using this
 intro h;exact List.eq_nil_of_length_eq_zero (by rw [sK];exact h)
theorem ajM {z y:ay} (hz:jS z=0) (hy:jS y=0) (kz:z.kind=1) (ky:y.kind=1):jS (qb z y)=0:=by
 obtain ⟨a1,a2,a3,a4,a5,a6⟩:=RI hz kz;obtain ⟨b1,b2,b3,b4,b5,b6⟩:=RI hy ky;have hv:=acM a3 b3
 have he:pQ (z.text++y.text)=false:=by
  rw [XD,mM] at a4 ⊢;rw [ByteArray.size_append];omega
 unfold jS qb codeOk sV xY yw vo vV
 simp only [ay.kind,ay.code,ay.id,ay.text,ay.flow,ay.rows] at *
 simp [kz,a1,a2,a5,a6,hv,he,xY,vo,vV,yw,ay.kind,ay.code]
theorem ajN {k c i:Int} {tx:ByteArray} {h:dW} {f f':List ay} {r r':List aV} (hx:jS (.mk k c i tx h f r)=0) (hf:k≠6→f=[]→f'=[]) (hr:r'.length=r.length):jS (.mk k c i tx h f' r')=0:=by
 have h0:=(Et hx).2.2.2
 have e:sV (.mk k c i tx h f' r')=sV (.mk k c i tx h f r):=by
  have hfl:k≠6→f'.length=f.length:=fun h6=>by rw [hf h6 (h0 h6),show f=[] from h0 h6]
  rw [mF]
  simp only [sV,Bool.or_eq_true,mD,lS]
  have c1:vo (.mk k c i tx h f' r')=vo (.mk k c i tx h f r):=rfl;have c2:vV (.mk k c i tx h f' r')=vV (.mk k c i tx h f r):=rfl;have c3:yw (.mk k c i tx h f' r')=yw (.mk k c i tx h f r):=rfl;rw [c1,c2,c3]
  show (((((_∧c≠0)∨(_∧i≠0))∨(_∧(!pQ tx)=true))∨(k≠6∧0 < (f'.length:Int)))∨(k≠7∧0 < (r'.length:Int)))↔(((((_∧c≠0)∨(_∧i≠0))∨(_∧(!pQ tx)=true))∨(k≠6∧0 < (f.length:Int)))∨(k≠7∧0 < (r.length:Int)))
  rw [hr]
  by_cases h6:k=6
  ·simp [h6]
  rw [hfl h6]
 have e2:codeOk (.mk k c i tx h f' r')=codeOk (.mk k c i tx h f r):=rfl;have e3:xY (.mk k c i tx h f' r')=xY (.mk k c i tx h f r):=rfl
 unfold jS at hx ⊢
 rw [e,e2,e3];exact hx
theorem Oo {C:bN} {body note:Bool} {t:Int} (x:ay):mX C body note t x↔jS x=0∧Ou body note t x.kind x.id∧gQ C x.kind x.head=0∧(x.kind=6→jg C false true t x.flow)∧(x.kind=7→(x.rows.length≠0∧x.rows.length≤256)∧lH C note (t+1) x.rows):=by
 cases x;rw [mX];rfl
theorem Ur {C:bN} {body note:Bool} {t:Int} (z y:ay) (hz:mX C body note t z) (hy:mX C body note t y) (hj:rT z y):mX C body note t (qb z y):=by
 rw [Oo] at *;refine ⟨ajM hz.1 hy.1 hj.2.1 hj.1,hz.2.1,hz.2.2.1,hz.2.2.2.1,hz.2.2.2.2⟩
theorem aaQ {C:bN} {body note:Bool} {t:Int} (y:ay) (hy:mX C body note t y):¬ um y:=by
 rw [Oo] at hy;rintro (⟨h1,h2⟩|⟨h1,h2⟩)
 ·exact (hy.2.2.2.2 h1).1.1 h2
 have:=(RI hy.1 h1).2.2.2.1;rw [XD] at this
 simp [h2] at this
theorem Ut {C:bN} {body note:Bool} {t:Int} {A:List ay} (h:jg C body note t A):jg C body note t (A.foldl addN []):=Cc.2 (Yw Ur A [] (Cc.1 h) (fun _ h=>by cases h))
mutual
theorem aoo (C:bN) (body note:Bool) (t:Int):∀ x:ay,mX C body note t x→mX C body note t (nI x)
 | .mk k c i tx h f r,hx=>by
  have hf:=Fh C false true t f;have hr:=aaT C note (t+1) r;rw [mX] at hx;rw [nI,mX];exact ⟨ajN hx.1 (fun _ e=>by rw [e];rfl) (by rw [Oh,bM]),hx.2.1,hx.2.2.1,fun e=>Ut (hf (hx.2.2.2.1 e)),fun e=>⟨by rw [Oh,bM];exact (hx.2.2.2.2 e).1,hr (hx.2.2.2.2 e).2⟩⟩
theorem aop (C:bN) (note:Bool) (t:Int):∀ x:aV,rV C note t x→rV C note t (nR x)
 | .mk h cs,hx=>by
  have hc:=aaS C note t cs;rw [rV] at hx;rw [nR,rV];exact ⟨by rw [Ul,bM];exact hx.1,hc hx.2⟩
theorem aon (C:bN) (note:Bool) (t:Int):∀ x:bB,rU C note t x→rU C note t (nC x)
 | .mk i h f,hx=>by
  have hf:=Fh C false note t f;rw [rU] at hx;rw [nC,rU];exact ⟨hx.1,Ut (hf hx.2)⟩
theorem Fh (C:bN) (body note:Bool) (t:Int):∀ l:List ay,jg C body note t l→jg C body note t (qd l)
 | [],_=>by rw [qd,jg];trivial
 | x :: l,h=>by
  rw [jg] at h;rw [qd,jg];exact ⟨aoo C body note t x h.1,Fh C body note t l h.2⟩
theorem aaT (C:bN) (note:Bool) (t:Int):∀ l:List aV,lH C note t l→lH C note t (uO l)
 | [],_=>by rw [uO,lH];trivial
 | x :: l,h=>by
  rw [lH] at h;rw [uO,lH];exact ⟨aop C note t x h.1,aaT C note t l h.2⟩
theorem aaS (C:bN) (note:Bool) (t:Int):∀ l:List bB,mK C note t l→mK C note t (uN l)
 | [],_=>by rw [uN,mK];trivial
 | x :: l,h=>by
  rw [mK] at h;rw [uN,mK];exact ⟨aon C note t x h.1,aaS C note t l h.2⟩
end
theorem Uo (l:List ay):lX l=(qd l).foldl addN []:=by simp [lX,rW,Og]
theorem aaU {C:bN} {body note:Bool} {t:Int} {l:List ay} (h:jg C body note t l):jg C body note t (lX l):=by rw [Uo];exact Ut (Fh C body note t l h)
end
section
open Go.RowKit
theorem Kw:∀ a b:List ay,iO (a++b)=iO a++iO b
 | [],b=>by rw [iO];rfl
 | x :: a,b=>by rw [nu,iO,iO,Kw a b,iZ]
theorem KX:∀ a b:List ay,jw (a++b)=jw a+jw b
 | [],b=>by rw [jw,fU];rfl
 | x :: a,b=>by rw [nu,jw,jw,KX a b,Nat.add_assoc]
theorem TI {x:ay} (h:x.kind=1):pq x=[]:=by
 cases x;dsimp only [ay.kind] at h;subst h;simp [pq]
theorem Vk {x:ay} (h:x.kind=1):uI x=rD x.text:=by
 cases x;dsimp only [ay.kind] at h;subst h;simp [uI,ay.text]
theorem TK {C:bN} {body note:Bool} {t:Int} {A:List ay} (h:jg C body note t A):iO (A.foldl addN [])=iO A :=
 (fold_add (F:=iO) Kw (Ur (C:=C) (body:=body) (note:=note) (t:=t)) aaQ (fun o z y _ _ hj=>by
  rw [Kw,Kw];simp only [iO];rw [TI hj.2.1,TI hj.1,TI (x:=qb z y) hj.2.1];simp) A [] (Cc.1 h) (fun _ h=>by cases h))
theorem Vl {C:bN} {body note:Bool} {t:Int} {A:List ay} (h:jg C body note t A):jw (A.foldl addN [])=jw A :=
 (fold_add (F:=jw) KX (Ur (C:=C) (body:=body) (note:=note) (t:=t)) aaQ (fun o z y hz hy hj=>by
  rw [Oo] at hz hy
  rw [KX,KX];simp only [jw];rw [Vk hj.2.1,Vk hj.1,Vk (x:=qb z y) hj.2.1,show (qb z y).text=z.text++y.text from rfl,afn (Et hz.1).1 (Et hy.1).1];omega) A [] (Cc.1 h) (fun _ h=>by cases h))
mutual
theorem ang (C:bN) (body note:Bool) (t:Int):∀ x:ay,mX C body note t x→pq (nI x)=pq x∧uI (nI x)=uI x
 | .mk k c i tx h f r,hx=>by
  have hf:=N9 C false true t f;have hr:=aam C note (t+1) r;rw [mX] at hx;rw [nI,pq,pq,uI,uI]
  by_cases h6:k=6
  ·subst h6;have ho:=hx.2.2.2.1 rfl;have hn:=Fh C false true t f ho
   simp only [if_true,ah (show ¬ (6:Int)=7 by decide)]
   rw [TK hn,Vl hn,(hf ho).1,(hf ho).2];exact ⟨rfl,rfl⟩
  by_cases h7:k=7
  ·subst h7;have ho:=(hx.2.2.2.2 rfl).2
   simp only [if_true,ah (show ¬ (7:Int)=6 by decide)]
   rw [(hr ho).1,(hr ho).2];exact ⟨rfl,rfl⟩
  simp only [ah h6,ah h7]
  exact ⟨bq,bq⟩
theorem anh (C:bN) (note:Bool) (t:Int):∀ x:aV,rV C note t x→tJ (nR x)=tJ x∧uR (nR x)=uR x
 | .mk h cs,hx=>by
  have hc:=aal C note t cs;rw [rV] at hx;rw [nR,tJ,tJ,uR,uR];exact hc hx.2
theorem anf (C:bN) (note:Bool) (t:Int):∀ x:bB,rU C note t x→uJ (nC x)=uJ x∧uC (nC x)=uC x
 | .mk i h f,hx=>by
  have hf:=N9 C false note t f;rw [rU] at hx;have hn:=Fh C false note t f hx.2;rw [nC,uJ,uJ,uC,uC,TK hn,Vl hn,(hf hx.2).1,(hf hx.2).2];exact ⟨rfl,rfl⟩
theorem N9 (C:bN) (body note:Bool) (t:Int):∀ l:List ay,jg C body note t l→iO (qd l)=iO l∧jw (qd l)=jw l
 | [],_=>by rw [qd];exact ⟨rfl,rfl⟩
 | x :: l,h=>by
  rw [jg] at h;have h1:=ang C body note t x h.1;have h2:=N9 C body note t l h.2;rw [qd,iO,iO,jw,jw,h1.1,h1.2,h2.1,h2.2];exact ⟨rfl,rfl⟩
theorem aam (C:bN) (note:Bool) (t:Int):∀ l:List aV,lH C note t l→lW (uO l)=lW l∧ng (uO l)=ng l
 | [],_=>by rw [uO];exact ⟨rfl,rfl⟩
 | x :: l,h=>by
  rw [lH] at h;have h1:=anh C note t x h.1;have h2:=aam C note t l h.2;rw [uO,lW,lW,ng,ng,h1.1,h1.2,h2.1,h2.2];exact ⟨rfl,rfl⟩
theorem aal (C:bN) (note:Bool) (t:Int):∀ l:List bB,mK C note t l→mW (uN l)=mW l∧nS (uN l)=nS l
 | [],_=>by rw [uN];exact ⟨rfl,rfl⟩
 | x :: l,h=>by
  rw [mK] at h;have h1:=anf C note t x h.1;have h2:=aal C note t l h.2;rw [uN,mW,mW,nS,nS,h1.1,h1.2,h2.1,h2.2];exact ⟨rfl,rfl⟩
end
theorem amO {C:bN} {body note:Bool} {t:Int} {l:List ay} (h:jg C body note t l):iO (lX l)=iO l∧jw (lX l)=jw l:=by
 have hn:=Fh C body note t l h;rw [Uo,TK hn,Vl hn];exact N9 C body note t l h
theorem arw (z y:ay):bY (qb z y).dat≤bY z.dat+bY y.dat:=by
 rw [ay.pK,ay.pK,ay.pK]
 simp only [qb,ay.kind,ay.code,ay.id,ay.text,ay.head,ay.flow,ay.rows,bY,lu,ByteArray.size_append]
 omega
theorem LH (a b:List ay):bZ (a++b)=bZ a+bZ b:=by rw [bZ,kM,Iz]
theorem Vy (y:ay):bZ [y]=1+bY y.dat:=by simp [bZ,eG]
theorem aso (out:List ay) (y:ay):bZ (addN out y)≤bZ out+bZ [y]:=by
 rcases Wv out y with e|e|⟨o,z,rfl,-,-,e⟩ <;> rw [e]
 ·omega
 ·rw [LH];exact bP _
 have:=arw z y;rw [LH,LH,Vy,Vy,Vy];omega
theorem Pv:∀ (A out:List ay),bZ (A.foldl addN out)≤bZ out+bZ A
 | [],out=>Nat.le_add_right _ _
 | y :: A,out=>by
  have h1:=Pv A (addN out y);have h2:=aso out y;have h3:=LH [y] A;rw [List.singleton_append] at h3;rw [List.foldl_cons,h3];omega
mutual
theorem asr:∀ x:ay,bY (nI x).dat≤bY x.dat
 | .mk k c i tx h f r=>by
  have hf:=Pw f;have hr:=ade r;have hd:=Pv (qd f) [];have h0:bZ []=0:=rfl
  have KU:∀ (a b:List Dat),bY (a++b)=bY a+bY b:=fun a b=>by
   induction a with
   | nil=>simp [bY]
   | cons x a ih=>simp only [nu,bY,ih];omega
  rw [nI,ay.pK,ay.pK]
  simp only [ay.kind,ay.code,ay.id,ay.text,ay.head,ay.flow,ay.rows,bY,lu,KU]
  unfold bZ at *
  unfold gH at hr
  omega
theorem asu:∀ x:aV,bY (nR x).dat≤bY x.dat
 | .mk h cs=>by
  have hc:=adb cs
  have KU:∀ (a b:List Dat),bY (a++b)=bY a+bY b:=fun a b=>by
   induction a with
   | nil=>simp [bY]
   | cons x a ih=>simp only [nu,bY,ih];omega
  rw [nR,aV.pK,aV.pK]
  simp only [aV.head,aV.cells,bY,lu,KU]
  unfold iI at hc
  omega
theorem asq:∀ x:bB,bY (nC x).dat≤bY x.dat
 | .mk i h f=>by
  have hf:=Pw f;have hd:=Pv (qd f) [];have h0:bZ []=0:=rfl
  have KU:∀ (a b:List Dat),bY (a++b)=bY a+bY b:=fun a b=>by
   induction a with
   | nil=>simp [bY]
   | cons x a ih=>simp only [nu,bY,ih];omega
  rw [nC,bB.pK,bB.pK]
  simp only [bB.id,bB.head,bB.flow,bY,lu,KU]
  unfold bZ at *
  omega
theorem Pw:∀ l:List ay,bZ (qd l)≤bZ l
 | []=>by rw [qd];exact bP _
 | x :: l=>by
  have h1:=asr x;have h2:=Pw l;rw [qd]
  simp only [bZ,eZ,eG] at *
  omega
theorem ade:∀ l:List aV,gH (uO l)≤gH l
 | []=>by rw [uO];exact bP _
 | x :: l=>by
  have h1:=asu x;have h2:=ade l;rw [uO]
  simp only [gH,eZ,eG] at *
  omega
theorem adb:∀ l:List bB,iI (uN l)≤iI l
 | []=>by rw [uN];exact bP _
 | x :: l=>by
  have h1:=asq x;have h2:=adb l;rw [uN]
  simp only [iI,eZ,eG] at *
  omega
end
theorem Vx (l:List ay):bZ (lX l)≤bZ l:=by
 have h1:=Pv (qd l) [];have h2:=Pw l;have h0:bZ []=0:=rfl;rw [Uo];omega
end
section
open Go.RowKit
mutual
def qV (acc rej:Int→Bool):ay→List ay
 | .mk k c i tx h f r=>if kX acc rej h then [] else if k=6 then [.mk k c i tx (lF acc rej h) (fC acc rej f) r] else if k=7 then (if (jC acc rej r).length=0 then [] else [.mk k c i tx (lF acc rej h) f (jC acc rej r)]) else [.mk k c i tx (lF acc rej h) f r]
def rZ (acc rej:Int→Bool):aV→List aV
 | .mk h cs=>if kX acc rej h then [] else if (gY acc rej cs).length=0 then [] else [.mk (lF acc rej h) (gY acc rej cs)]
def uP (acc rej:Int→Bool):bB→List bB
 | .mk i h f=>if kX acc rej h then [] else [.mk i (lF acc rej h) (fC acc rej f)]
def fC (acc rej:Int→Bool):List ay→List ay
 | []=>[]
 | x :: l=>qV acc rej x++fC acc rej l
def jC (acc rej:Int→Bool):List aV→List aV
 | []=>[]
 | x :: l=>rZ acc rej x++jC acc rej l
def gY (acc rej:Int→Bool):List bB→List bB
 | []=>[]
 | x :: l=>uP acc rej x++gY acc rej l
end
variable {acc rej:Int→Bool}
theorem UK (x:ay):qV acc rej x=if kX acc rej x.head then [] else if x.kind=6 then [.mk x.kind x.code x.id x.text (lF acc rej x.head) (fC acc rej x.flow) x.rows] else if x.kind=7 then (if (jC acc rej x.rows).length=0 then [] else [.mk x.kind x.code x.id x.text (lF acc rej x.head) x.flow (jC acc rej x.rows)]) else [.mk x.kind x.code x.id x.text (lF acc rej x.head) x.flow x.rows]:=by cases x;rw [qV];rfl
theorem UM (x:aV):rZ acc rej x=if kX acc rej x.head then [] else if (gY acc rej x.cells).length=0 then [] else [.mk (lF acc rej x.head) (gY acc rej x.cells)]:=by cases x;rw [rZ];rfl
theorem UJ (x:bB):uP acc rej x=if kX acc rej x.head then [] else [.mk x.id (lF acc rej x.head) (fC acc rej x.flow)]:=by cases x;rw [uP];rfl
theorem abw:∀ a b:List ay,fC acc rej (a++b)=fC acc rej a++fC acc rej b
 | [],b=>by simp [fC]
 | x :: a,b=>by simp [fC,abw a b]
theorem abx:∀ a b:List aV,jC acc rej (a++b)=jC acc rej a++jC acc rej b
 | [],b=>by simp [jC]
 | x :: a,b=>by simp [jC,abx a b]
theorem abt:∀ a b:List bB,gY acc rej (a++b)=gY acc rej a++gY acc rej b
 | [],b=>by simp [gY]
 | x :: a,b=>by simp [gY,abt a b]
theorem vX {l:List ay} {k:Nat} (h:k < l.length):fC acc rej (l.take (k+1))=fC acc rej (l.take k)++qV acc rej l[k]:=by rw [fP h,abw];simp [fC]
theorem xV {l:List aV} {k:Nat} (h:k < l.length):jC acc rej (l.take (k+1))=jC acc rej (l.take k)++rZ acc rej l[k]:=by rw [fP h,abx];simp [jC]
theorem DC {l:List bB} {k:Nat} (h:k < l.length):gY acc rej (l.take (k+1))=gY acc rej (l.take k)++uP acc rej l[k]:=by rw [fP h,abt];simp [gY]
theorem apB (x:ay):(qV acc rej x).length≤1:=by rw [UK];(repeat' split) <;> simp
theorem apD (x:aV):(rZ acc rej x).length≤1:=by rw [UM];(repeat' split) <;> simp
theorem apA (x:bB):(uP acc rej x).length≤1:=by rw [UJ];split <;> simp
theorem UL:∀ l:List ay,(fC acc rej l).length≤l.length
 | []=>by simp [fC]
 | x :: l=>by rw [fC,iA];have:=apB (acc:=acc) (rej:=rej) x;have:=UL l;simp only [kr];omega
theorem OE:∀ l:List aV,(jC acc rej l).length≤l.length
 | []=>by simp [jC]
 | x :: l=>by rw [jC,iA];have:=apD (acc:=acc) (rej:=rej) x;have:=OE l;simp only [kr];omega
theorem OD:∀ l:List bB,(gY acc rej l).length≤l.length
 | []=>by simp [gY]
 | x :: l=>by rw [gY,iA];have:=apA (acc:=acc) (rej:=rej) x;have:=OD l;simp only [kr];omega
theorem UC:∀ l:List aT,eG (l.map aT.dat)=3*l.length
 | []=>by simp [eG]
 | p :: l=>by rw [eZ,eG,UC l];simp [aT.dat,bY,lu];omega
theorem QC:∀ l:List fF,eG (l.map fF.dat)=3*l.length
 | []=>by simp [eG]
 | p :: l=>by rw [eZ,eG,QC l];simp [fF.dat,bY,lu];omega
theorem Ue:∀ l:List cK,eG (l.map cK.dat)=5*l.length
 | []=>by simp [eG]
 | p :: l=>by rw [eZ,eG,Ue l];simp [cK.dat,bY,lu];omega
theorem Xl (props:List aT):∀ (L:List (Int × List cK)) (s:List aT × List cK),(vw acc rej props L s).1.length≤s.1.length+L.length∧(vw acc rej props L s).2.length≤s.2.length+(L.flatMap Prod.snd).length
 | [],s=>by simp [vw]
 | (k,l) :: r,s=>by
  rw [vw];obtain ⟨h1,h2⟩:=Xl props r (yu s.1 k (qE acc rej props k l).2,s.2++(qE acc rej props k l).1);have h3:=acQ s.1 k (qE acc rej props k l).2;have h4:=RN acc rej props k l;dsimp only at h1 h2;rw [iA] at h2
  simp only [kr,List.flatMap_cons,iA]
  omega
theorem ajT {f:Nat} {l:List cK} (h:l.length≤f):(pR f l).length≤l.length:=by
 obtain ⟨h1,h2⟩:=Jv f l h
 have key:∀ (L:List (Int × List cK)),(∀ q∈L,q.2≠[])→L.length≤(L.flatMap Prod.snd).length:=by
  intro L
  induction L with
  | nil=>intro _;exact gN _
  | cons q L ih =>
   intro hq;have:=ih fun x hx=>hq x (gB _ hx);have h3:=List.length_pos_iff.2 (hq q fK)
   simp only [kr,List.flatMap_cons,iA];omega
 have:=key _ h2
 rwa [h1] at this
theorem MO (h:dW):kU (lF acc rej h)≤2*kU h:=by
 rw [DW,DW,UC,QC,Ue,UC,QC,Ue];obtain ⟨h1,h2⟩:=Xl (acc:=acc) (rej:=rej) h.props (pR h.marks.layers.length h.marks.layers) (h.props,[]);have h3:=ajT (bP h.marks.layers.length);rw [(Jv _ _ (bP _)).1] at h2;have h4:=List.length_filter_le (fun x:fF=>!rej x.rev) h.marks.bL
 simp only [lF,List.length_nil] at h1 h2 ⊢
 omega
mutual
theorem apG:∀ x:ay,bZ (qV acc rej x)≤2*(1+bY x.dat)
 | .mk k c i tx h f r=>by
  have hf:=OG f;have hr:=abz r;have hh:=MO (acc:=acc) (rej:=rej) h;have e:=yB (.mk k c i tx h f r)
  simp only [ay.text,ay.head,ay.flow,ay.rows] at e
  have one:∀ y:ay,bZ [y]=1+bY y.dat:=fun y=>by simp [bZ,eG]
  rw [qV]
  split
  ·simp [bZ,eG]
  split
  ·rw [one,yB];simp only [ay.text,ay.head,ay.flow,ay.rows];omega
  split
  ·split
   ·simp [bZ,eG]
   rw [one,yB];simp only [ay.text,ay.head,ay.flow,ay.rows];omega
  rw [one,yB];simp only [ay.text,ay.head,ay.flow,ay.rows];omega
theorem apH:∀ x:aV,gH (rZ acc rej x)≤2*(1+bY x.dat)
 | .mk h cs=>by
  have hc:=aby cs;have hh:=MO (acc:=acc) (rej:=rej) h;have e:=Cz (.mk h cs)
  simp only [aV.head,aV.cells] at e
  rw [rZ]
  split
  ·simp [gH,eG]
  split
  ·simp [gH,eG]
  simp only [gH,eZ,qx,eG];rw [Cz];simp only [aV.head,aV.cells];omega
theorem apF:∀ x:bB,iI (uP acc rej x)≤2*(1+bY x.dat)
 | .mk i h f=>by
  have hf:=OG f;have hh:=MO (acc:=acc) (rej:=rej) h;have e:=Cy (.mk i h f)
  simp only [bB.head,bB.flow] at e
  rw [uP]
  split
  ·simp [iI,eG]
  simp only [iI,eZ,qx,eG];rw [Cy];simp only [bB.head,bB.flow];omega
theorem OG:∀ l:List ay,bZ (fC acc rej l)≤2*bZ l
 | []=>by simp [fC,bZ,eG]
 | x :: l=>by
  have h1:=apG x;have h2:=OG l;rw [fC,LH,show bZ (x :: l)=1+bY x.dat+bZ l by simp [bZ,eG]];omega
theorem abz:∀ l:List aV,gH (jC acc rej l)≤2*gH l
 | []=>by simp [jC,gH,eG]
 | x :: l=>by
  have h1:=apH x;have h2:=abz l;rw [jC,show ∀ a b:List aV,gH (a++b)=gH a+gH b from fun a b=>by rw [gH,kM,Iz],show gH (x :: l)=1+bY x.dat+gH l by simp [gH,eG]];omega
theorem aby:∀ l:List bB,iI (gY acc rej l)≤2*iI l
 | []=>by simp [gY,iI,eG]
 | x :: l=>by
  have h1:=apF x;have h2:=aby l;rw [gY,show ∀ a b:List bB,iI (a++b)=iI a+iI b from fun a b=>by rw [iI,kM,Iz],show iI (x :: l)=1+bY x.dat+iI l by simp [iI,eG]];omega
end
end
section
open Go.RowKit
theorem Kv {G:GH} {α:Type} {f:α→Int} {A:List α} {B:Option Addr} {n c k:Nat} (hv:au G (.sl 1 (A.map fun q=>[li (f q)])) (.slice B n c)) (hk:k < A.length):∃ b o,B=some ⟨b,o,none⟩∧aI G b (o+k)=some (vi (f A[k])):=by
 obtain ⟨b,o,cs,h1,h2,h3,h4⟩:=hv.at_ k [li (f A[k])] (by simp [hk])
 simp only [aU] at h4
 obtain ⟨_,_,rfl,⟨rfl,-⟩,rfl⟩:=h4;exact ⟨b,o,h1,by simpa using h3 0 _ rfl⟩
end
section
open Go.RowKit
theorem afY:∀ args w,(callFunc 114 args).run prog w=.ok (.enter 114 args) w:=enters func114 rfl (by kernel_rfl)
theorem afZ:∀ args w,(callFunc 115 args).run prog w=.ok (.enter 115 args) w:=enters func115 rfl (by kernel_rfl)
theorem TB {p:Nat→Bool} (hp:∀ h,p h=true→p (h+1)=true):∀ (f i j:Nat),i≤j→j - i≤f→(∀ h,i≤h→h < lq p f i j→p h=false)∧(lq p f i j < j→p (lq p f i j)=true)
 | 0,i,j,h1,h2=>⟨fun h a b=>by simp only [lq] at b;omega,fun h=>by simp only [lq] at h;omega⟩
 | f+1,i,j,h1,h2=>by
  have up:∀ a b,a≤b→p a=true→p b=true:=fun a b hab=>by
   induction hab with
   | refl=>exact fun h=>h
   | step _ ih=>exact fun h=>hp _ (ih h)
  rw [lq]
  by_cases h:i < j
  ·rw [av h]
   cases hm:p ((i+j) / 2)
   ·rw [ah (by simp)];obtain ⟨r1,r2⟩:=TB hp f ((i+j) / 2+1) j (by omega) (by omega);refine ⟨fun q a b=>?_,r2⟩
    by_cases hq:(i+j) / 2+1≤q
    ·exact r1 q hq b
    cases hpq:p q
    ·rfl
    rw [up q _ (by omega) hpq] at hm;cases hm
   rw [av rfl];obtain ⟨r1,r2⟩:=TB hp f i ((i+j) / 2) (by omega) (by omega);refine ⟨r1,fun _=>?_⟩
   by_cases hq:lq p f i ((i+j) / 2) < (i+j) / 2
   ·exact r2 hq
   have:=NW (p:=p) f i ((i+j) / 2) (by omega);rw [show lq p f i ((i+j) / 2)=(i+j) / 2 by omega];exact hm
  rw [ah h];exact ⟨fun q a b=>by omega,fun q=>absurd q h⟩
theorem WH {l:List Int} (hs:l.Pairwise (·≤·)) (t:Int):(∀ h (hh:h < l.length),h < gW l t→l[h] < t)∧∀ hh:gW l t < l.length,t≤l[gW l t]:=by
 -- the test,as if the list went on with its last number
 let p:Nat→Bool:=fun h=>decide (¬ l.getD h 0 < t)
 let p':Nat→Bool:=fun h=>decide (l.length≤h∨¬ l.getD h 0 < t)
 have hpp:∀ (f i j:Nat),j≤l.length→i≤j→lq p f i j=lq p' f i j:=by
  intro f
  induction f with
  | zero=>intro i j _ _;rfl
  | succ f ih =>
   intro i j hj hij;rw [lq,lq]
   by_cases h:i < j
   ·rw [av h,av h]
    have e:p ((i+j) / 2)=p' ((i+j) / 2):=by
     show decide _=decide _
     exact decide_eq_decide.2 ⟨.inr,fun h=>h.resolve_left (by omega)⟩
    rw [e,ih _ _ (by omega) (by omega),ih _ _ hj (by omega)]
   rw [ah h,ah h]
 have hmono:∀ h,p' h=true→p' (h+1)=true:=fun h e=>by
  have e:=mE e;refine iQ ?_
  by_cases h1:l.length≤h+1
  ·exact .inl h1
  refine .inr ?_;have e2:=e.resolve_left (by omega);have h3:=List.pairwise_iff_getElem.1 hs h (h+1) (by omega) (by omega) (Nat.lt_succ_self _);rw [List.getD_eq_getElem?_getD,eO (show h < l.length by omega)] at e2;rw [List.getD_eq_getElem?_getD,eO (show h+1 < l.length by omega)]
  simp only [Option.getD_some] at e2 ⊢
  omega
 obtain ⟨r1,r2⟩:=TB hmono l.length 0 l.length (gN _) (by omega);have hn:gW l t=lq p' l.length 0 l.length:=hpp _ _ _ (bP _) (gN _);rw [← hn] at r1 r2;refine ⟨fun h hh h1=>?_,fun hh=>?_⟩
 ·have h2:=of_decide_eq_false (r1 h (gN _) h1);rw [List.getD_eq_getElem?_getD,eO hh] at h2
  simp only [Option.getD_some] at h2
  omega
 have h2:=(mE (r2 hh)).resolve_left (by omega);rw [List.getD_eq_getElem?_getD,eO hh] at h2
 simp only [Option.getD_some] at h2
 omega
theorem akC {l:List Int} (hs:l.Pairwise (·≤·)) (t:Int):nM l t=decide (t∈l):=by
 rw [mF,lS]
 constructor
 ·intro h;exact ko (mE h)
 intro h;obtain ⟨k,hk,rfl⟩:=List.getElem_of_mem h;obtain ⟨r1,r2⟩:=WH hs l[k]
 have hkn:gW l l[k]≤k:=by
  by_cases h:gW l l[k]≤k
  ·exact h
  have:=r1 k hk (by omega);omega
 have h2:=r2 (by omega)
 have h3:l[gW l l[k]]≤l[k]:=by
  rcases Nat.lt_or_eq_of_le hkn with h|h
  ·exact List.pairwise_iff_getElem.1 hs _ _ (by omega) hk h
  exact Int.le_of_eq (getElem_congr_idx h)
 exact iQ (by rw [eO (by omega:gW l l[k] < l.length)];exact aB some (by omega))
theorem anq (G:GH) (w0:World) (hG:Hold G w0) (x y:Int):Calls prog 114 #[vi x,vi y] w0 (bC w0 G fun u G'=>u=.bool (decide (x < y))∧G=G'):=by
 refine eN [(0,_),(1,_)] func114 rfl ntmps114 rfl rfl hG ?_;refine ak 5 ?_;intro a H;refine s_call QJ H wn rfl (TP _ _ H.ro x) rfl ?_;clear H;rintro v6 G6 a w ⟨rfl,rfl⟩ EK H;refine kJ 1 7 H ?_ ?_ <;> clear H
 ·intro h7
  intro a H
  cases h7
 intro h7
 refine ak 5 ?_;intro a H;(iterate 2 refine Iw H (wg H rfl rfl rfl) rfl rfl ?_;clear H;intro a H);refine Ir H (wg H rfl rfl rfl) rfl rfl rfl rfl ?_;clear H;refine aP 3 ?_;exact ⟨rfl,rfl⟩
theorem ana (G:GH) (w0:World) (hG:Hold G w0) (x:Int):Calls prog 115 #[vi x] w0 (bC w0 G fun u G'=>u=.bool false∧G=G'):=by
 refine eN [(0,_)] func115 rfl ntmps115 rfl rfl hG ?_;refine aP 9 ?_;exact ⟨by simp,rfl⟩
theorem WG (G:GH) (w0:World) (hG:Hold G w0) (l:List Int) (t:Int) (v:aj) (hv:au G (.sl 1 (l.map fun k=>[li k])) v) (hl:l.length≤4294967296) :
  Calls prog 62 #[v,vi t] w0 (bC w0 G fun u G'=>u=.tuple #[vi (gW l t),.bool (nM l t)]∧G=G'):=by
 obtain ⟨A,c,rfl,hc1,hc2,-⟩:=hv.slice;rw [bM] at *;obtain ⟨p,hp⟩:∃ p:Nat→Bool,p=fun h=>decide (¬ l.getD h 0 < t):=⟨_,rfl⟩
 have hbs:gW l t=lq p l.length 0 l.length:=by rw [hp,gW]
 refine eN [(0,_),(1,_)] func62 rfl ntmps62 rfl rfl hG ?_;refine ak 16 ?_;intro a H;refine eH (ι:=Nat × Nat × Nat) (Tc:=[(0,_),(1,_),(6,_)]) (Lc:=[]) (fun gh=>[(7,vi gh.1),(8,vi gh.2.1)]) (fun gh=>[]) (fun gh=>G) (fun gh=>gh.1≤gh.2.1∧gh.2.1≤l.length∧gh.2.1 - gh.1≤gh.2.2∧lq p gh.2.2 gh.1 gh.2.1=gW l t) (fun gh=>gh.2.1 - gh.1) ((0,l.length,l.length)) sB ?_ ?_
 ·exact ⟨gN _,bP _,Nat.sub_le _ _,hbs.symm⟩
 clear H;rintro ⟨i,j,f⟩ a w hI H;dsimp only at hI H;obtain ⟨hij,hj,hf1,heq⟩:=hI;dsimp only [lca,bG] at H;refine dO 6 H ?_ ?_ <;> clear H
 ·intro qh
  have hlt:i < j:=by omega
  rw [TD hf1 hlt] at heq;obtain ⟨m,hm⟩:∃ m,m=(i+j) / 2:=⟨_,rfl⟩;rw [← hm] at heq
  have hml:m < l.length:=by omega
  obtain ⟨b,o,rfl,hrow⟩:=Kv (f:=fun q=>q) hv hml
  replace hrow:aI G b (o+m*1)=some (vi l[m]):=by rw [Nat.mul_one];exact hrow
  have hpm:p m=decide (¬ l[m] < t):=by rw [hp];simp [List.getD,hml]
  rw [hpm] at heq;refine ak 6 ?_;intro a H;rw [show ((i:Int)+(j:Int))=((i+j:Nat):Int) by push_cast;rfl] at H;refine AJ ((i+j:Nat):Int) FH kE H wn rfl (TF (by omega) (by omega)) rfl ?_;clear H;intro a H;refine OU _ H wn rfl rfl rfl (by decide) rfl ?_;clear H;intro a H;rw [TA,← hm] at H;refine AJ (m:Int) kE FH H wn rfl (EW (by omega) (by omega)) rfl ?_;clear H;refine ak 8 ?_;intro a H;refine s_call afY H wn rfl (anq _ _ H.ro l[m] t) rfl ?_;clear H;rintro v27 PG a w ⟨rfl,rfl⟩ Zi H;refine gF 1 H ?_ ?_ <;> clear H
  ·intro p27
   rw [ah (by simpa using p27)] at heq;refine ak 4 ?_;intro a H;refine aC ?_;refine cB ((m+1,j,f - 1)) sB ?_ ?_
   ·(try dsimp only);exact ⟨by omega,hj,by omega,heq⟩
   first|omega|(dsimp only;omega)
  intro p27
  rw [av (by simpa using p27)] at heq;refine ak 3 ?_;intro a H;refine aC ?_;refine cB ((i,m,f - 1)) sB ?_ ?_
  ·(try dsimp only);exact ⟨by omega,by omega,by omega,heq⟩
  first|omega|(dsimp only;omega)
 intro qh
 refine ak 1 ?_;rw [Tz (by omega)] at heq;refine lU 6 35 ?_ ?_
 ·intro p35
  have hil:i < l.length:=by omega
  obtain ⟨b,o,rfl,hrow⟩:=Kv (f:=fun q=>q) hv hil
  replace hrow:aI G b (o+i*1)=some (vi l[i]):=by rw [Nat.mul_one];exact hrow
  refine jM 7 42 ?_ ?_
  ·intro Nb
   try have p42:=dT Nb
   refine ak 14 ?_;intro a H;refine cu ?_;refine (eU H results62 (.cons (aZ H rfl) (.cons (aZ H rfl) .nil)) ?_).1
   first
    | exact H.rt ⟨by rw [JK heq.symm (by omega),← heq];simp_all [MJ],rfl⟩
    | exact H.rt ⟨by rw [JM heq.symm (by omega),← heq],rfl⟩
  intro Nb
  try have p42:=dF Nb
  refine ak 4 ?_;intro a H;refine s_call afZ H (wg H rfl rfl Nb) rfl (ana _ _ H.ro l[i]) rfl ?_;clear H;rintro v47 VT a w ⟨rfl,rfl⟩ aty H;refine kJ 1 48 H ?_ ?_ <;> clear H
  ·intro h48
   intro a H
   cases h48
  intro h48
  try have p48:=dF h48
  refine ak 8 ?_;intro a H;refine cu ?_;refine (eU H results62 (.cons (aZ H rfl) (.cons (aZ H rfl) .nil)) ?_).1
  first
   | exact H.rt ⟨by rw [JK heq.symm (by omega),← heq];simp_all [MJ],rfl⟩
   | exact H.rt ⟨by rw [JM heq.symm (by omega),← heq],rfl⟩
 intro p35
 refine ak 21 ?_;intro a H;refine cu ?_;refine (eU H results62 (.cons (aZ H rfl) (.cons (aZ H rfl) .nil)) ?_).1
 first
  | exact H.rt ⟨by rw [JK heq.symm (by omega),← heq];simp_all [MJ],rfl⟩
  | exact H.rt ⟨by rw [JM heq.symm (by omega),← heq],rfl⟩
end
section
open Go.RowKit
theorem ahi:∀ args w,(callFunc 211 args).run prog w=.ok (.enter 211 args) w:=enters func211 rfl (by kernel_rfl)
theorem X6:∀ args w,(callFunc 62 args).run prog w=.ok (.enter 62 args) w:=enters func62 rfl (by kernel_rfl)
instance qJ:Ty prog 242 2 16 [.int .i64 0,.bool false] true:=⟨by kernel_rfl,by kernel_rfl⟩
theorem abU:pI prog 242 [(0,1),(1,1)] [.int .i64 0,.bool false]:=⟨by kernel_rfl,by kernel_rfl⟩
theorem ahj:∀ args w,(callFunc 213 args).run prog w=.ok (.enter 213 args) w:=enters func213 rfl (by kernel_rfl)
instance:dR prog 242 0 0:=⟨by kernel_rfl⟩
instance:dR prog 242 1 1:=⟨by kernel_rfl⟩
theorem ahk:∀ args w,(callFunc 214 args).run prog w=.ok (.enter 214 args) w:=enters func214 rfl (by kernel_rfl)
theorem ahl:∀ args w,(callFunc 215 args).run prog w=.ok (.enter 215 args) w:=enters func215 rfl (by kernel_rfl)
theorem amR (G:GH) (w0:World) (hG:Hold G w0) (l:List fF) (p:fF→Bool) (v fv:aj) (hv:au G (.sl 2 (l.map fF.dat)) v) (hf:∀ x∈l,qY fv G x.dat (p x)) :
  Calls prog 211 #[v,fv] w0 (bC w0 G fun u G'=>u=vi (mJ (l.findIdx? p))):=by
 obtain ⟨A,c,rfl,hc1,hc2,hg⟩:=hv.slice;have hml:maxLen=9223372036854775807:=rfl;rw [bM] at *;refine eN [(0,_),(1,_)] func211 rfl ntmps211 rfl rfl hG ?_;refine ak 10 ?_;intro a H;refine eH (ι:=Nat × GH) (Tc:=[(0,_),(1,_),(7,_)]) (Lc:=[]) (fun gh=>[(8,vi gh.1)]) (fun gh=>[]) (fun gh=>gh.2) (fun gh=>gh.1≤l.length∧(l.take gh.1).findIdx? p=none∧(∀ b o,G b=some o→gh.2 b=some o)) (fun gh=>l.length - gh.1) ((0,G)) sB ?_ ?_
 ·exact ⟨by omega,rfl,fun _ _ h=>h⟩
 clear H;rintro ⟨k,g⟩ a w hI H;dsimp only at hI H;obtain ⟨hk,hno,hgm⟩:=hI;dsimp only [lca,bG] at H;refine dO 4 H ?_ ?_ <;> clear H
 ·intro p9
  have hk2:k < l.length:=by omega
  obtain ⟨b,o,cs,rfl,hcl,hrow,hrep⟩:=hg k l[k].dat (by simp [hk2]);obtain rfl:=Jk hrep;replace hrow:=fun j u hj=>aH hgm (hrow j u hj);refine ak 12 ?_;intro a H;refine aR ow (cs:=[_,_]) H wn rfl rfl (fun j v hj=>H.hp.aI (hrow j v hj)) rfl ?_;clear H;intro a H;refine ji H wn rfl rfl (hf _ (lD hk2) _ _ _ hgm H.ro (hrep.mono hgm)) rfl ?_;clear H;rintro v16 nk a w rfl gU H;refine iR 1 H ?_ ?_ <;> clear H
  ·intro h16
   try have p16:=dT h16
   refine aP 4 ?_
   first
    | exact (by rw [rR hk2 hno h16];rfl)
    | exact (by rw [show l.take k=l from fJ (by omega)] at hno;rw [hno];rfl)
  intro h16
  try have p16:=dF h16
  refine ak 4 ?_;intro a H;refine aC ?_;refine cB ((k+1,nk)) sB ?_ ?_
  ·(try dsimp only);exact ⟨by omega,BU hk2 hno h16,fun b o h=>gU b o (hgm b o h)⟩
  first|omega|(dsimp only;omega)
 intro p9
 refine aP 4 ?_
 first
  | exact (by rw [rR hk2 hno h16];rfl)
  | exact (by rw [show l.take k=l from fJ (by omega)] at hno;rw [hno];rfl)
theorem Xh (G:GH) (w0:World) (hG:Hold G w0) (l:List fF) (p:fF→Bool) (v fv:aj) (hv:au G (.sl 2 (l.map fF.dat)) v) (hf:∀ x∈l,qY fv G x.dat (p x)) :
  Calls prog 157 #[v,fv] w0 (bC w0 G fun u G'=>u=.bool (l.findIdx? p).isSome):=by
 refine eN [(0,_),(1,_)] func157 rfl ntmps157 rfl rfl hG ?_;refine ak 6 ?_;intro a H;refine s_call ahi H wn rfl (amR _ _ H.ro l p _ _ hv hf) rfl ?_;clear H;rintro v7 G7 a w rfl wL H;refine fu 3 H ?_;cases h:l.findIdx? p <;> simp [mJ]
theorem Uj (G:GH) (w0:World) (hG:Hold G w0) (l:List Int) (t:Int) (v:aj) (hv:au G (.sl 1 (l.map fun k=>[li k])) v) (hl:l.length≤4294967296) :
  Calls prog 76 #[v,vi t] w0 (bC w0 G fun u G'=>u=.bool (nM l t)):=by
 refine eN [(0,_),(1,_)] func76 rfl ntmps76 rfl rfl hG ?_;refine ak 6 ?_;intro a H;refine s_call X6 H wn rfl (WG _ _ H.ro l t _ hv hl) rfl ?_;clear H;rintro v10 zO a w ⟨rfl,rfl⟩ BH H;refine aD 1 H ?_;clear H;intro a H;(iterate 2 refine jY H wn rfl rfl rfl ?_;clear H;intro a H);refine fu 7 H ?_;exact rfl
abbrev Fx (s:Int × Bool):aj:=.agg #[vi s.1,.bool s.2]
theorem adO (G:GH) (w0:World) (hG:Hold G w0) (y:cK):Calls prog 161 #[.agg y.cells.toArray] w0 (bC w0 G fun u G'=>u=Fx (y.before,y.had)):=by
 refine eN [(0,_)] func161 rfl ntmps161 rfl rfl hG ?_;refine ak 1 ?_;intro a H;refine dP (cs:=[_,_,_,_]) H wn rfl rfl rfl ?_;clear H;intro b1 a w hb1 H;refine dz qJ H wn rfl ?_;clear H;intro b2 a w hb2 H;refine aD 6 H ?_;clear H;intro a H;refine jh abU [_,_] H wn rfl rfl rfl rfl ?_;clear H;intro a H;refine aX qJ 0 (vs:=[_,_]) _ H wn rfl rfl rfl rfl rfl rfl rfl rfl ?_;clear H;intro w H;dsimp only [List.set,setRow] at H;refine aC ?_;refine dQ ?_;refine cu ?_;refine (leave1 H results161 (.cons (kT qJ (cs:=[_,_]) H rfl rfl (H.hp.bO 0 rfl rfl)) .nil) ?_).1;exact H.rt rfl
theorem aoO (G:GH) (w0:World) (hG:Hold G w0) (h:dW) (p d l:aj) (hh:fD G h p d l) (k:Int) (hl:h.props.length≤4294967296):Calls prog 162 #[oW h p d l,vi k] w0 (bC w0 G fun u G'=>u=Fx (yN h.props k)):=by
 obtain ⟨pA,pn,pc,rfl⟩:=hh.props.form;obtain ⟨dA,dn,dc,rfl⟩:=hh.bL.form;obtain ⟨lA,ln,lc,rfl⟩:=hh.layers.form;refine eN [(0,_),(1,_)] func162 rfl ntmps162 rfl rfl hG ?_;refine ak 1 ?_;intro a H;refine dP (cs:=[_,_,_,_,_]) H wn rfl rfl rfl ?_;clear H;intro b2 a w hb2 H;refine dz qJ H wn rfl ?_;clear H;intro b4 a w hb4 H;refine aD 5 H ?_;clear H;intro a H;refine s_call ahj H wn rfl (ajS _ _ H.ro h.props k _ hh.props hl) rfl ?_;clear H;rintro v11 qX a w rfl BI H;refine aD 1 H ?_;clear H;intro a H;(iterate 2 refine jY H wn rfl rfl rfl ?_;clear H;intro a H);refine aD 6 H ?_;clear H;intro a H;refine jh abU [_,_] H wn rfl rfl rfl rfl ?_;clear H;intro a H;refine aX qJ 0 (vs:=[_,_]) _ H wn rfl rfl rfl rfl rfl rfl rfl rfl ?_;clear H;intro w H;dsimp only [List.set,setRow] at H;refine aC ?_;refine dQ ?_;refine cu ?_;refine (leave1 H results162 (.cons (kT qJ (cs:=[_,_]) H rfl rfl (H.hp.bO 0 rfl rfl)) .nil) ?_).1;exact H.rt rfl
theorem ajP (G:GH) (w0:World) (hG:Hold G w0) (y:cK) (s:Int × Bool):Calls prog 163 #[.agg y.cells.toArray,Fx s] w0 (bC w0 G fun u G'=>u=.agg (cK.cells ⟨y.rev,y.key,s.1,s.2⟩).toArray):=by
 refine eN [(0,_),(1,_)] func163 rfl ntmps163 rfl rfl hG ?_;refine ak 1 ?_;intro a H;refine dP (cs:=[_,_,_,_]) H wn rfl rfl rfl ?_;clear H;intro b2 a w hb2 H;refine dP (cs:=[_,_]) H wn rfl rfl rfl ?_;clear H;intro b3 a w hb3 H;refine dz jv H wn rfl ?_;clear H;intro b4 a w hb4 H;refine aD 2 H ?_;clear H;intro a H;refine aea (hmx) [[],[0],[],[2],[0,1],[0,1,4],(ra 0 6),(ra 0 7)] [6,7] (by kernel_rfl) (by kernel_rfl) 5 (by decide) (fun (aQ:Nat) (v:aj) (G:GH)=>match aQ with|0=>v=(aG b3 0)|1=>v=vi s.1|2=>v=(aG b3 1)|3=>v=.bool s.2|4=>v=(aG b2 2)|_=>True) 2 ((b2,.cells #[vi y.rev,vi y.key,vi s.1,.bool y.had] 161 (0,0))) H ?_ ?_ ?_ ?_ (by kernel_rfl)
 ·clear H;refine aF ?_ ?_ ?_ ?_ (aF ?_ ?_ (bQ rfl) (bQ rfl) cO)
  ·intro aS a w G1 _ _ aL hc hG HT hv;have H:=HT;clear aL;have Hb:=H.full;have H:=Hb;clear hc;refine aD 1 H ?_;clear H;intro a H;refine aC ⟨rfl,?_⟩;exact dL (by kernel_rfl) (fun _ _ _ _ _ h=>h) rfl rfl HT Hb hG hv (fun _ _ h=>h) (rfl) H
  ·intro aS a w G1 _ _ aL hc hG HT hv;have H:=HT;clear aL;have H:=H.aN (hv 0 5 (hc 0 (by decide)) rfl) rfl;have Hb:=H.full;have H:=Hb;clear hc;refine aD 1 H ?_;clear H;intro a H;refine aC ⟨rfl,?_⟩;exact dL (by kernel_rfl) (fun _ _ _ _ _ h=>h) rfl rfl HT Hb hG hv (fun _ _ h=>h) (rfl) H
  ·intro aS a w G1 _ _ aL hc hG HT hv;have H:=HT;clear aL;have Hb:=H.full;have H:=Hb;clear hc;refine aD 1 H ?_;clear H;intro a H;refine aC ⟨rfl,?_⟩;exact dL (by kernel_rfl) (fun _ _ _ _ _ h=>h) rfl rfl HT Hb hG hv (fun _ _ h=>h) (rfl) H
  ·intro aS a w G1 _ _ aL hc hG HT hv;have H:=HT;clear aL;have H:=H.aN (hv 2 7 (hc 2 (by decide)) rfl) rfl;have Hb:=H.full;have H:=Hb;clear hc;refine aD 1 H ?_;clear H;intro a H;refine aC ⟨rfl,?_⟩;exact dL (by kernel_rfl) (fun _ _ _ _ _ h=>h) rfl rfl HT Hb hG hv (fun _ _ h=>h) (rfl) H
  ·intro aS a w G1 _ _ aL hc hG HT hv;have H:=HT;clear aL;have Hb:=H.full;have H:=Hb;clear hc;refine aD 1 H ?_;clear H;intro a H;refine aC ⟨rfl,?_⟩;exact dL (by kernel_rfl) (fun _ _ _ _ _ h=>h) rfl rfl HT Hb hG hv (fun _ _ h=>h) (rfl) H
  intro _ _ _ _ _ hB;exact absurd hB (by decide)
 ·clear H;intro o_ aS a w G1 jT _ hc hG HT hv;obtain rfl:_=o_:=Option.some.inj jT;clear jT;have H:=HT;have H:=H.aN (hv 4 9 (hc 4 (by decide)) rfl) rfl;have H:=H.aN (hv 1 6 (hc 1 (by decide)) rfl) rfl;have Hb:=H.full;have H:=Hb;clear hc;refine aX bR 2 (vs:=[_]) _ H wn rfl rfl rfl rfl rfl rfl rfl rfl ?_;clear H;intro w H;dsimp only [List.set,setRow] at H;refine aC ⟨rfl,?_⟩;exact QD rfl HT hG hv H
 ·clear H;refine aF (bQ rfl) (bQ rfl) ?_ ?_ (aF (bQ rfl) ?_ (bQ rfl) (bQ rfl) cO)
  ·intro aS a w G1 _ _ aL hc hG HT hv;have H:=HT;dsimp only [List.set,List.append,lca,bG] at H;clear aL;have Hb:=H.full;have H:=Hb;clear hc;refine aD 1 H ?_;clear H;intro a H;refine aC ⟨rfl,?_⟩;exact dL (by kernel_rfl) (fun _ _ _ _ _ h=>h) rfl rfl HT Hb hG hv (fun _ _ h=>h) (rfl) H
  ·intro aS a w G1 _ _ aL hc hG HT hv;have H:=HT;dsimp only [List.set,List.append,lca,bG] at H;clear aL;have H:=H.aN (hv 2 7 (hc 2 (by decide)) rfl) rfl;have Hb:=H.full;have H:=Hb;clear hc;refine aD 1 H ?_;clear H;intro a H;refine aC ⟨rfl,?_⟩;exact dL (by kernel_rfl) (fun _ _ _ _ _ h=>h) rfl rfl HT Hb hG hv (fun _ _ h=>h) (rfl) H
  intro _ _ _ _ _ hB;exact absurd hB (by decide)
 clear H;intro a w G iN H hv;dsimp only [List.set,List.append,lca,bG] at H;have H:=H.aN (hv 3 8 rfl rfl) rfl;clear hv;refine kH H (Rf ajr rfl ?_);clear H;intro a H;refine aX arB 2 (vs:=[_]) _ H wn rfl rfl rfl rfl rfl rfl rfl rfl ?_;clear H;intro w H;dsimp only [List.set,setRow] at H;refine aC ⟨rfl,?_⟩;refine dQ ?_;refine yP ?_;refine aR jv (cs:=[_,_,_,_]) H wn rfl rfl (H.hp.bO 2 rfl rfl) rfl ?_;clear H;intro a H;refine aX jv 0 (vs:=[_,_,_,_]) _ H wn rfl rfl rfl rfl rfl rfl rfl rfl ?_;clear H;intro w H;dsimp only [List.set,setRow] at H;refine aC ?_;refine dQ ?_;refine cu ?_;refine (leave1 H results163 (.cons (kT jv (cs:=[_,_,_,_]) H rfl rfl (H.hp.bO 0 rfl rfl)) .nil) ?_).1;exact H.rt rfl
theorem asf (G:GH) (w0:World) (hG:Hold G w0) (ps:List aT) (io mo:Int) (p:aj) (dA lA:Option Addr) (dn dc ln lc:Nat) (hp:au G (.sl 2 (ps.map aT.dat)) p) (k:Int) (s:Int × Bool) (hl:ps.length≤4294967295) :
  Calls prog 164 #[.agg #[p,vi io,vi mo,.slice dA dn dc,.slice lA ln lc],vi k,Fx s] w0 (bC w0 G fun u G'=>∃ p',u=.agg #[p',vi io,vi mo,.slice dA dn dc,.slice lA ln lc]∧au G' (.sl 2 ((yu ps k s).map aT.dat)) p'):=by
 obtain ⟨pA,pn,pc,rfl⟩:=hp.form;refine eN [(0,_),(1,_),(2,_)] func164 rfl ntmps164 rfl rfl hG ?_;refine ak 1 ?_;intro a H;refine dP (cs:=[_,_,_,_,_]) H wn rfl rfl rfl ?_;clear H;intro b3 a w hb3 H;refine dP (cs:=[_,_]) H wn rfl rfl rfl ?_;clear H;intro b5 a w hb5 H;refine dz dw H wn rfl ?_;clear H;intro b6 a w hb6 H;refine gF 6 H ?_ ?_ <;> clear H
 ·intro p8
  refine ak 6 ?_;intro a H;refine s_call ahk H wn rfl (aqF _ _ H.ro ps k s.1 _ hp hl) rfl ?_;clear H;rintro v14 zP a w qG wK H;obtain ⟨Px,n14,c14,rfl⟩:=qG.form;refine aD 1 H ?_;clear H;intro a H;refine aX FC 2 (vs:=[_]) _ H wn rfl rfl rfl rfl rfl rfl rfl rfl ?_;clear H;intro w H;dsimp only [List.set,setRow] at H;refine aD 2 H ?_;clear H;intro a H;refine aR dw (cs:=[_,_,_,_,_]) H wn rfl rfl (H.hp.bO 2 rfl rfl) rfl ?_;clear H;intro a H;refine aX dw 0 (vs:=[_,_,_,_,_]) _ H wn rfl rfl rfl rfl rfl rfl rfl rfl ?_;clear H;intro w H;dsimp only [List.set,setRow] at H;refine aC ?_;refine dQ ?_;refine cu ?_;refine (leave1 H results164 (.cons (kT dw (cs:=[_,_,_,_,_]) H rfl rfl (H.hp.bO 0 rfl rfl)) .nil) ?_).1;exact H.rt ⟨_,rfl,by rw [yu,av (by assumption)];exact qG⟩
 intro p8
 refine ak 4 ?_;intro a H;refine s_call ahl H wn rfl (aeP _ _ H.ro ps k _ hp hl) rfl ?_;clear H;rintro v19 FT a w J9 qF H;obtain ⟨FQ,n19,c19,rfl⟩:=J9.form;refine aD 1 H ?_;clear H;intro a H;refine aX FC 2 (vs:=[_]) _ H wn rfl rfl rfl rfl rfl rfl rfl rfl ?_;clear H;intro w H;dsimp only [List.set,setRow] at H;refine aD 2 H ?_;clear H;intro a H;refine aR dw (cs:=[_,_,_,_,_]) H wn rfl rfl (H.hp.bO 2 rfl rfl) rfl ?_;clear H;intro a H;refine aX dw 0 (vs:=[_,_,_,_,_]) _ H wn rfl rfl rfl rfl rfl rfl rfl rfl ?_;clear H;intro w H;dsimp only [List.set,setRow] at H;refine aC ?_;refine dQ ?_;refine cu ?_;refine (leave1 H results164 (.cons (kT dw (cs:=[_,_,_,_,_]) H rfl rfl (H.hp.bO 0 rfl rfl)) .nil) ?_).1;exact H.rt ⟨_,rfl,by rw [yu,ah (by simp_all)];exact J9⟩
end
section
open Go.RowKit
theorem XP:∀ args w,(callFunc 212 args).run prog w=.ok (.enter 212 args) w:=enters func212 rfl (by kernel_rfl)
def gP (q:Int × List cK):AP:=fun args g=>∃ v,args=[vi q.1,v]∧au g (.sl 4 (q.2.map cK.dat)) v
theorem YA {A:List (Int × List cK)} {k:Nat} {args:List aj} {g:GH} (h:xg (A.map gP) k args g):∃ (hk:k < A.length) (B:Option Addr) (c:Nat),args=[vi A[k].1,.slice B A[k].2.length c]∧au g (.sl 4 (A[k].2.map cK.dat)) (.slice B A[k].2.length c):=by
 obtain ⟨p,hp,hargs⟩:=h;rw [qM] at hp;obtain ⟨q,hq,rfl⟩:=oO.1 hp;obtain ⟨hk,rfl⟩:=jy.1 hq;obtain ⟨v,h1,h2⟩:=hargs;obtain ⟨B,n,c,rfl⟩:=h2.form;have hn:=h2.len;rw [bM] at hn;subst hn;exact ⟨hk,B,c,h1,h2⟩
theorem au.hd {G:GH} {sz:Nat} {rows:List (List Dat)} {A:Option Addr} {n c:Nat} (h:au G (.sl sz rows) (.slice A n c)) (m:Nat) (hm:m≤rows.length):au G (.sl sz (rows.take m)) (.slice A m c):=by
 have h2:=h.part 0 m (gN _) hm;obtain ⟨A',c',he,hc1,-,-⟩:=h.slice;rw [List.drop_zero,Nat.sub_zero,Nat.sub_zero] at h2
 by_cases hc:c=0
 ·rw [av hc] at h2;exact h2
 rw [ah hc] at h2
 cases A with
 | none=>exact h2
 | some p=>simpa [Addr.add] using h2
theorem O7 {α:Type} {p:α→Bool}:∀ (r:List α) (i:Nat) (hi:i < r.length),i≤(r.takeWhile p).length→(p r[i]=true↔i < (r.takeWhile p).length)
 | [],_,hi,_=>absurd hi (by simp)
 | x :: r,i,hi,h=>by
  rw [List.takeWhile_cons] at h ⊢
  cases hx:p x
  ·rw [hx] at h
   simp only [qZ,if_false,List.length_nil,Nat.le_zero] at h
   subst h
   simp [hx]
  rw [hx] at h
  simp only [if_true,kr] at h ⊢
  cases i with
  | zero=>simp [hx]
  | succ i=>simpa using O7 r i (by simpa using hi) (by omega)
theorem aci {α:Type} {p:α→Bool} (r:List α):r.drop (r.takeWhile p).length=r.dropWhile p:=by
 conv=>lhs;rw [← List.takeWhile_append_dropWhile (p:=p) (l:=r)]
 rw [List.drop_append_of_le_length (by simp [List.takeWhile_append_dropWhile])]
 simp [List.takeWhile_append_dropWhile]
theorem acj {α:Type} {p:α→Bool} (r:List α):r.take (r.takeWhile p).length=r.takeWhile p:=by
 have:=List.take_left (l₁:=r.takeWhile p) (l₂:=r.dropWhile p)
 rwa [List.takeWhile_append_dropWhile] at this
theorem ajV {G:GH} {bd:Nat} {l:List cK} {v:aj} (hb:aI G bd 4=some v) (hv:au G (.sl 4 (l.map cK.dat)) v) (hz:l.length≤4294967290) :
  Iter prog G (.func (.func 212) #[] #[(aG bd 0)]) ((pR l.length l).map gP):=by
 intro J Jx fv G1 L w0 hfv hGi Ai hJx hJ hO hcb;refine iM (caps:=[(aG bd 0)]) XP ?_;obtain ⟨A,c,rfl,hc1,hc2,hg⟩:=hv.slice;rw [bM] at *;replace hb:=aH hGi hb;refine jf (N:=42) (T:=[(0,_),(1,_)]) func212 rfl ntmps212 rfl rfl hO ?_;refine ak 7 ?_;intro a H;refine eH (ι:=Nat × List cK × Option Addr × Nat × Nat × OL × GH) (Tc:=[(0,_)]) (Lc:=[]) (fun gh=>[(3,.slice gh.2.2.1 gh.2.1.length gh.2.2.2.1)]) (fun gh=>[]++gh.2.2.2.2.2.1) (fun gh=>gh.2.2.2.2.2.2) (fun gh=>gh.2.1.length≤gh.1∧gh.2.1.length≤4294967290∧(∀ b o,G1 b=some o→gh.2.2.2.2.2.2 b=some o)∧au gh.2.2.2.2.2.2 (.sl 4 (gh.2.1.map cK.dat)) (.slice gh.2.2.1 gh.2.1.length gh.2.2.2.1)∧Now ((pR l.length l).map gP) gP J (pR l.length l).length gh.2.2.2.2.1 (pR gh.1 gh.2.1) gh.2.2.2.2.2.2 gh.2.2.2.2.2.1) (fun gh=>gh.2.1.length) ((l.length,l,A,c,0,L,G1)) sB ?_ ?_
 ·exact ⟨bP _,hz,fun _ _ h=>h,hv.mono hGi,⟨hJ,fun i a h=>by rw [fU,qM];rw [h];rfl,by simp⟩⟩
 clear H;rintro ⟨f,rest,B,d,j1,Lt,g⟩ a w hI H;dsimp only at hI H;obtain ⟨hf,hzr,hgm,og,iU⟩:=hI;dsimp only [lca,bG] at H;refine dO 6 H ?_ ?_ <;> clear H
 ·intro gX
  obtain ⟨y,r,rfl⟩:∃ y r,rest=y :: r:=by cases rest with|nil=>simp at gX|cons y r=>exact ⟨y,r,rfl⟩
  obtain ⟨f,rfl⟩:∃ f',f=f'+1:=⟨f - 1,by rw [kr] at hf;omega⟩;rw [pR] at iU;obtain ⟨b,o,rfl,hr0⟩:=Dp og (k:=0) (by simp);obtain ⟨p,hp⟩:∃ p:cK→Bool,p=fun z=>decide (z.key=y.key):=⟨_,rfl⟩;rw [← hp] at iU;refine ak 7 ?_;intro a H;refine eH (ι:=Nat × GH) (Tc:=[(0,_),(3,_)]) (Lc:=[]) (fun gh=>[(4,vi gh.1)]) (fun gh=>[]++Lt) (fun gh=>gh.2) (fun gh=>1≤gh.1∧gh.1≤1+(r.takeWhile p).length∧(∀ b o,g b=some o→gh.2 b=some o)) (fun gh=>(y :: r).length - gh.1) ((1,g)) sB ?_ ?_
  ·exact ⟨bP _,by omega,fun _ _ h=>h⟩
  clear H;rintro ⟨m,g3⟩ a w hI H;dsimp only at hI H;obtain ⟨hm1,hm2,hg3⟩:=hI;dsimp only [lca,bG] at H;refine C9 ?_;refine C9 ?_
  obtain ⟨km,hkm⟩:∃ km:Int,∀ (h:m < (y :: r).length),(y :: r)[m].key=km:=by
   by_cases h:m < (y :: r).length
   ·exact ⟨((y :: r)[m]'h).key,fun _=>rfl⟩
   exact ⟨0,fun h2=>absurd h2 h⟩
  have hkc:m < (y :: r).length→aI g b (o+m*4+1)=some (vi km):=fun h=>by
   obtain ⟨b',o',he,hrm⟩:=Dp og (k:=m) h
   injection he with he
   injection he with e1 e2
   subst e1 e2;rw [← hkm h];exact hrm 1 _ rfl
  have hlen:(y :: r).length=r.length+1:=rfl
  have hdc:(y :: r).length≤d:=by
   obtain ⟨_,_,he,h1,-,-⟩:=og.slice
   injection he with _ _ e3
   rw [bM] at h1
   omega
  have htl:(r.takeWhile p).length≤r.length:=(List.takeWhile_sublist (l:=r) p).length_le
  by_cases c0:(m:Int) < ((y :: r).length:Int)
  ·refine dI hmx [[],[],[1],[0,1,2],(ra 0 4),(ra 0 5),(ra 0 5),(ra 0 7),(ra 0 8),(ra 0 9),(ra 0 5),[0,1,2,3,4,10],[0,1,2,3,4,10,11],[0,1,2,3,4,10,11,12],(ra 0 14),(ra 0 15)] [] (by kernel_rfl) [_,_,_,_,_,_,_,(aG b (o+m*4)),_,_,_,(aG b (o+0*4)),_,_,_,_] H (aF (Z0 rfl (Rm rfl)) (Z0 rfl (Rm rfl)) (Z1 1 12 rfl (Rl oz rfl)) (Z2 0 11 2 13 rfl (Rc rfl)) (aF (Z1 3 14 rfl (Rm rfl)) (Z1 4 15 rfl (YM (aK c0) rfl)) (Z1 4 15 rfl (YM (aK c0) rfl)) ?_ (aF (Z2 7 18 4 15 rfl (YF xI (aK c0) rfl)) (X2 8 19 4 15 rfl fun hG=>YR bR (aK c0) rfl (aH hG (aH hg3 (hkc (by omega))))) (Z1 4 15 rfl (YM (aK c0) rfl)) ?_ (aF (Z2 11 22 4 15 rfl (YF xI (aK c0) rfl)) (X2 12 23 4 15 rfl fun hG=>YR bR (aK c0) rfl (aH hG (aH hg3 (hr0 1 _ rfl)))) (Z3 9 20 13 24 4 15 rfl (YC (aK c0) rfl)) (Z2 4 15 14 25 rfl (Pt (aK c0) rfl)) cO)))) ?_
   ·refine xA 5 16 6 17 4 15 rfl rfl fun _ a w G1 hG HT H fin=>?_;refine wU oz jv m H (wg H rfl rfl (aK c0)) rfl rfl rfl (by omega) rfl ?_;clear H;intro a H;exact fin H iJ rfl
   ·refine dD 10 21 4 15 rfl rfl fun _ a w G1 hG HT H fin=>?_;refine wU oz jv 0 H (wg H rfl rfl (aK c0)) rfl rfl rfl (by simp) rfl ?_;clear H;intro a H;exact fin H iJ rfl
   clear H;intro a w G tu H hv;have H:=H.aN (hv 15 26 rfl rfl) rfl;clear hv;refine t0 1 H ?_;clear H;refine goB 0 ?_ ?_
   ·intro p26
    have hmr:m - 1 < (r.takeWhile p).length:=by
     refine (O7 (p:=p) r (m - 1) (by omega) (by omega)).1 ?_;have h1:=hkm (by omega)
     have h2:(y :: r)[m]=r[m - 1]:=by
      obtain ⟨q,rfl⟩:∃ q,m=q+1:=⟨m - 1,by omega⟩
      rfl
     rw [hp];rw [h2] at h1;exact iQ (by rw [h1];exact p26)
    refine ak 6 ?_;intro a H;refine aC ?_;refine cB ((m+1,_)) sB ?_ ?_
    ·(try dsimp only);exact ⟨by omega,by omega,fun b o h=>tu b o (hg3 b o h)⟩
    first|omega|(dsimp only;omega)
   intro p26
   refine ak 3 ?_
   have hmr:m=1+(r.takeWhile p).length:=by
    by_cases hlt:m < 1+(r.takeWhile p).length
    ·exfalso
     have h1:=(O7 (p:=p) r (m - 1) (by omega) (by omega)).2 (by omega);have h3:=hkm (by omega)
     have h2:(y :: r)[m]=r[m - 1]:=by
      obtain ⟨q,rfl⟩:∃ q,m=q+1:=⟨m - 1,by omega⟩
      rfl
     have h4:=mE ((congrFun hp _).symm.trans h1);rw [h2] at h3;rw [h3] at h4
     first|exact p26 h4|exact c0 (by omega)
    omega
   have htk:(y :: r).take m=y :: r.takeWhile p:=by rw [hmr,Nat.add_comm,List.take_succ_cons,acj]
   have hdr:(y :: r).drop m=r.dropWhile p:=by rw [hmr,Nat.add_comm,List.drop_succ_cons,aci]
   rw [← htk,← hdr] at iU;intro a H;refine dI hmx [[],[],[1],[1,2],[1,2,3],[],[],[5,6],(ra 0 8),(ra 0 9)] [8,9] (by kernel_rfl) [_,_,(aG b (o+0*4)),_,_,_,_,.slice (some ⟨b,o,none⟩) m d] H (aF (Z0 rfl (Rm rfl)) (Z0 rfl (Rm rfl)) ?_ (Z1 2 31 rfl (Rf xI rfl)) (aF (X1 3 32 rfl fun hG=>Rg bR rfl (aH hG (aH tu (aH hg3 (hr0 1 _ rfl))))) (Z0 rfl (Rm rfl)) (Z0 rfl (Rm rfl)) ?_ (bH (bQ rfl) (bH (bQ rfl) cO)))) ?_
   ·refine dZ 1 30 rfl rfl fun _ a w G1 hG HT H fin=>?_;refine wU oz jv 0 H wn rfl rfl rfl (by simp) rfl ?_;clear H;intro a H;exact fin H iJ rfl
   ·refine dD 5 34 6 35 rfl rfl fun _ a w G1 hG HT H fin=>?_;refine DJ oz jv m H wn rfl rfl rfl (by omega) rfl ?_;clear H;intro a H;exact fin H iJ rfl
   clear H;intro a w G kS H hv;have H:=H.aN (hv 0 29 rfl rfl) rfl;have H:=H.aN (hv 4 33 rfl rfl) rfl;have H:=H.aN (hv 7 36 rfl rfl) rfl;clear hv;refine Cj (Li:=[]) (L:=Lt) H wn rfl rfl (hcb j1 _ _ _ _ ⟨_,iU.head,_,rfl,by rw [List.map_take];exact ((og.hd m (by simp;omega)).mono fun b o h=>kS b o (tu b o (hg3 b o h)))⟩ (fun b o h=>kS b o (tu b o (hg3 b o (hgm b o h)))) (Ai _ _ _ _ (fun b o h=>kS b o (tu b o (hg3 b o h))) iU.now) (Hp.owns (Li:=[]) H.hp)) rfl ?_;clear H;rintro v37 IV F3 a w ⟨b37,rfl,hb1,hb2⟩ BK H;refine kH H (Rn rfl ?_);clear H;intro a H;refine aC ⟨rfl,?_⟩;refine dQ ?_;refine RL 0 H ?_ ?_ <;> clear H
   ·intro mG
    try have p38:=dT mG
    intro a H;refine cu ?_;refine (leave0 H results212 ?_).1
    first
     | exact H.hp.kC (L':=F3) (by repeat (first|exact jR _|apply List.Sublist.cons)) (.inr (hb2 (by simpa using mG)))
     | exact H.hp.dG (.inl (by
       have:=iU.len;rw [show rest=[] from List.eq_nil_of_length_eq_zero (by omega)] at this
       cases f <;> (simp only [pR,List.length_nil,wu] at this;first|(rw [bM,← this];exact iU.now)|(rw [← this];exact iU.now))))
   intro mG
   try have p38:=dF mG
   refine ak 4 ?_;intro a H;refine xX oz jv m H wn rfl rfl rfl (by omega) rfl ?_;clear H;refine ak 1 ?_;intro a H;refine aC ?_;refine cB ((f,(y :: r).drop m,_,d - m,j1+1,F3,IV)) (by exact (show St _ _ _ _ _ _ _ ((3,.slice _ ((y :: r).drop m).length (d - m)) :: _) _ _ from by rw [List.length_drop];exact H).sub ⟨rfl,rfl,bq⟩) ?_ ?_
   ·(try dsimp only);refine ⟨by rw [List.length_drop];omega,by rw [List.length_drop];omega,fun b o h=>BK b o (kS b o (tu b o (hg3 b o (hgm b o h)))),?_,iU.step (hb1 (by simpa using mG))⟩;have h1:=og.part m (y :: r).length (by omega) (by simp);rw [← List.map_drop,fJ (by simp)] at h1;rw [List.length_drop];exact h1.mono fun b o h=>BK b o (kS b o (tu b o (hg3 b o h)))
   show ((y :: r).drop m).length < (y :: r).length;rw [List.length_drop];omega
  refine dI hmx [[],[],[1],[0,1,2],(ra 0 4),(ra 0 5),(ra 0 5),(ra 0 7),(ra 0 8),(ra 0 9),(ra 0 5),[0,1,2,3,4,10],[0,1,2,3,4,10,11],[0,1,2,3,4,10,11,12],(ra 0 14),(ra 0 15)] [] (by kernel_rfl) [_,_,_,_,_,undef,undef,undef,undef,undef,undef,undef,undef,undef,undef,_] H (aF (Z0 rfl (Rm rfl)) (Z0 rfl (Rm rfl)) (Z1 1 12 rfl (Rl oz rfl)) (Z2 0 11 2 13 rfl (Rc rfl)) (aF (Z1 3 14 rfl (Rm rfl)) (aY 4 (bD c0) rfl rfl) (aY 4 (bD c0) rfl rfl) (aY 4 (bD c0) rfl rfl) (aF (aY 4 (bD c0) rfl rfl) (aY 4 (bD c0) rfl rfl) (aY 4 (bD c0) rfl rfl) (aY 4 (bD c0) rfl rfl) (aF (aY 4 (bD c0) rfl rfl) (aY 4 (bD c0) rfl rfl) (aY 4 (bD c0) rfl rfl) (Z2 4 15 14 25 rfl (Pf (bD c0) rfl)) cO)))) ?_
  clear H;intro a w G tu H hv;have H:=H.aN (hv 15 26 rfl rfl) rfl;clear hv;refine t0 5 H ?_;clear H
  have hmr:m=1+(r.takeWhile p).length:=by
   by_cases hlt:m < 1+(r.takeWhile p).length
   ·exfalso
    have h1:=(O7 (p:=p) r (m - 1) (by omega) (by omega)).2 (by omega);have h3:=hkm (by omega)
    have h2:(y :: r)[m]=r[m - 1]:=by
     obtain ⟨q,rfl⟩:∃ q,m=q+1:=⟨m - 1,by omega⟩
     rfl
    have h4:=mE ((congrFun hp _).symm.trans h1);rw [h2] at h3;rw [h3] at h4
    first|exact p26 h4|exact c0 (by omega)
   omega
  have htk:(y :: r).take m=y :: r.takeWhile p:=by rw [hmr,Nat.add_comm,List.take_succ_cons,acj]
  have hdr:(y :: r).drop m=r.dropWhile p:=by rw [hmr,Nat.add_comm,List.drop_succ_cons,aci]
  rw [← htk,← hdr] at iU;intro a H;refine dI hmx [[],[],[1],[1,2],[1,2,3],[],[],[5,6],(ra 0 8),(ra 0 9)] [8,9] (by kernel_rfl) [_,_,(aG b (o+0*4)),_,_,_,_,.slice (some ⟨b,o,none⟩) m d] H (aF (Z0 rfl (Rm rfl)) (Z0 rfl (Rm rfl)) ?_ (Z1 2 31 rfl (Rf xI rfl)) (aF (X1 3 32 rfl fun hG=>Rg bR rfl (aH hG (aH tu (aH hg3 (hr0 1 _ rfl))))) (Z0 rfl (Rm rfl)) (Z0 rfl (Rm rfl)) ?_ (bH (bQ rfl) (bH (bQ rfl) cO)))) ?_
  ·refine dZ 1 30 rfl rfl fun _ a w G1 hG HT H fin=>?_;refine wU oz jv 0 H wn rfl rfl rfl (by simp) rfl ?_;clear H;intro a H;exact fin H iJ rfl
  ·refine dD 5 34 6 35 rfl rfl fun _ a w G1 hG HT H fin=>?_;refine DJ oz jv m H wn rfl rfl rfl (by omega) rfl ?_;clear H;intro a H;exact fin H iJ rfl
  clear H;intro a w G kS H hv;have H:=H.aN (hv 0 29 rfl rfl) rfl;have H:=H.aN (hv 4 33 rfl rfl) rfl;have H:=H.aN (hv 7 36 rfl rfl) rfl;clear hv;refine Cj (Li:=[]) (L:=Lt) H wn rfl rfl (hcb j1 _ _ _ _ ⟨_,iU.head,_,rfl,by rw [List.map_take];exact ((og.hd m (by simp;omega)).mono fun b o h=>kS b o (tu b o (hg3 b o h)))⟩ (fun b o h=>kS b o (tu b o (hg3 b o (hgm b o h)))) (Ai _ _ _ _ (fun b o h=>kS b o (tu b o (hg3 b o h))) iU.now) (Hp.owns (Li:=[]) H.hp)) rfl ?_;clear H;rintro v37 IV F3 a w ⟨b37,rfl,hb1,hb2⟩ BK H;refine kH H (Rn rfl ?_);clear H;intro a H;refine aC ⟨rfl,?_⟩;refine dQ ?_;refine RL 0 H ?_ ?_ <;> clear H
  ·intro mG
   try have p38:=dT mG
   intro a H;refine cu ?_;refine (leave0 H results212 ?_).1
   first
    | exact H.hp.kC (L':=F3) (by repeat (first|exact jR _|apply List.Sublist.cons)) (.inr (hb2 (by simpa using mG)))
    | exact H.hp.dG (.inl (by
      have:=iU.len;rw [show rest=[] from List.eq_nil_of_length_eq_zero (by omega)] at this
      cases f <;> (simp only [pR,List.length_nil,wu] at this;first|(rw [bM,← this];exact iU.now)|(rw [← this];exact iU.now))))
  intro mG
  try have p38:=dF mG
  refine ak 4 ?_;intro a H;refine xX oz jv m H wn rfl rfl rfl (by omega) rfl ?_;clear H;refine ak 1 ?_;intro a H;refine aC ?_;refine cB ((f,(y :: r).drop m,_,d - m,j1+1,F3,IV)) (by exact (show St _ _ _ _ _ _ _ ((3,.slice _ ((y :: r).drop m).length (d - m)) :: _) _ _ from by rw [List.length_drop];exact H).sub ⟨rfl,rfl,bq⟩) ?_ ?_
  ·(try dsimp only);refine ⟨by rw [List.length_drop];omega,by rw [List.length_drop];omega,fun b o h=>BK b o (kS b o (tu b o (hg3 b o (hgm b o h)))),?_,iU.step (hb1 (by simpa using mG))⟩;have h1:=og.part m (y :: r).length (by omega) (by simp);rw [← List.map_drop,fJ (by simp)] at h1;rw [List.length_drop];exact h1.mono fun b o h=>BK b o (kS b o (tu b o (hg3 b o h)))
  show ((y :: r).drop m).length < (y :: r).length;rw [List.length_drop];omega
 intro gX
 intro a H;refine yK ?_;refine (leave0 H results212 ?_).2
 first
  | exact H.hp.kC (L':=F3) (by repeat (first|exact jR _|apply List.Sublist.cons)) (.inr (hb2 (by simpa using mG)))
  | exact H.hp.dG (.inl (by
    have:=iU.len;rw [show rest=[] from List.eq_nil_of_length_eq_zero (by omega)] at this
    cases f <;> (simp only [pR,List.length_nil,wu] at this;first|(rw [bM,← this];exact iU.now)|(rw [← this];exact iU.now))))
theorem anJ (G:GH) (w0:World) (hG:Hold G w0) (h:dW) (p d l:aj) (hh:fD G h p d l) (hz:h.marks.layers.length≤4294967290) :
  Calls prog 160 #[oW h p d l] w0 (bC w0 G fun u G'=>∃ bd,u=.func (.func 212) #[] #[(aG bd 0)]∧Iter prog G' u ((pR h.marks.layers.length h.marks.layers).map gP)):=by
 obtain ⟨pA,pn,pc,rfl⟩:=hh.props.form;obtain ⟨dA,dn,dc,rfl⟩:=hh.bL.form;obtain ⟨lA,ln,lc,rfl⟩:=hh.layers.form;refine eN [(0,_)] func160 rfl ntmps160 rfl rfl hG ?_;refine ak 1 ?_;intro a H;refine dP (cs:=[_,_,_,_,_]) H wn rfl rfl rfl ?_;clear H;intro b1 a w hb1 H;refine aD 3 H ?_;clear H;intro a H;refine nQ H wn rfl rfl ?_;clear H;refine ak 2 ?_;intro a H;refine cu ?_;obtain ⟨G2,hm2,hb1,H⟩:=H.eu;refine lv H results160 rfl ?_;exact H.rt ⟨b1,rfl,ajV (v:=.slice lA ln lc) (by unfold aI;rw [hb1];rfl) (hh.layers.mono hm2) hz⟩
end
section
open Go.RowKit
theorem kW {G:GH} {b:Nat} {cs:List aj} {e:TypeId} {q:Nat × Nat} (h:G b=some (.cells cs.toArray e q)) (k:Nat) (ds:List aj) (hd:ds=(cs.drop k).take ds.length) (j:Nat) (v:aj) (hj:ds[j]?=some v):aI G b (k+j)=some v:=by
 unfold aI
 rw [h]
 show cs.toArray[k+j]?=some v
 rw [hd,ru] at hj
 split at hj
 ·simpa using hj
 cases hj
end
end Go.Proofs.YtdiflmikikiedaaGreat
