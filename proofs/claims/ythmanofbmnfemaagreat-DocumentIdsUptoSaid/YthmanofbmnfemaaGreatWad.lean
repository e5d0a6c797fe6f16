/-
  What the claim stands on, part 4: Dsc Ro Ri Chn Chk Dsv Nck Cid Mt Ehd Hdr Hea Frm Itc Okd Ubf Brd.
-/
import Derived.Test.YthmanofbmnfemaaGreatWac
import Derived.ProofKit
import Derived.Deep.Slices
import Derived.Laws.StructEq
namespace Go.Proofs.YthmanofbmnfemaaGreat
open Go.Proofs.Tryz
section
open Go.RowKit
theorem AB:Ty prog 33 1 24 [.slice none 0 0] false:=⟨by kernel_rfl,by kernel_rfl⟩
theorem zN:prog.underlying 33=some (.slice 164):=by kernel_rfl
theorem yH:Ty prog 164 6 64 [.int .i64 0,.int .i64 0,.string ⟨#[]⟩,.int .i64 0,.string ⟨#[]⟩,.bool false] true:=⟨by kernel_rfl,by kernel_rfl⟩
theorem LQ:dL prog 164 0 0:=⟨by kernel_rfl⟩
theorem Om:dL prog 164 1 1:=⟨by kernel_rfl⟩
theorem ahi:∀ args w,(callFunc 219 args).run prog w=.ok (.enter 219 args) w:=enters func219 rfl (by kernel_rfl)
theorem agS:∀ args w,(callFunc 187 args).run prog w=.ok (.enter 187 args) w:=enters func187 rfl (by kernel_rfl)
theorem Zm:dL prog 164 2 2:=⟨by kernel_rfl⟩
theorem YS:∀ args w,(callFunc 133 args).run prog w=.ok (.enter 133 args) w:=enters func133 rfl (by kernel_rfl)
theorem Sd:dL prog 164 3 3:=⟨by kernel_rfl⟩
theorem Zn:dL prog 164 4 4:=⟨by kernel_rfl⟩
theorem RL:∀ args w,(callFunc 190 args).run prog w=.ok (.enter 190 args) w:=enters func190 rfl (by kernel_rfl)
theorem agU:∀ args w,(callFunc 189 args).run prog w=.ok (.enter 189 args) w:=enters func189 rfl (by kernel_rfl)
theorem agT:∀ args w,(callFunc 188 args).run prog w=.ok (.enter 188 args) w:=enters func188 rfl (by kernel_rfl)
theorem agR:∀ args w,(callFunc 186 args).run prog w=.ok (.enter 186 args) w:=enters func186 rfl (by kernel_rfl)
theorem Ii {G:GH} {b:Nat} (l:List Int) (h:G b=some (.cells (l.map vi).toArray 42 (0,0))) (hl:l.length≤maxLen):aB G (.sl 1 (l.map fun k=>[li k])) (.slice (some ⟨b,0,none⟩) l.length l.length) :=
 aB.fC h (by simp) (dB _) hl (mF (by simp)) (gy G l)
theorem Ji {G:GH} {l:List jl} {A:Option Addr} {n c k:Nat} (hv:aB G (.sl 6 (l.map jl.dat)) (.slice A n c)) (hk:k < l.length):∃ b o,A=some ⟨b,o,none⟩∧(∀ j u,l[k].cells[j]?=some u→aF G b (o+k*6+j)=some u)∧bM G l[k].dat l[k].cells:=by
 obtain ⟨A',c',he,_,_,hg⟩:=hv.slice
 injection he with e1 e2 e3
 subst e1;obtain ⟨b,o,cs,h1,h2,h3,h4⟩:=hg k l[k].dat (by simp [hk]);have:=Yt h4;subst this;exact ⟨b,o,h1,h3,h4⟩
theorem afQ {G:GH} {bl:Nat} {l:List jl} {A:Option Addr} {n c:Nat} (hb:aF G bl 0=some (.slice A n c)) (hv:aB G (.sl 6 (l.map jl.dat)) (.slice A n c)):uY (.func (.func 189) #[] #[(aP bl 0)]) G l.length fun k=>(l[k]?.map jl.id).getD 0:=by
 intro k hk G1 w0 hm hG;refine nk (caps:=[(aP bl 0)]) agU ?_;replace hb:=aJ hm hb
 obtain rfl:n=l.length:=by have:=hv.len;simpa using this
 obtain ⟨b,o,rfl,hrow,-⟩:=Ji (hv.mono hm) hk;have hq:=hrow 0 _ rfl;refine eN [(0,_),(1,_)] func189 rfl ntmps189 rfl rfl hG ?_;intro a H;refine kP H (SR fun _ K1=>ak K1 rfl (SR fun _ K2=>Rg AB rfl (by assumption) ?_));clear H K1;intro a H;refine kH H (Rm rfl (Ri zN yH rfl rfl (Rf LQ rfl (Rg aD rfl (by assumption) ?_))));clear H;intro a H;exact kH H (ak K2 rfl (LR results189 rfl fun H=>H.rt (by dsimp only;rw [fH hk];rfl)))
theorem afS {G:GH} {bc:Nat} {x:jl} (hb:aF G bc 1=some (vi x.parent)) (y:jl):wu (.func (.func 188) #[] #[(aP bc 0)]) G y.dat (decide (y.id=x.parent)):=by
 intro G1 w0 cs hm hG hr;refine nk (caps:=[(aP bc 0)]) agT ?_;obtain rfl:=Yt hr;replace hb:=aJ hm hb;refine eN [(0,_),(1,_)] func188 rfl ntmps188 rfl rfl hG ?_;intro a H;refine cO (fun _ K1=>?_);refine fD (cs:=[_,_,_,_,_,_]) H wn rfl rfl rfl ?_;clear H;intro b2 a w hb2 H;refine kH H (ak K1 rfl (SR fun _ K2=>aR LQ aD 0 rfl rfl (Rf Om rfl (Rg aD rfl (by assumption) ?_))));clear H K1;intro a H;exact kH H (Rc rfl (ak K2 rfl (LR results188 rfl fun H=>H.rt rfl)))
theorem alX (G:GH) (w0:World) (hG:Hold G w0) (l:List jl) (p:jl→Bool) (v fv:aj) (hv:aB G (.sl 6 (l.map jl.dat)) v) (hf:∀ x∈l,wu fv G x.dat (p x)) :
  Calls prog 219 #[v,fv] w0 (bV w0 G fun u G'=>u=vi (qN (l.findIdx? p))):=by
 obtain ⟨A,c,rfl,hc1,hc2,hg⟩:=hv.slice;have hml:maxLen=9223372036854775807:=rfl;rw [bN] at *;refine eN [(0,_),(1,_)] func219 rfl ntmps219 rfl rfl hG ?_;intro a H;refine kP H (SR fun _ K1=>ak K1 rfl (SQ fun _ K2=>SR fun _ K3=>Rm rfl (Rl zN rfl (Rm rfl (Kz K3 (SB ?_))))));clear H K1 K3;intro a H;skip;refine dV (ι:=Nat × GH) (Tc:=[(0,_),(1,_),(7,_)]) (Lc:=[]) (fun gh=>[(8,vi gh.1)]) (fun gh=>[]) (fun gh=>gh.2) (fun gh=>gh.1≤l.length∧(l.take gh.1).findIdx? p=none∧(∀ b o,G b=some o→gh.2 b=some o)) (fun gh=>l.length - gh.1) ((0,G)) (by exact (H).sub ⟨rfl,rfl,rfl,rfl,av⟩) ?_ ?_
 ·exact ⟨by omega,rfl,fun _ _ h=>h⟩
 clear H;rintro ⟨k,g⟩ a w hI H;dsimp only at hI H;obtain ⟨hk,hno,hgm⟩:=hI;dsimp only [lca,aO] at H;refine kP H (SR fun _ K4=>Rc rfl (Kz K4 (SQ fun _ K5=>Cd rfl ?_ ?_))) <;> clear H K4
 ·intro h9 a H
  try have p9:=dT h9
  have hk2:k < l.length:=by omega
  obtain ⟨b,o,rfl,hrow,hrep⟩:=Ji hv hk2;refine kP H (Kc K5 (SQ fun _ K6=>SB (SR fun _ K7=>Rm rfl (ak K7 rfl (SR fun _ K8=>Rm rfl (Rm rfl (Rm rfl (Ri zN yH rfl rfl ?_))))))));clear H K5 K7;intro a H;refine bK yH (cs:=l[k].cells) H wn rfl rfl (fun j v hj=>H.hp.aF (aJ hgm (hrow j v hj))) rfl ?_;clear H;intro a H;refine vP H wn rfl rfl (hf _ (jD hk2) _ _ _ hgm H.ro (hrep.mono hgm)) rfl ?_;clear H;rintro v16 zV a w rfl Ak H;refine K8 _ _ ?_;clear K8;refine qG H rfl ?_ ?_
  ·intro h16
   try have p16:=dT h16
   refine kP H (SR fun _ K9=>Rm rfl (ak K9 rfl ?_));clear H K9;intro a H;refine lr H results219 rfl ?_
   first
    | exact H.rt (by rw [zy hk2 hno h16];rfl)
    | exact H.rt (by rw [show l.take k=l from mF (by omega)] at hno;rw [hno];rfl)
  intro h16
  try have p16:=dF h16
  refine kP H (Kc K6 (SC (Rd rfl (Rm rfl ?_))));clear H K6;intro a H;refine aH ?_;refine cB ((k+1,zV)) (by exact (H).sub ⟨rfl,rfl,rfl,rfl,av⟩) ?_ ?_
  ·(try dsimp only);exact ⟨by omega,Ih hk2 hno h16,fun b o h=>Ak b o (hgm b o h)⟩
  first|omega|(dsimp only;omega)
 intro h9 a H
 try have p9:=dF h9
 refine dJ ?_;refine K2 _ _ ?_;clear K2;refine kP H (SR fun _ aU=>ak aU rfl ?_);clear H aU;intro a H;refine lr H results219 rfl ?_
 first
  | exact H.rt (by rw [zy hk2 hno h16];rfl)
  | exact H.rt (by rw [show l.take k=l from mF (by omega)] at hno;rw [hno];rfl)
theorem afU (G:GH) (w0:World) (hG:Hold G w0) (l:List jl) (p:jl→Bool) (v fv:aj) (hv:aB G (.sl 6 (l.map jl.dat)) v) (hf:∀ x∈l,wu fv G x.dat (p x)) :
  Calls prog 187 #[v,fv] w0 (bV w0 G fun u G'=>u=.bool (l.findIdx? p).isSome):=by
 obtain ⟨A,c,rfl,hc1,hc2,-⟩:=hv.slice;rw [bN] at *;refine eN [(0,_),(1,_)] func187 rfl ntmps187 rfl rfl hG ?_;intro a H;refine kP H (SR fun _ K1=>ak K1 rfl (SR fun _ K2=>Rm rfl (Rm rfl ?_)));clear H K1;intro a H;refine s_call ahi H wn rfl (alX _ _ H.ro l p _ _ hv hf) rfl ?_;clear H;rintro v7 G7 a w rfl yh H;exact kH H (Rc rfl (ak K2 rfl (LR results187 rfl fun H=>H.rt (aM (Vg _)))))
def EY (l:List jl) (i:Nat) (x:jl):Bool:=decide (x.parent=0) || ((l.take i).findIdx? fun y=>decide (y.id=x.parent)).isSome
def AZ (l:List jl) (i:Nat) (x:jl):Int:=bO [kK (fun k=>(l[k]?.map jl.id).getD 0) i,bL (!EY l i x) 8,bL (!qb x.author) 39,bL (!decide (0≤x.time∧x.time≤1099511627776)) 40,sQ x.text]
def uD (l:List jl) (i:Nat):Int:=match l[i]? with|some x=>AZ l i x|none=>0
theorem afP {G:GH} {bl:Nat} {l:List jl} {A:Option Addr} {n c:Nat} (hb:aF G bl 0=some (.slice A n c)) (hv:aB G (.sl 6 (l.map jl.dat)) (.slice A n c)) (hl:l.length≤4294967296) (ht:∀ x∈l,x.author.size < 4611686018427387904∧x.text.size < 4611686018427387904):uY (.func (.func 186) #[] #[(aP bl 0)]) G l.length (uD l):=by
 intro k hk G1 w0 hm hG;refine nk (caps:=[(aP bl 0)]) agR ?_;replace hb:=aJ hm hb;replace hv:=hv.mono hm;have hcb:=afQ hb hv;obtain ⟨_,_,hee,hvc,-,-⟩:=hv.slice
 injection hee with _ _ hcc
 subst hcc;rw [bN] at hvc
 obtain rfl:n=l.length:=by have:=hv.len;simpa using this
 obtain ⟨b,o,rfl,hrow,hrep⟩:=Ji hv hk;have hte:=ht _ (jD hk);obtain ⟨x,hx⟩:∃ x,x=l[k]:=⟨_,rfl⟩;rw [← hx] at hrow hte
 have he:uD l k=AZ l k x:=by unfold uD;rw [fH hk,hx]
 refine eN [(0,_),(1,_)] func186 rfl ntmps186 rfl rfl hG ?_;intro a H;refine kP H (SR fun _ K1=>ak K1 rfl (SR fun _ K2=>Rg AB rfl (by assumption) ?_));clear H K1;intro a H;refine kH H (Rm rfl (Ri zN yH rfl rfl ?_));clear H;intro a H;refine bK yH (cs:=x.cells) H wn rfl rfl (fun j v hj=>H.hp.aF (hrow j v hj)) rfl ?_;clear H;intro a H;refine dY yH H wn rfl ?_;clear H;intro b4 a w hb4 H;refine bT yH 0 (vs:=[_,_,_,_,_,_]) _ H wn rfl rfl rfl rfl rfl rfl rfl rfl ?_;clear H;intro w H;dsimp only [List.set,setRow] at H;obtain ⟨Ga,hma,BA,H⟩:=H.eD
 have hcell:∀ (j:Nat) (u:aj),x.cells[j]?=some u→aF Ga b4 j=some u:=fun j u hj=>by unfold aF;rw [BA];simpa using hj
 have q1:=hcell 1 _ rfl;have hbA:=aJ hma hb;have Pm:=(hv.mono hma).pre k (by rw [bN];omega);rw [← List.map_take] at Pm;refine K2 _ _ ?_;clear K2;refine oG (ι:=Bool × GH) (Tc:=[(0,_),(1,_),(4,_)]) (Lc:=[]) (fun gh=>[(5,.bool gh.1)]) (fun gh=>[]) (fun gh=>gh.2) (fun gh=>gh.1=EY l k x∧(∀ b o,Ga b=some o→gh.2 b=some o)) (by exact (H).sub ⟨rfl,rfl,rfl,av⟩) ?_ ?_
 ·skip;refine kP H (SC (Rf Om rfl (Rg aD rfl (by assumption) ?_)));clear H;intro a H;refine kH H (Rc rfl (Rm rfl (Sp 13 rfl ?_ ?_))) <;> clear H
  ·intro eO a H
   try have nZ:=dT eO
   refine kH H (aZ eO rfl (aT eO rfl (Pt eO rfl (Ra rfl ?_))));clear H;intro a H;refine aH ?_;refine ⟨(_,_),by exact (H).sub ⟨rfl,rfl,rfl,rfl,av⟩,?_⟩;(try dsimp only)
   first
   | exact ⟨by unfold EY;rw [iq (by assumption)];rfl,fun _ _ h=>h⟩
   | exact ⟨by unfold EY;rw [iV (by assumption)];rfl,hm18⟩
  intro eO a H
  try have nZ:=dF eO
  refine kH H (YR AB eO rfl (by assumption) ?_);clear H;intro a H;refine kH H (YM eO rfl ?_);clear H;intro a H;refine V3 zN yH k H (wg H rfl rfl eO) rfl rfl rfl (by omega) rfl ?_;clear H;intro a H;refine pO H (wg H rfl rfl eO) rfl rfl ?_;clear H;intro a H;refine s_call agS H (wg H rfl rfl eO) rfl (afU _ _ H.ro (l.take k) (fun y=>decide (y.id=x.parent)) _ _ Pm (fun y _=>afS q1 y)) rfl ?_;clear H;rintro v18 Nr a w rfl hm18 H;refine kH H (Pf eO rfl (Ra rfl ?_));clear H;intro a H;refine aH ?_;refine ⟨(_,_),by exact (H).sub ⟨rfl,rfl,rfl,rfl,av⟩,?_⟩;(try dsimp only)
  first
  | exact ⟨by unfold EY;rw [iq (by assumption)];rfl,fun _ _ h=>h⟩
  | exact ⟨by unfold EY;rw [iV (by assumption)];rfl,hm18⟩
 clear H;rintro ⟨bf,g⟩ a w hI H;dsimp only at hI H;obtain ⟨hbf,hgm⟩:=hI;replace hcell:=fun j u hj=>aJ hgm (hcell j u hj);replace hcb:=(hcb.mono hma).mono hgm;dsimp only [lca,aO] at H;refine aN (fun _ K3=>?_);have H:=H.sub (T':=[(0,_),(1,_),(4,_),(5,_)]) ⟨rfl,rfl,rfl,rfl,av⟩;refine dI hmx [[],[],[0,1],[],[3],(ra 0 5),[],[6],(ra 0 8),(ra 0 9),(ra 0 10),[],[11],(ra 0 13),(ra 0 14),(ra 0 15),[],[16],(ra 0 18),(ra 0 19),(ra 0 20),(ra 0 21)] [19,20,21] (by kernel_rfl) [_,.func (.func 189) #[] #[(aP bl 0)],vi (kK (fun k=>(l[k]?.map jl.id).getD 0) k),_,_,vi (bL (!bf) 8),_,_,.bool (qb x.author),_,vi (bL (!qb x.author) 39),_,_,.bool (decide (0≤x.time∧x.time≤1099511627776)),_,vi (bL (!decide (0≤x.time∧x.time≤1099511627776)) 40),_,_,vi (sQ x.text)] H (aI (Z0 rfl (Rm rfl)) ?_ ?_ (Z0 rfl (Rm rfl)) (aI (Z1 3 23 rfl (Rn rfl)) ?_ (Z0 rfl (Rf Zm rfl)) (X1 6 26 rfl fun hG=>Rg gZ rfl (aJ hG (hcell 2 _ rfl))) (aI ?_ (Z1 8 28 rfl (Rn rfl)) ?_ (Z0 rfl (Rf Sd rfl)) (aI (X1 11 31 rfl fun hG=>Rg aD rfl (aJ hG (hcell 3 _ rfl))) ?_ (Z1 13 33 rfl (Rn rfl)) ?_ (aI (Z0 rfl (Rf Zn rfl)) (X1 16 36 rfl fun hG=>Rg gZ rfl (aJ hG (hcell 4 _ rfl))) ?_ (cZ rfl) (bG (cZ rfl) (bG (cZ rfl) dQ))))))) ?_
 ·refine Dn rfl fun _ a w G1 hG HT H fin=>?_;refine pO H wn rfl rfl ?_;clear H;intro a H;exact fin H iJ rfl
 ·refine fu 0 20 1 21 rfl rfl fun _ a w G1 hG HT H fin=>?_;refine s_call RA H wn rfl (Vd _ _ H.ro k _ _ (by omega) (fun i hi=>(hcb.mono hG) i (by omega))) rfl ?_;clear H;rintro v22 Xa a w rfl vJ H;exact fin H vJ (rfl)
 ·refine fq 4 24 rfl rfl fun _ a w G1 hG HT H fin=>?_;refine s_call kg H wn rfl (ku _ _ H.ro _ 8) rfl ?_;clear H;rintro v25 IY a w ⟨rfl,-⟩ aiN H;exact fin H aiN (rfl)
 ·refine fq 7 27 rfl rfl fun _ a w G1 hG HT H fin=>?_;refine s_call YS H wn rfl (XY _ _ H.ro x.author hte.1) rfl ?_;clear H;rintro v28 QC a w ⟨rfl,-⟩ aiP H;exact fin H aiP (rfl)
 ·refine fq 9 29 rfl rfl fun _ a w G1 hG HT H fin=>?_;refine s_call kg H wn rfl (ku _ _ H.ro _ 39) rfl ?_;clear H;rintro v30 EC a w ⟨rfl,-⟩ Mf H;exact fin H Mf (rfl)
 ·refine fq 12 32 rfl rfl fun _ a w G1 hG HT H fin=>?_;refine s_call za H wn rfl (zB _ _ H.ro x.time 0 1099511627776) rfl ?_;clear H;rintro v33 G33 a w ⟨rfl,-⟩ aiQ H;exact fin H aiQ (rfl)
 ·refine fq 14 34 rfl rfl fun _ a w G1 hG HT H fin=>?_;refine s_call kg H wn rfl (ku _ _ H.ro _ 40) rfl ?_;clear H;rintro v35 G35 a w ⟨rfl,-⟩ Tq H;exact fin H Tq (rfl)
 ·refine fq 17 37 rfl rfl fun _ a w G1 hG HT H fin=>?_;refine s_call RL H wn rfl (Ws _ _ H.ro x.text hte.2) rfl ?_;clear H;rintro v38 Xc a w rfl aiS H;exact fin H aiS (rfl)
 clear H;intro a w G Me H hv;have H:=H.bC (hv 2 22 rfl rfl) rfl;have H:=H.bC (hv 5 25 rfl rfl) rfl;have H:=H.bC (hv 10 30 rfl rfl) rfl;have H:=H.bC (hv 15 35 rfl rfl) rfl;have H:=H.bC (hv 18 38 rfl rfl) rfl;clear hv;refine jd qV iO [_,_,_,_,_] [_,_,_,_,_] H wn rfl rfl rfl rfl rfl (by intro i q h;match i,h with|0,h=>exact h|1,h=>exact h|2,h=>exact h|3,h=>exact h|4,h=>exact h|n+5,h=>simp at h) rfl rfl ?_;clear H;intro b39 a w ars H;obtain ⟨QD,aal,ajD,H⟩:=H.eD;refine s_call rY H wn rfl (rZ _ _ H.ro _ _ (Ii [kK (fun k=>(l[k]?.map jl.id).getD 0) k,bL (!bf) 8,bL (!qb x.author) 39,bL (!decide (0≤x.time∧x.time≤1099511627776)) 40,sQ x.text] ajD (show 5≤maxLen by decide))) rfl ?_;clear H;rintro v40 _ a w ⟨rfl,rfl⟩ - H;refine kH H (Ra rfl ?_);clear H;intro a H;refine aH ⟨rfl,?_⟩;refine K3 _ _ ?_;clear K3;refine lr H results186 rfl ?_;exact H.rt (by rw [he,AZ,← hbf])
def uz (l:List jl):Int:=bO [bL (decide (1024 < (l.length:Int))) 9,iw (uD l) (min l.length 1024)]
theorem afF (G:GH) (w0:World) (hG:Hold G w0) (l:List jl) (v:aj) (hv:aB G (.sl 6 (l.map jl.dat)) v) (hl:l.length≤4294967296) (ht:∀ x∈l,x.author.size < 4611686018427387904∧x.text.size < 4611686018427387904) :
  Calls prog 128 #[v] w0 (bV w0 G fun u G'=>u=vi (uz l)):=by
 obtain ⟨A,c,rfl,hc1,hc2,-⟩:=hv.slice;rw [bN] at *;refine eN [(0,_)] func128 rfl ntmps128 rfl rfl hG ?_;intro a H;refine cO (fun _ K1=>?_);refine fD (cs:=[_]) H wn rfl rfl rfl ?_;clear H;intro b1 a w hb1 H;refine kH H (ak K1 rfl (SQ fun _ K2=>?_));clear H K1;intro a H;have H:=H.sub (T':=[(1,_)]) ⟨rfl,av⟩;obtain ⟨Ga,hma,hb1',H⟩:=H.eD
 have hbl:aF Ga b1 0=some (.slice A l.length c):=by unfold aF;rw [hb1'];rfl
 have hcb:=afP hbl (hv.mono hma) hl ht;refine dI hmx [[],[0],[0,1],[0,1,2],[],[4],[4,5],[],(ra 0 8),(ra 0 9),(ra 0 10),(ra 0 11)] [9,10,11] (by kernel_rfl) [_,_,_,vi (bL (decide (1024 < (l.length:Int))) 9),_,_,vi ((min l.length 1024:Nat):Int),.func (.func 186) #[] #[(aP b1 0)],vi (iw (uD l) (min l.length 1024))] H (aI (X0 rfl fun hG=>Rg AB rfl (aJ hG hbl)) (Z1 0 3 rfl (Rl zN rfl)) (Z1 1 4 rfl (Rc rfl)) ?_ (aI (X0 rfl fun hG=>Rg AB rfl (aJ hG hbl)) (Z1 4 7 rfl (Rl zN rfl)) ?_ ?_ (aI ?_ (cZ rfl) (cZ rfl) (cZ rfl) dQ))) ?_
 ·refine fq 2 5 rfl rfl fun _ a w G1 hG HT H fin=>?_;refine s_call kg H wn rfl (ku _ _ H.ro _ 9) rfl ?_;clear H;rintro v6 G6 a w ⟨rfl,-⟩ lI H;exact fin H lI (rfl)
 ·refine fq 5 8 rfl rfl fun _ a w G1 hG HT H fin=>?_;refine Qf H wn rfl rfl rfl ?_;clear H;intro a H;exact fin H iJ (ay vi (by omega))
 ·refine Dn rfl fun _ a w G1 hG HT H fin=>?_;refine pO H wn rfl rfl ?_;clear H;intro a H;exact fin H iJ rfl
 ·refine fu 6 9 7 10 rfl rfl fun _ a w G1 hG HT H fin=>?_;refine s_call Jl H wn rfl (Lg _ _ H.ro (min l.length 1024) (uD l) _ (by omega) ((hcb.mono hG).le (Nat.min_le_left _ _))) rfl ?_;clear H;rintro v11 zT a w rfl zo H;exact fin H zo (rfl)
 clear H;intro a w G sH H hv;have H:=H.bC (hv 3 6 rfl rfl) rfl;have H:=H.bC (hv 8 11 rfl rfl) rfl;clear hv;refine jd qV iO [_,_] [_,_] H wn rfl rfl rfl rfl rfl (by intro i q h;match i,h with|0,h=>exact h|1,h=>exact h|n+2,h=>simp at h) rfl rfl ?_;clear H;intro b12 a w D5 H;obtain ⟨zU,Cy,Hw,H⟩:=H.eD;refine s_call rY H wn rfl (rZ _ _ H.ro _ _ (AA Hw)) rfl ?_;clear H;rintro v13 _ a w ⟨rfl,rfl⟩ - H;refine kH H (Ra rfl ?_);clear H;intro a H;refine aH ⟨rfl,?_⟩;refine K2 _ _ ?_;clear K2;refine lr H results128 rfl ?_;exact H.rt rfl
end
section
open Go.RowKit
section
variable {P:Program} {N:Nat} {D:List Deferred} {w0 w w':World} {F:Nat→Prop} {G0 G G':GH} {L L' Li Lo:OL} {T:List (Nat × aj)} {a a':Act} {Q:Exit→Act→World→Prop}
variable {r:Option Nat} {ops:Array Oper} {rest:List Oper}
def QI (P:Program) (Gi:GH) (B:OL) (gv:aj) (xs:List AP):Prop :=
 ∀ (J:Nat→GH→OL→Prop) (Jx:GH→OL→Prop) (fv:aj) (G:GH) (L:OL) (w:World),fv.cells=#[fv]→(∀ b o,Gi b=some o→G b=some o)→EF J→GD Jx→J 0 G L→iT G (B++L) w→EA P fv G xs J Jx →
  yN P gv [fv] w (iE w G (B++L) fun _ G' L'=>J xs.length G' L'∨Jx G' L')
theorem QI.mono {Gi ED:GH} {B:OL} {gv:aj} {xs:List AP} (h:QI P Gi B gv xs) (hm:∀ b o,Gi b=some o→ED b=some o):QI P ED B gv xs :=
 fun J Jx fv G L w h0 h1=>h J Jx fv G L w h0 fun b o hb=>h1 b o (hm b o hb)
end
end
section
open Go.RowKit
section
variable {P:Program} {N:Nat} {D:List Deferred} {w0 w w':World} {F:Nat→Prop} {G0 G G':GH} {L L' Li Lo:OL} {T:List (Nat × aj)} {a a':Act} {Q:Exit→Act→World→Prop}
variable {r:Option Nat} {ops:Array Oper} {rest:List Oper}
def I5 (P:Program) (Gi:GH) (B:OL) (gv:aj) (xs:List AP) (fin:Bool):Prop :=
 ∀ (J:Nat→GH→OL→Prop) (Jx:GH→OL→Prop) (fv:aj) (G:GH) (L:OL) (w:World),fv.cells=#[fv]→(∀ b o,Gi b=some o→G b=some o)→EF J→GD Jx→J 0 G L→iT G (B++L) w→EA P fv G xs J Jx→(fin=false→∀ g l,¬ J xs.length g l) →
  yN P gv [fv] w (iE w G (B++L) fun _ G' L'=>J xs.length G' L'∨Jx G' L')
theorem I5.mono {Gi ED:GH} {B:OL} {gv:aj} {xs:List AP} {fin:Bool} (h:I5 P Gi B gv xs fin) (hm:∀ b o,Gi b=some o→ED b=some o):I5 P ED B gv xs fin :=
 fun J Jx fv G L w h0 h1=>h J Jx fv G L w h0 fun b o hb=>h1 b o (hm b o hb)
theorem afj {fin:Bool} {B:OL} {Bn:Operand} {ps:List Nat} {assign body:Code} {gf:FuncId} {caps:List aj} {xs:List AP} {Gi:GH}
  (H:St N D w0 F G0 G (B++L) T a w) (hg:ev T Bn=some (.func (.func gf) #[] caps.toArray)) (en:∀ args w,(callFunc gf args).run P w=.ok (.enter gf args) w) (hit:I5 P Gi B (.func (.func gf) #[] caps.toArray) xs fin) (hGi:∀ b o,Gi b=some o→G b=some o)
  (hps:ps.all (Nat.blt · N)=true) (hlen:∀ k args g,xH xs k args g→args.length=ps.length)
  (J:Nat→GH→OL→Prop) (Jx:Code→GH→OL→Prop) (hno:fin=false→∀ g l,¬ J xs.length g l) (mM:EF J) (hJx:∀ c,GD (Jx c)) (h0:J 0 G L) (UR:QT P N ps assign body T G J Jx xs)
  (hdone:∀ Dk G1 L1 a1 w1,(∀ b o,G b=some o→G1 b=some o)→J xs.length G1 L1→St N ({ target:=.collected Dk,args:=#[] } :: D) w0 F G0 G1 ((Dk,.deferred (some [])) :: L1) T a1 w1→Q .normal a1 w1)
  (hstop:∀ Dk c G1 L1 a1 w1,(∀ b o,G b=some o→G1 b=some o)→Jx c G1 L1→St N ({ target:=.collected Dk,args:=#[] } :: D) w0 F G0 G1 ((Dk,.deferred (some [])) :: L1) T a1 w1→WP none P c Q a1 w1) :
  WP none P (.rangeFunc Bn ps.toArray assign body) Q a w:=by
 refine wpIn_rangeFunc ?_
 intro fn _
 have hev:=H.ev hg
 let q:Rec:=⟨fn,a.tmps,ps.toArray,assign,body,w.heap.size⟩
 obtain ⟨W1,hW1⟩:∃ W1,W1=(w.alloc (.deferred (some []))).alloc (q.at .ready none):=⟨_,rfl⟩
 have H1:Hp w0 F G0 G (B++((w.heap.size+1,q.at .ready none) :: (w.heap.size,.deferred (some [])) :: L)) W1:=by
  have:=(H.hp.alloc (.deferred (some []))).alloc (q.at .ready none)
  rw [World.size_alloc] at this
  rw [hW1]
  refine this.perm ?_
  have e:=qZ (l₁:=[(w.heap.size+1,q.at .ready none),(w.heap.size,Obj.deferred (some []))]) (l₂:=B)
  have e2:=List.Perm.append_right L e
  rw [iQ,iQ] at e2
  exact e2
 refine ⟨w.heap.size+1,[{ target:=.collected w.heap.size,args:=#[] }],W1,{ target:=.fn (.func gf) caps.toArray,args:=#[.func (.yield (w.heap.size+1)) #[] #[]] },W1,gf,
  #[.func (.yield (w.heap.size+1)) #[] #[]]++caps.toArray,W1,by rw [hW1];exact run_enterLoop_outer fn a.tmps ps.toArray assign body,?_,fun _ _=>trivial,?_,Nn none,?_⟩
 ·simp only [resolve,rangeCall,hev]
  simp [Deferred.ofValue,Act.eval]
 ·simp [invoke,en]
 ·have hcv:=hit (fun k=>Jr (w.heap.size+1) q [(w.heap.size,.deferred (some []))] (J k)) (Nu (w.heap.size+1) q [(w.heap.size,.deferred (some []))] Jx) (.func (.yield (w.heap.size+1)) #[] #[]) G
   ((w.heap.size+1,q.at .ready none) :: (w.heap.size,.deferred (some [])) :: L) W1 rfl hGi (fun k G G' L hm ⟨Lu,e,h⟩=>⟨Lu,e,mM k G G' Lu hm h⟩) (fun G G' L hm ⟨c,Lu,e,h⟩=>⟨c,Lu,e,hJx c G G' Lu hm h⟩) ⟨L,rfl,h0⟩ (Hp.owns (Li:=[]) H1) (Yk H.nU H.get hps hlen UR) (fun e g l ⟨Lu,_,h⟩=>hno e g Lu h)
  replace hcv:=hcv.go
  have e:(do let d ← Deferred.ofValue (.func (.func gf) #[] caps.toArray) [Value.func (.yield (w.heap.size+1)) #[] #[]].toArray;invoke d.target d.args:Sem Next).run P W1=.ok (.enter gf (#[.func (.yield (w.heap.size+1)) #[] #[]]++caps.toArray)) W1:=by
   simp [Deferred.ofValue,invoke,en]
  rw [e] at hcv
  refine (Q9 hcv).mono ?_
  rintro e w2 ⟨v,G2,L2,rfl,hch,hJ⟩
  have H2:=Hp.change (Li:=[]) H1 hch
  rcases hJ with ⟨Lu,rfl,hJ⟩|⟨c,Lu,rfl,hJ⟩
  ·have hl:=H2.own _ (jg)
   have H3:=(H2.upd (i:=0) rfl (FV (q.at .exhausted none) hl)).drop (Dq _ _)
   exact ⟨none,_,run_endLoop hl (by simp),hdone _ G2 Lu _ _ hch.gm hJ ⟨H.nU,H.get,by simp [H.uE],H3⟩⟩
  ·have hl:=H2.own _ (jg)
   have H3:=(H2.upd (i:=0) rfl (FV (q.at .exhausted (some c)) hl)).drop (Dq _ _)
   exact ⟨some c,_,run_endLoop hl (by simp),hstop _ c G2 Lu _ _ hch.gm hJ ⟨H.nU,H.get,by simp [H.uE],H3⟩⟩
theorem afk {fin:Bool} {B:OL} {ι κ:Type} {Lc:OL} {Bn:Operand} {ps:List Nat} {assign body:Code} {gf:FuncId} {caps:List aj} {xs:List AP} {Gi:GH}
  (Lv:Nat→ι→OL) (Lt:Nat→ι→OL) (inv:Nat→ι→GH→Prop) (cx:κ→Code) (Lx Gx:κ→OL) (BJ:κ→GH→Prop) (i0:ι)
  (H:St N D w0 F G0 G (B++(Lc++Lv 0 i0++Lt 0 i0)) T a w) (hg:ev T Bn=some (.func (.func gf) #[] caps.toArray)) (en:∀ args w,(callFunc gf args).run P w=.ok (.enter gf args) w) (hit:I5 P Gi B (.func (.func gf) #[] caps.toArray) xs fin) (hGi:∀ b o,Gi b=some o→G b=some o)
  (hno:fin=false→∀ i g,¬ inv xs.length i g) (hps:ps.all (Nat.blt · N)=true) (hlen:∀ k args g,xH xs k args g→args.length=ps.length) (hinv:∀ k i (G G':GH),(∀ b o,G b=some o→G' b=some o)→inv k i G→inv k i G') (Ur:∀ x (G G':GH),(∀ b o,G b=some o→G' b=some o)→BJ x G→BJ x G') (h0:inv 0 i0 G)
  (round:∀ (l:Nat) (xg uw:Obj) (bk:OL) (k:Nat) (args:List aj) (i:ι) (G1:GH) (w1:World) (F1:Nat→Prop) (B1:Code→Exit→Act→World→Prop) (a1:Act),xH xs k args G1→(∀ b o,G b=some o→G1 b=some o)→inv k i G1 →
   (∀ T' G2 L2 a2 w2 c,St N [] w1 F1 G1 G2 ((l,xg) :: L2) T' a2 w2→(∀ w3,St N [] w1 F1 G1 G2 ((l,uw) :: L2) T' a2 w3→WP (some l) P c (B1 c) a2 w3)→Exit.then (fun a2 w2=>∃ w3,(Instr.beginRound l).run P w2=.ok () w3∧c.wpIn (FW (some l)) 0 P (B1 c) a2 w3) (fun _ _ _=>False) .normal a2 w2) →
   (∀ i' T' G2 a2 w2 c,St N [] w1 F1 G1 G2 ((l,uw) :: (Lc++Lv (k+1) i'++(bk++Lt (k+1) i'))) T' a2 w2→inv (k+1) i' G2→B1 c .normal a2 w2) →
   (∀ x T' G2 a2 w2 c,St N [] w1 F1 G1 G2 ((l,uw) :: (Lc++Lx x++(bk++Gx x))) T' a2 w2→BJ x G2→(cx x=.ret→B1 c .ret a2 w2)∧∀ n,cx x=.exit n→B1 c (.exit n) a2 w2) →
   St N [] w1 F1 G1 G1 ((l,xg) :: (Lc++Lv k i++(bk++Lt k i))) (tu ps args T) a1 w1 →
   WP (some l) P assign (Exit.then (fun a2 w2=>∃ w3,(Instr.beginRound l).run P w2=.ok () w3∧body.wpIn (FW (some l)) 0 P (B1 body) a2 w3) (fun _ _ _=>False)) a1 w1)
  (hdone:∀ Dk i G1 a1 w1,(∀ b o,G b=some o→G1 b=some o)→inv xs.length i G1→St N ({ target:=.collected Dk,args:=#[] } :: D) w0 F G0 G1 ((Dk,.deferred (some [])) :: (Lc++Lv xs.length i++Lt xs.length i)) T a1 w1→Q .normal a1 w1)
  (hstop:∀ Dk x G1 a1 w1,(∀ b o,G b=some o→G1 b=some o)→BJ x G1→St N ({ target:=.collected Dk,args:=#[] } :: D) w0 F G0 G1 ((Dk,.deferred (some [])) :: (Lc++Lx x++Gx x)) T a1 w1→WP none P (cx x) Q a1 w1) :
  WP none P (.rangeFunc Bn ps.toArray assign body) Q a w:=by
 refine afj (J:=fun k g L=>∃ i,L=Lc++Lv k i++Lt k i∧inv k i g) (Jx:=fun c g L=>∃ x,c=cx x∧L=Lc++Lx x++Gx x∧BJ x g) H hg en hit hGi hps hlen (hno:=fun e g l ⟨i,_,h⟩=>hno e i g h) (fun k G G' L hm ⟨i,e,h⟩=>⟨i,e,hinv k i G G' hm h⟩) (fun c G G' L hm ⟨x,e1,e2,h⟩=>⟨x,e1,e2,Ur x G G' hm h⟩) ⟨i0,rfl,h0⟩ ?_ ?_ ?_
 ·rintro l q bk k args G1 L1 w1 a1 hk hm ⟨i,rfl,hi⟩ H1
  have pm:∀ A B:OL,(bk++(A++B)).Perm (A++(bk++B)):=fun A B=>by
   rw [← iQ,← iQ]
   exact List.Perm.append_right B qZ
  refine round l (q.at .ready none) (q.at .busy none) bk k args i G1 w1 _ (fun _=>roundPost P l _) a1 hk hm hi ?_ ?_ ?_ (H1.perm (List.Perm.cons _ (pm _ _)))
  ·intro T' G2 L2 a2 w2 c H2 h
   exact Yg H2 h
  ·intro i' T' G2 a2 w2 c H2 h2
   exact Kj none (H2.perm (List.Perm.cons _ (pm _ _).symm)) ⟨_,rfl,i',rfl,h2⟩
  ·intro x T' G2 a2 w2 c H2 h2
   have H3:=H2.perm (List.Perm.cons _ (pm _ _).symm)
   refine ⟨fun e=>?_,fun n e=>?_⟩
   ·exact Kj (some .ret) H3 ⟨_,_,rfl,x,e.symm,rfl,h2⟩
   ·exact Kj (some (.exit n)) H3 ⟨_,_,rfl,x,e.symm,rfl,h2⟩
 ·rintro Dk G1 L1 a1 w1 hm ⟨i,rfl,hi⟩ H1
  exact hdone Dk i G1 a1 w1 hm hi H1
 ·rintro Dk c G1 L1 a1 w1 hm ⟨x,rfl,rfl,hx⟩ H1
  exact hstop Dk x G1 a1 w1 hm hx H1
end
end
section
open Go.RowKit
theorem IL:prog.underlying 95=some (.map 3 3):=by kernel_rfl
theorem qQ:Ty prog 31 1 24 [.slice none 0 0] false:=⟨by kernel_rfl,by kernel_rfl⟩
theorem R9:dL prog 156 3 3:=⟨by kernel_rfl⟩
theorem YX:∀ args w,(callFunc 198 args).run prog w=.ok (.enter 198 args) w:=enters func198 rfl (by kernel_rfl)
theorem abm {x:Int}:∀ {l:List Int} {i n:Nat},wV x i l=some n→n < i+l.length
 | [],_,_,h=>by cases h
 | k :: r,i,n,h=>by
  rw [wV] at h;split at h
  ·cases h;simp
  have:=abm h;simp only [jZ];omega
def Ab (l:List bS):Nat→Int→List bS
 | 0,_=>[]
 | f+1,id=>if id=0 then [] else match wV id 0 (l.map bS.id) with|none=>[]|some i=>match l[i]? with|none=>[]|some s=>s :: Ab l f s.base
def Jg (l:List bS) (id:Int):List bS:=Ab l (l.length+1) id
theorem afB {l:List bS} {f:Nat} {id:Int} (h:id=0):Ab l f id=[]:=by
 cases f with
 | zero=>rfl
 | succ f=>rw [Ab,au h]
theorem afz {l:List bS} {f:Nat} {id:Int} (h0:¬ id=0) (h:wV id 0 (l.map bS.id)=none):Ab l f id=[]:=by
 cases f with
 | zero=>rfl
 | succ f=>rw [Ab,ah h0,h]
theorem afA {l:List bS} {f i:Nat} {id:Int} (h0:¬ id=0) (h:wV id 0 (l.map bS.id)=some i) (hi:i < l.length):Ab l (f+1) id=l[i] :: Ab l f l[i].base:=by
 rw [Ab,ah h0,h];dsimp only;rw [fH hi]
def stP (x:bS):AP:=fun args g=>∃ cs,args=[.agg cs.toArray]∧bM g x.dat cs
theorem adf {A:List bS} {k:Nat} {args:List aj} {g:GH} (h:xH (A.map stP) k args g):∃ (hk:k < A.length) (cs:List aj),args=[.agg cs.toArray]∧bM g A[k].dat cs:=by
 obtain ⟨p,hp,hargs⟩:=h;rw [oQ] at hp;obtain ⟨q,hq,rfl⟩:=oD.1 hp;obtain ⟨hk,rfl⟩:=kG.1 hq;obtain ⟨cs,h1,h2⟩:=hargs;exact ⟨hk,cs,h1,h2⟩
abbrev bI (b:Nat) (n:Int):Nat × Obj:=(b,.cells #[vi n] 3 (0,0))
set_option maxHeartbeats 1000000 in
theorem afC {G:GH} {bl bi:Nat} {l:List bS} {id:Int} {v:aj} (hb:aF G bl 0=some v) (hv:aB G (.sl 6 (l.map bS.dat)) v) (hnd:∀ (k:Nat) (h:k < l.length),l[k].id∉(l.take k).map bS.id) :
  I5 prog G [bI bi id] (.func (.func 198) #[] #[(aP bl 0),(aP bi 0)]) ((Jg l id).map stP) (decide ((Jg l id).length≤l.length)):=by
 intro J Jx fv G1 L w0 D6 hGi mM hJx hJ hO hcb hfin;refine nk (caps:=[(aP bl 0),(aP bi 0)]) YX ?_;obtain ⟨A,c,rfl,hc1,hc2,-⟩:=hv.slice;have hml:maxLen=9223372036854775807:=rfl;rw [bN] at *;replace hb:=aJ hGi hb;replace hv:=hv.mono hGi;refine kS (N:=46) (T:=[(0,_),(1,_),(2,_)]) func198 rfl ntmps198 rfl rfl hO ?_;intro a H;refine cO (fun _ K1=>?_);refine FQ H wn rfl ?_;clear H;intro bm a w hbm H;refine kH H (ak K1 rfl (SQ fun _ K2=>SR fun _ K3=>Rg qQ rfl (by assumption) ?_));clear H K1;intro a H;refine kH H (Rl nR rfl (Rm rfl (Kz K3 (SB ?_))));clear H K3;intro a H;skip;refine dV (ι:=Nat) (Tc:=[(0,_),(1,_),(2,_),(4,_),(10,_),(11,_)]) (Lc:=[(_,_)]) (fun gh=>[(12,vi gh)]) (fun gh=>[aeS bm ((l.take gh).map bS.id)]++L) (fun gh=>G1) (fun gh=>gh≤l.length) (fun gh=>l.length - gh) (0) (by exact (H.dx (Pl:=[_,_]) (bZ:=[_,_]) [1,0] (by decide) rfl).sub ⟨rfl,rfl,rfl,rfl,rfl,rfl,rfl,av⟩) ?_ ?_
 ·exact fQ _
 clear H;intro k a w hI H;have hk:=hI;dsimp only [lca,aO] at H;refine kP H (SR fun _ K4=>Rc rfl (Kz K4 (SQ fun _ K5=>Cd rfl ?_ ?_))) <;> clear H K4
 ·intro eO a H
  try have nZ:=dT eO
  have hk2:k < l.length:=by omega
  obtain ⟨b,o,pA,pc,rfl,hrow,hp,hrep⟩:=BQ hv hk2;have akJ:=hnd k hk2
  have hlk:((l.take k).map bS.id).length=k:=by rw [bN,List.length_take];omega
  have hnx:(l.take k).map bS.id++[l[k].id]=(l.take (k+1)).map bS.id:=by rw [lG hk2,kZ];rfl
  refine kP H (Kc K5 (SQ fun _ K6=>SB (SR fun _ K7=>Rm rfl (Ri nR kN rfl rfl ?_))));clear H K5;intro a H;refine bK kN (cs:=[_,_,_,_,_,_]) H wn rfl rfl (fun j v hj=>H.hp.aF (hrow j v hj)) rfl ?_;clear H;intro a H;refine dY kN H wn rfl ?_;clear H;intro b6 a w hb6 H;refine kH H (Ra rfl ?_);clear H;intro a H;refine bT kN 0 (vs:=[_,_,_,_,_,_]) _ H wn rfl rfl rfl rfl rfl rfl rfl rfl ?_;clear H;intro w H;dsimp only [List.set,setRow] at H;refine K7 _ _ ?_;clear K7;refine kP H (SC (Rm rfl (aR wE aD 0 rfl rfl (Rm rfl ?_))));clear H;intro a H;refine acJ (i:=2) (ky:=vi l[k].id) (v:=vi k) IL nD H wn rfl rfl rfl rfl (by trivial) (by rw [List.toList_toArray,Sn,abn akJ];rfl) ?_;clear H;intro w H
  have hpush:((zD 0 ((l.take k).map bS.id)).toArray.push ⟨vi l[k].id,vi k,((l.take k).map bS.id).length⟩)=(zD 0 ((l.take (k+1)).map bS.id)).toArray:=by rw [← hnx,← amT,hlk]
  rw [hpush,show ((l.take k).map bS.id).length+1=((l.take (k+1)).map bS.id).length by rw [← hnx];simp] at H;refine kH H (Kn K6 (SC (Rd rfl (Rm rfl ?_))));clear H K6;intro a H;refine aH ?_;refine cB ((k+1)) (by exact (H.dx (Pl:=[_,_,_]) (bZ:=[_,_]) [1,2] (by decide) rfl).sub ⟨rfl,rfl,rfl,rfl,rfl,rfl,rfl,av⟩) ?_ ?_
  ·exact by omega
  first|omega|(dsimp only;omega)
 intro eO a H
 try have nZ:=dF eO
 obtain rfl:k=l.length:=by omega
 rw [zZ] at H;refine dJ ?_;refine K2 _ _ ?_;clear K2;refine uy ?_;skip;refine dV (ι:=Int × Nat × Nat × OL × GH) (Tc:=[(0,_),(1,_),(2,_),(4,_)]) (Lc:=[(_,_)]) (fun gh=>[]) (fun gh=>[bI bi gh.1]++gh.2.2.2.1) (fun gh=>gh.2.2.2.2) (fun gh=>(∀ b o,G1 b=some o→gh.2.2.2.2 b=some o)∧Now ((Jg l id).map stP) stP J (Jg l id).length gh.2.2.1 (Ab l gh.2.1 gh.1) gh.2.2.2.2 gh.2.2.2.1∧gh.2.2.1+gh.2.1=l.length+1) (fun gh=>gh.2.1) ((id,l.length+1,0,L,G1)) (by exact (H.dx (Pl:=[_,_]) (bZ:=[_,_]) [1,0] (by decide) rfl).sub ⟨rfl,rfl,rfl,rfl,av⟩) ?_ ?_
 ·exact ⟨fun _ _ h=>h,⟨hJ,fun i a h=>by rw [ng,oQ];rw [show Ab l (l.length+1) id=Jg l id from rfl] at h;rw [h];rfl,ng _⟩,ng _⟩
 clear H;rintro ⟨i,f,j1,Lt,g⟩ a w hI H;dsimp only at hI H;obtain ⟨hgm,bP,hjf⟩:=hI;have hbg:=aJ hgm hb;dsimp only [lca,aO] at H;refine kP H (SQ fun _ K8=>SR fun _ K9=>Ro aD 1 rfl (Rc rfl (Kz K9 (Cd rfl ?_ ?_)))) <;> clear H K9
 ·intro h23 a H
  try have CP:=dT h23
  have h0:¬ i=0:=by simpa using h23
  obtain ⟨an,han⟩:∃ an,an=wV i 0 (l.map bS.id):=⟨_,rfl⟩;have hfn:=Sn i 0 0 (l.map bS.id);rw [← han] at hfn;refine kP H (Kc K8 (SB (SR fun _ aU=>Rm rfl (Ro aD 1 rfl ?_))));clear H K8;intro a H;refine aoM (i:=0) (zv:=vi 0) _ IL nD (by kernel_rfl) H wn rfl rfl rfl (by trivial) (by simpa using hfn) rfl ?_;clear H;intro a H;refine kH H (Rm rfl ?_);clear H;intro a H;(iterate 2 refine nQ H wn rfl rfl rfl ?_;clear H;intro a H);refine kH H (Ra rfl (ak aU rfl (SQ fun _ bD=>SR fun _ bE=>Rm rfl (Rn rfl (Rm rfl (Sp 32 rfl ?_ ?_)))))) <;> clear H aU
  ·intro h32 a H
   try have p32:=dT h32
   obtain rfl:an=none:=by
    cases an with
    | none=>rfl
    | some n=>simp [Ej] at h32
   rw [afz h0 han.symm] at bP;refine kH H (aZ h32 rfl (aT h32 rfl (aT h32 rfl (Pt h32 rfl (Kz bE (Ct rfl rfl ?_))))));clear H bE;intro a H;refine dK ?_;refine (leave0 H results198 ?_).1;refine H.hp.bU (L':=Lt) (by repeat (first|exact cu _|apply List.Sublist.cons)) (.inl ?_);have h:=bP.len
   simp only [List.length_nil,nT] at h
   rw [← h];exact bP.now
  intro h32 a H
  try have p32:=dF h32
  obtain ⟨n,rfl⟩:∃ n,an=some n:=by
   cases an with
   | none=>simp [Ej] at h32
   | some n=>exact ⟨n,rfl⟩
  have hnl:n < l.length:=by have:=abm han.symm;simpa using this
  obtain ⟨f',rfl⟩:∃ f',f=f'+1:=by
   cases f with
   | succ f'=>exact ⟨f',rfl⟩
   | zero =>
    exfalso
    have hl:=bP.len
    simp only [Ab,List.length_nil,nT] at hl
    refine hfin (iV (by omega)) g Lt ?_;rw [← hl];exact bP.now
  rw [afA h0 han.symm hnl] at bP;dsimp only [Ej,Option.map_some] at H;obtain ⟨b,o,pA,pc,rfl,hrow,hp,hrep⟩:=BQ (hv.mono hgm) hnl;refine kH H (YM h32 rfl (YR qQ h32 rfl (by assumption) ?_));clear H;intro a H;refine kH H (YM h32 rfl (YI nR kN h32 rfl rfl ?_));clear H;intro a H;refine bK kN (cs:=[_,_,_,_,_,_]) H (wg H rfl rfl h32) rfl rfl (fun j v hj=>H.hp.aF (hrow j v hj)) rfl ?_;clear H;intro a H;refine rP (Li:=[_,_]) (L:=Lt) H (wg H rfl rfl h32) rfl rfl (hcb j1 _ _ _ _ ⟨_,bP.head,_,rfl,hrep⟩ hgm bP.now (Hp.owns (Li:=[_,_]) H.hp)) rfl ?_;clear H;rintro v38 Xc XL a w ⟨b38,rfl,hb1,hb2⟩ Uw H;have hbg:=aJ Uw hbg;have r3:=aJ Uw (hrow 3 _ rfl);refine kH H (YN h32 rfl (Pf h32 rfl (Kz bE (Cd rfl ?_ ?_)))) <;> clear H bE
  ·intro qJ a H
   try have p40:=dT qJ
   refine dK ?_;refine (leave0 H results198 ?_).1;exact H.hp.bU (L':=XL) (by repeat (first|exact cu _|apply List.Sublist.cons)) (.inr (hb2 (by simpa using qJ)))
  intro qJ a H
  try have p40:=dF qJ
  refine kP H (Kc bD (SC (Rg qQ rfl (by assumption) ?_)));clear H bD;intro a H;refine kH H (Rm rfl (Ri nR kN rfl rfl (Rf R9 rfl (Rg aD rfl (by assumption) ?_))));clear H;intro a H;refine bT aD 1 (vs:=[_]) _ H wn rfl rfl rfl rfl rfl rfl rfl rfl ?_;clear H;intro w H;dsimp only [List.set,setRow] at H;refine aH ?_;refine cB ((l[n].base,f',j1+1,XL,Xc)) (by exact (H).sub ⟨rfl,rfl,rfl,rfl,av⟩) ?_ ?_
  ·(try dsimp only);exact ⟨fun b o h=>Uw b o (hgm b o h),bP.step (hb1 (by simpa using qJ)),by omega⟩
  first|omega|(dsimp only;omega)
 intro h23 a H
 try have CP:=dF h23
 refine dJ ?_;refine (leave0 H results198 ?_).2;rw [afB (by simpa using h23)] at bP;refine H.hp.bU (L':=Lt) (by repeat (first|exact cu _|apply List.Sublist.cons)) (.inl ?_);have h:=bP.len
 simp only [List.length_nil,nT] at h
 rw [← h];exact bP.now
end
section
open Go.RowKit
theorem agH:∀ args w,(callFunc 155 args).run prog w=.ok (.enter 155 args) w:=enters func155 rfl (by kernel_rfl)
theorem agG:∀ args w,(callFunc 153 args).run prog w=.ok (.enter 153 args) w:=enters func153 rfl (by kernel_rfl)
theorem RF:∀ args w,(callFunc 154 args).run prog w=.ok (.enter 154 args) w:=enters func154 rfl (by kernel_rfl)
theorem Ol:dL prog 156 4 4:=⟨by kernel_rfl⟩
theorem afD {G:GH} {w0:World} (hO:iT G [] w0) (l:List bS) (id:Int) (v:aj) (hv:aB G (.sl 6 (l.map bS.dat)) v) :
  Calls prog 155 #[v,vi id] w0 (iE w0 G [] fun u G' L'=>∃ bl bi,u=.func (.func 198) #[] #[(aP bl 0),(aP bi 0)]∧L'=[bI bi id]∧aF G' bl 0=some v):=by
 obtain ⟨A,c,rfl,hc1,hc2,-⟩:=hv.slice;refine kS (N:=6) (T:=[(0,_),(1,_)]) func155 rfl ntmps155 rfl rfl hO ?_;intro a H;refine cO (fun _ K1=>?_);refine fD (cs:=[_]) H wn rfl rfl rfl ?_;clear H;intro b2 a w hb2 H;refine fD (cs:=[_]) H wn rfl rfl rfl ?_;clear H;intro b3 a w hb3 H;refine kH H (ak K1 rfl (SR fun _ K2=>?_));clear H K1;intro a H;refine pO H wn rfl rfl ?_;clear H;intro a H;refine kH H (ak K2 rfl ?_);clear H K2;intro a H;refine lr H results155 rfl ?_;have H:=H.dx (Pl:=[_,_]) (bZ:=[_,_]) [1,0] (by decide) rfl;obtain ⟨Ga,hma,hb2',H⟩:=H.eD;exact H.hp.gB ⟨b2,b3,rfl,rfl,by unfold aF;rw [hb2'];rfl⟩
def uF (p:Nat→Int):Nat→Nat→Int
 | _,0=>0
 | k,n+1=>if p k=0 then uF p (k+1) n else p k
theorem ahV {p:Nat→Int} {k m:Nat} (h:k < m):uF p k (m - k)=if p k=0 then uF p (k+1) (m - (k+1)) else p k:=by
 obtain ⟨n,hn⟩:∃ n,m - k=n+1:=⟨m - k - 1,by omega⟩;rw [hn,uF,show m - (k+1)=n by omega]
theorem ahU {p:Nat→Int} {k m:Nat} (h:m≤k):uF p k (m - k)=0:=by rw [show m - k=0 by omega];rfl
theorem Zi {p:Nat→Int}:∀ {n k:Nat},uF p k n=0→∀ j,k≤j→j < k+n→p j=0
 | 0,k,_,j,h1,h2=>by omega
 | n+1,k,h,j,h1,h2=>by
  rw [uF] at h;split at h
  ·rename_i hp
   by_cases e:j=k
   ·rw [e];exact hp
   exact Zi h j (by omega) (by omega)
  rename_i hp;exact absurd h hp
def BK (l:List bS) (k:Nat):Int:=match l[k]? with|some s=>jI l k s|none=>0
theorem ace {l:List bS} {k:Nat} (h:k < l.length):BK l k=jI l k l[k]:=by unfold BK;rw [fH h]
def vw (l:List bS) (s:bS):Bool:=(decide (s.base≠0) && !Ij l s.kind s.base) || (decide (s.next≠0) && (decide (s.kind=2) || !Ij l 1 s.next))
def Rt (l:List bS) (s:bS):Bool:=decide (l.length < (Jg l s.id).length)
def gM (l:List bS):Int:=if 128 < l.length then 9 else if uF (BK l) 0 l.length≠0 then uF (BK l) 0 l.length else if l.any (vw l)=true then 25 else if l.any (Rt l)=true then 16 else 0
theorem ant {l:List bS} (h:uF (BK l) 0 l.length=0) {k:Nat} (hk:k+1 < l.length):l[k].id < l[k+1].id:=by
 have h1:=Zi h (k+1) (fQ _) (by omega);rw [ace hk,jI,nA] at h1
 have hp:Ar l (k+1)=some l[k].id:=by rw [Ar,ah (by omega),Nat.add_sub_cancel,fH (by omega)];rfl
 rw [hp] at h1
 split at h1
 ·cases h1
 split at h1
 ·cases h1
 split at h1
 ·cases h1
 rename_i _ h2 h3
 have h2':¬ l[k].id=l[k+1].id:=fun e=>h2 (by rw [e]);have h3':¬ l[k+1].id < l[k].id:=fun e=>h3 (aG e)
 omega
theorem acf {l:List bS} (h:uF (BK l) 0 l.length=0):∀ {k j:Nat} (hk:k < l.length) (hj:j < k),l[j].id < l[k].id
 | k+1,j,hk,hj=>by
  have h1:=ant h hk
  by_cases e:j=k
  ·subst e;exact h1
  have:=acf h (k:=k) (j:=j) (by omega) (by omega)
  omega
theorem acg {l:List bS} (h:uF (BK l) 0 l.length=0) (k:Nat) (hk:k < l.length):l[k].id∉(l.take k).map bS.id:=by
 intro hm;obtain ⟨x,hx1,hx2⟩:=List.mem_map.1 hm;obtain ⟨j,hj,rfl⟩:=List.getElem_of_mem hx1;rw [List.getElem_take] at hx2;rw [List.length_take] at hj;have:=acf h hk (j:=j) (by omega)
 omega
theorem Lj {α:Type} {p:α→Bool} {l:List α} {k:Nat} (hk:k < l.length) (h:(l.take k).any p=false) (hp:p l[k]=false):(l.take (k+1)).any p=false:=by
 rw [lG hk,List.any_append,h];simp [hp]
theorem xO {α:Type} {p:α→Bool} {l:List α} {k:Nat} (hk:k < l.length) (hp:p l[k]=true):l.any p=true:=List.any_eq_true.2 ⟨_,jD hk,hp⟩
theorem Ch {α:Type} {p:α→Bool} {l:List α} {k:Nat} (hk:l.length≤k) (h:(l.take k).any p=false):¬ l.any p=true:=by
 rw [mF hk] at h;rw [h];decide
set_option maxHeartbeats 1000000 in
theorem Yo (G:GH) (w0:World) (hG:Hold G w0) (l:List bS) (v:aj) (hv:aB G (.sl 6 (l.map bS.dat)) v) (hN:∀ s∈l,s.name.size≤4611686018427387904) :
  Calls prog 90 #[v] w0 (bV w0 G fun u G'=>u=vi (gM l)):=by
 obtain ⟨A,c,rfl,hc1,hc2,-⟩:=hv.slice;have hml:maxLen=9223372036854775807:=rfl;rw [bN] at *;refine eN [(0,_)] func90 rfl ntmps90 rfl rfl hG ?_;intro a H;refine cO (fun _ K1=>?_);refine fD (cs:=[_]) H wn rfl rfl rfl ?_;clear H;intro b1 a w hb1 H;refine dY iO H wn rfl ?_;clear H;intro b2 a w hb2 H;refine K1 _ _ ?_;clear K1;refine kP H (SQ fun _ K2=>SR fun _ K3=>Ro qQ 1 rfl (Rl nR rfl (Rc rfl (Kz K3 (Cd rfl ?_ ?_))))) <;> clear H K3
 ·intro h12 a H
  try have qm:=dT h12
  refine cO (fun _ K4=>?_);refine bT iO 0 (vs:=[_]) _ H wn rfl rfl rfl rfl rfl rfl rfl rfl ?_;clear H;intro w H;dsimp only [List.set,setRow] at H;refine K4 _ _ ?_;clear K4;refine dK ?_;refine (leave1 H results90 (.cons (BM iO H rfl (H.hp.tN 0 rfl rfl)) .nil) ?_).1
  first
   | exact H.rt (ay vi (by rw [gM,au (by omega)]))
   | exact H.rt (ay vi (by rw [ah (by simpa using jv)] at heq;rw [gM,ah (by omega),← heq,au (by simpa using jv)]))
   | exact H.rt (ay vi (by rw [gM,ah (by omega),ah (by rw [hok];decide),au hbad]))
   | exact H.rt (ay vi (by rw [gM,ah (by omega),ah (by rw [hok];decide),ah hbad,au (xO hj2 hI)]))
   | exact H.rt (ay vi (by rw [gM,ah (by omega),ah (by rw [hok];decide),ah hbad,ah (Ch (by omega) hnc)]))
 intro h12 a H
 try have qm:=dF h12
 refine kP H (Kc K2 (SQ fun _ K5=>SR fun _ K6=>Ro qQ 1 rfl (Rl nR rfl (Rm rfl (Kz K6 (SB ?_))))));clear H K2 K6;intro a H;skip;refine dV (ι:=Nat × GH) (Tc:=[(1,_),(2,_),(14,_)]) (Lc:=[(_,_),(_,_)]) (fun gh=>[(15,vi gh.1)]) (fun gh=>[]) (fun gh=>gh.2) (fun gh=>gh.1≤l.length∧uF (BK l) gh.1 (l.length - gh.1)=uF (BK l) 0 l.length∧(∀ b o,G b=some o→gh.2 b=some o)) (fun gh=>l.length - gh.1) ((0,G)) (by exact (H).sub ⟨rfl,rfl,rfl,rfl,av⟩) ?_ ?_
 ·exact ⟨fQ _,rfl,fun _ _ h=>h⟩
 clear H;rintro ⟨k,g⟩ a w hI H;dsimp only at hI H;obtain ⟨hk,heq,hgm⟩:=hI;dsimp only [lca,aO] at H;refine kP H (SR fun _ K7=>Rc rfl (Kz K7 (SQ fun _ K8=>Cd rfl ?_ ?_))) <;> clear H K7
 ·intro h16 a H
  try have p16:=dT h16
  have hk2:k < l.length:=by omega
  rw [ahV hk2,ace hk2] at heq;refine kP H (Kc K8 (SQ fun _ K9=>SB (SR fun _ aU=>Rm rfl (ak aU rfl (SR fun _ bD=>Ro qQ 1 rfl (Rm rfl ?_))))));clear H K8 aU;intro a H;refine s_call agG H wn rfl (anu _ _ H.ro l k _ (hv.mono hgm) hk2 (hN _ (jD hk2))) rfl ?_;clear H;rintro v20 IX a w rfl JK H;refine kH H (ak bD rfl (SR fun _ bE=>Rm rfl (Rc rfl (Kz bE (Cd rfl ?_ ?_))))) <;> clear H bD bE
  ·intro h22 a H
   try have jv:=dT h22
   refine kP H (SR fun _ bQ=>Rm rfl ?_);clear H;intro a H;refine bT iO 0 (vs:=[_]) _ H wn rfl rfl rfl rfl rfl rfl rfl rfl ?_;clear H;intro w H;dsimp only [List.set,setRow] at H;refine bQ _ _ ?_;clear bQ;refine dK ?_;refine (leave1 H results90 (.cons (BM iO H rfl (H.hp.tN 0 rfl rfl)) .nil) ?_).1
   first
    | exact H.rt (ay vi (by rw [gM,au (by omega)]))
    | exact H.rt (ay vi (by rw [ah (by simpa using jv)] at heq;rw [gM,ah (by omega),← heq,au (by simpa using jv)]))
    | exact H.rt (ay vi (by rw [gM,ah (by omega),ah (by rw [hok];decide),au hbad]))
    | exact H.rt (ay vi (by rw [gM,ah (by omega),ah (by rw [hok];decide),ah hbad,au (xO hj2 hI)]))
    | exact H.rt (ay vi (by rw [gM,ah (by omega),ah (by rw [hok];decide),ah hbad,ah (Ch (by omega) hnc)]))
  intro h22 a H
  try have jv:=dF h22
  refine kP H (Kc K9 (SC (Rd rfl (Rm rfl ?_))));clear H K9;intro a H;refine aH ?_;refine cB ((k+1,IX)) (by exact (H).sub ⟨rfl,rfl,rfl,rfl,av⟩) ?_ ?_
  ·(try dsimp only);exact ⟨by omega,by rw [au (by simpa using jv)] at heq;exact heq,fun b o h=>JK b o (hgm b o h)⟩
  first|omega|(dsimp only;omega)
 intro h16 a H
 try have p16:=dF h16
 have hok:uF (BK l) 0 l.length=0:=by rw [← heq];exact ahU (by omega)
 clear heq;have Ig:=hv.mono hgm;refine dJ ?_;refine K5 _ _ ?_;clear K5;refine kP H (SQ fun _ bR=>SR fun _ bW=>Ro qQ 1 rfl (Rl nR rfl (Rm rfl (Kz bW (SB ?_)))));clear H bW;intro a H;skip;refine dV (ι:=Nat × GH) (Tc:=[(1,_),(2,_),(25,_),(26,_)]) (Lc:=[(_,_),(_,_)]) (fun gh=>[(27,vi gh.1)]) (fun gh=>[]) (fun gh=>gh.2) (fun gh=>gh.1≤l.length∧(l.take gh.1).any (vw l)=false∧(∀ b o,g b=some o→gh.2 b=some o)) (fun gh=>l.length - gh.1) ((0,g)) (by exact (H).sub ⟨rfl,rfl,rfl,rfl,rfl,av⟩) ?_ ?_
 ·exact ⟨fQ _,rfl,fun _ _ h=>h⟩
 clear H;rintro ⟨k,g2⟩ a w hI H;dsimp only at hI H;obtain ⟨hk3,hno,kI⟩:=hI;have BI:=Ig.mono kI;dsimp only [lca,aO] at H;refine kP H (SR fun _ cK=>Rc rfl (Kz cK (SQ fun _ bY=>Cd rfl ?_ ?_))) <;> clear H cK
 ·intro iK a H
  try have p28:=dT iK
  have hk4:k < l.length:=by omega
  obtain ⟨b,o,pA,pc,rfl,hrow,hp,hrep⟩:=BQ BI hk4;refine kP H (Kc bY (SQ fun _ dG=>SB (SR fun _ dN=>Ri nR kN rfl rfl ?_)));clear H bY;intro a H;refine bK kN (cs:=[_,_,_,_,_,_]) H wn rfl rfl (fun j v hj=>H.hp.aF (hrow j v hj)) rfl ?_;clear H;intro a H;refine dY kN H wn rfl ?_;clear H;intro b6 a w hb6 H;refine bT kN 0 (vs:=[_,_,_,_,_,_]) _ H wn rfl rfl rfl rfl rfl rfl rfl rfl ?_;clear H;intro w H;dsimp only [List.set,setRow] at H;refine dN _ _ ?_;clear dN;refine kP H (SR fun _ dH=>aR R9 aD 0 rfl rfl (Rc rfl (Rm rfl (Sp 34 rfl ?_ ?_)))) <;> clear H
  ·intro dZ a H
   try have p34:=dT dZ
   refine kH H (YO qQ 2 dZ rfl (YF ze dZ rfl (YO aD 0 dZ rfl (YF R9 dZ rfl (YO aD 0 dZ rfl ?_)))));clear H;intro a H;refine s_call RF H (wg H rfl rfl dZ) rfl (Vf _ _ H.ro l l[k].kind l[k].base _ BI) rfl ?_;clear H;rintro v40 g2 a w rfl D9 H;replace kI:=fun b o (h:g b=some o)=>D9 b o (kI b o h);replace BI:=BI.mono D9;refine kH H (YN dZ rfl (Pt dZ rfl (Rm rfl (Sp 43 rfl ?_ ?_)))) <;> clear H
   ·intro h43 a H
    try have p43:=dT h43
    refine kH H (aT h43 rfl (aT h43 rfl (Ku rfl (Ku rfl (Ku rfl (Ku rfl (Ku rfl (Ku rfl (Ku rfl (Ku rfl (Ku rfl (Ku rfl (Ks h43 rfl (Pt h43 rfl (Kz dH (Ct rfl rfl (SQ fun _ dP=>?_)))))))))))))))));clear H dH;intro a H;have hbad:l.any (vw l)=true:=xO hk4 (by unfold vw;simp_all);refine rz ?_;refine bT iO 1 (vs:=[_]) _ H wn rfl rfl rfl rfl rfl rfl rfl rfl ?_;clear H;intro w H;dsimp only [List.set,setRow] at H;refine aH ?_;refine dP _ _ ?_;clear dP;refine dK ?_;refine (leave1 H results90 (.cons (BM iO H rfl (H.hp.tN 1 rfl rfl)) .nil) ?_).1
    first
     | exact H.rt (ay vi (by rw [gM,au (by omega)]))
     | exact H.rt (ay vi (by rw [ah (by simpa using jv)] at heq;rw [gM,ah (by omega),← heq,au (by simpa using jv)]))
     | exact H.rt (ay vi (by rw [gM,ah (by omega),ah (by rw [hok];decide),au hbad]))
     | exact H.rt (ay vi (by rw [gM,ah (by omega),ah (by rw [hok];decide),ah hbad,au (xO hj2 hI)]))
     | exact H.rt (ay vi (by rw [gM,ah (by omega),ah (by rw [hok];decide),ah hbad,ah (Ch (by omega) hnc)]))
   intro h43 a H
   try have p43:=dF h43
   refine kH H (YF Ol h43 rfl (YO aD 0 h43 rfl (YC h43 rfl (YM h43 rfl (Sp 47 rfl ?_ ?_))))) <;> clear H
   ·intro h47 a H
    try have p47:=dT h47
    refine kH H (YF ze h47 rfl (YO aD 0 h47 rfl (YC h47 rfl (YM h47 rfl (Sp 51 rfl ?_ ?_))))) <;> clear H
    ·intro lH a H
     try have p51:=dT lH
     refine kH H (aZ lH rfl (aT lH rfl (PT h47 lH rfl (PT h43 h47 rfl (Pf h43 rfl (Kz dH (Ct rfl rfl (SQ fun _ eT=>?_))))))));clear H dH;intro a H;have hbad:l.any (vw l)=true:=xO hk4 (by unfold vw;simp_all);refine rz ?_;refine bT iO 1 (vs:=[_]) _ H wn rfl rfl rfl rfl rfl rfl rfl rfl ?_;clear H;intro w H;dsimp only [List.set,setRow] at H;refine aH ?_;refine eT _ _ ?_;clear eT;refine dK ?_;refine (leave1 H results90 (.cons (BM iO H rfl (H.hp.tN 1 rfl rfl)) .nil) ?_).1
     first
      | exact H.rt (ay vi (by rw [gM,au (by omega)]))
      | exact H.rt (ay vi (by rw [ah (by simpa using jv)] at heq;rw [gM,ah (by omega),← heq,au (by simpa using jv)]))
      | exact H.rt (ay vi (by rw [gM,ah (by omega),ah (by rw [hok];decide),au hbad]))
      | exact H.rt (ay vi (by rw [gM,ah (by omega),ah (by rw [hok];decide),ah hbad,au (xO hj2 hI)]))
      | exact H.rt (ay vi (by rw [gM,ah (by omega),ah (by rw [hok];decide),ah hbad,ah (Ch (by omega) hnc)]))
    intro lH a H
    try have p51:=dF lH
    refine kH H (YO qQ 2 lH rfl (YF Ol lH rfl (YO aD 0 lH rfl ?_)));clear H;intro a H;refine s_call RF H (wg H rfl rfl lH) rfl (Vf _ _ H.ro l 1 l[k].next _ BI) rfl ?_;clear H;rintro v55 g2 a w rfl wT H;replace kI:=fun b o (h:g b=some o)=>wT b o (kI b o h);replace BI:=BI.mono wT;refine kH H (YN lH rfl (PF h47 lH rfl (PT h43 h47 rfl (Pf h43 rfl (Kz dH (Cd rfl ?_ ?_)))))) <;> clear H dH
    ·intro jk a H
     try have p59:=dT jk
     refine aN (fun _ fP=>?_);have hbad:l.any (vw l)=true:=xO hk4 (by unfold vw;simp_all);refine rz ?_;refine bT iO 1 (vs:=[_]) _ H wn rfl rfl rfl rfl rfl rfl rfl rfl ?_;clear H;intro w H;dsimp only [List.set,setRow] at H;refine aH ?_;refine fP _ _ ?_;clear fP;refine dK ?_;refine (leave1 H results90 (.cons (BM iO H rfl (H.hp.tN 1 rfl rfl)) .nil) ?_).1
     first
      | exact H.rt (ay vi (by rw [gM,au (by omega)]))
      | exact H.rt (ay vi (by rw [ah (by simpa using jv)] at heq;rw [gM,ah (by omega),← heq,au (by simpa using jv)]))
      | exact H.rt (ay vi (by rw [gM,ah (by omega),ah (by rw [hok];decide),au hbad]))
      | exact H.rt (ay vi (by rw [gM,ah (by omega),ah (by rw [hok];decide),ah hbad,au (xO hj2 hI)]))
      | exact H.rt (ay vi (by rw [gM,ah (by omega),ah (by rw [hok];decide),ah hbad,ah (Ch (by omega) hnc)]))
    intro jk a H
    try have p59:=dF jk
    refine kP H (Kc dG (SC (Rd rfl (Rm rfl ?_))));clear H dG;intro a H;refine aH ?_;refine cB ((k+1,g2)) (by exact (H.dx (Pl:=[_,_,_]) (bZ:=[_,_]) [1,2] (by decide) rfl).sub ⟨rfl,rfl,rfl,rfl,rfl,av⟩) ?_ ?_
    ·(try dsimp only);exact ⟨by omega,Lj hk4 hno (by unfold vw;simp_all),kI⟩
    first|omega|(dsimp only;omega)
   intro h47 a H
   try have p47:=dF h47
   refine kH H (aT h47 rfl (aT h47 rfl (Ku rfl (Ku rfl (Ku rfl (Ku rfl (Ku rfl (Ks h47 rfl (PF h43 h47 rfl (Pf h43 rfl (Kz dH (Cf rfl rfl (Kc dG (SC (Rd rfl (Rm rfl ?_))))))))))))))));clear H dH dG;intro a H;refine aH ?_;refine cB ((k+1,g2)) (by exact (H.dx (Pl:=[_,_,_]) (bZ:=[_,_]) [1,2] (by decide) rfl).sub ⟨rfl,rfl,rfl,rfl,rfl,av⟩) ?_ ?_
   ·(try dsimp only);exact ⟨by omega,Lj hk4 hno (by unfold vw;simp_all),kI⟩
   first|omega|(dsimp only;omega)
  intro dZ a H
  try have p34:=dF dZ
  refine kH H (aZ dZ rfl (aT dZ rfl (aT dZ rfl (Pf dZ rfl (Rm rfl ?_)))));clear H;intro a H;refine Km Ol H (wg H rfl rfl rfl) rfl rfl ?_;clear H;intro a H;refine zK aD H (wg H rfl rfl rfl) rfl (H.hp.tN 0 rfl rfl) rfl ?_;clear H;intro a H;refine FP H (wg H rfl rfl rfl) rfl rfl rfl rfl ?_;clear H;intro a H;refine En H (wg H rfl rfl rfl) rfl rfl ?_;clear H;intro a H;refine V4 H 47 rfl ?_ ?_
  ·intro h47
   try have p47:=dT h47
   refine kH H (YF ze h47 rfl (YO aD 0 h47 rfl (YC h47 rfl (YM h47 rfl (Sp 51 rfl ?_ ?_))))) <;> clear H
   ·intro lH a H
    try have p51:=dT lH
    refine kH H (aZ lH rfl (aT lH rfl (PT h47 lH rfl ?_)));clear H;intro a H;refine M7 H (wg H rfl rfl rfl) rfl h47 rfl rfl ?_;clear H;intro a H;refine kH H (Pf rfl rfl (Kz dH (Ct rfl rfl (SQ fun _ gq=>?_))));clear H dH;intro a H;have hbad:l.any (vw l)=true:=xO hk4 (by unfold vw;simp_all);refine rz ?_;refine bT iO 1 (vs:=[_]) _ H wn rfl rfl rfl rfl rfl rfl rfl rfl ?_;clear H;intro w H;dsimp only [List.set,setRow] at H;refine aH ?_;refine gq _ _ ?_;clear gq;refine dK ?_;refine (leave1 H results90 (.cons (BM iO H rfl (H.hp.tN 1 rfl rfl)) .nil) ?_).1
    first
     | exact H.rt (ay vi (by rw [gM,au (by omega)]))
     | exact H.rt (ay vi (by rw [ah (by simpa using jv)] at heq;rw [gM,ah (by omega),← heq,au (by simpa using jv)]))
     | exact H.rt (ay vi (by rw [gM,ah (by omega),ah (by rw [hok];decide),au hbad]))
     | exact H.rt (ay vi (by rw [gM,ah (by omega),ah (by rw [hok];decide),ah hbad,au (xO hj2 hI)]))
     | exact H.rt (ay vi (by rw [gM,ah (by omega),ah (by rw [hok];decide),ah hbad,ah (Ch (by omega) hnc)]))
   intro lH a H
   try have p51:=dF lH
   refine kH H (YO qQ 2 lH rfl (YF Ol lH rfl (YO aD 0 lH rfl ?_)));clear H;intro a H;refine s_call RF H (wg H rfl rfl lH) rfl (Vf _ _ H.ro l 1 l[k].next _ BI) rfl ?_;clear H;rintro v55 g2 a w rfl wT H;replace kI:=fun b o (h:g b=some o)=>wT b o (kI b o h);replace BI:=BI.mono wT;refine kH H (YN lH rfl (PF h47 lH rfl ?_));clear H;intro a H;refine M7 H (wg H rfl rfl rfl) rfl h47 rfl rfl ?_;clear H;intro a H;refine kH H (Pf rfl rfl (Kz dH (Cd rfl ?_ ?_))) <;> clear H dH
   ·intro jk a H
    try have p59:=dT jk
    refine aN (fun _ gG=>?_);have hbad:l.any (vw l)=true:=xO hk4 (by unfold vw;simp_all);refine rz ?_;refine bT iO 1 (vs:=[_]) _ H wn rfl rfl rfl rfl rfl rfl rfl rfl ?_;clear H;intro w H;dsimp only [List.set,setRow] at H;refine aH ?_;refine gG _ _ ?_;clear gG;refine dK ?_;refine (leave1 H results90 (.cons (BM iO H rfl (H.hp.tN 1 rfl rfl)) .nil) ?_).1
    first
     | exact H.rt (ay vi (by rw [gM,au (by omega)]))
     | exact H.rt (ay vi (by rw [ah (by simpa using jv)] at heq;rw [gM,ah (by omega),← heq,au (by simpa using jv)]))
     | exact H.rt (ay vi (by rw [gM,ah (by omega),ah (by rw [hok];decide),au hbad]))
     | exact H.rt (ay vi (by rw [gM,ah (by omega),ah (by rw [hok];decide),ah hbad,au (xO hj2 hI)]))
     | exact H.rt (ay vi (by rw [gM,ah (by omega),ah (by rw [hok];decide),ah hbad,ah (Ch (by omega) hnc)]))
   intro jk a H
   try have p59:=dF jk
   refine kP H (Kc dG (SC (Rd rfl (Rm rfl ?_))));clear H dG;intro a H;refine aH ?_;refine cB ((k+1,g2)) (by exact (H.dx (Pl:=[_,_,_]) (bZ:=[_,_]) [1,2] (by decide) rfl).sub ⟨rfl,rfl,rfl,rfl,rfl,av⟩) ?_ ?_
   ·(try dsimp only);exact ⟨by omega,Lj hk4 hno (by unfold vw;simp_all),kI⟩
   first|omega|(dsimp only;omega)
  intro h47
  try have p47:=dF h47
  refine kH H (aT h47 rfl (aT h47 rfl (Ku rfl (Ku rfl (Ku rfl (Ku rfl (Ku rfl (Ks h47 rfl ?_))))))));clear H;intro a H;refine Qg H (wg H rfl rfl rfl) rfl h47 rfl rfl ?_;clear H;intro a H;refine kH H (Pf rfl rfl (Kz dH (Cf rfl rfl (Kc dG (SC (Rd rfl (Rm rfl ?_)))))));clear H dH dG;intro a H;refine aH ?_;refine cB ((k+1,g2)) (by exact (H.dx (Pl:=[_,_,_]) (bZ:=[_,_]) [1,2] (by decide) rfl).sub ⟨rfl,rfl,rfl,rfl,rfl,av⟩) ?_ ?_
  ·(try dsimp only);exact ⟨by omega,Lj hk4 hno (by unfold vw;simp_all),kI⟩
  first|omega|(dsimp only;omega)
 intro iK a H
 try have p28:=dF iK
 have hbad:=Ch (by omega) hno;refine dJ ?_;refine bR _ _ ?_;clear bR;refine kP H (SQ fun _ iP=>SR fun _ jm=>Ro qQ 1 rfl (Rl nR rfl (Rm rfl (Kz jm (SB ?_)))));clear H jm;intro a H;skip;refine NS (ι:=Nat × GH × List Nat) (Tc:=[(1,_),(2,_),(61,_),(62,_)]) (Lc:=[(_,_),(_,_)]) (fun gh=>J9 gh.2.2) (fun gh=>[(63,vi gh.1)]) (fun gh=>[]++(mP gh.2.2++[])) (fun gh=>gh.2.1) (fun gh=>gh.1≤l.length∧(l.take gh.1).any (Rt l)=false∧(∀ b o,g2 b=some o→gh.2.1 b=some o)) (fun gh=>l.length - gh.1) ((0,g2,[])) (by exact (H).sub ⟨rfl,rfl,rfl,rfl,rfl,av⟩) ?_ ?_
 ·exact ⟨fQ _,rfl,fun _ _ h=>h⟩
 clear H;rintro ⟨j,g3,ds⟩ a w hI H;dsimp only at hI H;obtain ⟨hj,hnc,rG⟩:=hI;have U5:=BI.mono rG;dsimp only [lca,aO] at H;refine kP H (SR fun _ iH=>Rc rfl (Kz iH (SQ fun _ kW=>Cd rfl ?_ ?_))) <;> clear H iH
 ·intro h64 a H
  try have p64:=dT h64
  have hj2:j < l.length:=by omega
  obtain ⟨b,o,pA,pc,rfl,hrow,hp,hrep⟩:=BQ U5 hj2;refine kP H (Kc kW (SQ fun _ kX=>SB (SR fun _ jQ=>Ri nR kN rfl rfl ?_)));clear H kW;intro a H;refine bK kN (cs:=[_,_,_,_,_,_]) H wn rfl rfl (fun j v hj=>H.hp.aF (hrow j v hj)) rfl ?_;clear H;intro a H;refine dY kN H wn rfl ?_;clear H;intro b8 a w Ai H;refine bT kN 0 (vs:=[_,_,_,_,_,_]) _ H wn rfl rfl rfl rfl rfl rfl rfl rfl ?_;clear H;intro w H;dsimp only [List.set,setRow] at H;refine jQ _ _ ?_;clear jQ;refine cO (fun _ lC=>?_);refine dY aD H wn rfl ?_;clear H;intro b9 a w uL H;refine bT aD 0 (vs:=[_]) _ H wn rfl rfl rfl rfl rfl rfl rfl rfl ?_;clear H;intro w H;dsimp only [List.set,setRow] at H;refine lC _ _ ?_;clear lC;refine kP H (SR fun _ lD=>Ro qQ 3 rfl (aR wE aD 1 rfl rfl ?_));clear H;intro a H;refine gW agH (Li:=[_,_,_,_]++mP ds) (L:=[]) (St.un (A:=[_,_,_,_]) H) wn rfl (afD (Hp.owns (Li:=[_,_,_,_]++mP ds) (St.un (A:=[_,_,_,_]) H).hp) l l[j].id _ U5) rfl ?_;clear H;rintro v70 g4 L70 a w ⟨bl,bi,rfl,rfl,hbl⟩ aam H;have H:=(St.Vq (A:=[_,_,_,_,_]) (B:=mP ds) (H.perm qZ));dsimp only [lca,aO] at H;have hit:=afC (l:=l) (id:=l[j].id) (bi:=bi) hbl (U5.mono aam) (acg hok);refine lD _ _ ?_;clear lD;refine uy ?_;skip;refine afk (B:=[(_,_)]) (ι:=Unit) (κ:=Int) (Lc:=[(_,_),(_,_)]) (fun (k:Nat) (gh:Unit)=>[(b9,.cells #[vi k] 3 (0,0)),(b2,.cells #[vi 0] 42 (0,0))]) (fun (k:Nat) (gh:Unit)=>(mP ds++[])) (fun (k:Nat) (gh:Unit) (g:GH)=>k≤l.length) (fun (gx:Int)=>Code.ret) (fun (gx:Int)=>[(b9,.cells #[vi gx] 3 (0,0)),(b2,.cells #[vi 16] 42 (0,0))]) (fun (gx:Int)=>(mP ds++[])) (fun (gx:Int) (g:GH)=>Rt l l[j]=true) (()) (by exact H.dx (Pl:=[_,_,_,_,_]) (bZ:=[_,_,_,_,_]) [0,2,4,1,3] (by decide) rfl) rfl YX (hit) (fun _ _ h=>h) (fun e i g h=>absurd (of_decide_eq_false e) (by rw [bN] at h;omega)) rfl (fun k args g h=>by obtain ⟨_,_,rfl,_⟩:=adf h;rfl) (fun _ _ _ _ _ h=>h) (fun _ _ _ _ h=>h) (fQ _) ?_ ?_ ?_
  ·clear H;intro l21 xg uw bk k args gh W9 w21 F21 B21 a aah D8 hI ajJ akI alq H;obtain ⟨aah,aqY,rfl,arU⟩:=adf aah;dsimp only [tu,List.cons_append,List.nil_append] at H;refine fT ?_;refine ajJ _ _ _ _ _ _ (by exact H) ?_;clear H;intro w H;refine kP H (SB (SR fun _ lX=>Ro aD 3 rfl (Rd rfl ?_)));clear H;intro a H;refine bT aD 3 (vs:=[_]) _ H wn rfl rfl rfl rfl rfl rfl rfl rfl ?_;clear H;intro w H;dsimp only [List.set,setRow] at H;refine lX _ _ ?_;clear lX;refine kP H (SR fun _ lY=>Ro aD 3 rfl (Ro qQ 2 rfl (Rl nR rfl (Rc rfl (Kz lY (Cd rfl ?_ ?_)))))) <;> clear H lY
   ·intro uH a H
    try have CQ:=dT uH
    refine cO (fun _ lZ=>?_);refine bT iO 4 (vs:=[_]) _ H wn rfl rfl rfl rfl rfl rfl rfl rfl ?_;clear H;intro w H;dsimp only [List.set,setRow] at H;refine lZ _ _ ?_;clear lZ;refine dK ?_;refine (alq ((k:Int)+1) _ _ _ _ _ (by exact H) ?_).1 rfl;exact iq (by omega)
   intro uH a H
   try have CQ:=dF uH
   refine fT ?_;refine akI (()) _ _ _ _ _ (by exact H) ?_
   omega
  ·clear H;intro WV gh Xj a w D8 hI H;dsimp only [lca,aO] at H;refine kX _ _ ?_;clear kX;refine kP H (SC (Rd rfl (Rm rfl ?_)));clear H;intro a H;refine aH ?_;refine Ip ((j+1,Xj,WV :: ds)) (by exact (H.dx (Pl:=[_,_,_,_,_]) (bZ:=[_,_,_]) [4,2,0] (by decide) rfl).sub ⟨rfl,rfl,rfl,rfl,rfl,av⟩) ?_ ?_
   ·(try dsimp only);exact ⟨by omega,Lj hj2 hnc (iV (by rw [bN] at hI;omega)),fun b o h=>D8 b o (aam b o (rG b o h))⟩
   first|omega|(dsimp only;omega)
  clear H;intro WV x Xj a w D8 hI H;dsimp only [lca,aO] at H;refine dK ?_;refine (Am H 0 rfl ?_).1;clear H;intro a w H;dsimp only [List.eraseIdx_cons_succ,List.eraseIdx_cons_zero] at H;refine (Ao (Lh:=[_,_,_,_]) _ H ?_).1;clear H;intro a w H;dsimp only [lca,aO] at H;refine (leave1 H results90 (.cons (BM iO H rfl (H.hp.tN 3 rfl rfl)) .nil) ?_).1
  first
   | exact H.rt (ay vi (by rw [gM,au (by omega)]))
   | exact H.rt (ay vi (by rw [ah (by simpa using jv)] at heq;rw [gM,ah (by omega),← heq,au (by simpa using jv)]))
   | exact H.rt (ay vi (by rw [gM,ah (by omega),ah (by rw [hok];decide),au hbad]))
   | exact H.rt (ay vi (by rw [gM,ah (by omega),ah (by rw [hok];decide),ah hbad,au (xO hj2 hI)]))
   | exact H.rt (ay vi (by rw [gM,ah (by omega),ah (by rw [hok];decide),ah hbad,ah (Ch (by omega) hnc)]))
 intro h64 a H
 try have p64:=dF h64
 refine dJ ?_;refine iP _ _ ?_;clear iP;refine cO (fun _ mV=>?_);refine bT iO 0 (vs:=[_]) _ H wn rfl rfl rfl rfl rfl rfl rfl rfl ?_;clear H;intro w H;dsimp only [List.set,setRow] at H;refine mV _ _ ?_;clear mV;refine dK ?_;refine (Ao (Lh:=[_,_]) _ H ?_).1;clear H;intro a w H;dsimp only [lca,aO] at H;refine (leave1 H results90 (.cons (BM iO H rfl (H.hp.tN 0 rfl rfl)) .nil) ?_).1
 first
  | exact H.rt (ay vi (by rw [gM,au (by omega)]))
  | exact H.rt (ay vi (by rw [ah (by simpa using jv)] at heq;rw [gM,ah (by omega),← heq,au (by simpa using jv)]))
  | exact H.rt (ay vi (by rw [gM,ah (by omega),ah (by rw [hok];decide),au hbad]))
  | exact H.rt (ay vi (by rw [gM,ah (by omega),ah (by rw [hok];decide),ah hbad,au (xO hj2 hI)]))
  | exact H.rt (ay vi (by rw [gM,ah (by omega),ah (by rw [hok];decide),ah hbad,ah (Ch (by omega) hnc)]))
end
section
open Go.RowKit
theorem uV:Ty prog 34 1 24 [.slice none 0 0] false:=⟨by kernel_rfl,by kernel_rfl⟩
theorem vW:prog.underlying 34=some (.slice 167):=by kernel_rfl
theorem yI:Ty prog 167 2 32 [.string ⟨#[]⟩,.string ⟨#[]⟩] true:=⟨by kernel_rfl,by kernel_rfl⟩
theorem Bc:dL prog 167 0 0:=⟨by kernel_rfl⟩
theorem LJ:∀ args w,(callFunc 93 args).run prog w=.ok (.enter 93 args) w:=enters func93 rfl (by kernel_rfl)
theorem Sg:dL prog 167 1 1:=⟨by kernel_rfl⟩
theorem Fa:dL prog 36 0 0:=⟨by kernel_rfl⟩
theorem Zf:∀ args w,(callFunc 90 args).run prog w=.ok (.enter 90 args) w:=enters func90 rfl (by kernel_rfl)
theorem Bd:dL prog 36 1 1:=⟨by kernel_rfl⟩
theorem agv:∀ args w,(callFunc 127 args).run prog w=.ok (.enter 127 args) w:=enters func127 rfl (by kernel_rfl)
theorem GV:dL prog 36 2 2:=⟨by kernel_rfl⟩
theorem agw:∀ args w,(callFunc 128 args).run prog w=.ok (.enter 128 args) w:=enters func128 rfl (by kernel_rfl)
theorem GX:dL prog 36 3 3:=⟨by kernel_rfl⟩
theorem agx:∀ args w,(callFunc 129 args).run prog w=.ok (.enter 129 args) w:=enters func129 rfl (by kernel_rfl)
theorem agV:∀ args w,(callFunc 191 args).run prog w=.ok (.enter 191 args) w:=enters func191 rfl (by kernel_rfl)
theorem Qu {G:GH} {l:List oh} {A:Option Addr} {n c k:Nat} (hv:aB G (.sl 2 (l.map oh.dat)) (.slice A n c)) (hk:k < l.length):∃ b o,A=some ⟨b,o,none⟩∧(∀ j u,l[k].cells[j]?=some u→aF G b (o+k*2+j)=some u):=by
 obtain ⟨A',c',he,_,_,hg⟩:=hv.slice
 injection he with e1 e2 e3
 subst e1;obtain ⟨b,o,cs,h1,h2,h3,h4⟩:=hg k l[k].dat (by simp [hk]);have:=aqr h4;subst this;exact ⟨b,o,h1,h3⟩
def FX (k:Nat) (x:oh) (pn:ByteArray):Int:=bO [bL (!oV x.name) 13,bL (decide (0 < (k:Int)) && (x.name.toList == pn.toList)) 7,bL (decide (0 < (k:Int)) && Op.bytesLess x.name.toList pn.toList) 6,sQ x.value]
def xD (l:List oh) (k:Nat):Int:=match l[k]? with|some x=>FX k x ((l[k - 1]?.map oh.name).getD ⟨#[]⟩)|none=>0
set_option maxHeartbeats 2000000 in
theorem aqp {G:GH} {bl:Nat} {l:List oh} {A:Option Addr} {n c:Nat} (hb:aF G bl 0=some (.slice A n c)) (hv:aB G (.sl 2 (l.map oh.dat)) (.slice A n c)) (hl:l.length≤4294967296) (ht:∀ x∈l,x.name.size < 4611686018427387904∧x.value.size < 4611686018427387904):uY (.func (.func 191) #[] #[(aP bl 0)]) G l.length (xD l):=by
 intro k hk G1 w0 hm hG;refine nk (caps:=[(aP bl 0)]) agV ?_;replace hb:=aJ hm hb;replace hv:=hv.mono hm
 obtain rfl:n=l.length:=by have:=hv.len;simpa using this
 obtain ⟨b,o,rfl,hrow⟩:=Qu hv hk
 have hk1:k - 1 < l.length:=by omega
 obtain ⟨b',o',he',hrow'⟩:=Qu hv hk1
 injection he' with he'
 injection he' with e1 e2
 subst e1;subst e2;have hte:=ht _ (jD hk)
 have he:xD l k=FX k l[k] l[k - 1].name:=by unfold xD;rw [fH hk,fH hk1];rfl
 obtain ⟨x,hx⟩:∃ x,x=l[k]:=⟨_,rfl⟩;obtain ⟨y,hy⟩:∃ y,y=l[k - 1]:=⟨_,rfl⟩;rw [← hx] at hrow hte he;rw [← hy] at hrow' he;refine eN [(0,_),(1,_)] func191 rfl ntmps191 rfl rfl hG ?_;intro a H;refine kP H (SR fun _ K1=>ak K1 rfl (SQ fun _ K2=>?_));clear H K1;intro a H;have H:=H.sub (T':=[(0,_),(1,_)]) ⟨rfl,rfl,av⟩
 by_cases c0:0 < (k:Int)
 ·skip;refine dI hmx [[],[],[0,1],[0,1,2],(ra 0 4),(ra 0 5),(ra 0 6),(ra 0 7),[],[8],(ra 0 10),(ra 0 11),(ra 0 11),(ra 0 13),(ra 0 14),(ra 0 15),(ra 0 11),(ra 0 11),(ra 0 11++[17]),(ra 0 11++[17,18]),(ra 0 11++ra 16 4),(ra 0 11++ra 16 5),(ra 0 11++ra 16 6),(ra 0 23),(ra 0 24),(ra 0 25),[],[26],(ra 0 28),(ra 0 29),(ra 0 29),(ra 0 31),(ra 0 32),(ra 0 33),(ra 0 29),(ra 0 29),(ra 0 29++[35]),(ra 0 29++[35,36]),(ra 0 29++ra 34 4),(ra 0 29++ra 34 5),(ra 0 29++ra 34 6),(ra 0 41),(ra 0 42),(ra 0 43),[],[],[44,45],[44,45,46],(ra 44 4),(ra 0 49),(ra 0 50),(ra 0 51),(ra 0 52)] [50,51,52] (by kernel_rfl) [_,_,_,_,_,.bool (oV x.name),_,vi (bL (!oV x.name) 13),_,_,_,_,_,_,_,_,_,_,vi ((max k 1:Nat):Int),vi ((k - 1:Nat):Int),_,_,_,.bool (x.name.toList == y.name.toList),.bool (decide (0 < (k:Int)) && (x.name.toList == y.name.toList)),vi (bL (decide (0 < (k:Int)) && (x.name.toList == y.name.toList)) 7),_,_,_,_,_,_,_,_,_,_,vi ((max k 1:Nat):Int),vi ((k - 1:Nat):Int),_,_,_,.bool (Op.bytesLess x.name.toList y.name.toList),.bool (decide (0 < (k:Int)) && Op.bytesLess x.name.toList y.name.toList),vi (bL (decide (0 < (k:Int)) && Op.bytesLess x.name.toList y.name.toList) 6),_,_,_,_,_,vi (sQ x.value)] H (aI (X0 rfl fun hG=>Rg uV rfl (aJ hG hb)) (Z0 rfl (Rm rfl)) (Z2 0 4 1 5 rfl (Ri vW yI rfl rfl)) (Z1 2 6 rfl (Rf Bc rfl)) (aI (X1 3 7 rfl fun hG=>Rg gZ rfl (aJ hG (hrow 0 _ rfl))) ?_ (Z1 5 9 rfl (Rn rfl)) ?_ (aI (Z0 rfl (Rm rfl)) (Z1 8 12 rfl (Rc rfl)) (Z1 9 13 rfl (Rm rfl)) (X1 10 14 rfl fun hG=>YR uV (aG c0) rfl (aJ hG hb)) (aI (Z1 10 14 rfl (YM (aG c0) rfl)) (Z3 11 15 12 16 10 14 rfl (YI vW yI (aG c0) rfl rfl)) (Z2 13 17 10 14 rfl (YF Bc (aG c0) rfl)) (X2 14 18 10 14 rfl fun hG=>YR gZ (aG c0) rfl (aJ hG (hrow 0 _ rfl))) (aI (X1 10 14 rfl fun hG=>YR uV (aG c0) rfl (aJ hG hb)) (Z1 10 14 rfl (YM (aG c0) rfl)) ?_ ?_ (aI (Z3 16 20 19 23 10 14 rfl (YI vW yI (aG c0) rfl rfl)) (Z2 20 24 10 14 rfl (YF Bc (aG c0) rfl)) (X2 21 25 10 14 rfl fun hG=>YR gZ (aG c0) rfl (aJ hG (hrow' 0 _ rfl))) ?_ (aI ?_ ?_ (Z0 rfl (Rm rfl)) (Z1 26 30 rfl (Rc rfl)) (aI (Z1 27 31 rfl (Rm rfl)) (X1 28 32 rfl fun hG=>YR uV (aG c0) rfl (aJ hG hb)) (Z1 28 32 rfl (YM (aG c0) rfl)) (Z3 29 33 30 34 28 32 rfl (YI vW yI (aG c0) rfl rfl)) (aI (Z2 31 35 28 32 rfl (YF Bc (aG c0) rfl)) (X2 32 36 28 32 rfl fun hG=>YR gZ (aG c0) rfl (aJ hG (hrow 0 _ rfl))) (X1 28 32 rfl fun hG=>YR uV (aG c0) rfl (aJ hG hb)) (Z1 28 32 rfl (YM (aG c0) rfl)) (aI ?_ ?_ (Z3 34 38 37 41 28 32 rfl (YI vW yI (aG c0) rfl rfl)) (Z2 38 42 28 32 rfl (YF Bc (aG c0) rfl)) (aI (X2 39 43 28 32 rfl fun hG=>YR gZ (aG c0) rfl (aJ hG (hrow' 0 _ rfl))) ?_ ?_ ?_ (aI (X0 rfl fun hG=>Rg uV rfl (aJ hG hb)) (Z0 rfl (Rm rfl)) (Z2 44 48 45 49 rfl (Ri vW yI rfl rfl)) (Z1 46 50 rfl (Rf Sg rfl)) (aI (X1 47 51 rfl fun hG=>Rg gZ rfl (aJ hG (hrow 1 _ rfl))) ?_ (cZ rfl) (cZ rfl) (bG (cZ rfl) dQ)))))))))))))) ?_
  ·refine fq 4 8 rfl rfl fun _ a w G1 hG HT H fin=>?_;refine s_call LJ H wn rfl (Ls _ _ H.ro x.name hte.1) rfl ?_;clear H;rintro v9 G9 a w ⟨rfl,-⟩ Fh H;exact fin H Fh (rfl)
  ·refine fq 6 10 rfl rfl fun _ a w G1 hG HT H fin=>?_;refine s_call kg H wn rfl (ku _ _ H.ro _ 13) rfl ?_;clear H;rintro v11 zT a w ⟨rfl,-⟩ zo H;exact fin H zo (rfl)
  ·refine fu 17 21 10 14 rfl rfl fun _ a w G1 hG HT H fin=>?_;refine FR H (wg H rfl rfl (aG c0)) rfl rfl rfl ?_;clear H;intro a H;exact fin H iJ (by show _=_;first|rfl|exact ay vi (by omega))
  ·refine fu 18 22 10 14 rfl rfl fun _ a w G1 hG HT H fin=>?_;refine mQ _ H (wg H rfl rfl (aG c0)) rfl rfl rfl (by omega) (by omega) rfl ?_;clear H;intro a H;exact fin H iJ (by show _=_;first|rfl|exact ay vi (by omega))
  ·refine wh 15 19 22 26 10 14 rfl rfl fun _ a w G1 hG HT H fin=>?_;refine II H (wg H rfl rfl (aG c0)) rfl rfl rfl ?_;clear H;intro a H;exact fin H iJ rfl
  ·refine fu 10 14 23 27 rfl rfl fun _ a w G1 hG HT H fin=>?_;refine kH H (Pt (aG c0) rfl ?_);clear H;intro a H;exact fin H iJ (aM (by first|(rw [iq c0,vg];done)|(rw [iV c0,uo];done)))
  ·refine fq 24 28 rfl rfl fun _ a w G1 hG HT H fin=>?_;refine s_call kg H wn rfl (ku _ _ H.ro _ 7) rfl ?_;clear H;rintro v29 IZ a w ⟨rfl,-⟩ Ht H;exact fin H Ht (rfl)
  ·refine fu 35 39 28 32 rfl rfl fun _ a w G1 hG HT H fin=>?_;refine FR H (wg H rfl rfl (aG c0)) rfl rfl rfl ?_;clear H;intro a H;exact fin H iJ (by show _=_;first|rfl|exact ay vi (by omega))
  ·refine fu 36 40 28 32 rfl rfl fun _ a w G1 hG HT H fin=>?_;refine mQ _ H (wg H rfl rfl (aG c0)) rfl rfl rfl (by omega) (by omega) rfl ?_;clear H;intro a H;exact fin H iJ (by show _=_;first|rfl|exact ay vi (by omega))
  ·refine wh 33 37 40 44 28 32 rfl rfl fun _ a w G1 hG HT H fin=>?_;refine acI H (wg H rfl rfl (aG c0)) rfl rfl rfl ?_;clear H;intro a H;exact fin H iJ rfl
  ·refine fu 28 32 41 45 rfl rfl fun _ a w G1 hG HT H fin=>?_;refine kH H (Pt (aG c0) rfl ?_);clear H;intro a H;exact fin H iJ (aM (by first|(rw [iq c0,vg];done)|(rw [iV c0,uo];done)))
  ·refine fq 42 46 rfl rfl fun _ a w G1 hG HT H fin=>?_;refine s_call kg H wn rfl (ku _ _ H.ro _ 6) rfl ?_;clear H;rintro v47 Ns a w ⟨rfl,-⟩ Bu H;exact fin H Bu (rfl)
  ·refine fq 48 52 rfl rfl fun _ a w G1 hG HT H fin=>?_;refine s_call RL H wn rfl (Ws _ _ H.ro x.value hte.2) rfl ?_;clear H;rintro v53 G53 a w rfl Tx H;exact fin H Tx (rfl)
  clear H;intro a w G sH H hv;have H:=H.bC (hv 7 11 rfl rfl) rfl;have H:=H.bC (hv 25 29 rfl rfl) rfl;have H:=H.bC (hv 43 47 rfl rfl) rfl;have H:=H.bC (hv 49 53 rfl rfl) rfl;clear hv;refine jd qV iO [_,_,_,_] [_,_,_,_] H wn rfl rfl rfl rfl rfl (by intro i q h;match i,h with|0,h=>exact h|1,h=>exact h|2,h=>exact h|3,h=>exact h|n+4,h=>simp at h) rfl rfl ?_;clear H;intro XZ a w ajF H;obtain ⟨Xf,akx,T9,H⟩:=H.eD;refine s_call rY H wn rfl (rZ _ _ H.ro _ _ (Ii [bL (!oV x.name) 13,bL (decide (0 < (k:Int)) && (x.name.toList == y.name.toList)) 7,bL (decide (0 < (k:Int)) && Op.bytesLess x.name.toList y.name.toList) 6,sQ x.value] T9 (show 4≤maxLen by decide))) rfl ?_;clear H;rintro v55 _ a w ⟨rfl,rfl⟩ - H;refine kH H (Ra rfl ?_);clear H;intro a H;refine aH ⟨rfl,?_⟩;refine K2 _ _ ?_;clear K2;refine lr H results191 rfl ?_;exact H.rt (by rw [he];rfl)
 skip;refine dI hmx [[],[],[0,1],[0,1,2],(ra 0 4),(ra 0 5),(ra 0 6),(ra 0 7),[],[8],(ra 0 10),(ra 0 11),(ra 0 11),(ra 0 13),(ra 0 14),(ra 0 15),(ra 0 11),(ra 0 11),(ra 0 11++[17]),(ra 0 11++[17,18]),(ra 0 11++ra 16 4),(ra 0 11++ra 16 5),(ra 0 11++ra 16 6),(ra 0 23),(ra 0 24),(ra 0 25),[],[26],(ra 0 28),(ra 0 29),(ra 0 29),(ra 0 31),(ra 0 32),(ra 0 33),(ra 0 29),(ra 0 29),(ra 0 29++[35]),(ra 0 29++[35,36]),(ra 0 29++ra 34 4),(ra 0 29++ra 34 5),(ra 0 29++ra 34 6),(ra 0 41),(ra 0 42),(ra 0 43),[],[],[44,45],[44,45,46],(ra 44 4),(ra 0 49),(ra 0 50),(ra 0 51),(ra 0 52)] [50,51,52] (by kernel_rfl) [_,_,_,_,_,.bool (oV x.name),_,vi (bL (!oV x.name) 13),_,_,_,undef,undef,undef,undef,undef,undef,undef,undef,undef,undef,undef,undef,undef,.bool (decide (0 < (k:Int)) && (x.name.toList == y.name.toList)),vi (bL (decide (0 < (k:Int)) && (x.name.toList == y.name.toList)) 7),_,_,_,undef,undef,undef,undef,undef,undef,undef,undef,undef,undef,undef,undef,undef,.bool (decide (0 < (k:Int)) && Op.bytesLess x.name.toList y.name.toList),vi (bL (decide (0 < (k:Int)) && Op.bytesLess x.name.toList y.name.toList) 6),_,_,_,_,_,vi (sQ x.value)] H (aI (X0 rfl fun hG=>Rg uV rfl (aJ hG hb)) (Z0 rfl (Rm rfl)) (Z2 0 4 1 5 rfl (Ri vW yI rfl rfl)) (Z1 2 6 rfl (Rf Bc rfl)) (aI (X1 3 7 rfl fun hG=>Rg gZ rfl (aJ hG (hrow 0 _ rfl))) ?_ (Z1 5 9 rfl (Rn rfl)) ?_ (aI (Z0 rfl (Rm rfl)) (Z1 8 12 rfl (Rc rfl)) (Z1 9 13 rfl (Rm rfl)) (aV (j:=10) (by kernel_rfl) (fun _ _ _ _ _ h=>h) rfl rfl rfl rfl rfl (fun _ _ h=>aW h (aM (aQ c0))) rfl (fun _=>rfl)) (aI (aV (j:=10) (by kernel_rfl) (fun _ _ _ _ _ h=>h) rfl rfl rfl rfl rfl (fun _ _ h=>aW h (aM (aQ c0))) rfl (fun _=>rfl)) (aV (j:=10) (by kernel_rfl) (fun _ _ _ _ _ h=>h) rfl rfl rfl rfl rfl (fun _ _ h=>aW h (aM (aQ c0))) rfl (fun _=>rfl)) (aV (j:=10) (by kernel_rfl) (fun _ _ _ _ _ h=>h) rfl rfl rfl rfl rfl (fun _ _ h=>aW h (aM (aQ c0))) rfl (fun _=>rfl)) (aV (j:=10) (by kernel_rfl) (fun _ _ _ _ _ h=>h) rfl rfl rfl rfl rfl (fun _ _ h=>aW h (aM (aQ c0))) rfl (fun _=>rfl)) (aI (aV (j:=10) (by kernel_rfl) (fun _ _ _ _ _ h=>h) rfl rfl rfl rfl rfl (fun _ _ h=>aW h (aM (aQ c0))) rfl (fun _=>rfl)) (aV (j:=10) (by kernel_rfl) (fun _ _ _ _ _ h=>h) rfl rfl rfl rfl rfl (fun _ _ h=>aW h (aM (aQ c0))) rfl (fun _=>rfl)) (aV (j:=10) (by kernel_rfl) (fun _ _ _ _ _ h=>h) rfl rfl rfl rfl rfl (fun _ _ h=>aW h (aM (aQ c0))) rfl (fun _=>rfl)) (aV (j:=10) (by kernel_rfl) (fun _ _ _ _ _ h=>h) rfl rfl rfl rfl rfl (fun _ _ h=>aW h (aM (aQ c0))) rfl (fun _=>rfl)) (aI (aV (j:=10) (by kernel_rfl) (fun _ _ _ _ _ h=>h) rfl rfl rfl rfl rfl (fun _ _ h=>aW h (aM (aQ c0))) rfl (fun _=>rfl)) (aV (j:=10) (by kernel_rfl) (fun _ _ _ _ _ h=>h) rfl rfl rfl rfl rfl (fun _ _ h=>aW h (aM (aQ c0))) rfl (fun _=>rfl)) (aV (j:=10) (by kernel_rfl) (fun _ _ _ _ _ h=>h) rfl rfl rfl rfl rfl (fun _ _ h=>aW h (aM (aQ c0))) rfl (fun _=>rfl)) (aV (j:=10) (by kernel_rfl) (fun _ _ _ _ _ h=>h) rfl rfl rfl rfl rfl (fun _ _ h=>aW h (aM (aQ c0))) rfl (fun _=>rfl)) (aI ?_ ?_ (Z0 rfl (Rm rfl)) (Z1 26 30 rfl (Rc rfl)) (aI (Z1 27 31 rfl (Rm rfl)) (aV (j:=28) (by kernel_rfl) (fun _ _ _ _ _ h=>h) rfl rfl rfl rfl rfl (fun _ _ h=>aW h (aM (aQ c0))) rfl (fun _=>rfl)) (aV (j:=28) (by kernel_rfl) (fun _ _ _ _ _ h=>h) rfl rfl rfl rfl rfl (fun _ _ h=>aW h (aM (aQ c0))) rfl (fun _=>rfl)) (aV (j:=28) (by kernel_rfl) (fun _ _ _ _ _ h=>h) rfl rfl rfl rfl rfl (fun _ _ h=>aW h (aM (aQ c0))) rfl (fun _=>rfl)) (aI (aV (j:=28) (by kernel_rfl) (fun _ _ _ _ _ h=>h) rfl rfl rfl rfl rfl (fun _ _ h=>aW h (aM (aQ c0))) rfl (fun _=>rfl)) (aV (j:=28) (by kernel_rfl) (fun _ _ _ _ _ h=>h) rfl rfl rfl rfl rfl (fun _ _ h=>aW h (aM (aQ c0))) rfl (fun _=>rfl)) (aV (j:=28) (by kernel_rfl) (fun _ _ _ _ _ h=>h) rfl rfl rfl rfl rfl (fun _ _ h=>aW h (aM (aQ c0))) rfl (fun _=>rfl)) (aV (j:=28) (by kernel_rfl) (fun _ _ _ _ _ h=>h) rfl rfl rfl rfl rfl (fun _ _ h=>aW h (aM (aQ c0))) rfl (fun _=>rfl)) (aI (aV (j:=28) (by kernel_rfl) (fun _ _ _ _ _ h=>h) rfl rfl rfl rfl rfl (fun _ _ h=>aW h (aM (aQ c0))) rfl (fun _=>rfl)) (aV (j:=28) (by kernel_rfl) (fun _ _ _ _ _ h=>h) rfl rfl rfl rfl rfl (fun _ _ h=>aW h (aM (aQ c0))) rfl (fun _=>rfl)) (aV (j:=28) (by kernel_rfl) (fun _ _ _ _ _ h=>h) rfl rfl rfl rfl rfl (fun _ _ h=>aW h (aM (aQ c0))) rfl (fun _=>rfl)) (aV (j:=28) (by kernel_rfl) (fun _ _ _ _ _ h=>h) rfl rfl rfl rfl rfl (fun _ _ h=>aW h (aM (aQ c0))) rfl (fun _=>rfl)) (aI (aV (j:=28) (by kernel_rfl) (fun _ _ _ _ _ h=>h) rfl rfl rfl rfl rfl (fun _ _ h=>aW h (aM (aQ c0))) rfl (fun _=>rfl)) (aV (j:=28) (by kernel_rfl) (fun _ _ _ _ _ h=>h) rfl rfl rfl rfl rfl (fun _ _ h=>aW h (aM (aQ c0))) rfl (fun _=>rfl)) ?_ ?_ (aI (X0 rfl fun hG=>Rg uV rfl (aJ hG hb)) (Z0 rfl (Rm rfl)) (Z2 44 48 45 49 rfl (Ri vW yI rfl rfl)) (Z1 46 50 rfl (Rf Sg rfl)) (aI (X1 47 51 rfl fun hG=>Rg gZ rfl (aJ hG (hrow 1 _ rfl))) ?_ (cZ rfl) (cZ rfl) (bG (cZ rfl) dQ)))))))))))))) ?_
 ·refine fq 4 8 rfl rfl fun _ a w G1 hG HT H fin=>?_;refine s_call LJ H wn rfl (Ls _ _ H.ro x.name hte.1) rfl ?_;clear H;rintro v9 G9 a w ⟨rfl,-⟩ Fh H;exact fin H Fh (rfl)
 ·refine fq 6 10 rfl rfl fun _ a w G1 hG HT H fin=>?_;refine s_call kg H wn rfl (ku _ _ H.ro _ 13) rfl ?_;clear H;rintro v11 zT a w ⟨rfl,-⟩ zo H;exact fin H zo (rfl)
 ·refine fu 10 14 23 27 rfl rfl fun _ a w G1 hG HT H fin=>?_;refine kH H (Pf (aQ c0) rfl ?_);clear H;intro a H;exact fin H iJ (aM (by first|(rw [iq c0,vg];done)|(rw [iV c0,uo];done)))
 ·refine fq 24 28 rfl rfl fun _ a w G1 hG HT H fin=>?_;refine s_call kg H wn rfl (ku _ _ H.ro _ 7) rfl ?_;clear H;rintro v29 IZ a w ⟨rfl,-⟩ Ht H;exact fin H Ht (rfl)
 ·refine fu 28 32 41 45 rfl rfl fun _ a w G1 hG HT H fin=>?_;refine kH H (Pf (aQ c0) rfl ?_);clear H;intro a H;exact fin H iJ (aM (by first|(rw [iq c0,vg];done)|(rw [iV c0,uo];done)))
 ·refine fq 42 46 rfl rfl fun _ a w G1 hG HT H fin=>?_;refine s_call kg H wn rfl (ku _ _ H.ro _ 6) rfl ?_;clear H;rintro v47 Ns a w ⟨rfl,-⟩ Bu H;exact fin H Bu (rfl)
 ·refine fq 48 52 rfl rfl fun _ a w G1 hG HT H fin=>?_;refine s_call RL H wn rfl (Ws _ _ H.ro x.value hte.2) rfl ?_;clear H;rintro v53 G53 a w rfl Tx H;exact fin H Tx (rfl)
 clear H;intro a w G sH H hv;have H:=H.bC (hv 7 11 rfl rfl) rfl;have H:=H.bC (hv 25 29 rfl rfl) rfl;have H:=H.bC (hv 43 47 rfl rfl) rfl;have H:=H.bC (hv 49 53 rfl rfl) rfl;clear hv;refine jd qV iO [_,_,_,_] [_,_,_,_] H wn rfl rfl rfl rfl rfl (by intro i q h;match i,h with|0,h=>exact h|1,h=>exact h|2,h=>exact h|3,h=>exact h|n+4,h=>simp at h) rfl rfl ?_;clear H;intro XZ a w ajF H;obtain ⟨Xf,akx,T9,H⟩:=H.eD;refine s_call rY H wn rfl (rZ _ _ H.ro _ _ (Ii [bL (!oV x.name) 13,bL (decide (0 < (k:Int)) && (x.name.toList == y.name.toList)) 7,bL (decide (0 < (k:Int)) && Op.bytesLess x.name.toList y.name.toList) 6,sQ x.value] T9 (show 4≤maxLen by decide))) rfl ?_;clear H;rintro v55 _ a w ⟨rfl,rfl⟩ - H;refine kH H (Ra rfl ?_);clear H;intro a H;refine aH ⟨rfl,?_⟩;refine K2 _ _ ?_;clear K2;refine lr H results191 rfl ?_;exact H.rt (by rw [he];rfl)
def Ac (l:List oh):Int:=bO [bL (decide (128 < (l.length:Int))) 9,iw (xD l) (min l.length 128)]
theorem afJ (G:GH) (w0:World) (hG:Hold G w0) (l:List oh) (v:aj) (hv:aB G (.sl 2 (l.map oh.dat)) v) (hl:l.length≤4294967296) (ht:∀ x∈l,x.name.size < 4611686018427387904∧x.value.size < 4611686018427387904) :
  Calls prog 129 #[v] w0 (bV w0 G fun u G'=>u=vi (Ac l)):=by
 obtain ⟨A,c,rfl,hc1,hc2,-⟩:=hv.slice;rw [bN] at *;refine eN [(0,_)] func129 rfl ntmps129 rfl rfl hG ?_;intro a H;refine cO (fun _ K1=>?_);refine fD (cs:=[_]) H wn rfl rfl rfl ?_;clear H;intro b1 a w hb1 H;refine kH H (ak K1 rfl (SQ fun _ K2=>?_));clear H K1;intro a H;have H:=H.sub (T':=[(1,_)]) ⟨rfl,av⟩;obtain ⟨Ga,hma,hb1',H⟩:=H.eD
 have hbl:aF Ga b1 0=some (.slice A l.length c):=by unfold aF;rw [hb1'];rfl
 have hcb:=aqp hbl (hv.mono hma) hl ht;refine dI hmx [[],[0],[0,1],[0,1,2],[],[4],[4,5],[],(ra 0 8),(ra 0 9),(ra 0 10),(ra 0 11)] [9,10,11] (by kernel_rfl) [_,_,_,vi (bL (decide (128 < (l.length:Int))) 9),_,_,vi ((min l.length 128:Nat):Int),.func (.func 191) #[] #[(aP b1 0)],vi (iw (xD l) (min l.length 128))] H (aI (X0 rfl fun hG=>Rg uV rfl (aJ hG hbl)) (Z1 0 3 rfl (Rl vW rfl)) (Z1 1 4 rfl (Rc rfl)) ?_ (aI (X0 rfl fun hG=>Rg uV rfl (aJ hG hbl)) (Z1 4 7 rfl (Rl vW rfl)) ?_ ?_ (aI ?_ (cZ rfl) (cZ rfl) (cZ rfl) dQ))) ?_
 ·refine fq 2 5 rfl rfl fun _ a w G1 hG HT H fin=>?_;refine s_call kg H wn rfl (ku _ _ H.ro _ 9) rfl ?_;clear H;rintro v6 G6 a w ⟨rfl,-⟩ lI H;exact fin H lI (rfl)
 ·refine fq 5 8 rfl rfl fun _ a w G1 hG HT H fin=>?_;refine Qf H wn rfl rfl rfl ?_;clear H;intro a H;exact fin H iJ (ay vi (by omega))
 ·refine Dn rfl fun _ a w G1 hG HT H fin=>?_;refine pO H wn rfl rfl ?_;clear H;intro a H;exact fin H iJ rfl
 ·refine fu 6 9 7 10 rfl rfl fun _ a w G1 hG HT H fin=>?_;refine s_call Jl H wn rfl (Lg _ _ H.ro (min l.length 128) (xD l) _ (by omega) ((hcb.mono hG).le (Nat.min_le_left _ _))) rfl ?_;clear H;rintro v11 zT a w rfl zo H;exact fin H zo (rfl)
 clear H;intro a w G sH H hv;have H:=H.bC (hv 3 6 rfl rfl) rfl;have H:=H.bC (hv 8 11 rfl rfl) rfl;clear hv;refine jd qV iO [_,_] [_,_] H wn rfl rfl rfl rfl rfl (by intro i q h;match i,h with|0,h=>exact h|1,h=>exact h|n+2,h=>simp at h) rfl rfl ?_;clear H;intro b12 a w D5 H;obtain ⟨zU,Cy,Hw,H⟩:=H.eD;refine s_call rY H wn rfl (rZ _ _ H.ro _ _ (AA Hw)) rfl ?_;clear H;rintro v13 _ a w ⟨rfl,rfl⟩ - H;refine kH H (Ra rfl ?_);clear H;intro a H;refine aH ⟨rfl,?_⟩;refine K2 _ _ ?_;clear K2;refine lr H results129 rfl ?_;exact H.rt rfl
structure wo where
 styles:List bS
 lists:List dR
 comments:List jl
 vars:List oh
structure Dp (G:GH) (s:wo) (a b c d:aj):Prop where
 st:aB G (.sl 6 (s.styles.map bS.dat)) a
 li:aB G (.sl 2 (s.lists.map dR.dat)) b
 cm:aB G (.sl 6 (s.comments.map jl.dat)) c
 va:aB G (.sl 2 (s.vars.map oh.dat)) d
structure Ld (s:wo):Prop where
 sn:∀ x∈s.styles,x.name.size≤4611686018427387904
 ln:s.lists.length≤4294967296
 lt:∀ x∈s.lists,∀ y∈x.levels,y.BR.size < 4611686018427387904
 cn:s.comments.length≤4294967296
 ct:∀ x∈s.comments,x.author.size < 4611686018427387904∧x.text.size < 4611686018427387904
 vn:s.vars.length≤4294967296
 vt:∀ x∈s.vars,x.name.size < 4611686018427387904∧x.value.size < 4611686018427387904
 pl:∀ x∈s.styles,x.props.length≤4294967296
 ll:∀ x∈s.lists,x.levels.length≤4294967296
def kR (s:wo):Int:=bO [gM s.styles,wC s.lists,uz s.comments,Ac s.vars]
theorem afI (G:GH) (w0:World) (hG:Hold G w0) (s:wo) (a b c d:aj) (hR:Dp G s a b c d) (hz:Ld s) :
  Calls prog 73 #[.agg #[a,b,c,d]] w0 (bV w0 G fun u G'=>u=vi (kR s)):=by
 obtain ⟨sA,sn,sc,rfl⟩:=hR.st.form;obtain ⟨lA,ln,lc,rfl⟩:=hR.li.form;obtain ⟨cA,cn,cc,rfl⟩:=hR.cm.form;obtain ⟨vA,vn,vc,rfl⟩:=hR.va.form;refine eN [(0,_)] func73 rfl ntmps73 rfl rfl hG ?_;intro a H;refine cO (fun _ K1=>?_);refine fD (cs:=[_,_,_,_]) H wn rfl rfl rfl ?_;clear H;intro b1 a w hb1 H;refine kH H (ak K1 rfl (SQ fun _ K2=>?_));clear H K1;intro a H;have H:=H.sub (T':=[(1,_)]) ⟨rfl,av⟩;obtain ⟨Ga,hma,hb1',H⟩:=H.eD
 have hc0:aF Ga b1 0=some (.slice sA sn sc):=by unfold aF;rw [hb1'];rfl
 have hc1:aF Ga b1 1=some (.slice lA ln lc):=by unfold aF;rw [hb1'];rfl
 have hc2:aF Ga b1 2=some (.slice cA cn cc):=by unfold aF;rw [hb1'];rfl
 have hc3:aF Ga b1 3=some (.slice vA vn vc):=by unfold aF;rw [hb1'];rfl
 refine dI hmx [[],[0],[0,1],[],[3],(ra 0 5),[],[6],(ra 0 8),[],[9],(ra 0 11),(ra 0 12),(ra 0 13),(ra 0 14)] [12,13,14] (by kernel_rfl) [_,_,vi (gM s.styles),_,_,vi (wC s.lists),_,_,vi (uz s.comments),_,_,vi (Ac s.vars)] H (aI (Z0 rfl (Rf Fa rfl)) (X1 0 3 rfl fun hG=>Rg qQ rfl (aJ hG hc0)) ?_ (Z0 rfl (Rf Bd rfl)) (aI (X1 3 6 rfl fun hG=>Rg xu rfl (aJ hG hc1)) ?_ (Z0 rfl (Rf GV rfl)) (X1 6 9 rfl fun hG=>Rg AB rfl (aJ hG hc2)) (aI ?_ (Z0 rfl (Rf GX rfl)) (X1 9 12 rfl fun hG=>Rg uV rfl (aJ hG hc3)) ?_ (bG (cZ rfl) (bG (cZ rfl) (bG (cZ rfl) dQ)))))) ?_
 ·refine fq 1 4 rfl rfl fun _ a w G1 hG HT H fin=>?_;refine s_call Zf H wn rfl (Yo _ _ H.ro s.styles _ ((hR.st.mono hma).mono hG) hz.sn) rfl ?_;clear H;rintro v5 G5 a w rfl OC H;exact fin H OC (rfl)
 ·refine fq 4 7 rfl rfl fun _ a w G1 hG HT H fin=>?_;refine s_call agv H wn rfl (afG _ _ H.ro s.lists _ ((hR.li.mono hma).mono hG) hz.ln hz.lt) rfl ?_;clear H;rintro v8 G8 a w rfl Ah H;exact fin H Ah (rfl)
 ·refine fq 7 10 rfl rfl fun _ a w G1 hG HT H fin=>?_;refine s_call agw H wn rfl (afF _ _ H.ro s.comments _ ((hR.cm.mono hma).mono hG) hz.cn hz.ct) rfl ?_;clear H;rintro v11 zT a w rfl zo H;exact fin H zo (rfl)
 ·refine fq 10 13 rfl rfl fun _ a w G1 hG HT H fin=>?_;refine s_call agx H wn rfl (afJ _ _ H.ro s.vars _ ((hR.va.mono hma).mono hG) hz.vn hz.vt) rfl ?_;clear H;rintro v14 tZ a w rfl Tm H;exact fin H Tm (rfl)
 clear H;intro a w G sH H hv;have H:=H.bC (hv 2 5 rfl rfl) rfl;have H:=H.bC (hv 5 8 rfl rfl) rfl;have H:=H.bC (hv 8 11 rfl rfl) rfl;have H:=H.bC (hv 11 14 rfl rfl) rfl;clear hv;refine jd qV iO [_,_,_,_] [_,_,_,_] H wn rfl rfl rfl rfl rfl (by intro i q h;match i,h with|0,h=>exact h|1,h=>exact h|2,h=>exact h|3,h=>exact h|n+4,h=>simp at h) rfl rfl ?_;clear H;intro b15 a w TW H;obtain ⟨EB,vM,ajy,H⟩:=H.eD;refine s_call rY H wn rfl (rZ _ _ H.ro _ _ (Ii [gM s.styles,wC s.lists,uz s.comments,Ac s.vars] ajy (show 4≤maxLen by decide))) rfl ?_;clear H;rintro v16 _ a w ⟨rfl,rfl⟩ - H;refine kH H (Ra rfl ?_);clear H;intro a H;refine aH ⟨rfl,?_⟩;refine K2 _ _ ?_;clear K2;refine lr H results73 rfl ?_;exact H.rt rfl
end
section
open Go.RowKit
theorem yJ:Ty prog 82 3 32 [.int .i64 0,.string ⟨#[]⟩,.int .i64 0] true:=⟨by kernel_rfl,by kernel_rfl⟩
theorem apJ:ug prog 98 [(0,1),(1,1),(2,1),(3,1),(4,1),(5,1)] [.map none,.map none,.map none,.map none,.map none,.int .i64 0]:=⟨by kernel_rfl,by kernel_rfl⟩
theorem DI:dL prog 38 3 7:=⟨by kernel_rfl⟩
theorem LY:dL prog 98 0 0:=⟨by kernel_rfl⟩
theorem Nb:Ty prog 95 1 8 [.map none] false:=⟨by kernel_rfl,by kernel_rfl⟩
theorem Zv:dL prog 98 1 1:=⟨by kernel_rfl⟩
theorem Bg:dL prog 38 2 6:=⟨by kernel_rfl⟩
theorem vU:Ty prog 30 1 24 [.slice none 0 0] false:=⟨by kernel_rfl,by kernel_rfl⟩
theorem vV:prog.underlying 30=some (.slice 82):=by kernel_rfl
theorem LZ:dL prog 98 2 2:=⟨by kernel_rfl⟩
theorem Ju:dL prog 82 0 0:=⟨by kernel_rfl⟩
structure dU where
 id:Int
 author:ByteArray
 time:Int
def dU.dat (x:dU):List Dat:=[li x.id,.lf (.string x.author),li x.time]
abbrev dU.cells (x:dU):List aj:=[vi x.id,.string x.author,vi x.time]
theorem aoB {G:GH} {x:dU} {cs:List aj} (h:bM G x.dat cs):cs=x.cells:=by
 simp only [dU.dat,bM,aB] at h
 obtain ⟨_,_,rfl,⟨rfl,_⟩,_,_,rfl,⟨rfl,_⟩,_,_,rfl,⟨rfl,_⟩,rfl⟩:=h
 rfl
theorem IG {G:GH} {l:List dU} {A:Option Addr} {n c k:Nat} (hv:aB G (.sl 3 (l.map dU.dat)) (.slice A n c)) (hk:k < l.length):∃ b o,A=some ⟨b,o,none⟩∧(∀ j u,l[k].cells[j]?=some u→aF G b (o+k*3+j)=some u):=by
 obtain ⟨A',c',he,_,_,hg⟩:=hv.slice
 injection he with e1 e2 e3
 subst e1;obtain ⟨b,o,cs,h1,h2,h3,h4⟩:=hg k l[k].dat (by simp [hk]);have:=aoB h4;subst this;exact ⟨b,o,h1,h3⟩
abbrev gQ (b ms ml mr mb mu:Nat) (n:Int):Nat × Obj:=(b,.cells #[.map (some ms),.map (some ml),.map (some mr),.map (some mb),.map (some mu),vi n] 98 (0,0))
def CK (l:List bS):List (Int × aj):=l.map fun s=>(s.id,vi s.kind)
def gV (l:List Int):List (Int × aj):=l.map fun k=>(k,.bool true)
structure xI (G:GH) (st:List bS) (li:List dR) (rv:List dU) (ms ml mr mu:Nat):Prop where
 sty:G ms=some (fF (CK st))
 yw:G ml=some (fF (gV (li.map dR.id)))
 rev:G mr=some (fF (gV (rv.map dU.id)))
 use:G mu=some (fF [])
theorem xI.mono {G G':GH} {st:List bS} {li:List dR} {rv:List dU} {ms ml mr mu:Nat} (h:xI G st li rv ms ml mr mu) (hm:∀ b o,G b=some o→G' b=some o):xI G' st li rv ms ml mr mu:=⟨hm _ _ h.sty,hm _ _ h.yw,hm _ _ h.rev,hm _ _ h.use⟩
def zS (l:List Int):Prop:=∀ (k:Nat) (h:k < l.length),l[k]∉l.take k
theorem amQ {l:List bS} {k:Nat} (h:k < l.length):CK (l.take (k+1))=CK (l.take k)++[(l[k].id,vi l[k].kind)]:=by rw [CK,lG h,kZ];rfl
theorem abM {l:List Int} {k:Nat} (h:k < l.length):gV (l.take (k+1))=gV (l.take k)++[(l[k],.bool true)]:=by rw [gV,lG h,kZ];rfl
theorem amP {l:List bS} {k:Nat} (f:zS (l.map bS.id)) (h:k < l.length):uQ l[k].id (CK (l.take k))=none:=by
 refine J5 ?_;have:=f k (by simpa using h)
 simpa [CK,List.map_take,List.map_map,Function.comp_def] using this
theorem abL {l:List Int} {k:Nat} (f:zS l) (h:k < l.length):uQ l[k] (gV (l.take k))=none:=by
 refine J5 ?_;have:=f k h
 simpa [gV,List.map_map,Function.comp_def] using this
theorem anb (G:GH) (w0:World) (hO:iT G [] w0) (D:jP) (st:List bS) (li:List dR) (rv:List dU) (hst:aB G (.sl 6 (st.map bS.dat)) (bg D.s1)) (wR:aB G (.sl 2 (li.map dR.dat)) (bg D.s2)) (mO:aB G (.sl 3 (rv.map dU.dat)) (bg D.r))
  (f1:zS (st.map bS.id)) (f2:zS (li.map dR.id)) (f3:zS (rv.map dU.id)) (z1:st.length≤4294967296) (z2:li.length≤4294967296) (z3:rv.length≤4294967296) :
  Calls prog 45 #[D.val] w0 (iE w0 G [] fun u G' L'=>∃ b ms ml mr mb mu,u=(aP b 0)∧L'=[gQ b ms ml mr mb mu 0,(mb,fF [])]∧xI G' st li rv ms ml mr mu):=by
 obtain ⟨df,dp,dd,dy,⟨rA,rn,rc⟩,⟨sA,sn,sc⟩,⟨lA,ln,lc⟩,d3,d4,ins,mv⟩:=D;dsimp only at hst wR mO
 obtain rfl:sn=st.length:=by have:=hst.len;simpa using this
 obtain rfl:ln=li.length:=by have:=wR.len;simpa using this
 obtain rfl:rn=rv.length:=by have:=mO.len;simpa using this
 have hml:maxLen=9223372036854775807:=rfl;refine kS (N:=64) (T:=[(0,_)]) func45 rfl ntmps45 rfl rfl hO ?_;intro a H;refine cO (fun _ K1=>?_);refine fD (cs:=[_,_,_,_,_,_,_,_,_,_,_]) H wn rfl rfl rfl ?_;clear H;intro b1 a w hb1 H;refine kH H (ak K1 rfl (SQ fun _ K2=>?_));clear H K1;intro a H;obtain ⟨Ga,hma,hb1',H⟩:=H.eD
 have OP:aF Ga b1 7=some (.slice sA st.length sc):=by unfold aF;rw [hb1'];rfl
 have hc8:aF Ga b1 8=some (.slice lA li.length lc):=by unfold aF;rw [hb1'];rfl
 have hc6:aF Ga b1 6=some (.slice rA rv.length rc):=by unfold aF;rw [hb1'];rfl
 replace hst:=hst.mono hma;replace wR:=wR.mono hma;replace mO:=mO.mono hma;refine rz ?_;refine FQ H wn rfl ?_;clear H;intro b10 a w JE H;refine FQ H wn rfl ?_;clear H;intro b11 a w Hu H;refine FQ H wn rfl ?_;clear H;intro b12 a w D5 H;refine FQ H wn rfl ?_;clear H;intro b13 a w OO H;refine FQ H wn rfl ?_;clear H;intro b14 a w TV H;refine mq apJ [_,_,_,_,_,_] H wn rfl rfl rfl rfl ?_;clear H;intro a H;refine fD (cs:=[_,_,_,_,_,_]) H wn rfl rfl rfl ?_;clear H;intro b16 a w arh H;refine kH H (aL K2 rfl (SQ fun _ K3=>SR fun _ K4=>Rf DI rfl (Rf Fa rfl (Rg qQ rfl (by assumption) ?_))));clear H K2;intro a H;refine kH H (Rl nR rfl (Rm rfl (Kz K4 (SB ?_))));clear H K4;intro a H;skip;refine dV (ι:=Nat × GH) (Tc:=[(1,_),(3,_),(19,_),(20,_)]) (Lc:=[(_,_),(_,_),(_,_),(_,_),(_,_)]) (fun gh=>[(21,vi gh.1)]) (fun gh=>[(b10,fF (CK (st.take gh.1)))]) (fun gh=>gh.2) (fun gh=>gh.1≤st.length∧(∀ b o,Ga b=some o→gh.2 b=some o)) (fun gh=>st.length - gh.1) ((0,Ga)) (by exact (H).sub ⟨rfl,rfl,rfl,rfl,rfl,av⟩) ?_ ?_
 ·exact ⟨fQ _,fun _ _ h=>h⟩
 clear H;rintro ⟨k,g1⟩ a w hI H;dsimp only at hI H;obtain ⟨hk,JO⟩:=hI;dsimp only [lca,aO] at H;refine kP H (SR fun _ K5=>Rc rfl (Kz K5 (SQ fun _ K6=>Cd rfl ?_ ?_))) <;> clear H K5
 ·intro h22 a H
  try have jv:=dT h22
  have hk2:k < st.length:=by omega
  obtain ⟨xb,xo,pA,pc,rfl,hrow,-,-⟩:=BQ (hst.mono JO) hk2;have hnew:=amP f1 hk2;refine kP H (Kc K6 (SQ fun _ K7=>SB (SR fun _ K8=>Ri nR kN rfl rfl ?_)));clear H K6;intro a H;refine bK kN (cs:=_) H wn rfl rfl (fun j v hj=>H.hp.aF (hrow j v hj)) rfl ?_;clear H;intro a H;refine dY kN H wn rfl ?_;clear H;intro b5 a w hb5 H;refine bT kN 0 (vs:=[_,_,_,_,_,_]) _ H wn rfl rfl rfl rfl rfl rfl rfl rfl ?_;clear H;intro w H;dsimp only [List.set,setRow] at H;refine K8 _ _ ?_;clear K8;refine dI hmx [[],[0],[0,1],[0,1,2],[],[4],[],[6],(ra 0 8)] [8] (by kernel_rfl) [_,_,_,.map (some b10),_,vi st[k].id,_,vi st[k].kind] H (aI (Z0 rfl (Rm rfl)) (Z1 0 25 rfl (Rk rfl)) (Z1 1 26 rfl (Rf LY rfl)) (Z1 2 27 rfl (Ro Nb 1 rfl)) (aI (Z0 rfl (Rf wE rfl)) (Z1 4 29 rfl (Ro aD 0 rfl)) (Z0 rfl (Rf ze rfl)) (Z1 6 31 rfl (Ro aD 0 rfl)) (bG (cZ rfl) dQ))) ?_
  clear H;intro a w G OC H hv;have H:=H.bC (hv 3 28 rfl rfl) rfl;have H:=H.bC (hv 5 30 rfl rfl) rfl;have H:=H.bC (hv 7 32 rfl rfl) rfl;clear hv;refine Ko (i:=6) IL nD H wn rfl rfl rfl rfl hnew ?_;clear H;intro w H;dsimp only [List.set,List.append,lca,aO] at H;rw [← amQ hk2] at H;refine aH ⟨rfl,?_⟩;refine K7 _ _ ?_;clear K7;refine kP H (SC (Rd rfl (Rm rfl ?_)));clear H;intro a H;refine aH ?_;refine cB ((k+1,G)) (by exact (H.dx (Pl:=[_,_,_,_,_,_,_]) (bZ:=[_,_,_,_,_,_]) [1,2,3,4,5,6] (by decide) rfl).sub ⟨rfl,rfl,rfl,rfl,rfl,av⟩) ?_ ?_
  ·(try dsimp only);exact ⟨by omega,fun b o h=>OC b o (JO b o h)⟩
  first|omega|(dsimp only;omega)
 intro h22 a H
 try have jv:=dF h22
 obtain rfl:k=st.length:=by omega
 rw [zZ] at H;have arG:=aJ JO hc8;refine dJ ?_;refine K3 _ _ ?_;clear K3;refine kP H (SQ fun _ K9=>SR fun _ aU=>Rf DI rfl (Rf Bd rfl (Rg xu rfl (by assumption) ?_)));clear H;intro a H;refine kH H (Rl xA rfl (Rm rfl (Kz aU (SB ?_))));clear H aU;intro a H;skip;refine dV (ι:=Nat × GH) (Tc:=[(1,_),(3,_),(36,_),(37,_)]) (Lc:=[(_,_),(_,_),(_,_),(_,_),(_,_)]) (fun gh=>[(38,vi gh.1)]) (fun gh=>[(b11,fF (gV ((li.map dR.id).take gh.1)))]) (fun gh=>gh.2) (fun gh=>gh.1≤li.length∧(∀ b o,g1 b=some o→gh.2 b=some o)) (fun gh=>li.length - gh.1) ((0,g1)) (by exact (H.dx (Pl:=[_,_,_,_,_,_]) (bZ:=[_,_,_,_,_,_]) [0,1,2,3,5,4] (by decide) rfl).sub ⟨rfl,rfl,rfl,rfl,rfl,av⟩) ?_ ?_
 ·exact ⟨fQ _,fun _ _ h=>h⟩
 clear H;rintro ⟨k,g2⟩ a w hI H;dsimp only at hI H;obtain ⟨hk,OX⟩:=hI;dsimp only [lca,aO] at H;refine kP H (SR fun _ bD=>Rc rfl (Kz bD (SQ fun _ bE=>Cd rfl ?_ ?_))) <;> clear H bD
 ·intro iN a H
  try have p39:=dT iN
  have hk2:k < li.length:=by omega
  obtain ⟨xb,xo,B,d,rfl,hrow,-⟩:=Im ((wR.mono JO).mono OX) hk2
  have hk3:k < (li.map dR.id).length:=by simpa using hk2
  have hnew:=abL f2 hk3
  have Mt:(li.map dR.id)[k]=li[k].id:=by simp
  rw [Mt] at hnew;refine kP H (Kc bE (SQ fun _ bQ=>SB (SR fun _ bR=>Ri xA zL rfl rfl ?_)));clear H bE;intro a H;refine bK zL (cs:=_) H wn rfl rfl (fun j v hj=>H.hp.aF (hrow j v hj)) rfl ?_;clear H;intro a H;refine dY zL H wn rfl ?_;clear H;intro b7 a w yg H;refine bT zL 0 (vs:=[_,_]) _ H wn rfl rfl rfl rfl rfl rfl rfl rfl ?_;clear H;intro w H;dsimp only [List.set,setRow] at H;refine bR _ _ ?_;clear bR;refine dI hmx [[],[0],[0,1],[0,1,2],[],[4],(ra 0 6)] [6] (by kernel_rfl) [_,_,_,.map (some b11),_,vi li[k].id] H (aI (Z0 rfl (Rm rfl)) (Z1 0 42 rfl (Rk rfl)) (Z1 1 43 rfl (Rf Zv rfl)) (Z1 2 44 rfl (Ro qU 1 rfl)) (bG (Z0 rfl (Rf LP rfl)) (bG (Z1 4 46 rfl (Ro aD 0 rfl)) (bG (cZ rfl) dQ)))) ?_
  clear H;intro a w G vI H hv;have H:=H.bC (hv 3 45 rfl rfl) rfl;have H:=H.bC (hv 5 47 rfl rfl) rfl;clear hv;refine Ko (i:=6) xB nD H wn rfl rfl rfl rfl hnew ?_;clear H;intro w H;dsimp only [List.set,List.append,lca,aO] at H;rw [← Mt,← abM hk3] at H;refine aH ⟨rfl,?_⟩;refine bQ _ _ ?_;clear bQ;refine kP H (SC (Rd rfl (Rm rfl ?_)));clear H;intro a H;refine aH ?_;refine cB ((k+1,G)) (by exact (H.dx (Pl:=[_,_,_,_,_,_,_]) (bZ:=[_,_,_,_,_,_]) [1,2,3,4,5,6] (by decide) rfl).sub ⟨rfl,rfl,rfl,rfl,rfl,av⟩) ?_ ?_
  ·(try dsimp only);exact ⟨by omega,fun b o h=>vI b o (OX b o h)⟩
  first|omega|(dsimp only;omega)
 intro iN a H
 try have p39:=dF iN
 obtain rfl:k=li.length:=by omega
 rw [mF (by simp)] at H;have arF:=aJ OX (aJ JO hc6);refine dJ ?_;refine K9 _ _ ?_;clear K9;refine kP H (SQ fun _ bW=>SR fun _ cK=>Rf Bg rfl (Rg vU rfl (by assumption) ?_));clear H;intro a H;refine kH H (Rl vV rfl (Rm rfl (Kz cK (SB ?_))));clear H cK;intro a H;skip;refine dV (ι:=Nat × GH) (Tc:=[(3,_),(50,_),(51,_)]) (Lc:=[(_,_),(_,_),(_,_),(_,_),(_,_)]) (fun gh=>[(52,vi gh.1)]) (fun gh=>[(b12,fF (gV ((rv.map dU.id).take gh.1)))]) (fun gh=>gh.2) (fun gh=>gh.1≤rv.length∧(∀ b o,g2 b=some o→gh.2 b=some o)) (fun gh=>rv.length - gh.1) ((0,g2)) (by exact (H.dx (Pl:=[_,_,_,_,_,_]) (bZ:=[_,_,_,_,_,_]) [0,1,2,4,5,3] (by decide) rfl).sub ⟨rfl,rfl,rfl,rfl,av⟩) ?_ ?_
 ·exact ⟨fQ _,fun _ _ h=>h⟩
 clear H;rintro ⟨k,g3⟩ a w hI H;dsimp only at hI H;obtain ⟨hk,aao⟩:=hI;dsimp only [lca,aO] at H;refine kP H (SR fun _ bY=>Rc rfl (Kz bY (SQ fun _ dG=>Cd rfl ?_ ?_))) <;> clear H bY
 ·intro dS a H
  try have p53:=dT dS
  have hk2:k < rv.length:=by omega
  obtain ⟨xb,xo,rfl,hrow⟩:=IG (((mO.mono JO).mono OX).mono aao) hk2
  have hk3:k < (rv.map dU.id).length:=by simpa using hk2
  have hnew:=abL f3 hk3
  have Mt:(rv.map dU.id)[k]=rv[k].id:=by simp
  rw [Mt] at hnew;refine kP H (Kc dG (SQ fun _ dN=>SB (SR fun _ dH=>Ri vV yJ rfl rfl ?_)));clear H dG;intro a H;refine bK yJ (cs:=_) H wn rfl rfl (fun j v hj=>H.hp.aF (hrow j v hj)) rfl ?_;clear H;intro a H;refine dY yJ H wn rfl ?_;clear H;intro b9 a w uL H;refine bT yJ 0 (vs:=[_,_,_]) _ H wn rfl rfl rfl rfl rfl rfl rfl rfl ?_;clear H;intro w H;dsimp only [List.set,setRow] at H;refine dH _ _ ?_;clear dH;refine dI hmx [[],[0],[0,1],[0,1,2],[],[4],(ra 0 6)] [6] (by kernel_rfl) [_,_,_,.map (some b12),_,vi rv[k].id] H (aI (Z0 rfl (Rm rfl)) (Z1 0 56 rfl (Rk rfl)) (Z1 1 57 rfl (Rf LZ rfl)) (Z1 2 58 rfl (Ro qU 1 rfl)) (bG (Z0 rfl (Rf Ju rfl)) (bG (Z1 4 60 rfl (Ro aD 0 rfl)) (bG (cZ rfl) dQ)))) ?_
  clear H;intro a w G Hq H hv;have H:=H.bC (hv 3 59 rfl rfl) rfl;have H:=H.bC (hv 5 61 rfl rfl) rfl;clear hv;refine Ko (i:=6) xB nD H wn rfl rfl rfl rfl hnew ?_;clear H;intro w H;dsimp only [List.set,List.append,lca,aO] at H;rw [← Mt,← abM hk3] at H;refine aH ⟨rfl,?_⟩;refine dN _ _ ?_;clear dN;refine kP H (SC (Rd rfl (Rm rfl ?_)));clear H;intro a H;refine aH ?_;refine cB ((k+1,G)) (by exact (H.dx (Pl:=[_,_,_,_,_,_,_]) (bZ:=[_,_,_,_,_,_]) [1,2,3,4,5,6] (by decide) rfl).sub ⟨rfl,rfl,rfl,rfl,av⟩) ?_ ?_
  ·(try dsimp only);exact ⟨by omega,fun b o h=>Hq b o (aao b o h)⟩
  first|omega|(dsimp only;omega)
 intro dS a H
 try have p53:=dF dS
 obtain rfl:k=rv.length:=by omega
 rw [mF (by simp)] at H;refine dJ ?_;refine bW _ _ ?_;clear bW;refine kP H (SR fun _ dP=>Rm rfl (ak dP rfl ?_));clear H dP;intro a H;refine dK ?_;have H:=H.dx (Pl:=[_,_,_,_,_,_]) (bZ:=[_,_,_,_,_,_]) [3,4,5,1,0,2] (by decide) rfl;obtain ⟨Gs,hms,hs,H⟩:=H.eD;obtain ⟨Gl,UA,hl,H⟩:=H.eD;obtain ⟨Gr,hmr,hr,H⟩:=H.eD;obtain ⟨Gu,hmu,hu,H⟩:=H.eD;refine lv H results45 rfl ?_;exact H.hp.gB ⟨b16,b10,b11,b12,b13,b14,rfl,rfl,⟨hmu _ _ (hmr _ _ (UA _ _ hs)),hmu _ _ (hmr _ _ hl),hmu _ _ hr,hu⟩⟩
end
section
open Go.RowKit
theorem aio:dL prog 98 4 4:=⟨by kernel_rfl⟩
theorem Zw:dL prog 98 3 3:=⟨by kernel_rfl⟩
theorem Io (x:Int):∀ l:List Int,(uQ x (gV l)).getD (.bool false)=.bool (decide (x∈l))
 | []=>rfl
 | k :: r=>by
  have ih:=Io x r;rw [gV,dW,uQ]
  by_cases e:k=x
  ·subst e;simp
  rw [ah e,show (r.map fun k=>(k,Value.bool true))=gV r from rfl,ih]
  simp [show x≠k from fun h=>e h.symm]
def Es (st:List bS) (v:Int):Int:=((st.find? fun s=>decide (s.id=v)).map bS.kind).getD 0
theorem MP (x:Int):∀ l:List bS,(uQ x (CK l)).getD (vi 0)=vi (Es l x)
 | []=>rfl
 | s :: r=>by
  have ih:=MP x r;rw [CK,dW,uQ]
  by_cases e:s.id=x
  ·subst e;simp [Es]
  rw [ah e,show (r.map fun s=>(s.id,vi s.kind))=CK r from rfl,ih]
  simp [Es,e]
def nP (aY:List Int) (x:Int):Int:=if ¬ (1≤x∧x≤1073741824) then 18 else if x∈aY then 7 else 0
def jH (aY:List Int) (x:Int):List Int:=if nP aY x=0 then aY++[x] else aY
theorem amO (l:List Int) (x:Int):gV (l++[x])=gV l++[(x,.bool true)]:=by simp [gV]
theorem Rh (G:GH) (L:OL) (w0:World) (st:List bS) (li:List dR) (rv:List dU) (b ms ml mr mb mu:Nat) (n:Int) (aY:List Int) (x:Int) (hck:xI G st li rv ms ml mr mu) (hO:iT G (gQ b ms ml mr mb mu n :: (mb,fF (gV aY)) :: L) w0) :
  Calls prog 163 #[(aP b 0),vi x] w0 (iE w0 G (gQ b ms ml mr mb mu n :: (mb,fF (gV aY)) :: L) fun u G' L'=>u=vi (nP aY x)∧L'=gQ b ms ml mr mb mu n :: (mb,fF (gV (jH aY x))) :: L∧G=G'):=by
 refine kS (N:=29) (T:=[(0,_),(1,_)]) func163 rfl ntmps163 rfl rfl hO ?_;intro a H;refine kP H (SR fun _ K1=>ak K1 rfl (SQ fun _ K2=>SB (SR fun _ K3=>Rm rfl ?_)));clear H K1;intro a H;refine s_call za H wn rfl (zB _ _ H.ro x 1 1073741824) rfl ?_;clear H;rintro v7 _ a w ⟨rfl,rfl⟩ - H;refine kH H (Rn rfl (Rm rfl (Sp 9 rfl ?_ ?_))) <;> clear H
 ·intro h9 a H
  try have p9:=dT h9
  refine kH H (aZ h9 rfl (aZ h9 rfl (Pt h9 rfl (ak K3 rfl (Ct rfl rfl (SQ fun _ K4=>?_))))));clear H K3;intro a H
  have e:nP aY x=18:=by rw [nP,au (by first|(simp_all;done)|(simp_all;omega))]
  refine kP H (SC (aL K4 rfl ?_));clear H K4;intro a H;refine lr H results163 rfl ?_
  first
   | exact H.hp.gB ⟨by rw [e],by rw [jH,au e],rfl⟩
   | exact H.hp.gB ⟨by rw [e],by rw [jH,ah (by rw [e];decide)],rfl⟩
 intro h9 a H
 try have p9:=dF h9
 refine kH H (YM h9 rfl ?_);clear H;intro a H;refine uR H (wg H rfl rfl h9) rfl rfl ?_;clear H;intro a H;refine kH H (YF aio h9 rfl (YO qU 0 h9 rfl (YM h9 rfl ?_)));clear H;intro a H;refine BP (zv:=.bool false) xB nD (by kernel_rfl) H (wg H rfl rfl h9) rfl rfl (H.ro _ _ hck.use) rfl ?_;clear H;intro a H;rw [show (uQ x []).getD (Value.bool false)=.bool false from rfl] at H;refine kH H (Pf h9 rfl (ak K3 rfl (Cd rfl ?_ ?_))) <;> clear H K3
 ·intro h5 a H
  try have p5:=dT h5
  refine aN (fun _ K5=>?_)
  have e:nP aY x=18:=by rw [nP,au (by first|(simp_all;done)|(simp_all;omega))]
  refine kP H (SC (aL K5 rfl ?_));clear H K5;intro a H;refine lr H results163 rfl ?_
  first
   | exact H.hp.gB ⟨by rw [e],by rw [jH,au e],rfl⟩
   | exact H.hp.gB ⟨by rw [e],by rw [jH,ah (by rw [e];decide)],rfl⟩
 intro h5 a H
 try have p5:=dF h5
 have hin:decide (1≤x∧x≤1073741824)=true:=by simp_all
 refine kP H (SR fun _ K6=>Rm rfl (Rk rfl (aR Zw qU 0 rfl rfl (Rm rfl ?_))));clear H;intro a H;refine BP (zv:=.bool false) xB nD (by kernel_rfl) H wn rfl rfl (H.hp.own _ (sW _ jg)) rfl ?_;clear H;intro a H;rw [Io] at H;refine kH H (ak K6 rfl (Cd rfl ?_ ?_)) <;> clear H K6
 ·intro gu a H
  refine aN (fun _ K7=>?_)
  have e:nP aY x=7:=by rw [nP,ah (by simpa using hin),au (oU gu)]
  refine kP H (SC (aL K7 rfl ?_));clear H K7;intro a H;refine lr H results163 rfl ?_
  first
   | exact H.hp.gB ⟨by rw [e],by rw [jH,au e],rfl⟩
   | exact H.hp.gB ⟨by rw [e],by rw [jH,ah (by rw [e];decide)],rfl⟩
 intro gu a H
 have hx:x∉aY:=of_decide_eq_false gu;have hnew:uQ x (gV aY)=none:=J5 (by simpa [gV,List.map_map,Function.comp_def] using hx)
 have e:nP aY x=0:=by rw [nP,ah (by simpa using hin),ah hx]
 refine kP H (Kc K2 (SR fun _ K8=>Rm rfl (Rk rfl (aR Zw qU 0 rfl rfl (Rm rfl ?_)))));clear H K2;intro a H;refine Ko (i:=1) xB nD H wn rfl rfl rfl rfl hnew ?_;clear H;intro w H;dsimp only [List.set] at H;rw [← amO] at H;refine K8 _ _ ?_;clear K8;refine kP H (SR fun _ K9=>ak K9 rfl ?_);clear H K9;intro a H;refine lr H results163 rfl ?_
 first
  | exact H.hp.gB ⟨by rw [e],by rw [jH,au e],rfl⟩
  | exact H.hp.gB ⟨by rw [e],by rw [jH,ah (by rw [e];decide)],rfl⟩
def kM (st:List bS) (yw:List Int) (key v:Int):Int :=
 if key=20∨key=1 then bL (decide (v≠0∧Es st v≠(if key=1 then 2 else 1))) 25 else if key=33 then bL (decide (v≠0∧v∉yw)) 26 else 0
theorem Rj (G:GH) (w0:World) (hG:Hold G w0) (st:List bS) (li:List dR) (rv:List dU) (b ms ml mr mb mu:Nat) (n:Int) (key v:Int) (hck:xI G st li rv ms ml mr mu) (hb:G b=some (gQ b ms ml mr mb mu n).2) :
  Calls prog 135 #[(aP b 0),vi key,vi v] w0 (bV w0 G fun u G'=>u=vi (kM st (li.map dR.id) key v)∧G=G'):=by
 have hc0:aF G b 0=some (.map (some ms)):=by unfold aF;rw [hb];rfl
 have hc1:aF G b 1=some (.map (some ml)):=by unfold aF;rw [hb];rfl
 refine eN [(0,_),(1,_),(2,_)] func135 rfl ntmps135 rfl rfl hG ?_;intro a H;refine kP H (SR fun _ K1=>ak K1 rfl (SQ fun _ K2=>SR fun _ K3=>Rm rfl (Kz K3 (SB (SQ fun _ K4=>SR fun _ K5=>Rc rfl (ak K5 rfl (Cd rfl ?_ ?_))))))) <;> clear H K1 K3 K5
 ·intro h9 a H
  try have p9:=dT h9
  refine kP H (Kc K4 (Ct rfl h9 (SR fun _ K6=>ak K6 rfl (SQ fun _ K7=>SR fun _ K8=>Rm rfl (Rc rfl (Kz K8 (Cd rfl ?_ ?_))))))) <;> clear H K4 K6 K8
  ·intro eO a H
   try have nZ:=dT eO
   refine kP H (SC (aL K7 rfl (SR fun _ K9=>Rm rfl (Rc rfl (Rm rfl (Sp 16 rfl ?_ ?_)))))) <;> clear H K7
   ·intro h16 a H
    try have p16:=dT h16
    refine kH H (YM h16 rfl ?_);clear H;intro a H;refine uR H (wg H rfl rfl h16) rfl rfl ?_;clear H;intro a H;refine kH H (YF LY h16 rfl (YR Nb h16 rfl (by assumption) ?_));clear H;intro a H;refine kH H (YM h16 rfl ?_);clear H;intro a H;refine BP (zv:=vi 0) IL nD (by kernel_rfl) H (wg H rfl rfl h16) rfl rfl (H.ro _ _ hck.sty) rfl ?_;clear H;intro a H;rw [MP] at H;refine kH H (YM h16 rfl (YC h16 rfl (Pt h16 rfl ?_)));clear H;intro a H;refine s_call kg H wn rfl (ku _ _ H.ro _ 25) rfl ?_;clear H;rintro v26 _ a w ⟨rfl,rfl⟩ - H;refine kH H (ak K9 rfl ?_);clear H K9;intro a H;refine lr H results135 rfl ?_
    exact H.rt ⟨ay vi (by unfold kM;(repeat' split) <;> first|rfl|(simp_all;done)|(exfalso;simp_all;done)|(congr 1;rw [ru];simp only [yV,wB,qY];exact ⟨fun h=>⟨p31,h⟩,fun h=>h.2⟩)),rfl⟩
   intro h16 a H
   try have p16:=dF h16
   refine kH H (aZ h16 rfl (aZ h16 rfl (aT h16 rfl (Pf h16 rfl ?_))));clear H;intro a H;refine s_call kg H wn rfl (ku _ _ H.ro _ 25) rfl ?_;clear H;rintro v26 _ a w ⟨rfl,rfl⟩ - H;refine kH H (ak K9 rfl ?_);clear H K9;intro a H;refine lr H results135 rfl ?_
   exact H.rt ⟨ay vi (by unfold kM;(repeat' split) <;> first|rfl|(simp_all;done)|(exfalso;simp_all;done)|(congr 1;rw [ru];simp only [yV,wB,qY];exact ⟨fun h=>⟨p31,h⟩,fun h=>h.2⟩)),rfl⟩
  intro eO a H
  try have nZ:=dF eO
  refine kP H (Kc K7 (SR fun _ aU=>Rm rfl (Rc rfl (Rm rfl (Sp 16 rfl ?_ ?_))))) <;> clear H K7
  ·intro h16 a H
   try have p16:=dT h16
   refine kH H (YM h16 rfl ?_);clear H;intro a H;refine uR H (wg H rfl rfl h16) rfl rfl ?_;clear H;intro a H;refine kH H (YF LY h16 rfl (YR Nb h16 rfl (by assumption) ?_));clear H;intro a H;refine kH H (YM h16 rfl ?_);clear H;intro a H;refine BP (zv:=vi 0) IL nD (by kernel_rfl) H (wg H rfl rfl h16) rfl rfl (H.ro _ _ hck.sty) rfl ?_;clear H;intro a H;rw [MP] at H;refine kH H (YM h16 rfl (YC h16 rfl (Pt h16 rfl ?_)));clear H;intro a H;refine s_call kg H wn rfl (ku _ _ H.ro _ 25) rfl ?_;clear H;rintro v26 _ a w ⟨rfl,rfl⟩ - H;refine kH H (ak aU rfl ?_);clear H aU;intro a H;refine lr H results135 rfl ?_
   exact H.rt ⟨ay vi (by unfold kM;(repeat' split) <;> first|rfl|(simp_all;done)|(exfalso;simp_all;done)|(congr 1;rw [ru];simp only [yV,wB,qY];exact ⟨fun h=>⟨p31,h⟩,fun h=>h.2⟩)),rfl⟩
  intro h16 a H
  try have p16:=dF h16
  refine kH H (aZ h16 rfl (aZ h16 rfl (aT h16 rfl (Pf h16 rfl ?_))));clear H;intro a H;refine s_call kg H wn rfl (ku _ _ H.ro _ 25) rfl ?_;clear H;rintro v26 _ a w ⟨rfl,rfl⟩ - H;refine kH H (ak aU rfl ?_);clear H aU;intro a H;refine lr H results135 rfl ?_
  exact H.rt ⟨ay vi (by unfold kM;(repeat' split) <;> first|rfl|(simp_all;done)|(exfalso;simp_all;done)|(congr 1;rw [ru];simp only [yV,wB,qY];exact ⟨fun h=>⟨p31,h⟩,fun h=>h.2⟩)),rfl⟩
 intro h9 a H
 try have p9:=dF h9
 refine kP H (SC (Rc rfl (aL K4 rfl (Cd rfl ?_ ?_)))) <;> clear H K4
 ·intro h9 a H
  try have p9:=dT h9
  refine kP H (SR fun _ bD=>ak bD rfl (SQ fun _ bE=>SR fun _ bQ=>Rm rfl (Rc rfl (Kz bQ (Cd rfl ?_ ?_))))) <;> clear H bD bQ
  ·intro eO a H
   try have nZ:=dT eO
   refine kP H (SC (aL bE rfl (SR fun _ bR=>Rm rfl (Rc rfl (Rm rfl (Sp 16 rfl ?_ ?_)))))) <;> clear H bE
   ·intro h16 a H
    try have p16:=dT h16
    refine kH H (YM h16 rfl ?_);clear H;intro a H;refine uR H (wg H rfl rfl h16) rfl rfl ?_;clear H;intro a H;refine kH H (YF LY h16 rfl (YR Nb h16 rfl (by assumption) ?_));clear H;intro a H;refine kH H (YM h16 rfl ?_);clear H;intro a H;refine BP (zv:=vi 0) IL nD (by kernel_rfl) H (wg H rfl rfl h16) rfl rfl (H.ro _ _ hck.sty) rfl ?_;clear H;intro a H;rw [MP] at H;refine kH H (YM h16 rfl (YC h16 rfl (Pt h16 rfl ?_)));clear H;intro a H;refine s_call kg H wn rfl (ku _ _ H.ro _ 25) rfl ?_;clear H;rintro v26 _ a w ⟨rfl,rfl⟩ - H;refine kH H (ak bR rfl ?_);clear H bR;intro a H;refine lr H results135 rfl ?_
    exact H.rt ⟨ay vi (by unfold kM;(repeat' split) <;> first|rfl|(simp_all;done)|(exfalso;simp_all;done)|(congr 1;rw [ru];simp only [yV,wB,qY];exact ⟨fun h=>⟨p31,h⟩,fun h=>h.2⟩)),rfl⟩
   intro h16 a H
   try have p16:=dF h16
   refine kH H (aZ h16 rfl (aZ h16 rfl (aT h16 rfl (Pf h16 rfl ?_))));clear H;intro a H;refine s_call kg H wn rfl (ku _ _ H.ro _ 25) rfl ?_;clear H;rintro v26 _ a w ⟨rfl,rfl⟩ - H;refine kH H (ak bR rfl ?_);clear H bR;intro a H;refine lr H results135 rfl ?_
   exact H.rt ⟨ay vi (by unfold kM;(repeat' split) <;> first|rfl|(simp_all;done)|(exfalso;simp_all;done)|(congr 1;rw [ru];simp only [yV,wB,qY];exact ⟨fun h=>⟨p31,h⟩,fun h=>h.2⟩)),rfl⟩
  intro eO a H
  try have nZ:=dF eO
  refine kP H (Kc bE (SR fun _ bW=>Rm rfl (Rc rfl (Rm rfl (Sp 16 rfl ?_ ?_))))) <;> clear H bE
  ·intro h16 a H
   try have p16:=dT h16
   refine kH H (YM h16 rfl ?_);clear H;intro a H;refine uR H (wg H rfl rfl h16) rfl rfl ?_;clear H;intro a H;refine kH H (YF LY h16 rfl (YR Nb h16 rfl (by assumption) ?_));clear H;intro a H;refine kH H (YM h16 rfl ?_);clear H;intro a H;refine BP (zv:=vi 0) IL nD (by kernel_rfl) H (wg H rfl rfl h16) rfl rfl (H.ro _ _ hck.sty) rfl ?_;clear H;intro a H;rw [MP] at H;refine kH H (YM h16 rfl (YC h16 rfl (Pt h16 rfl ?_)));clear H;intro a H;refine s_call kg H wn rfl (ku _ _ H.ro _ 25) rfl ?_;clear H;rintro v26 _ a w ⟨rfl,rfl⟩ - H;refine kH H (ak bW rfl ?_);clear H bW;intro a H;refine lr H results135 rfl ?_
   exact H.rt ⟨ay vi (by unfold kM;(repeat' split) <;> first|rfl|(simp_all;done)|(exfalso;simp_all;done)|(congr 1;rw [ru];simp only [yV,wB,qY];exact ⟨fun h=>⟨p31,h⟩,fun h=>h.2⟩)),rfl⟩
  intro h16 a H
  try have p16:=dF h16
  refine kH H (aZ h16 rfl (aZ h16 rfl (aT h16 rfl (Pf h16 rfl ?_))));clear H;intro a H;refine s_call kg H wn rfl (ku _ _ H.ro _ 25) rfl ?_;clear H;rintro v26 _ a w ⟨rfl,rfl⟩ - H;refine kH H (ak bW rfl ?_);clear H bW;intro a H;refine lr H results135 rfl ?_
  exact H.rt ⟨ay vi (by unfold kM;(repeat' split) <;> first|rfl|(simp_all;done)|(exfalso;simp_all;done)|(congr 1;rw [ru];simp only [yV,wB,qY];exact ⟨fun h=>⟨p31,h⟩,fun h=>h.2⟩)),rfl⟩
 intro h9 a H
 try have p9:=dF h9
 refine kP H (SR fun _ cK=>Rc rfl (ak cK rfl (Cd rfl ?_ ?_))) <;> clear H cK
 ·intro h27 a H
  try have p27:=dT h27
  refine kP H (SR fun _ bY=>Rm rfl (Rc rfl (Rm rfl (Sp 31 rfl ?_ ?_)))) <;> clear H
  ·intro h31 a H
   try have p31:=dT h31
   refine kH H (YM h31 rfl ?_);clear H;intro a H;refine uR H (wg H rfl rfl h31) rfl rfl ?_;clear H;intro a H;refine kH H (YF Zv h31 rfl (YR qU h31 rfl (by assumption) ?_));clear H;intro a H;refine kH H (YM h31 rfl ?_);clear H;intro a H;refine BP (zv:=.bool false) xB nD (by kernel_rfl) H (wg H rfl rfl h31) rfl rfl (H.ro _ _ hck.yw) rfl ?_;clear H;intro a H;rw [Io] at H;refine kH H (YN h31 rfl (Pt h31 rfl ?_));clear H;intro a H;refine s_call kg H wn rfl (ku _ _ H.ro _ 26) rfl ?_;clear H;rintro v40 _ a w ⟨rfl,rfl⟩ - H;refine kH H (ak bY rfl ?_);clear H bY;intro a H;refine lr H results135 rfl ?_
   exact H.rt ⟨ay vi (by unfold kM;(repeat' split) <;> first|rfl|(simp_all;done)|(exfalso;simp_all;done)|(congr 1;rw [ru];simp only [yV,wB,qY];exact ⟨fun h=>⟨p31,h⟩,fun h=>h.2⟩)),rfl⟩
  intro h31 a H
  try have p31:=dF h31
  refine kH H (aZ h31 rfl (aT h31 rfl (aT h31 rfl (Pf h31 rfl ?_))));clear H;intro a H;refine s_call kg H wn rfl (ku _ _ H.ro _ 26) rfl ?_;clear H;rintro v40 _ a w ⟨rfl,rfl⟩ - H;refine kH H (ak bY rfl ?_);clear H bY;intro a H;refine lr H results135 rfl ?_
  exact H.rt ⟨ay vi (by unfold kM;(repeat' split) <;> first|rfl|(simp_all;done)|(exfalso;simp_all;done)|(congr 1;rw [ru];simp only [yV,wB,qY];exact ⟨fun h=>⟨p31,h⟩,fun h=>h.2⟩)),rfl⟩
 intro h27 a H
 try have p27:=dF h27
 refine kP H (Kc K2 (SR fun _ dG=>ak dG rfl ?_));clear H K2 dG;intro a H;refine lr H results135 rfl ?_
 exact H.rt ⟨ay vi (by unfold kM;(repeat' split) <;> first|rfl|(simp_all;done)|(exfalso;simp_all;done)|(congr 1;rw [ru];simp only [yV,wB,qY];exact ⟨fun h=>⟨p31,h⟩,fun h=>h.2⟩)),rfl⟩
end
section
open Go.RowKit
section
variable {N:Nat} {D:List Deferred} {w0:World} {F:Nat→Prop} {G0 G G':GH} {L L':OL} {T:List (Nat × aj)}
variable {r:Option Nat} {P:Program} {ops:Array Oper} {Q:Exit→Act→World→Prop} {rest:List Oper} {a:Act} {w w':World}
theorem mU {ι:Type} {Tc:List (Nat × aj)} {l:List Oper} (k:Nat) (Tv:ι→List (Nat × aj)) (Pr:ι→Prop) (_:St N D w0 F G0 G L Tc a w)
  (h1:(∀ i a w,Pr i→St N D w0 F G0 G L (Tv i++Tc) a w→WL r P ops Q (l.drop k) a w)→WL r P ops Q l a w)
  (h2:∀ i a w,Pr i→St N D w0 F G0 G L (Tv i++Tc) a w→WL r P ops Q (l.drop k) a w):WL r P ops Q l a w:=h1 h2
theorem Change.back (h:Change w w' G G' L L'):Change w w' G G L L' :=
 ⟨h.os,h.tape,h.output,h.size,h.fr,fun _ _ h=>h,fun _ _ h=>.inl h,⟨fun k o hk=>h.owns.ro k o (h.gm k o hk),h.owns.own,fun p hp=>(by
  have hs:=h.owns.sep p hp
  cases hg:G p.1 with
  | none=>rfl
  | some o=>have:=h.gm _ _ hg;rw [hs] at this;cases this),h.owns.nd⟩,h.lx⟩
theorem iE.back {R:aj→GH→OL→Prop} {R':aj→OL→Prop} (hR:∀ v G' L',R v G' L'→R' v L') {e:Ending} (h:iE w G L R e w'):iE w G L (fun v G' L'=>G=G'∧R' v L') e w':=by
 obtain ⟨v,G',L',rfl,hc,hr⟩:=h
 exact ⟨v,G,L',rfl,hc.back,rfl,hR _ _ _ hr⟩
theorem Calls.aeV {f:FuncId} {args:Array aj} {R:aj→GH→OL→Prop} {R':aj→OL→Prop} (h:Calls P f args w (iE w G L R)) (hR:∀ v G' L',R v G' L'→R' v L'):Calls P f args w (iE w G L fun v G' L'=>G=G'∧R' v L') :=
 h.mono fun _ _=>iE.back hR
theorem bV.back {R:aj→GH→Prop} {e:Ending} (h:bV w G R e w'):bV w G (fun v G'=>(∃ g,R v g)∧G=G') e w':=by
 obtain ⟨v,G',rfl,hb,hX,hr⟩:=h
 exact ⟨v,G,rfl,hb,⟨fun _ _ h=>h,fun _ _ h=>.inl h,fun k o hk=>hX.2.2 k o (hX.1 k o hk)⟩,⟨G',hr⟩,rfl⟩
theorem EX {f:FuncId} {args:Array aj} {R:aj→GH→Prop} (h:Calls P f args w (bV w G R)):Calls P f args w (bV w G fun v G'=>(∃ g,R v g)∧G=G'):=h.mono fun _ _=>bV.back
theorem iT.add {b:Nat} {o:Obj} (h:iT G ((b,o) :: L) w):Hold (G.add b o) w:=fun k o' hk=>by
 unfold GH.add at hk
 split at hk
 ·next e=>cases hk;subst e;exact h.own _ jg
 ·exact h.ro k o' hk
theorem VR {b:Nat} {o:Obj} {R:aj→GH→Prop} {R':aj→Prop} (hO:iT G ((b,o) :: L) w) (hR:∀ v G',R v G'→R' v) {e:Ending} (h:bV w (G.add b o) R e w'):iE w G ((b,o) :: L) (fun v G' L'=>G=G'∧L'=(b,o) :: L∧R' v) e w':=by
 obtain ⟨v,G',rfl,hb,hX,hr⟩:=h
 exact ⟨v,G,_,rfl,(hO.hp.below hb).adn,rfl,rfl,hR _ _ hr⟩
end
end
section
open Go.RowKit
theorem uG:dL prog 27 0 0:=⟨by kernel_rfl⟩
theorem zi:dL prog 27 1 1:=⟨by kernel_rfl⟩
abbrev kV.cells (x:kV):List aj:=[vi x.rev,vi x.move]
abbrev lF.cells (x:lF):List aj:=[vi x.rev,vi x.key,vi x.before,.bool x.had]
theorem agc {G:GH} {x:kV} {cs:List aj} (h:bM G x.dat cs):cs=x.cells:=by
 simp only [kV.dat,bM,aB] at h
 obtain ⟨_,_,rfl,⟨rfl,_⟩,_,_,rfl,⟨rfl,_⟩,rfl⟩:=h
 rfl
theorem ams {G:GH} {x:lF} {cs:List aj} (h:bM G x.dat cs):cs=x.cells:=by
 simp only [lF.dat,bM,aB] at h
 obtain ⟨_,_,rfl,⟨rfl,_⟩,_,_,rfl,⟨rfl,_⟩,_,_,rfl,⟨rfl,_⟩,_,_,rfl,⟨rfl,_⟩,rfl⟩:=h
 rfl
abbrev Fq (h:dz) (p d l:aj):aj:=.agg #[p,vi h.marks.ins,vi h.marks.move,d,l]
end
section
open Go.RowKit
theorem Oj:dL prog 117 0 0:=⟨by kernel_rfl⟩
theorem qg:dL prog 117 1 1:=⟨by kernel_rfl⟩
theorem E9:dL prog 117 3 3:=⟨by kernel_rfl⟩
theorem vC:dL prog 117 2 2:=⟨by kernel_rfl⟩
theorem RB:∀ args w,(callFunc 135 args).run prog w=.ok (.enter 135 args) w:=enters func135 rfl (by kernel_rfl)
structure eZ where
 st:List bS
 yw:List Int
 BN:List Int
abbrev aK (st:List bS) (li:List dR) (rv:List dU):eZ:=⟨st,li.map dR.id,rv.map dU.id⟩
theorem J3 {G:GH} {l:List lF} {A:Option Addr} {n c k:Nat} (hv:aB G (.sl 4 (l.map lF.dat)) (.slice A n c)) (hk:k < l.length):∃ b o,A=some ⟨b,o,none⟩∧(∀ j u,l[k].cells[j]?=some u→aF G b (o+k*4+j)=some u):=by
 obtain ⟨A',c',he,_,_,hg⟩:=hv.slice
 injection he with e1 e2 e3
 subst e1;obtain ⟨b,o,cs,h1,h2,h3,h4⟩:=hg k l[k].dat (by simp [hk]);have:=ams h4;subst this;exact ⟨b,o,h1,h3⟩
theorem Jk {G:GH} {l:List kV} {A:Option Addr} {n c k:Nat} (hv:aB G (.sl 2 (l.map kV.dat)) (.slice A n c)) (hk:k < l.length):∃ b o,A=some ⟨b,o,none⟩∧(∀ j u,l[k].cells[j]?=some u→aF G b (o+k*2+j)=some u):=by
 obtain ⟨A',c',he,_,_,hg⟩:=hv.slice
 injection he with e1 e2 e3
 subst e1;obtain ⟨b,o,cs,h1,h2,h3,h4⟩:=hg k l[k].dat (by simp [hk]);have:=agc h4;subst this;exact ⟨b,o,h1,h3⟩
def lK (C:eZ) (e:Int) (k:Nat) (x:lF) (pk:Int):Int :=
 if x.rev∉C.BN then 22 else if Bj e x.key=false then 4 else if 0 < k∧x.key < pk then 6 else if x.had=false then bL (decide (x.before≠0)) 21 else bO [tC x.key x.before,kM C.st C.yw x.key x.before]
def zC (C:eZ) (e:Int) (l:List lF) (k:Nat):Int:=match l[k]? with|some x=>lK C e k x ((l[k - 1]?.map lF.key).getD 0)|none=>0
theorem amt (G:GH) (w0:World) (hG:Hold G w0) (st:List bS) (li:List dR) (rv:List dU) (b ms ml mr mb mu:Nat) (n:Int) (hck:xI G st li rv ms ml mr mu) (hb:G b=some (gQ b ms ml mr mb mu n).2)
  (e:Int) (l:List lF) (v:aj) (hv:aB G (.sl 4 (l.map lF.dat)) v) (k:Nat) (hk:k < l.length) :
  Calls prog 137 #[(aP b 0),vi e,v,vi k] w0 (bV w0 G fun u G'=>u=vi (zC (aK st li rv) e l k)):=by
 have hc2:aF G b 2=some (.map (some mr)):=by unfold aF;rw [hb];rfl
 obtain ⟨A,c,rfl,hl1,hl2,-⟩:=hv.slice;have hml:maxLen=9223372036854775807:=rfl;rw [bN] at *;obtain ⟨xb,xo,rfl,hrow⟩:=J3 hv hk
 have hk1:k - 1 < l.length:=by omega
 obtain ⟨b',o',he',hrow'⟩:=J3 hv hk1
 injection he' with he'
 injection he' with e1 e2
 subst e1;subst e2
 have he:zC (aK st li rv) e l k=lK (aK st li rv) e k l[k] l[k - 1].key:=by unfold zC;rw [fH hk,fH hk1];rfl
 obtain ⟨x,hx⟩:∃ x,x=l[k]:=⟨_,rfl⟩;obtain ⟨y,hy⟩:∃ y,y=l[k - 1]:=⟨_,rfl⟩;rw [← hx] at hrow he;rw [← hy] at hrow' he;have hq:=hrow' 1 _ rfl;refine eN [(0,_),(1,_),(2,_),(3,_)] func137 rfl ntmps137 rfl rfl hG ?_;intro a H;refine kP H (SR fun _ K1=>ak K1 rfl (SR fun _ K2=>Rm rfl (Rm rfl (Ri tX uU rfl rfl ?_))));clear H K1;intro a H;refine bK uU (cs:=x.cells) H wn rfl rfl (fun j v hj=>H.hp.aF (hrow j v hj)) rfl ?_;clear H;intro a H;refine dY uU H wn rfl ?_;clear H;intro b9 a w uL H;refine bT uU 0 (vs:=[_,_,_,_]) _ H wn rfl rfl rfl rfl rfl rfl rfl rfl ?_;clear H;intro w H;dsimp only [List.set,setRow] at H;refine K2 _ _ ?_;clear K2;refine kP H (SQ fun _ K3=>SB (SQ fun _ K4=>?_));clear H;intro a H;refine dI hmx [[],[0],[0,1],[0,1,2],[],[4],(ra 0 6),(ra 0 7),(ra 0 8)] [8] (by kernel_rfl) [_,_,_,_,_,vi x.rev,.bool (decide (x.rev∈rv.map dU.id)),_] H (aI (Z0 rfl (Rm rfl)) (Z1 0 15 rfl (Rk rfl)) (Z1 1 16 rfl (Rf LZ rfl)) (X1 2 17 rfl fun hG=>Rg qU rfl (aJ hG hc2)) (aI (Z0 rfl (Rf Oj rfl)) (Z1 4 19 rfl (Ro aD 0 rfl)) ?_ (Z1 6 21 rfl (Rn rfl)) (bG (cZ rfl) dQ))) ?_
 ·refine fu 3 18 5 20 rfl rfl fun _ a w G1 hG HT H fin=>?_;refine BP (zv:=.bool false) xB nD (by kernel_rfl) H wn rfl rfl (H.ro _ _ (hG _ _ hck.rev)) rfl ?_;clear H;intro a H;rw [Io] at H;exact fin H iJ rfl
 clear H;intro a w G Hr H hv;have H:=H.bC (hv 7 22 rfl rfl) rfl;clear hv;refine kH H (Ra rfl ?_);clear H;intro a H;refine aH ⟨rfl,?_⟩;refine K4 _ _ ?_;clear K4;refine qG H rfl ?_ ?_
 ·intro gT
  try have sK:=dT gT
  refine kP H (SR fun _ K5=>ak K5 rfl ?_);clear H K5;intro a H;refine lr H results137 rfl ?_
  exact H.rt (by rw [he];refine ay vi ?_;clear he hrow hrow' hq hx hy;unfold lK;(repeat' split) <;> first|rfl|(simp_all;done)|(exfalso;simp_all;done))
 intro gT
 try have sK:=dF gT
 refine kP H (SR fun _ K6=>Rm rfl (aR qg aD 0 rfl rfl ?_));clear H;intro a H;refine s_call R8 H wn rfl (EX (Sv _ _ H.ro e x.key)) rfl ?_;clear H;rintro v27 _ a w ⟨⟨_,rfl⟩,rfl⟩ - H;refine kH H (Rn rfl (ak K6 rfl (Cd rfl ?_ ?_))) <;> clear H K6
 ·intro h23 a H
  try have CP:=dT h23
  refine kP H (SR fun _ K7=>ak K7 rfl ?_);clear H K7;intro a H;refine lr H results137 rfl ?_
  exact H.rt (by rw [he];refine ay vi ?_;clear he hrow hrow' hq hx hy;unfold lK;(repeat' split) <;> first|rfl|(simp_all;done)|(exfalso;simp_all;done))
 intro h23 a H
 try have CP:=dF h23
 refine aN (fun _ K8=>?_);replace hq:=aJ Hr hq
 by_cases c0:0 < (k:Int)
 ·skip
  by_cases c1:x.key < y.key
  ·skip;refine dI hmx [[],[0],[0,1],[0,1,2],(ra 0 4),[0,1,2],[0,1,2],[0,1,2,6],[0,1,2,5,6,7],[0,1,2,5,6,7,8],[0,1,2,5,6,7,8,9],(ra 0 11),(ra 0 12),(ra 0 13)] [13] (by kernel_rfl) [_,_,_,_,vi x.key,_,_,vi ((k - 1:Nat):Int),_,_,_,_,_] H (aI (Z0 rfl (Rm rfl)) (Z1 0 30 rfl (Rc rfl)) (Z1 1 31 rfl (Rm rfl)) (Z1 2 32 rfl (YF qg (aG c0) rfl)) (aI (Z2 3 33 2 32 rfl (YO aD 0 (aG c0) rfl)) (Z1 2 32 rfl (YM (aG c0) rfl)) (Z1 2 32 rfl (YM (aG c0) rfl)) ?_ (aI (Z3 5 35 7 37 2 32 rfl (YI tX uU (aG c0) rfl rfl)) (Z2 8 38 2 32 rfl (YF qg (aG c0) rfl)) (X2 9 39 2 32 rfl fun hG=>YR aD (aG c0) rfl (aJ hG hq)) (Z3 4 34 10 40 2 32 rfl (YC (aG c0) rfl)) (bG (Z2 2 32 11 41 rfl (Pt (aG c0) rfl)) (bG (cZ rfl) dQ))))) ?_
   ·refine fu 6 36 2 32 rfl rfl fun _ a w G1 hG HT H fin=>?_;refine mQ _ H (wg H rfl rfl (aG c0)) rfl rfl rfl (by omega) (by omega) rfl ?_;clear H;intro a H;exact fin H iJ (by show _=_;first|rfl|exact ay vi (by omega))
   clear H;intro a w G lI H hv;have H:=H.bC (hv 12 42 rfl rfl) rfl;clear hv;refine kH H (Ra rfl ?_);clear H;intro a H;refine aH ⟨rfl,?_⟩;refine K8 _ _ ?_;clear K8;refine AX H rfl (aG c1) ?_;refine aN (fun _ K9=>?_);have hz:0 < k∧x.key < y.key:=⟨by omega,c1⟩;refine kP H (SC (aL K9 rfl ?_));clear H K9;intro a H;refine lr H results137 rfl ?_
   exact H.rt (by rw [he];refine ay vi ?_;clear he hrow hrow' hq hx hy;unfold lK;(repeat' split) <;> first|rfl|(simp_all;done)|(exfalso;simp_all;done))
  skip;refine dI hmx [[],[0],[0,1],[0,1,2],(ra 0 4),[0,1,2],[0,1,2],[0,1,2,6],[0,1,2,5,6,7],[0,1,2,5,6,7,8],[0,1,2,5,6,7,8,9],(ra 0 11),(ra 0 12),(ra 0 13)] [13] (by kernel_rfl) [_,_,_,_,vi x.key,_,_,vi ((k - 1:Nat):Int),_,_,_,_,_] H (aI (Z0 rfl (Rm rfl)) (Z1 0 30 rfl (Rc rfl)) (Z1 1 31 rfl (Rm rfl)) (Z1 2 32 rfl (YF qg (aG c0) rfl)) (aI (Z2 3 33 2 32 rfl (YO aD 0 (aG c0) rfl)) (Z1 2 32 rfl (YM (aG c0) rfl)) (Z1 2 32 rfl (YM (aG c0) rfl)) ?_ (aI (Z3 5 35 7 37 2 32 rfl (YI tX uU (aG c0) rfl rfl)) (Z2 8 38 2 32 rfl (YF qg (aG c0) rfl)) (X2 9 39 2 32 rfl fun hG=>YR aD (aG c0) rfl (aJ hG hq)) (Z3 4 34 10 40 2 32 rfl (YC (aG c0) rfl)) (bG (Z2 2 32 11 41 rfl (Pt (aG c0) rfl)) (bG (cZ rfl) dQ))))) ?_
  ·refine fu 6 36 2 32 rfl rfl fun _ a w G1 hG HT H fin=>?_;refine mQ _ H (wg H rfl rfl (aG c0)) rfl rfl rfl (by omega) (by omega) rfl ?_;clear H;intro a H;exact fin H iJ (by show _=_;first|rfl|exact ay vi (by omega))
  clear H;intro a w G lI H hv;have H:=H.bC (hv 12 42 rfl rfl) rfl;clear hv;refine kH H (Ra rfl ?_);clear H;intro a H;refine aH ⟨rfl,?_⟩;refine K8 _ _ ?_;clear K8;refine oF H rfl (aQ c1) ?_;refine aN (fun _ aU=>?_)
  have hz:¬ (0 < k∧x.key < y.key):=by first|exact fun h=>c1 h.2|exact fun h=>c0 (by omega)
  refine kP H (SC (aR E9 sS 0 rfl rfl (Rn rfl (aL aU rfl (Cd rfl ?_ ?_))))) <;> clear H aU
  ·intro h43 a H
   try have p43:=dT h43
   refine kP H (SR fun _ bD=>aR vC aD 0 rfl rfl (Rc rfl ?_));clear H;intro a H;refine s_call kg H wn rfl (ku _ _ H.ro _ 21) rfl ?_;clear H;rintro v50 _ a w ⟨rfl,rfl⟩ - H;refine kH H (ak bD rfl ?_);clear H bD;intro a H;refine lr H results137 rfl ?_
   exact H.rt (by rw [he];refine ay vi ?_;clear he hrow hrow' hq hx hy;unfold lK;(repeat' split) <;> first|rfl|(simp_all;done)|(exfalso;simp_all;done))
  intro h43 a H
  try have p43:=dF h43
  refine fT ?_;refine K3 _ _ ?_;clear K3;refine aN (fun _ bE=>?_);replace hck:=(hck.mono Hr).mono lI;replace hb:=lI _ _ (Hr _ _ hb);refine dI hmx [[],[0],[],[2],(ra 0 4),[],[],[6],[],[8],(ra 0 10),(ra 0 11),(ra 0 12),(ra 0 13)] [11,12,13] (by kernel_rfl) [_,vi x.key,_,vi x.before,vi (tC x.key x.before),_,_,vi x.key,_,vi x.before,vi (kM st (li.map dR.id) x.key x.before)] H (aI (Z0 rfl (Rf qg rfl)) (Z1 0 51 rfl (Ro aD 0 rfl)) (Z0 rfl (Rf vC rfl)) (Z1 2 53 rfl (Ro aD 0 rfl)) (aI ?_ (Z0 rfl (Rm rfl)) (Z0 rfl (Rf qg rfl)) (Z1 6 57 rfl (Ro aD 0 rfl)) (aI (Z0 rfl (Rf vC rfl)) (Z1 8 59 rfl (Ro aD 0 rfl)) ?_ (cZ rfl) (bG (cZ rfl) (bG (cZ rfl) dQ))))) ?_
  ·refine fu 1 52 3 54 rfl rfl fun _ a w G1 hG HT H fin=>?_;refine s_call GR H wn rfl (GN _ _ H.ro x.key x.before) rfl ?_;clear H;rintro v55 KM a w rfl Tz H;exact fin H Tz (rfl)
  ·refine wh 5 56 7 58 9 60 rfl rfl fun _ a w G1 hG HT H fin=>?_;refine s_call RB H wn rfl (Rj _ _ H.ro st li rv b ms ml mr mb mu n x.key x.before (hck.mono hG) (hG _ _ hb)) rfl ?_;clear H;rintro v61 G61 a w ⟨rfl,-⟩ TA H;exact fin H TA (rfl)
  clear H;intro a w G vI H hv;have H:=H.bC (hv 4 55 rfl rfl) rfl;have H:=H.bC (hv 10 61 rfl rfl) rfl;clear hv;refine jd qV iO [_,_] [_,_] H wn rfl rfl rfl rfl rfl (by intro i q h;match i,h with|0,h=>exact h|1,h=>exact h|n+2,h=>simp at h) rfl rfl ?_;clear H;intro X4 a w ajH H;obtain ⟨Xg,MB,Ua,H⟩:=H.eD;refine s_call rY H wn rfl (rZ _ _ H.ro _ _ (AA Ua)) rfl ?_;clear H;rintro v63 _ a w ⟨rfl,rfl⟩ - H;refine kH H (Ra rfl ?_);clear H;intro a H;refine aH ⟨rfl,?_⟩;refine bE _ _ ?_;clear bE;refine lr H results137 rfl ?_
  exact H.rt (by rw [he];refine ay vi ?_;clear he hrow hrow' hq hx hy;unfold lK;(repeat' split) <;> first|rfl|(simp_all;done)|(exfalso;simp_all;done))
 skip;refine dI hmx [[],[0],[0,1],[0,1,2],(ra 0 4),[0,1,2],[0,1,2],[0,1,2,6],[0,1,2,5,6,7],[0,1,2,5,6,7,8],[0,1,2,5,6,7,8,9],(ra 0 11),(ra 0 12),(ra 0 13)] [13] (by kernel_rfl) [_,_,_,undef,undef,undef,undef,undef,undef,undef,undef,undef,_] H (aI (Z0 rfl (Rm rfl)) (Z1 0 30 rfl (Rc rfl)) (Z1 1 31 rfl (Rm rfl)) (aV (j:=2) (by kernel_rfl) (fun _ _ _ _ _ h=>h) rfl rfl rfl rfl rfl (fun _ _ h=>aW h (aM (aQ c0))) rfl (fun _=>rfl)) (aI (aV (j:=2) (by kernel_rfl) (fun _ _ _ _ _ h=>h) rfl rfl rfl rfl rfl (fun _ _ h=>aW h (aM (aQ c0))) rfl (fun _=>rfl)) (aV (j:=2) (by kernel_rfl) (fun _ _ _ _ _ h=>h) rfl rfl rfl rfl rfl (fun _ _ h=>aW h (aM (aQ c0))) rfl (fun _=>rfl)) (aV (j:=2) (by kernel_rfl) (fun _ _ _ _ _ h=>h) rfl rfl rfl rfl rfl (fun _ _ h=>aW h (aM (aQ c0))) rfl (fun _=>rfl)) (aV (j:=2) (by kernel_rfl) (fun _ _ _ _ _ h=>h) rfl rfl rfl rfl rfl (fun _ _ h=>aW h (aM (aQ c0))) rfl (fun _=>rfl)) (aI (aV (j:=2) (by kernel_rfl) (fun _ _ _ _ _ h=>h) rfl rfl rfl rfl rfl (fun _ _ h=>aW h (aM (aQ c0))) rfl (fun _=>rfl)) (aV (j:=2) (by kernel_rfl) (fun _ _ _ _ _ h=>h) rfl rfl rfl rfl rfl (fun _ _ h=>aW h (aM (aQ c0))) rfl (fun _=>rfl)) (aV (j:=2) (by kernel_rfl) (fun _ _ _ _ _ h=>h) rfl rfl rfl rfl rfl (fun _ _ h=>aW h (aM (aQ c0))) rfl (fun _=>rfl)) (aV (j:=2) (by kernel_rfl) (fun _ _ _ _ _ h=>h) rfl rfl rfl rfl rfl (fun _ _ h=>aW h (aM (aQ c0))) rfl (fun _=>rfl)) (bG (Z2 2 32 11 41 rfl (Pf (aQ c0) rfl)) (bG (cZ rfl) dQ))))) ?_
 clear H;intro a w G lI H hv;have H:=H.bC (hv 12 42 rfl rfl) rfl;clear hv;refine kH H (Ra rfl ?_);clear H;intro a H;refine aH ⟨rfl,?_⟩;refine K8 _ _ ?_;clear K8;refine oF H rfl rfl ?_;refine aN (fun _ bQ=>?_)
 have hz:¬ (0 < k∧x.key < y.key):=by first|exact fun h=>c1 h.2|exact fun h=>c0 (by omega)
 refine kP H (SC (aR E9 sS 0 rfl rfl (Rn rfl (aL bQ rfl (Cd rfl ?_ ?_))))) <;> clear H bQ
 ·intro h43 a H
  try have p43:=dT h43
  refine kP H (SR fun _ bR=>aR vC aD 0 rfl rfl (Rc rfl ?_));clear H;intro a H;refine s_call kg H wn rfl (ku _ _ H.ro _ 21) rfl ?_;clear H;rintro v50 _ a w ⟨rfl,rfl⟩ - H;refine kH H (ak bR rfl ?_);clear H bR;intro a H;refine lr H results137 rfl ?_
  exact H.rt (by rw [he];refine ay vi ?_;clear he hrow hrow' hq hx hy;unfold lK;(repeat' split) <;> first|rfl|(simp_all;done)|(exfalso;simp_all;done))
 intro h43 a H
 try have p43:=dF h43
 refine fT ?_;refine K3 _ _ ?_;clear K3;refine aN (fun _ bW=>?_);replace hck:=(hck.mono Hr).mono lI;replace hb:=lI _ _ (Hr _ _ hb);refine dI hmx [[],[0],[],[2],(ra 0 4),[],[],[6],[],[8],(ra 0 10),(ra 0 11),(ra 0 12),(ra 0 13)] [11,12,13] (by kernel_rfl) [_,vi x.key,_,vi x.before,vi (tC x.key x.before),_,_,vi x.key,_,vi x.before,vi (kM st (li.map dR.id) x.key x.before)] H (aI (Z0 rfl (Rf qg rfl)) (Z1 0 51 rfl (Ro aD 0 rfl)) (Z0 rfl (Rf vC rfl)) (Z1 2 53 rfl (Ro aD 0 rfl)) (aI ?_ (Z0 rfl (Rm rfl)) (Z0 rfl (Rf qg rfl)) (Z1 6 57 rfl (Ro aD 0 rfl)) (aI (Z0 rfl (Rf vC rfl)) (Z1 8 59 rfl (Ro aD 0 rfl)) ?_ (cZ rfl) (bG (cZ rfl) (bG (cZ rfl) dQ))))) ?_
 ·refine fu 1 52 3 54 rfl rfl fun _ a w G1 hG HT H fin=>?_;refine s_call GR H wn rfl (GN _ _ H.ro x.key x.before) rfl ?_;clear H;rintro v55 KM a w rfl Tz H;exact fin H Tz (rfl)
 ·refine wh 5 56 7 58 9 60 rfl rfl fun _ a w G1 hG HT H fin=>?_;refine s_call RB H wn rfl (Rj _ _ H.ro st li rv b ms ml mr mb mu n x.key x.before (hck.mono hG) (hG _ _ hb)) rfl ?_;clear H;rintro v61 G61 a w ⟨rfl,-⟩ TA H;exact fin H TA (rfl)
 clear H;intro a w G vI H hv;have H:=H.bC (hv 4 55 rfl rfl) rfl;have H:=H.bC (hv 10 61 rfl rfl) rfl;clear hv;refine jd qV iO [_,_] [_,_] H wn rfl rfl rfl rfl rfl (by intro i q h;match i,h with|0,h=>exact h|1,h=>exact h|n+2,h=>simp at h) rfl rfl ?_;clear H;intro X4 a w ajH H;obtain ⟨Xg,MB,Ua,H⟩:=H.eD;refine s_call rY H wn rfl (rZ _ _ H.ro _ _ (AA Ua)) rfl ?_;clear H;rintro v63 _ a w ⟨rfl,rfl⟩ - H;refine kH H (Ra rfl ?_);clear H;intro a H;refine aH ⟨rfl,?_⟩;refine bW _ _ ?_;clear bW;refine lr H results137 rfl ?_
 exact H.rt (by rw [he];refine ay vi ?_;clear he hrow hrow' hq hx hy;unfold lK;(repeat' split) <;> first|rfl|(simp_all;done)|(exfalso;simp_all;done))
end
section
open Go.RowKit
theorem KA:Ty prog 93 1 8 [.pointer none] false:=⟨by kernel_rfl,by kernel_rfl⟩
theorem agB:∀ args w,(callFunc 137 args).run prog w=.ok (.enter 137 args) w:=enters func137 rfl (by kernel_rfl)
theorem xq:Ty prog 27 4 64 [.int .i64 0,.int .i64 0,.slice none 0 0,.slice none 0 0] true:=⟨by kernel_rfl,by kernel_rfl⟩
theorem Ad:dL prog 115 0 0:=⟨by kernel_rfl⟩
theorem Jp:dL prog 115 1 1:=⟨by kernel_rfl⟩
theorem agA:∀ args w,(callFunc 136 args).run prog w=.ok (.enter 136 args) w:=enters func136 rfl (by kernel_rfl)
theorem amr {G:GH} {st:List bS} {li:List dR} {rv:List dU} {b ms ml mr mb mu:Nat} {n:Int} (hck:xI G st li rv ms ml mr mu) (hb:G b=some (gQ b ms ml mr mb mu n).2)
  {x3 x4 WJ:Nat} {e:Int} {l:List lF} {v:aj} (h3:aF G x3 0=some (aP b 0)) (h4:aF G x4 0=some (vi e)) (h11:aF G WJ 3=some v) (hv:aB G (.sl 4 (l.map lF.dat)) v) :
  uY (.func (.func 136) #[] #[(aP x3 0),(aP x4 0),(aP WJ 0)]) G l.length (zC (aK st li rv) e l):=by
 intro k hk G1 w0 hm hG;refine nk (caps:=[(aP x3 0),(aP x4 0),(aP WJ 0)]) agA ?_;replace h3:=aJ hm h3;replace h4:=aJ hm h4;replace h11:=aJ hm h11;replace hv:=hv.mono hm;obtain ⟨vA,vn,vc,rfl⟩:=hv.form;refine eN [(0,_),(1,_),(2,_),(3,_)] func136 rfl ntmps136 rfl rfl hG ?_;intro a H;refine kP H (SR fun _ K1=>ak K1 rfl (SR fun _ K2=>Rg KA rfl (by assumption) ?_));clear H K1;intro a H;refine kH H (Rg aD rfl (by assumption) ?_);clear H;intro a H;refine kH H (Rf wF rfl (Rg xk rfl (by assumption) ?_));clear H;intro a H;refine kH H (Rm rfl ?_);clear H;intro a H;refine s_call agB H wn rfl (amt _ _ H.ro st li rv b ms ml mr mb mu n (hck.mono hm) (hm _ _ hb) e l _ hv k hk) rfl ?_;clear H;rintro v11 zT a w rfl H8 H;exact kH H (ak K2 rfl (LR results136 rfl fun H=>H.rt rfl))
def yE (C:eZ) (l:List jX):Int:=bO (l.map fun p=>kM C.st C.yw p.key p.value)
def fV (C:eZ) (m:yR):Int:=if m.ins≠0∧m.ins∉C.BN then 22 else if ¬ (0≤m.move∧m.move≤1073741824)∨(m.move≠0∧m.ins=0) then 21 else if 16 < (m.bJ.length:Int) then 9 else 0
def oH (C:eZ) (k:Nat) (x:kV) (pr:Int):Int:=if x.rev∉C.BN then 22 else if 0 < k∧x.rev≤pr then 6 else if ¬ (0≤x.move∧x.move≤1073741824) then 21 else 0
def rX (C:eZ) (l:List kV) (k:Nat):Int:=match l[k]? with|some x=>oH C k x ((l[k - 1]?.map kV.rev).getD 0)|none=>0
def fI (C:eZ) (e:Int) (h:dz):Int:=bO [iM e h.props,yE C h.props,fV C h.marks,iw (rX C h.marks.bJ) h.marks.bJ.length,bL (decide (64 < (h.marks.layers.length:Int))) 9,iw (zC C e h.marks.layers) h.marks.layers.length]
theorem Z7 {C:eZ} {e:Int} {h:dz} (h1:iM e h.props≠0):fI C e h=iM e h.props:=by simp [fI,bO,h1]
theorem Z8 {C:eZ} {e:Int} {h:dz} (h1:iM e h.props=0) (h2:yE C h.props≠0):fI C e h=yE C h.props:=by simp [fI,bO,h1,h2]
theorem rE {C:eZ} {e:Int} {h:dz} (h1:iM e h.props=0) (h2:yE C h.props=0) (h3:fV C h.marks≠0):fI C e h=fV C h.marks:=by simp [fI,bO,h1,h2,h3]
theorem Z9 {C:eZ} {e:Int} {h:dz} (h1:iM e h.props=0) (h2:yE C h.props=0) (h3:fV C h.marks=0) (h4:iw (rX C h.marks.bJ) h.marks.bJ.length≠0):fI C e h=iw (rX C h.marks.bJ) h.marks.bJ.length:=by simp [fI,bO,h1,h2,h3,h4]
theorem aac {C:eZ} {e:Int} {h:dz} (h1:iM e h.props=0) (h2:yE C h.props=0) (h3:fV C h.marks=0) (h4:iw (rX C h.marks.bJ) h.marks.bJ.length=0) (h5:64 < (h.marks.layers.length:Int)):fI C e h=9:=by simp [fI,bO,h1,h2,h3,h4,bL,h5]
theorem aad {C:eZ} {e:Int} {h:dz} (h1:iM e h.props=0) (h2:yE C h.props=0) (h3:fV C h.marks=0) (h4:iw (rX C h.marks.bJ) h.marks.bJ.length=0) (h5:¬ 64 < (h.marks.layers.length:Int)):fI C e h=iw (zC C e h.marks.layers) h.marks.layers.length:=by simp [fI,bO,h1,h2,h3,h4,bL,h5];exact Eq.symm
theorem Qa {C:eZ} {l:List jX} {k:Nat} (h:k < l.length):bO ((l.map fun p=>kM C.st C.yw p.key p.value).drop k)=if kM C.st C.yw l[k].key l[k].value≠0 then kM C.st C.yw l[k].key l[k].value else bO ((l.map fun p=>kM C.st C.yw p.key p.value).drop (k+1)):=by
 rw [Ot (by simpa using h)];simp
theorem aki (G:GH) (w0:World) (hG:Hold G w0) (st:List bS) (li:List dR) (rv:List dU) (b ms ml mr mb mu:Nat) (n:Int) (hck:xI G st li rv ms ml mr mu) (hb:G b=some (gQ b ms ml mr mb mu n).2)
  (e:Int) (h:dz) (p d l:aj) (hh:nS G h p d l) (hz:pU h≤4294967296) :
  Calls prog 75 #[(aP b 0),vi e,Fq h p d l] w0 (bV w0 G fun u G'=>u=vi (fI (aK st li rv) e h)):=by
 obtain ⟨pA,pc,rfl,-,-,-⟩:=hh.props.slice;obtain ⟨dA,dc,rfl,-,-,-⟩:=hh.bJ.slice;obtain ⟨lA,lc,rfl,-,-,-⟩:=hh.layers.slice;have hml:maxLen=9223372036854775807:=rfl;have hzz:=Df h;have hz1:=nC (h.props.map jX.dat);have hz2:=nC (h.marks.bJ.map kV.dat);have hz3:=nC (h.marks.layers.map lF.dat)
 simp only [bN] at hh hz1 hz2 hz3 ⊢
 generalize pU h=zz at hz hzz
 refine eN [(0,_),(1,_),(2,_)] func75 rfl ntmps75 rfl rfl hG ?_;intro a H;refine cO (fun _ K1=>?_);refine fD (cs:=[_]) H wn rfl rfl rfl ?_;clear H;intro b3 a w hb3 H;refine fD (cs:=[_]) H wn rfl rfl rfl ?_;clear H;intro b4 a w hb4 H;refine fD (cs:=[_,_,_,_,_]) H wn rfl rfl rfl ?_;clear H;intro b5 a w hb5 H;refine kH H (ak K1 rfl (SQ fun _ K2=>SQ fun _ K3=>?_));clear H K1;intro a H;obtain ⟨Ga5,OW,zu,H⟩:=H.eD;obtain ⟨Ga4,JN,BA,H⟩:=H.eD;obtain ⟨Ga,Fy,Hy,H⟩:=H.eD;replace zu:=Fy _ _ (JN _ _ zu);replace BA:=Fy _ _ BA;have hma:∀ b o,G b=some o→Ga b=some o:=fun b o h=>Fy _ _ (JN _ _ (OW _ _ h));clear Fy JN OW;replace hck:=hck.mono hma;replace hb:=hma _ _ hb;replace hh:=hh.mono hma
 have g3:aF Ga b3 0=some (aP b 0):=by unfold aF;rw [Hy];rfl
 have g4:aF Ga b4 0=some (vi e):=by unfold aF;rw [BA];rfl
 have SE:aF Ga b5 0=some (.slice pA h.props.length pc):=by unfold aF;rw [zu];rfl
 have SG:∀ (j:Nat) (u:aj),[vi h.marks.ins,vi h.marks.move,.slice dA h.marks.bJ.length dc,.slice lA h.marks.layers.length lc][j]?=some u→aF Ga b5 (1+j)=some u:=by
  intro j u hj
  unfold aF;rw [zu]
  match j,hj with
  | 0,hj=>exact hj
  | 1,hj=>exact hj
  | 2,hj=>exact hj
  | 3,hj=>exact hj
  | n+4,hj=>simp at hj
 have hc2:aF Ga b 2=some (.map (some mr)):=by unfold aF;rw [hb];rfl
 refine kP H (SC (Rg aD rfl (by assumption) ?_));clear H;intro a H;refine kH H (Rf Cq rfl (Rg zM rfl (by assumption) ?_));clear H;intro a H;refine s_call R6 H wn rfl (EX (VK _ _ H.ro e h.props _ hh.props)) rfl ?_;clear H;rintro v17 _ a w ⟨⟨_,rfl⟩,rfl⟩ - H;refine kH H (aL K3 rfl (SR fun _ K4=>Rm rfl (Rc rfl (Kz K4 (Cd rfl ?_ ?_))))) <;> clear H K3 K4
 ·intro h19 a H
  try have zG:=dT h19
  refine aN (fun _ K5=>?_);have hE:=Z7 (C:=aK st li rv) (e:=e) (h:=h) zG;exact kP H (SC (Rm rfl (aL K5 rfl (LR results75 rfl fun H=>H.rt (by rw [hE])))))
 intro h19 a H
 try have zG:=dF h19
 have e1:iM e h.props=0:=by simpa using zG
 refine kP H (Kc K2 (SQ fun _ K6=>SR fun _ K7=>Rf Cq rfl (Rg zM rfl (by assumption) ?_)));clear H K2;intro a H;refine kH H (Rl tV rfl (Rm rfl (Kz K7 (SB ?_))));clear H K7;intro a H;skip;refine dV (ι:=Nat) (Tc:=[(3,_),(4,_),(5,_),(22,_),(23,_)]) (Lc:=[]) (fun gh=>[(24,vi gh)]) (fun gh=>[]) (fun gh=>Ga) (fun gh=>gh≤h.props.length∧bO ((h.props.map fun p=>kM st (li.map dR.id) p.key p.value).drop gh)=yE (aK st li rv) h.props) (fun gh=>h.props.length - gh) (0) (by exact (H).sub ⟨rfl,rfl,rfl,rfl,rfl,rfl,av⟩) ?_ ?_
 ·exact ⟨fQ _,rfl⟩
 clear H;intro k a w hI H;obtain ⟨hk,heq⟩:=hI;dsimp only [lca,aO] at H;refine kP H (SR fun _ K8=>Rc rfl (Kz K8 (SQ fun _ K9=>Cd rfl ?_ ?_))) <;> clear H K8
 ·intro fM a H
  try have p25:=dT fM
  have hk2:k < h.props.length:=by omega
  obtain ⟨xb,xo,rfl,hrow⟩:=M4 hh.props hk2;refine kP H (Kc K9 (SQ fun _ aU=>SB (SR fun _ bD=>Ri tV tT rfl rfl ?_)));clear H K9;intro a H;refine bK tT (cs:=[_,_]) H wn rfl rfl (fun j v hj=>H.hp.aF (hrow j v hj)) rfl ?_;clear H;intro a H;refine dY tT H wn rfl ?_;clear H;intro b9 a w uL H;refine bT tT 0 (vs:=[_,_]) _ H wn rfl rfl rfl rfl rfl rfl rfl rfl ?_;clear H;intro w H;dsimp only [List.set,setRow] at H;refine bD _ _ ?_;clear bD;refine kP H (SR fun _ bE=>Rg KA rfl (by assumption) ?_);clear H;intro a H;refine kH H (aR xV aD 0 rfl rfl (aR Si aD 0 rfl rfl ?_));clear H;intro a H;refine s_call RB H wn rfl (Rj _ _ H.ro st li rv b ms ml mr mb mu n h.props[k].key h.props[k].value hck hb) rfl ?_;clear H;rintro v33 _ a w ⟨rfl,rfl⟩ - H;refine kH H (ak bE rfl (SR fun _ bQ=>Rm rfl (Rc rfl (Kz bQ (Cd rfl ?_ ?_))))) <;> clear H bE bQ
  ·intro zl a H
   try have p35:=dT zl
   refine aN (fun _ bR=>?_)
   have hr:yE (aK st li rv) h.props=kM st (li.map dR.id) h.props[k].key h.props[k].value:=by rw [← heq];exact (Qa (C:=aK st li rv) hk2).trans (au p35)
   have hE:=(Z8 (C:=aK st li rv) (e:=e) (h:=h) e1 (by rw [hr];exact p35)).trans hr;exact kP H (SC (Rm rfl (aL bR rfl (LR results75 rfl fun H=>H.rt (by rw [hE])))))
  intro zl a H
  try have p35:=dF zl
  refine kP H (Kc aU (SC (Rd rfl (Rm rfl ?_))));clear H aU;intro a H;refine aH ?_;refine cB ((k+1)) (by exact (H.dx (Pl:=[_]) (bZ:=[]) [] (by decide) rfl).sub ⟨rfl,rfl,rfl,rfl,rfl,rfl,av⟩) ?_ ?_
  ·exact ⟨by omega,by rw [Qa (C:=aK st li rv) hk2,ah (by simpa using p35)] at heq;exact heq⟩
  first|omega|(dsimp only;omega)
 intro fM a H
 try have p25:=dF fM
 refine dJ ?_;refine K6 _ _ ?_;clear K6;refine aN (fun _ bW=>?_)
 have e2:yE (aK st li rv) h.props=0:=by rw [← heq,eU (by rw [bN];omega)];rfl
 refine kP H (SC (Rf vD rfl ?_));clear H;intro a H;refine bK xq (cs:=[vi h.marks.ins,vi h.marks.move,.slice dA h.marks.bJ.length dc,.slice lA h.marks.layers.length lc]) H wn rfl rfl (fun j v hj=>H.hp.aF (SG j v hj)) rfl ?_;clear H;intro a H;refine dY xq H wn rfl ?_;clear H;intro b11 a w Hu H;refine bT xq 0 (vs:=[_,_,_,_]) _ H wn rfl rfl rfl rfl rfl rfl rfl rfl ?_;clear H;intro w H;dsimp only [List.set,setRow] at H;obtain ⟨Gb,hmb,JF,H⟩:=H.eD;replace hck:=hck.mono hmb;replace hb:=hmb _ _ hb;replace hh:=hh.mono hmb;replace g3:=aJ hmb g3;replace g4:=aJ hmb g4;replace hc2:=aJ hmb hc2
 have q0:aF Gb b11 0=some (vi h.marks.ins):=by unfold aF;rw [JF];rfl
 have q1:aF Gb b11 1=some (vi h.marks.move):=by unfold aF;rw [JF];rfl
 have q2:aF Gb b11 2=some (.slice dA h.marks.bJ.length dc):=by unfold aF;rw [JF];rfl
 have q3:aF Gb b11 3=some (.slice lA h.marks.layers.length lc):=by unfold aF;rw [JF];rfl
 have hcb:=amr hck hb g3 g4 q3 hh.layers;refine aH ?_;refine bW _ _ ?_;clear bW;refine oG (ι:=GH) (Tc:=[(3,_),(4,_),(11,_)]) (Lc:=[]) (fun gh=>[]) (fun gh=>[]) (fun gh=>gh) (fun gh=>fV (aK st li rv) h.marks=0∧(∀ b o,Gb b=some o→gh b=some o)) (by exact (H).sub ⟨rfl,rfl,rfl,av⟩) ?_ ?_
 ·skip;refine uy ?_;refine aN (fun _ cK=>?_)
  by_cases c0:h.marks.ins≠0
  ·skip
   by_cases c1:h.marks.ins∉rv.map dU.id
   ·skip;refine dI hmx [[],[0],[0,1],[0,1,2],(ra 0 4),(ra 0 5),(ra 0 6),(ra 0 7),(ra 0 4),[0,1,2,3,8],(ra 0 10),(ra 0 11),(ra 0 12),(ra 0 13)] [13] (by kernel_rfl) [_,_,_,_,_,(aP b 0),_,_,_,_,.bool (decide (h.marks.ins∈rv.map dU.id)),.bool (decide (h.marks.ins∉rv.map dU.id)),_] H (aI (Z0 rfl (Rf uG rfl)) (X1 0 41 rfl fun hG=>Rg aD rfl (aJ hG q0)) (Z1 1 42 rfl (Rc rfl)) (Z1 2 43 rfl (Rm rfl)) (aI (X1 3 44 rfl fun hG=>YR KA (aG c0) rfl (aJ hG g3)) ?_ (Z2 5 46 3 44 rfl (YF LZ (aG c0) rfl)) (X2 6 47 3 44 rfl fun hG=>YR qU (aG c0) rfl (aJ hG hc2)) (aI (Z1 3 44 rfl (YF uG (aG c0) rfl)) (X2 8 49 3 44 rfl fun hG=>YR aD (aG c0) rfl (aJ hG q0)) ?_ ?_ (bG (Z2 3 44 11 52 rfl (Pt (aG c0) rfl)) (bG (cZ rfl) dQ))))) ?_
    ·refine fu 4 45 3 44 rfl rfl fun _ a w G1 hG HT H fin=>?_;refine uR H (wg H rfl rfl (aG c0)) rfl rfl ?_;clear H;intro a H;exact fin H iJ rfl
    ·refine wh 7 48 9 50 3 44 rfl rfl fun _ a w G1 hG HT H fin=>?_;refine BP (zv:=.bool false) xB nD (by kernel_rfl) H (wg H rfl rfl (aG c0)) rfl rfl (H.ro _ _ (hG _ _ hck.rev)) rfl ?_;clear H;intro a H;rw [Io] at H;exact fin H iJ rfl
    ·refine fu 10 51 3 44 rfl rfl fun _ a w G1 hG HT H fin=>?_;refine kH H (YN (aG c0) rfl ?_);clear H;intro a H;exact fin H iJ (by show _=_;first|rfl|exact aM decide_not.symm)
    clear H;intro a w G tH H hv;have H:=H.bC (hv 12 53 rfl rfl) rfl;clear hv;refine kH H (Ra rfl ?_);clear H;intro a H;refine aH ⟨rfl,?_⟩;refine cK _ _ ?_;clear cK;refine AX H rfl (aG c1) ?_;refine aN (fun _ bY=>?_);have e3:fV (aK st li rv) h.marks=22:=au ⟨c0,c1⟩;have hE:=(rE (C:=aK st li rv) (e:=e) (h:=h) e1 e2 (by rw [e3];decide)).trans e3;exact kP H (SC (aL bY rfl (LR results75 rfl fun H=>H.rt (by rw [hE]))))
   skip;refine dI hmx [[],[0],[0,1],[0,1,2],(ra 0 4),(ra 0 5),(ra 0 6),(ra 0 7),(ra 0 4),[0,1,2,3,8],(ra 0 10),(ra 0 11),(ra 0 12),(ra 0 13)] [13] (by kernel_rfl) [_,_,_,_,_,(aP b 0),_,_,_,_,.bool (decide (h.marks.ins∈rv.map dU.id)),.bool (decide (h.marks.ins∉rv.map dU.id)),_] H (aI (Z0 rfl (Rf uG rfl)) (X1 0 41 rfl fun hG=>Rg aD rfl (aJ hG q0)) (Z1 1 42 rfl (Rc rfl)) (Z1 2 43 rfl (Rm rfl)) (aI (X1 3 44 rfl fun hG=>YR KA (aG c0) rfl (aJ hG g3)) ?_ (Z2 5 46 3 44 rfl (YF LZ (aG c0) rfl)) (X2 6 47 3 44 rfl fun hG=>YR qU (aG c0) rfl (aJ hG hc2)) (aI (Z1 3 44 rfl (YF uG (aG c0) rfl)) (X2 8 49 3 44 rfl fun hG=>YR aD (aG c0) rfl (aJ hG q0)) ?_ ?_ (bG (Z2 3 44 11 52 rfl (Pt (aG c0) rfl)) (bG (cZ rfl) dQ))))) ?_
   ·refine fu 4 45 3 44 rfl rfl fun _ a w G1 hG HT H fin=>?_;refine uR H (wg H rfl rfl (aG c0)) rfl rfl ?_;clear H;intro a H;exact fin H iJ rfl
   ·refine wh 7 48 9 50 3 44 rfl rfl fun _ a w G1 hG HT H fin=>?_;refine BP (zv:=.bool false) xB nD (by kernel_rfl) H (wg H rfl rfl (aG c0)) rfl rfl (H.ro _ _ (hG _ _ hck.rev)) rfl ?_;clear H;intro a H;rw [Io] at H;exact fin H iJ rfl
   ·refine fu 10 51 3 44 rfl rfl fun _ a w G1 hG HT H fin=>?_;refine kH H (YN (aG c0) rfl ?_);clear H;intro a H;exact fin H iJ (by show _=_;first|rfl|exact aM decide_not.symm)
   clear H;intro a w G tH H hv;have H:=H.bC (hv 12 53 rfl rfl) rfl;clear hv;refine kH H (Ra rfl ?_);clear H;intro a H;refine aH ⟨rfl,?_⟩;refine cK _ _ ?_;clear cK;refine oF H rfl (aQ c1) ?_;refine aN (fun _ dG=>?_)
   have hno:¬ (h.marks.ins≠0∧h.marks.ins∉(aK st li rv).BN):=by first|exact fun h=>c1 h.2|exact fun h=>c0 h.1
   replace q0:=aJ tH q0;replace q1:=aJ tH q1;replace q2:=aJ tH q2;refine kP H (SC (Rf zi rfl (Rg aD rfl (by assumption) ?_)));clear H;intro a H;refine s_call za H wn rfl (zB _ _ H.ro h.marks.move 0 1073741824) rfl ?_;clear H;rintro v57 _ a w ⟨rfl,rfl⟩ - H;refine kH H (Rn rfl (Rm rfl (Sp 59 rfl ?_ ?_))) <;> clear H
   ·intro jk a H
    try have p59:=dT jk
    refine kH H (aT jk rfl (aT jk rfl (Ku rfl (Ku rfl (Ku rfl (Ks jk rfl (Pt jk rfl (aL dG rfl (Ct rfl rfl (SQ fun _ dN=>?_))))))))));clear H dG;intro a H
    have e3:fV (aK st li rv) h.marks=21:=by unfold fV;rw [ah hno,au (by first|(simp_all;done)|(simp_all;omega))]
    have hE:=(rE (C:=aK st li rv) (e:=e) (h:=h) e1 e2 (by rw [e3];decide)).trans e3;exact kP H (SC (aL dN rfl (LR results75 rfl fun H=>H.rt (by rw [hE]))))
   intro jk a H
   try have p59:=dF jk
   refine kH H (YF zi jk rfl (YR aD jk rfl (by assumption) ?_));clear H;intro a H;refine kH H (YC jk rfl (YM jk rfl (Sp 63 rfl ?_ ?_))) <;> clear H
   ·intro h63 a H
    try have p63:=dT h63
    refine kH H (YF uG h63 rfl (YR aD h63 rfl (by assumption) ?_));clear H;intro a H;refine kH H (YC h63 rfl (PT jk h63 rfl (Pf jk rfl (aL dG rfl (Cd rfl ?_ ?_))))) <;> clear H dG
    ·intro iI a H
     try have p54:=dT iI
     refine aN (fun _ dH=>?_)
     have e3:fV (aK st li rv) h.marks=21:=by unfold fV;rw [ah hno,au (by first|(simp_all;done)|(simp_all;omega))]
     have hE:=(rE (C:=aK st li rv) (e:=e) (h:=h) e1 e2 (by rw [e3];decide)).trans e3;exact kP H (SC (aL dH rfl (LR results75 rfl fun H=>H.rt (by rw [hE]))))
    intro iI a H
    try have p54:=dF iI
    refine aN (fun _ dP=>?_)
    have hn2:¬ (¬ (0≤h.marks.move∧h.marks.move≤1073741824)∨(h.marks.move≠0∧h.marks.ins=0)):=by first|(simp_all;done)|(simp_all;omega)
    refine kP H (SC (Rf mJ rfl (Rg mR rfl (by assumption) ?_)));clear H;intro a H;refine kH H (Rl lW rfl (Rc rfl (aL dP rfl (Cd rfl ?_ ?_)))) <;> clear H dP
    ·intro gX a H
     refine aN (fun _ eT=>?_)
     have e3:fV (aK st li rv) h.marks=9:=by unfold fV;rw [ah hno,ah hn2,au (by simpa using gX)]
     have hE:=(rE (C:=aK st li rv) (e:=e) (h:=h) e1 e2 (by rw [e3];decide)).trans e3;exact kP H (SC (aL eT rfl (LR results75 rfl fun H=>H.rt (by rw [hE]))))
    intro gX a H
    have e3:fV (aK st li rv) h.marks=0:=by unfold fV;rw [ah hno,ah hn2,ah (by simpa using gX)]
    refine fT ?_;refine ⟨_,by exact (H).sub ⟨rfl,rfl,rfl,av⟩,?_⟩;exact ⟨e3,tH⟩
   intro h63 a H
   try have p63:=dF h63
   refine kH H (aZ h63 rfl (PF jk h63 rfl (Pf jk rfl (aL dG rfl (Cf rfl rfl (SQ fun _ fP=>?_))))));clear H dG;intro a H
   have hn2:¬ (¬ (0≤h.marks.move∧h.marks.move≤1073741824)∨(h.marks.move≠0∧h.marks.ins=0)):=by first|(simp_all;done)|(simp_all;omega)
   refine kP H (SC (Rf mJ rfl (Rg mR rfl (by assumption) ?_)));clear H;intro a H;refine kH H (Rl lW rfl (Rc rfl (aL fP rfl (Cd rfl ?_ ?_)))) <;> clear H fP
   ·intro gX a H
    refine aN (fun _ gq=>?_)
    have e3:fV (aK st li rv) h.marks=9:=by unfold fV;rw [ah hno,ah hn2,au (by simpa using gX)]
    have hE:=(rE (C:=aK st li rv) (e:=e) (h:=h) e1 e2 (by rw [e3];decide)).trans e3;exact kP H (SC (aL gq rfl (LR results75 rfl fun H=>H.rt (by rw [hE]))))
   intro gX a H
   have e3:fV (aK st li rv) h.marks=0:=by unfold fV;rw [ah hno,ah hn2,ah (by simpa using gX)]
   refine fT ?_;refine ⟨_,by exact (H).sub ⟨rfl,rfl,rfl,av⟩,?_⟩;exact ⟨e3,tH⟩
  skip;refine dI hmx [[],[0],[0,1],[0,1,2],(ra 0 4),(ra 0 5),(ra 0 6),(ra 0 7),(ra 0 4),[0,1,2,3,8],(ra 0 10),(ra 0 11),(ra 0 12),(ra 0 13)] [13] (by kernel_rfl) [_,_,_,_,undef,undef,undef,undef,undef,undef,undef,undef,_] H (aI (Z0 rfl (Rf uG rfl)) (X1 0 41 rfl fun hG=>Rg aD rfl (aJ hG q0)) (Z1 1 42 rfl (Rc rfl)) (Z1 2 43 rfl (Rm rfl)) (aI (aV (j:=3) (by kernel_rfl) (fun _ _ _ _ _ h=>h) rfl rfl rfl rfl rfl (fun _ _ h=>aW h (aM (aQ c0))) rfl (fun _=>rfl)) (aV (j:=3) (by kernel_rfl) (fun _ _ _ _ _ h=>h) rfl rfl rfl rfl rfl (fun _ _ h=>aW h (aM (aQ c0))) rfl (fun _=>rfl)) (aV (j:=3) (by kernel_rfl) (fun _ _ _ _ _ h=>h) rfl rfl rfl rfl rfl (fun _ _ h=>aW h (aM (aQ c0))) rfl (fun _=>rfl)) (aV (j:=3) (by kernel_rfl) (fun _ _ _ _ _ h=>h) rfl rfl rfl rfl rfl (fun _ _ h=>aW h (aM (aQ c0))) rfl (fun _=>rfl)) (aI (aV (j:=3) (by kernel_rfl) (fun _ _ _ _ _ h=>h) rfl rfl rfl rfl rfl (fun _ _ h=>aW h (aM (aQ c0))) rfl (fun _=>rfl)) (aV (j:=3) (by kernel_rfl) (fun _ _ _ _ _ h=>h) rfl rfl rfl rfl rfl (fun _ _ h=>aW h (aM (aQ c0))) rfl (fun _=>rfl)) (aV (j:=3) (by kernel_rfl) (fun _ _ _ _ _ h=>h) rfl rfl rfl rfl rfl (fun _ _ h=>aW h (aM (aQ c0))) rfl (fun _=>rfl)) (aV (j:=3) (by kernel_rfl) (fun _ _ _ _ _ h=>h) rfl rfl rfl rfl rfl (fun _ _ h=>aW h (aM (aQ c0))) rfl (fun _=>rfl)) (bG (Z2 3 44 11 52 rfl (Pf (aQ c0) rfl)) (bG (cZ rfl) dQ))))) ?_
  clear H;intro a w G tH H hv;have H:=H.bC (hv 12 53 rfl rfl) rfl;clear hv;refine kH H (Ra rfl ?_);clear H;intro a H;refine aH ⟨rfl,?_⟩;refine cK _ _ ?_;clear cK;refine oF H rfl rfl ?_;refine aN (fun _ gG=>?_)
  have hno:¬ (h.marks.ins≠0∧h.marks.ins∉(aK st li rv).BN):=by first|exact fun h=>c1 h.2|exact fun h=>c0 h.1
  replace q0:=aJ tH q0;replace q1:=aJ tH q1;replace q2:=aJ tH q2;refine kP H (SC (Rf zi rfl (Rg aD rfl (by assumption) ?_)));clear H;intro a H;refine s_call za H wn rfl (zB _ _ H.ro h.marks.move 0 1073741824) rfl ?_;clear H;rintro v57 _ a w ⟨rfl,rfl⟩ - H;refine kH H (Rn rfl (Rm rfl (Sp 59 rfl ?_ ?_))) <;> clear H
  ·intro jk a H
   try have p59:=dT jk
   refine kH H (aT jk rfl (aT jk rfl (Ku rfl (Ku rfl (Ku rfl (Ks jk rfl (Pt jk rfl (aL gG rfl (Ct rfl rfl (SQ fun _ iP=>?_))))))))));clear H gG;intro a H
   have e3:fV (aK st li rv) h.marks=21:=by unfold fV;rw [ah hno,au (by first|(simp_all;done)|(simp_all;omega))]
   have hE:=(rE (C:=aK st li rv) (e:=e) (h:=h) e1 e2 (by rw [e3];decide)).trans e3;exact kP H (SC (aL iP rfl (LR results75 rfl fun H=>H.rt (by rw [hE]))))
  intro jk a H
  try have p59:=dF jk
  refine kH H (YF zi jk rfl (YR aD jk rfl (by assumption) ?_));clear H;intro a H;refine kH H (YC jk rfl (YM jk rfl (Sp 63 rfl ?_ ?_))) <;> clear H
  ·intro h63 a H
   try have p63:=dT h63
   refine kH H (YF uG h63 rfl (YR aD h63 rfl (by assumption) ?_));clear H;intro a H;refine kH H (YC h63 rfl (PT jk h63 rfl (Pf jk rfl (aL gG rfl (Cd rfl ?_ ?_))))) <;> clear H gG
   ·intro iI a H
    try have p54:=dT iI
    refine aN (fun _ jm=>?_)
    have e3:fV (aK st li rv) h.marks=21:=by unfold fV;rw [ah hno,au (by first|(simp_all;done)|(simp_all;omega))]
    have hE:=(rE (C:=aK st li rv) (e:=e) (h:=h) e1 e2 (by rw [e3];decide)).trans e3;exact kP H (SC (aL jm rfl (LR results75 rfl fun H=>H.rt (by rw [hE]))))
   intro iI a H
   try have p54:=dF iI
   refine aN (fun _ iH=>?_)
   have hn2:¬ (¬ (0≤h.marks.move∧h.marks.move≤1073741824)∨(h.marks.move≠0∧h.marks.ins=0)):=by first|(simp_all;done)|(simp_all;omega)
   refine kP H (SC (Rf mJ rfl (Rg mR rfl (by assumption) ?_)));clear H;intro a H;refine kH H (Rl lW rfl (Rc rfl (aL iH rfl (Cd rfl ?_ ?_)))) <;> clear H iH
   ·intro gX a H
    refine aN (fun _ kW=>?_)
    have e3:fV (aK st li rv) h.marks=9:=by unfold fV;rw [ah hno,ah hn2,au (by simpa using gX)]
    have hE:=(rE (C:=aK st li rv) (e:=e) (h:=h) e1 e2 (by rw [e3];decide)).trans e3;exact kP H (SC (aL kW rfl (LR results75 rfl fun H=>H.rt (by rw [hE]))))
   intro gX a H
   have e3:fV (aK st li rv) h.marks=0:=by unfold fV;rw [ah hno,ah hn2,ah (by simpa using gX)]
   refine fT ?_;refine ⟨_,by exact (H).sub ⟨rfl,rfl,rfl,av⟩,?_⟩;exact ⟨e3,tH⟩
  intro h63 a H
  try have p63:=dF h63
  refine kH H (aZ h63 rfl (PF jk h63 rfl (Pf jk rfl (aL gG rfl (Cf rfl rfl (SQ fun _ kX=>?_))))));clear H gG;intro a H
  have hn2:¬ (¬ (0≤h.marks.move∧h.marks.move≤1073741824)∨(h.marks.move≠0∧h.marks.ins=0)):=by first|(simp_all;done)|(simp_all;omega)
  refine kP H (SC (Rf mJ rfl (Rg mR rfl (by assumption) ?_)));clear H;intro a H;refine kH H (Rl lW rfl (Rc rfl (aL kX rfl (Cd rfl ?_ ?_)))) <;> clear H kX
  ·intro gX a H
   refine aN (fun _ jQ=>?_)
   have e3:fV (aK st li rv) h.marks=9:=by unfold fV;rw [ah hno,ah hn2,au (by simpa using gX)]
   have hE:=(rE (C:=aK st li rv) (e:=e) (h:=h) e1 e2 (by rw [e3];decide)).trans e3;exact kP H (SC (aL jQ rfl (LR results75 rfl fun H=>H.rt (by rw [hE]))))
  intro gX a H
  have e3:fV (aK st li rv) h.marks=0:=by unfold fV;rw [ah hno,ah hn2,ah (by simpa using gX)]
  refine fT ?_;refine ⟨_,by exact (H).sub ⟨rfl,rfl,rfl,av⟩,?_⟩;exact ⟨e3,tH⟩
 clear H;intro g a w hI H;obtain ⟨e3,zw⟩:=hI;replace hck:=hck.mono zw;replace hb:=zw _ _ hb;replace hh:=hh.mono zw;replace g3:=aJ zw g3;replace q2:=aJ zw q2;replace q3:=aJ zw q3;replace hc2:=aJ zw hc2;replace hcb:=hcb.mono zw;dsimp only [lca,aO] at H;refine kP H (SQ fun _ lC=>SR fun _ lD=>Rf mJ rfl (Rg mR rfl (by assumption) ?_));clear H;intro a H;refine kH H (Rl lW rfl (Rm rfl (Kz lD (SB ?_))));clear H lD;intro a H;skip;refine dV (ι:=Nat × GH) (Tc:=[(3,_),(4,_),(11,_),(75,_),(76,_)]) (Lc:=[]) (fun gh=>[(77,vi gh.1)]) (fun gh=>[]) (fun gh=>gh.2) (fun gh=>gh.1≤h.marks.bJ.length∧bO (((List.range h.marks.bJ.length).map (rX (aK st li rv) h.marks.bJ)).drop gh.1)=iw (rX (aK st li rv) h.marks.bJ) h.marks.bJ.length∧(∀ b o,g b=some o→gh.2 b=some o)) (fun gh=>h.marks.bJ.length - gh.1) ((0,g)) (by exact (H).sub ⟨rfl,rfl,rfl,rfl,rfl,rfl,av⟩) ?_ ?_
 ·exact ⟨fQ _,rfl,fun _ _ h=>h⟩
 clear H;rintro ⟨k,g2⟩ a w hI H;dsimp only at hI H;obtain ⟨hk,heq,hgm⟩:=hI;dsimp only [lca,aO] at H;refine kP H (SR fun _ lX=>Rc rfl (Kz lX (SQ fun _ lY=>Cd rfl ?_ ?_))) <;> clear H lX
 ·intro qK a H
  try have VD:=dT qK
  have hk2:k < h.marks.bJ.length:=by omega
  have hd2:=hh.bJ.mono hgm;obtain ⟨xb,xo,rfl,hrow⟩:=Jk hd2 hk2
  have hk1:k - 1 < h.marks.bJ.length:=by omega
  obtain ⟨b',o',he',hrow'⟩:=Jk hd2 hk1
  injection he' with he'
  injection he' with e1 e2
  subst e1;subst e2
  have hde:rX (aK st li rv) h.marks.bJ k=oH (aK st li rv) k h.marks.bJ[k] h.marks.bJ[k - 1].rev:=by unfold rX;rw [fH hk2,fH hk1];rfl
  have hX:∀ v,oH (aK st li rv) k h.marks.bJ[k] h.marks.bJ[k - 1].rev=v→v≠0→fI (aK st li rv) e h=v:=fun v h1 h2=>by
   have h4:iw (rX (aK st li rv) h.marks.bJ) h.marks.bJ.length=v:=by rw [← heq,qE hk2,hde,h1,au h2]
   exact (Z9 e1 e2 e3 (by rw [h4];exact h2)).trans h4
  have hp:=hrow' 0 _ rfl;have g3':=aJ hgm g3;have hc2':=aJ hgm hc2;have q2':=aJ hgm q2;refine kP H (Kc lY (SQ fun _ lZ=>SB (SR fun _ mV=>Rm rfl (Ri lW rR rfl rfl ?_))));clear H lY;intro a H;refine bK rR (cs:=h.marks.bJ[k].cells) H wn rfl rfl (fun j v hj=>H.hp.aF (hrow j v hj)) rfl ?_;clear H;intro a H;refine dY rR H wn rfl ?_;clear H;intro b13 a w OO H;refine kH H (Ra rfl ?_);clear H;intro a H;refine bT rR 0 (vs:=[_,_]) _ H wn rfl rfl rfl rfl rfl rfl rfl rfl ?_;clear H;intro w H;dsimp only [List.set,setRow] at H;refine mV _ _ ?_;clear mV;refine uy ?_;refine aN (fun _ qX=>?_);refine dI hmx [[],[0],[0,1],[0,1,2],[],[4],(ra 0 6),(ra 0 7),(ra 0 8)] [8] (by kernel_rfl) [_,_,_,_,_,vi h.marks.bJ[k].rev,.bool (decide (h.marks.bJ[k].rev∈rv.map dU.id)),_] H (aI (X0 rfl fun hG=>Rg KA rfl (aJ hG g3')) (Z1 0 83 rfl (Rk rfl)) (Z1 1 84 rfl (Rf LZ rfl)) (X1 2 85 rfl fun hG=>Rg qU rfl (aJ hG hc2')) (aI (Z0 rfl (Rf Ad rfl)) (Z1 4 87 rfl (Ro aD 0 rfl)) ?_ (Z1 6 89 rfl (Rn rfl)) (bG (cZ rfl) dQ))) ?_
  ·refine fu 3 86 5 88 rfl rfl fun _ a w G1 hG HT H fin=>?_;refine BP (zv:=.bool false) xB nD (by kernel_rfl) H wn rfl rfl (H.ro _ _ (hG _ _ (hgm _ _ hck.rev))) rfl ?_;clear H;intro a H;rw [Io] at H;exact fin H iJ rfl
  clear H;intro a w G Jz H hv;have H:=H.bC (hv 7 90 rfl rfl) rfl;clear hv;refine kH H (Ra rfl ?_);clear H;intro a H;refine aH ⟨rfl,?_⟩;refine qX _ _ ?_;clear qX;refine qG H rfl ?_ ?_
  ·intro xX
   refine aN (fun _ vX=>?_);have hE:=hX 22 (by unfold oH;rw [au (by simpa using xX)]) (by decide);exact kP H (SC (aL vX rfl (LR results75 rfl fun H=>H.rt (by rw [hE]))))
  intro xX
  try have p82:=dF xX
  have MC:¬ (h.marks.bJ[k].rev∉(aK st li rv).BN):=by simpa using xX
  refine aN (fun _ kY=>?_);replace hp:=aJ Jz hp;replace q2':=aJ Jz q2'
  by_cases c3:0 < (k:Int)
  ·skip
   by_cases c4:h.marks.bJ[k].rev≤h.marks.bJ[k - 1].rev
   ·skip;refine dI hmx [[],[0],[0,1],[0,1,2],(ra 0 4),[0,1,2],[0,1,2,5],[0,1,2],[0,1,2,7],[0,1,2,5,6,7,8],[0,1,2,5,6,7,8,9],([0,1,2]++ra 5 6),(ra 0 12),(ra 0 13),(ra 0 14)] [14] (by kernel_rfl) [_,_,_,_,vi h.marks.bJ[k].rev,_,_,_,vi ((k - 1:Nat):Int),_,_,_,_,_] H (aI (Z0 rfl (Rm rfl)) (Z1 0 92 rfl (Rc rfl)) (Z1 1 93 rfl (Rm rfl)) (Z1 2 94 rfl (YF Ad (aG c3) rfl)) (aI (Z2 3 95 2 94 rfl (YO aD 0 (aG c3) rfl)) (Z1 2 94 rfl (YF mJ (aG c3) rfl)) (X2 5 97 2 94 rfl fun hG=>YR mR (aG c3) rfl (aJ hG q2')) (Z1 2 94 rfl (YM (aG c3) rfl)) (aI ?_ (Z3 6 98 8 100 2 94 rfl (YI lW rR (aG c3) rfl rfl)) (Z2 9 101 2 94 rfl (YF Ad (aG c3) rfl)) (X2 10 102 2 94 rfl fun hG=>YR aD (aG c3) rfl (aJ hG hp)) (bG (Z3 4 96 11 103 2 94 rfl (YC (aG c3) rfl)) (bG (Z2 2 94 12 104 rfl (Pt (aG c3) rfl)) (bG (cZ rfl) dQ)))))) ?_
    ·refine fu 7 99 2 94 rfl rfl fun _ a w G1 hG HT H fin=>?_;refine mQ _ H (wg H rfl rfl (aG c3)) rfl rfl rfl (by omega) (by omega) rfl ?_;clear H;intro a H;exact fin H iJ (by show _=_;first|rfl|exact ay vi (by omega))
    clear H;intro a w G JA H hv;have H:=H.bC (hv 13 105 rfl rfl) rfl;clear hv;refine kH H (Ra rfl ?_);clear H;intro a H;refine aH ⟨rfl,?_⟩;refine kY _ _ ?_;clear kY;refine AX H rfl (aG c4) ?_;refine aN (fun _ yQ=>?_);have hz:0 < k∧h.marks.bJ[k].rev≤h.marks.bJ[k - 1].rev:=⟨by omega,c4⟩;have hE:=hX 6 (by unfold oH;rw [ah MC,au hz]) (by decide);exact kP H (SC (aL yQ rfl (LR results75 rfl fun H=>H.rt (by rw [hE]))))
   skip;refine dI hmx [[],[0],[0,1],[0,1,2],(ra 0 4),[0,1,2],[0,1,2,5],[0,1,2],[0,1,2,7],[0,1,2,5,6,7,8],[0,1,2,5,6,7,8,9],([0,1,2]++ra 5 6),(ra 0 12),(ra 0 13),(ra 0 14)] [14] (by kernel_rfl) [_,_,_,_,vi h.marks.bJ[k].rev,_,_,_,vi ((k - 1:Nat):Int),_,_,_,_,_] H (aI (Z0 rfl (Rm rfl)) (Z1 0 92 rfl (Rc rfl)) (Z1 1 93 rfl (Rm rfl)) (Z1 2 94 rfl (YF Ad (aG c3) rfl)) (aI (Z2 3 95 2 94 rfl (YO aD 0 (aG c3) rfl)) (Z1 2 94 rfl (YF mJ (aG c3) rfl)) (X2 5 97 2 94 rfl fun hG=>YR mR (aG c3) rfl (aJ hG q2')) (Z1 2 94 rfl (YM (aG c3) rfl)) (aI ?_ (Z3 6 98 8 100 2 94 rfl (YI lW rR (aG c3) rfl rfl)) (Z2 9 101 2 94 rfl (YF Ad (aG c3) rfl)) (X2 10 102 2 94 rfl fun hG=>YR aD (aG c3) rfl (aJ hG hp)) (bG (Z3 4 96 11 103 2 94 rfl (YC (aG c3) rfl)) (bG (Z2 2 94 12 104 rfl (Pt (aG c3) rfl)) (bG (cZ rfl) dQ)))))) ?_
   ·refine fu 7 99 2 94 rfl rfl fun _ a w G1 hG HT H fin=>?_;refine mQ _ H (wg H rfl rfl (aG c3)) rfl rfl rfl (by omega) (by omega) rfl ?_;clear H;intro a H;exact fin H iJ (by show _=_;first|rfl|exact ay vi (by omega))
   clear H;intro a w G JA H hv;have H:=H.bC (hv 13 105 rfl rfl) rfl;clear hv;refine kH H (Ra rfl ?_);clear H;intro a H;refine aH ⟨rfl,?_⟩;refine kY _ _ ?_;clear kY;refine oF H rfl (aQ c4) ?_;refine aN (fun _ vY=>?_)
   have hz:¬ (0 < k∧h.marks.bJ[k].rev≤h.marks.bJ[k - 1].rev):=by first|exact fun h=>c4 h.2|exact fun h=>c3 (by omega)
   refine kP H (SC (aR Jp aD 0 rfl rfl ?_));clear H;intro a H;refine s_call za H wn rfl (zB _ _ H.ro h.marks.bJ[k].move 0 1073741824) rfl ?_;clear H;rintro v109 _ a w ⟨rfl,rfl⟩ - H;refine kH H (Rn rfl (aL vY rfl (Cd rfl ?_ ?_))) <;> clear H vY
   ·intro Bp a H
    try have Vs:=dT Bp
    refine aN (fun _ EG=>?_);have hE:=hX 21 (by unfold oH;rw [ah MC,ah hz,au (by have h0:=Bp;simp at h0;omega)]) (by decide);exact kP H (SC (aL EG rfl (LR results75 rfl fun H=>H.rt (by rw [hE]))))
   intro Bp a H
   try have Vs:=dF Bp
   have HZ:oH (aK st li rv) k h.marks.bJ[k] h.marks.bJ[k - 1].rev=0:=by unfold oH;rw [ah MC,ah hz,ah (by have h0:=Bp;simp at h0;omega)]
   have sG:=fun b o h=>JA b o (Jz b o (hgm b o h));refine kP H (Kc lZ (SC (Rd rfl (Rm rfl ?_))));clear H lZ;intro a H;refine aH ?_;refine cB ((k+1,G)) (by exact (H.dx (Pl:=[_]) (bZ:=[]) [] (by decide) rfl).sub ⟨rfl,rfl,rfl,rfl,rfl,rfl,av⟩) ?_ ?_
   ·(try dsimp only);exact ⟨by omega,by rw [qE hk2,ah (by rw [hde];simpa using HZ)] at heq;exact heq,sG⟩
   first|omega|(dsimp only;omega)
  skip;refine dI hmx [[],[0],[0,1],[0,1,2],(ra 0 4),[0,1,2],[0,1,2,5],[0,1,2],[0,1,2,7],[0,1,2,5,6,7,8],[0,1,2,5,6,7,8,9],([0,1,2]++ra 5 6),(ra 0 12),(ra 0 13),(ra 0 14)] [14] (by kernel_rfl) [_,_,_,undef,undef,undef,undef,undef,undef,undef,undef,undef,undef,_] H (aI (Z0 rfl (Rm rfl)) (Z1 0 92 rfl (Rc rfl)) (Z1 1 93 rfl (Rm rfl)) (aV (j:=2) (by kernel_rfl) (fun _ _ _ _ _ h=>h) rfl rfl rfl rfl rfl (fun _ _ h=>aW h (aM (aQ c3))) rfl (fun _=>rfl)) (aI (aV (j:=2) (by kernel_rfl) (fun _ _ _ _ _ h=>h) rfl rfl rfl rfl rfl (fun _ _ h=>aW h (aM (aQ c3))) rfl (fun _=>rfl)) (aV (j:=2) (by kernel_rfl) (fun _ _ _ _ _ h=>h) rfl rfl rfl rfl rfl (fun _ _ h=>aW h (aM (aQ c3))) rfl (fun _=>rfl)) (aV (j:=2) (by kernel_rfl) (fun _ _ _ _ _ h=>h) rfl rfl rfl rfl rfl (fun _ _ h=>aW h (aM (aQ c3))) rfl (fun _=>rfl)) (aV (j:=2) (by kernel_rfl) (fun _ _ _ _ _ h=>h) rfl rfl rfl rfl rfl (fun _ _ h=>aW h (aM (aQ c3))) rfl (fun _=>rfl)) (aI (aV (j:=2) (by kernel_rfl) (fun _ _ _ _ _ h=>h) rfl rfl rfl rfl rfl (fun _ _ h=>aW h (aM (aQ c3))) rfl (fun _=>rfl)) (aV (j:=2) (by kernel_rfl) (fun _ _ _ _ _ h=>h) rfl rfl rfl rfl rfl (fun _ _ h=>aW h (aM (aQ c3))) rfl (fun _=>rfl)) (aV (j:=2) (by kernel_rfl) (fun _ _ _ _ _ h=>h) rfl rfl rfl rfl rfl (fun _ _ h=>aW h (aM (aQ c3))) rfl (fun _=>rfl)) (aV (j:=2) (by kernel_rfl) (fun _ _ _ _ _ h=>h) rfl rfl rfl rfl rfl (fun _ _ h=>aW h (aM (aQ c3))) rfl (fun _=>rfl)) (bG (aV (j:=2) (by kernel_rfl) (fun _ _ _ _ _ h=>h) rfl rfl rfl rfl rfl (fun _ _ h=>aW h (aM (aQ c3))) rfl (fun _=>rfl)) (bG (Z2 2 94 12 104 rfl (Pf (aQ c3) rfl)) (bG (cZ rfl) dQ)))))) ?_
  clear H;intro a w G JA H hv;have H:=H.bC (hv 13 105 rfl rfl) rfl;clear hv;refine kH H (Ra rfl ?_);clear H;intro a H;refine aH ⟨rfl,?_⟩;refine kY _ _ ?_;clear kY;refine oF H rfl rfl ?_;refine aN (fun _ BX=>?_)
  have hz:¬ (0 < k∧h.marks.bJ[k].rev≤h.marks.bJ[k - 1].rev):=by first|exact fun h=>c4 h.2|exact fun h=>c3 (by omega)
  refine kP H (SC (aR Jp aD 0 rfl rfl ?_));clear H;intro a H;refine s_call za H wn rfl (zB _ _ H.ro h.marks.bJ[k].move 0 1073741824) rfl ?_;clear H;rintro v109 _ a w ⟨rfl,rfl⟩ - H;refine kH H (Rn rfl (aL BX rfl (Cd rfl ?_ ?_))) <;> clear H BX
  ·intro Bp a H
   try have Vs:=dT Bp
   refine aN (fun _ AQ=>?_);have hE:=hX 21 (by unfold oH;rw [ah MC,ah hz,au (by have h0:=Bp;simp at h0;omega)]) (by decide);exact kP H (SC (aL AQ rfl (LR results75 rfl fun H=>H.rt (by rw [hE]))))
  intro Bp a H
  try have Vs:=dF Bp
  have HZ:oH (aK st li rv) k h.marks.bJ[k] h.marks.bJ[k - 1].rev=0:=by unfold oH;rw [ah MC,ah hz,ah (by have h0:=Bp;simp at h0;omega)]
  have sG:=fun b o h=>JA b o (Jz b o (hgm b o h));refine kP H (Kc lZ (SC (Rd rfl (Rm rfl ?_))));clear H lZ;intro a H;refine aH ?_;refine cB ((k+1,G)) (by exact (H.dx (Pl:=[_]) (bZ:=[]) [] (by decide) rfl).sub ⟨rfl,rfl,rfl,rfl,rfl,rfl,av⟩) ?_ ?_
  ·(try dsimp only);exact ⟨by omega,by rw [qE hk2,ah (by rw [hde];simpa using HZ)] at heq;exact heq,sG⟩
  first|omega|(dsimp only;omega)
 intro qK a H
 try have VD:=dF qK
 refine dJ ?_;refine lC _ _ ?_;clear lC;refine aN (fun _ zW=>?_);refine aN (fun _ Di=>?_)
 have e4:iw (rX (aK st li rv) h.marks.bJ) h.marks.bJ.length=0:=by rw [← heq,eU (by simp;omega)];rfl
 replace q3:=aJ hgm q3;refine kP H (SC (Rf wF rfl (Rg xk rfl (by assumption) ?_)));clear H;intro a H;refine kH H (Rl tX rfl (Rc rfl (Kn Di (Cd rfl ?_ ?_)))) <;> clear H Di
 ·intro SI a H
  try have Vu:=dT SI
  refine aN (fun _ Dj=>?_);have hE:=aac (C:=aK st li rv) (e:=e) (h:=h) e1 e2 e3 e4 Vu;exact kP H (SC (aL Dj rfl (LR results75 rfl fun H=>H.rt (by rw [hE]))))
 intro SI a H
 try have Vu:=dF SI
 refine fT ?_;refine zW _ _ ?_;clear zW;refine aN (fun _ BZ=>?_);have hE:=aad (C:=aK st li rv) (e:=e) (h:=h) e1 e2 e3 e4 Vu;refine kP H (SC (Rf wF rfl (Rg xk rfl (by assumption) ?_)));clear H;intro a H;refine kH H (Rl tX rfl ?_);clear H;intro a H;refine pO H wn rfl rfl ?_;clear H;intro a H;refine s_call Jl H wn rfl (Lg _ _ H.ro h.marks.layers.length (zC (aK st li rv) e h.marks.layers) _ (by omega) (hcb.mono hgm)) rfl ?_;clear H;rintro asB aqR a w rfl arb H;exact kH H (aL BZ rfl (LR results75 rfl fun H=>H.rt (by rw [hE])))
end
section
open Go.RowKit
theorem DJ:dL prog 68 1 1:=⟨by kernel_rfl⟩
def codeOk (x:aC):Bool:=if x.kind=4 then decide (1≤x.code∧x.code≤3) else if x.kind=6 then decide (1≤x.code∧x.code≤2) else if x.kind=8 then decide (1≤x.code∧x.code≤4) else true
def Ay (x:aC):Bool:=decide (x.kind=8∧x.code=1)
def zR (x:aC):Bool:=decide (x.kind=1∨x.kind=5) || Ay x
def zF (x:aC):Bool:=decide (x.kind=6∨x.kind=7∨x.kind=8)
def A9 (x:aC):Bool:=decide (x.kind=4∨x.kind=6∨x.kind=8)
def qd (s:ByteArray):Bool:=s.toList == (⟨#[]⟩:ByteArray).toList
def wI (x:aC):Bool:=!A9 x && decide (x.code≠0) || !zF x && decide (x.id≠0) || !zR x && !qd x.text || decide (x.kind≠6) && decide (0 < (x.flow.length:Int)) || decide (x.kind≠7) && decide (0 < (x.rows.length:Int))
def jE (x:aC):Int :=
 if (!decide (1≤x.kind∧x.kind≤8) || !codeOk x)=true then 3 else if wI x=true then 15 else if qW x.text=false then 12 else if (decide (x.kind=1∨x.kind=5) && qd x.text)=true then 11
 else if (decide (x.kind=5) && decide (1024 < (x.text.size:Int)))=true then 10 else if (Ay x && !oV x.text)=true then 13 else 0
theorem aiC (G:GH) (w0:World) (hG:Hold G w0) (x:aC) (p d l:aj) (fA rA:Option Addr) (fc rc:Nat) (hs:x.text.size < 4611686018427387904) :
  Calls prog 162 #[.agg #[vi x.kind,vi x.code,vi x.id,.string x.text,p,vi x.head.marks.ins,vi x.head.marks.move,d,l,.slice fA x.flow.length fc,.slice rA x.rows.length rc]] w0 (bV w0 G fun u G'=>u=vi (jE x)∧G=G'):=by
 refine eN [(0,_)] func162 rfl ntmps162 rfl rfl hG ?_;intro a H;refine cO (fun _ K1=>?_);refine fD (cs:=[_,_,_,_,_,_,_,_,_,_,_]) H wn rfl rfl rfl ?_;clear H;intro b1 a w hb1 H;refine kH H (ak K1 rfl ?_);clear H K1;intro a H;refine oG (ι:=Bool) (Tc:=[(1,_)]) (Lc:=[(_,_)]) (fun gh=>[(3,.bool gh)]) (fun gh=>[]) (fun gh=>G) (fun gh=>gh=Ay x) (by exact (H).sub ⟨rfl,av⟩) ?_ ?_
 ·skip;refine kP H (SC (aR gH aD 0 rfl rfl (Rc rfl (Rm rfl (Sp 11 rfl ?_ ?_))))) <;> clear H
  ·intro h11 a H
   try have yC:=dT h11
   refine kH H (YF DJ h11 rfl (YO aD 0 h11 rfl (YC h11 rfl (Pt h11 rfl (Ra rfl ?_)))));clear H;intro a H;refine aH ?_;refine ⟨_,by exact (H).sub ⟨rfl,rfl,av⟩,?_⟩
   unfold Ay;first|(simp_all;done)
  intro h11 a H
  try have yC:=dF h11
  refine kH H (aZ h11 rfl (Pf h11 rfl (Ra rfl ?_)));clear H;intro a H;refine aH ?_;refine ⟨_,by exact (H).sub ⟨rfl,rfl,av⟩,?_⟩
  unfold Ay;first|(simp_all;done)
 clear H;intro st a w hI H;have hst:=hI;dsimp only [lca,aO] at H;refine oG (ι:=Bool) (Tc:=[(1,_),(3,_)]) (Lc:=[(_,_)]) (fun gh=>[(4,.bool gh)]) (fun gh=>[]) (fun gh=>G) (fun gh=>gh=zR x) (by exact (H).sub ⟨rfl,rfl,av⟩) ?_ ?_
 ·skip;refine kP H (SC (aR gH aD 0 rfl rfl (Rc rfl (Rm rfl (Sp 19 rfl ?_ ?_))))) <;> clear H
  ·intro h19 a H
   try have zG:=dT h19
   refine kH H (aZ h19 rfl (Pt h19 rfl (Rm rfl (Ks rfl rfl (Pt rfl rfl (Ra rfl ?_))))));clear H;intro a H;refine aH ?_;refine ⟨_,by exact (H).sub ⟨rfl,rfl,rfl,av⟩,?_⟩
   unfold zR;first|(simp_all;done)
  intro h19 a H
  try have zG:=dF h19
  refine kH H (YF gH h19 rfl (YO aD 0 h19 rfl (YC h19 rfl (Pf h19 rfl (Rm rfl (Sp 24 rfl ?_ ?_)))))) <;> clear H
  ·intro iy a H
   try have ow:=dT iy
   refine kH H (Ks iy rfl (Pt iy rfl (Ra rfl ?_)));clear H;intro a H;refine aH ?_;refine ⟨_,by exact (H).sub ⟨rfl,rfl,rfl,av⟩,?_⟩
   unfold zR;first|(simp_all;done)
  intro iy a H
  try have ow:=dF iy
  refine kH H (YM iy rfl (Pf iy rfl (Ra rfl ?_)));clear H;intro a H;refine aH ?_;refine ⟨_,by exact (H).sub ⟨rfl,rfl,rfl,av⟩,?_⟩
  unfold zR;first|(simp_all;done)
 clear H;intro wd a w hI H;have hwd:=hI;dsimp only [lca,aO] at H;refine oG (ι:=Bool) (Tc:=[(1,_),(3,_),(4,_)]) (Lc:=[(_,_)]) (fun gh=>[(5,.bool gh)]) (fun gh=>[]) (fun gh=>G) (fun gh=>gh=zF x) (by exact (H).sub ⟨rfl,rfl,rfl,av⟩) ?_ ?_
 ·skip;refine kP H (SC (aR gH aD 0 rfl rfl (Rc rfl (Rm rfl (Sp 30 rfl ?_ ?_))))) <;> clear H
  ·intro oo a H
   try have p30:=dT oo
   refine kH H (aZ oo rfl (Pt oo rfl (Rm rfl (aZ rfl rfl (Pt rfl rfl (Ra rfl ?_))))));clear H;intro a H;refine aH ?_;refine ⟨_,by exact (H).sub ⟨rfl,rfl,rfl,rfl,av⟩,?_⟩
   unfold zF;first|(simp_all;done)
  intro oo a H
  try have p30:=dF oo
  refine kH H (YF gH oo rfl (YO aD 0 oo rfl (YC oo rfl (Pf oo rfl (Rm rfl (Sp 35 rfl ?_ ?_)))))) <;> clear H
  ·intro zl a H
   try have p35:=dT zl
   refine kH H (aZ zl rfl (Pt zl rfl (Ra rfl ?_)));clear H;intro a H;refine aH ?_;refine ⟨_,by exact (H).sub ⟨rfl,rfl,rfl,rfl,av⟩,?_⟩
   unfold zF;first|(simp_all;done)
  intro zl a H
  try have p35:=dF zl
  refine kH H (YF gH zl rfl (YO aD 0 zl rfl (YC zl rfl (Pf zl rfl (Ra rfl ?_)))));clear H;intro a H;refine aH ?_;refine ⟨_,by exact (H).sub ⟨rfl,rfl,rfl,rfl,av⟩,?_⟩
  unfold zF;first|(simp_all;done)
 clear H;intro nm a w hI H;have hnm:=hI;dsimp only [lca,aO] at H;refine kP H (SR fun _ K2=>ak K2 rfl ?_);clear H K2;intro a H;refine oG (ι:=Bool) (Tc:=[(1,_),(3,_),(4,_),(5,_)]) (Lc:=[(_,_)]) (fun gh=>[(6,.bool gh)]) (fun gh=>[]) (fun gh=>G) (fun gh=>gh=codeOk x) (by exact (H).sub ⟨rfl,rfl,rfl,rfl,av⟩) ?_ ?_
 ·skip;refine kP H (SR fun _ K3=>aR gH aD 0 rfl rfl (Kz K3 (SB (SR fun _ K4=>Rc rfl (ak K4 rfl (Cd rfl ?_ ?_)))))) <;> clear H K3 K4
  ·intro Bt a H
   try have p42:=dT Bt
   refine kP H (SC (aR DJ aD 0 rfl rfl ?_));clear H;intro a H;refine s_call za H wn rfl (zB _ _ H.ro x.code 1 3) rfl ?_;clear H;rintro v46 _ a w ⟨rfl,rfl⟩ - H;refine kH H (Ra rfl ?_);clear H;intro a H;refine aH ?_;refine ⟨_,by exact (H).sub ⟨rfl,rfl,rfl,rfl,rfl,av⟩,?_⟩
   unfold codeOk;first|(simp_all;done)
  intro Bt a H
  try have p42:=dF Bt
  refine kP H (SR fun _ K5=>Rc rfl (ak K5 rfl (Cd rfl ?_ ?_))) <;> clear H K5
  ·intro h47 a H
   try have p47:=dT h47
   refine kP H (SC (aR DJ aD 0 rfl rfl ?_));clear H;intro a H;refine s_call za H wn rfl (zB _ _ H.ro x.code 1 2) rfl ?_;clear H;rintro v51 _ a w ⟨rfl,rfl⟩ - H;refine kH H (Ra rfl ?_);clear H;intro a H;refine aH ?_;refine ⟨_,by exact (H).sub ⟨rfl,rfl,rfl,rfl,rfl,av⟩,?_⟩
   unfold codeOk;first|(simp_all;done)
  intro h47 a H
  try have p47:=dF h47
  refine kP H (SR fun _ K6=>Rc rfl (ak K6 rfl (Cd rfl ?_ ?_))) <;> clear H K6
  ·intro sD a H
   try have p52:=dT sD
   refine kP H (SC (aR DJ aD 0 rfl rfl ?_));clear H;intro a H;refine s_call za H wn rfl (zB _ _ H.ro x.code 1 4) rfl ?_;clear H;rintro v56 _ a w ⟨rfl,rfl⟩ - H;refine kH H (Ra rfl ?_);clear H;intro a H;refine aH ?_;refine ⟨_,by exact (H).sub ⟨rfl,rfl,rfl,rfl,rfl,av⟩,?_⟩
   unfold codeOk;first|(simp_all;done)
  intro sD a H
  try have p52:=dF sD
  refine fT ?_;refine ⟨_,by exact (H).sub ⟨rfl,rfl,rfl,rfl,rfl,av⟩,?_⟩
  unfold codeOk;first|(simp_all;done)
 clear H;intro ck a w hI H;have hck:=hI;dsimp only [lca,aO] at H;refine oG (ι:=Bool) (Tc:=[(1,_),(3,_),(4,_),(5,_),(6,_)]) (Lc:=[(_,_)]) (fun gh=>[(7,.bool gh)]) (fun gh=>[]) (fun gh=>G) (fun gh=>gh=A9 x) (by exact (H).sub ⟨rfl,rfl,rfl,rfl,rfl,av⟩) ?_ ?_
 ·skip;refine kP H (SC (aR gH aD 0 rfl rfl (Rc rfl (Rm rfl (Sp 60 rfl ?_ ?_))))) <;> clear H
  ·intro fB a H
   try have p60:=dT fB
   refine kH H (aZ fB rfl (Pt fB rfl (Rm rfl (aZ rfl rfl (Pt rfl rfl (Ra rfl ?_))))));clear H;intro a H;refine aH ?_;refine ⟨_,by exact (H).sub ⟨rfl,rfl,rfl,rfl,rfl,rfl,av⟩,?_⟩
   unfold A9;first|(simp_all;done)
  intro fB a H
  try have p60:=dF fB
  refine kH H (YF gH fB rfl (YO aD 0 fB rfl (YC fB rfl (Pf fB rfl (Rm rfl (Sp 65 rfl ?_ ?_)))))) <;> clear H
  ·intro kC a H
   try have p65:=dT kC
   refine kH H (aZ kC rfl (Pt kC rfl (Ra rfl ?_)));clear H;intro a H;refine aH ?_;refine ⟨_,by exact (H).sub ⟨rfl,rfl,rfl,rfl,rfl,rfl,av⟩,?_⟩
   unfold A9;first|(simp_all;done)
  intro kC a H
  try have p65:=dF kC
  refine kH H (YF gH kC rfl (YO aD 0 kC rfl (YC kC rfl (Pf kC rfl (Ra rfl ?_)))));clear H;intro a H;refine aH ?_;refine ⟨_,by exact (H).sub ⟨rfl,rfl,rfl,rfl,rfl,rfl,av⟩,?_⟩
  unfold A9;first|(simp_all;done)
 clear H;intro cd a w hI H;have hcd:=hI;dsimp only [lca,aO] at H;refine kP H (SQ fun _ K7=>SB (SR fun _ K8=>?_));clear H;intro a H;refine mU (ι:=Bool) (Tc:=[(1,_),(3,_),(4,_),(5,_),(7,_)]) 8 (fun (q0:Bool)=>[(78,.bool q0)]) (fun (q0:Bool)=>q0=(!decide (1≤x.kind∧x.kind≤8) || !codeOk x)) (by exact H.sub ⟨rfl,rfl,rfl,rfl,rfl,av⟩) ?_ ?_
 ·intro ZK;refine kH H (aR gH aD 0 rfl rfl ?_);clear H;intro a H;refine s_call za H wn rfl (zB _ _ H.ro x.kind 1 8) rfl ?_;clear H;rintro v73 _ a w ⟨rfl,rfl⟩ - H;refine kH H (Rn rfl (Rm rfl (Sp 75 rfl ?_ ?_))) <;> clear H
  ·intro Fg a H
   try have p75:=dT Fg
   refine kH H (aT Fg rfl (Pt Fg rfl ?_));clear H;intro a H;refine ZK (_) _ _ ?_ (by exact H.sub ⟨rfl,rfl,rfl,rfl,rfl,rfl,av⟩);rw [← hck];clear hst hwd hnm hck hcd;(try clear hq1);(try clear hq2);(try clear hq3);(try clear hq0);(try clear hq4);(try clear iB);(try clear iF);(try clear iG);simp_all
  intro Fg a H
  try have p75:=dF Fg
  refine kH H (YM Fg rfl (YN Fg rfl (Pf Fg rfl ?_)));clear H;intro a H;refine ZK (_) _ _ ?_ (by exact H.sub ⟨rfl,rfl,rfl,rfl,rfl,rfl,av⟩);rw [← hck];clear hst hwd hnm hck hcd;(try clear hq1);(try clear hq2);(try clear hq3);(try clear hq0);(try clear hq4);(try clear iB);(try clear iF);(try clear iG);simp_all
 clear H;intro q0 a w hI H;dsimp only [lca,aO] at H;simp only [mG,jU];have hq0:=hI;refine kH H (ak K8 rfl (Cd rfl ?_ ?_)) <;> clear H K8
 ·intro oI a H
  refine aN (fun _ K9=>?_)
  have e:jE x=3:=by unfold jE;rw [au (by rw [← hq0];exact oI)]
  exact kP H (SC (aL K9 rfl (LR results162 rfl fun H=>H.rt ⟨by rw [e],rfl⟩)))
 intro oI a H
 try have p70:=dF oI
 have f0:¬ (!decide (1≤x.kind∧x.kind≤8) || !codeOk x)=true:=by rw [← hq0,oI];decide
 refine cO (fun _ aU=>?_);refine mU (ι:=Bool) (Tc:=[(1,_),(3,_),(4,_),(5,_)]) 7 (fun (q1:Bool)=>[(86,.bool q1)]) (fun (q1:Bool)=>q1=(!A9 x && decide (x.code≠0))) (by exact H.sub ⟨rfl,rfl,rfl,rfl,av⟩) ?_ ?_
 ·intro ZL;refine kH H (Rm rfl (Rn rfl (Rm rfl (Sp 82 rfl ?_ ?_)))) <;> clear H
  ·intro xX a H
   try have p82:=dT xX
   refine kH H (YF DJ xX rfl (YO aD 0 xX rfl (YC xX rfl (Pt xX rfl ?_))));clear H;intro a H;refine ZL (_) _ _ ?_ (by exact H.sub ⟨rfl,rfl,rfl,rfl,rfl,av⟩);rw [← hcd];clear hst hwd hnm hck hcd;(try clear hq1);(try clear hq2);(try clear hq3);(try clear hq0);(try clear hq4);(try clear iB);(try clear iF);(try clear iG);simp_all
  intro xX a H
  try have p82:=dF xX
  refine kH H (aZ xX rfl (Pf xX rfl ?_));clear H;intro a H;refine ZL (_) _ _ ?_ (by exact H.sub ⟨rfl,rfl,rfl,rfl,rfl,av⟩);rw [← hcd];clear hst hwd hnm hck hcd;(try clear hq1);(try clear hq2);(try clear hq3);(try clear hq0);(try clear hq4);(try clear iB);(try clear iF);(try clear iG);simp_all
 clear H;intro q1 a w hI H;dsimp only [lca,aO] at H;simp only [mG,jU];have hq1:=hI;refine mU (ι:=Bool) (Tc:=[(1,_),(3,_),(4,_)]) 9 (fun (q2:Bool)=>[(95,.bool q2)]) (fun (q2:Bool)=>q2=(q1 || !zF x && decide (x.id≠0))) (by exact H.sub ⟨rfl,rfl,rfl,av⟩) ?_ ?_
 ·intro TL;refine kH H (Rm rfl (Sp 87 rfl ?_ ?_)) <;> clear H
  ·intro h87 a H
   try have VG:=dT h87
   refine kH H (aZ h87 rfl (Ku rfl (Ku rfl (Ku rfl (Ks h87 rfl (Pt h87 rfl ?_))))));clear H;intro a H;refine TL (_) _ _ ?_ (by exact H.sub ⟨rfl,rfl,rfl,rfl,av⟩);rw [← hnm];clear hst hwd hnm hck hcd;(try clear hq1);(try clear hq2);(try clear hq3);(try clear hq0);(try clear hq4);(try clear iB);(try clear iF);(try clear iG);simp_all
  intro h87 a H
  try have VG:=dF h87
  refine kH H (YM h87 rfl (YN h87 rfl (YM h87 rfl (Sp 90 rfl ?_ ?_)))) <;> clear H
  ·intro DT a H
   try have p90:=dT DT
   refine kH H (YF vE DT rfl (YO aD 0 DT rfl (YC DT rfl (PT h87 DT rfl (Pf h87 rfl ?_)))));clear H;intro a H;refine TL (_) _ _ ?_ (by exact H.sub ⟨rfl,rfl,rfl,rfl,av⟩);rw [← hnm];clear hst hwd hnm hck hcd;(try clear hq1);(try clear hq2);(try clear hq3);(try clear hq0);(try clear hq4);(try clear iB);(try clear iF);(try clear iG);simp_all
  intro DT a H
  try have p90:=dF DT
  refine kH H (aZ DT rfl (PF h87 DT rfl (Pf h87 rfl ?_)));clear H;intro a H;refine TL (_) _ _ ?_ (by exact H.sub ⟨rfl,rfl,rfl,rfl,av⟩);rw [← hnm];clear hst hwd hnm hck hcd;(try clear hq1);(try clear hq2);(try clear hq3);(try clear hq0);(try clear hq4);(try clear iB);(try clear iF);(try clear iG);simp_all
 clear H;intro q2 a w hI H;dsimp only [lca,aO] at H;simp only [mG,jU];have hq2:=hI;refine mU (ι:=Bool) (Tc:=[(1,_),(3,_)]) 9 (fun (q3:Bool)=>[(104,.bool q3)]) (fun (q3:Bool)=>q3=(q2 || !zR x && !qd x.text)) (by exact H.sub ⟨rfl,rfl,av⟩) ?_ ?_
 ·intro TI;refine kH H (Rm rfl (Sp 96 rfl ?_ ?_)) <;> clear H
  ·intro uI a H
   try have MZ:=dT uI
   refine kH H (aZ uI rfl (Ku rfl (Ku rfl (Ku rfl (Ks uI rfl (Pt uI rfl ?_))))));clear H;intro a H;refine TI (_) _ _ ?_ (by exact H.sub ⟨rfl,rfl,rfl,av⟩);rw [← hwd];clear hst hwd hnm hck hcd;(try clear hq1);(try clear hq2);(try clear hq3);(try clear hq0);(try clear hq4);(try clear iB);(try clear iF);(try clear iG);simp_all [qd]
  intro uI a H
  try have MZ:=dF uI
  refine kH H (YM uI rfl (YN uI rfl (YM uI rfl (Sp 99 rfl ?_ ?_)))) <;> clear H
  ·intro DV a H
   try have p99:=dT DV
   refine kH H (YF vF DV rfl (YO gZ 0 DV rfl ?_));clear H;intro a H;refine acK H (wg H rfl rfl DV) rfl rfl rfl ?_;clear H;intro a H;refine kH H (PT uI DV rfl (Pf uI rfl ?_));clear H;intro a H;refine TI (_) _ _ ?_ (by exact H.sub ⟨rfl,rfl,rfl,av⟩);rw [← hwd];clear hst hwd hnm hck hcd;(try clear hq1);(try clear hq2);(try clear hq3);(try clear hq0);(try clear hq4);(try clear iB);(try clear iF);(try clear iG);simp_all [qd]
  intro DV a H
  try have p99:=dF DV
  refine kH H (aZ DV rfl (PF uI DV rfl (Pf uI rfl ?_)));clear H;intro a H;refine TI (_) _ _ ?_ (by exact H.sub ⟨rfl,rfl,rfl,av⟩);rw [← hwd];clear hst hwd hnm hck hcd;(try clear hq1);(try clear hq2);(try clear hq3);(try clear hq0);(try clear hq4);(try clear iB);(try clear iF);(try clear iG);simp_all [qd]
 clear H;intro q3 a w hI H;dsimp only [lca,aO] at H;simp only [mG,jU];have hq3:=hI;refine mU (ι:=Bool) (Tc:=[(1,_),(3,_)]) 11 (fun (q4:Bool)=>[(115,.bool q4)]) (fun (q4:Bool)=>q4=(q3 || decide (x.kind≠6) && decide (0 < (x.flow.length:Int)))) (by exact H.sub ⟨rfl,rfl,av⟩) ?_ ?_
 ·intro TJ;refine kH H (Rm rfl (Sp 105 rfl ?_ ?_)) <;> clear H
  ·intro sj a H
   try have Ke:=dT sj
   refine kH H (aT sj rfl (aT sj rfl (Ku rfl (Ku rfl (Ku rfl (Ku rfl (Ks sj rfl (Pt sj rfl ?_))))))));clear H;intro a H;refine TJ (_) _ _ ?_ (by exact H.sub ⟨rfl,rfl,rfl,av⟩);clear hst hwd hnm hck hcd;(try clear hq1);(try clear hq2);(try clear hq3);(try clear hq0);(try clear hq4);(try clear iB);(try clear iF);(try clear iG);simp_all
  intro sj a H
  try have Ke:=dF sj
  refine kH H (YF gH sj rfl (YO aD 0 sj rfl (YC sj rfl (YM sj rfl (Sp 109 rfl ?_ ?_))))) <;> clear H
  ·intro nL a H
   try have Vt:=dT nL
   refine kH H (YF Bh nL rfl (YO jy 0 nL rfl (YL jM nL rfl (YC nL rfl (PT sj nL rfl (Pf sj rfl ?_))))));clear H;intro a H;refine TJ (_) _ _ ?_ (by exact H.sub ⟨rfl,rfl,rfl,av⟩);clear hst hwd hnm hck hcd;(try clear hq1);(try clear hq2);(try clear hq3);(try clear hq0);(try clear hq4);(try clear iB);(try clear iF);(try clear iG);simp_all
  intro nL a H
  try have Vt:=dF nL
  refine kH H (aT nL rfl (aT nL rfl (PF sj nL rfl (Pf sj rfl ?_))));clear H;intro a H;refine TJ (_) _ _ ?_ (by exact H.sub ⟨rfl,rfl,rfl,av⟩);clear hst hwd hnm hck hcd;(try clear hq1);(try clear hq2);(try clear hq3);(try clear hq0);(try clear hq4);(try clear iB);(try clear iF);(try clear iG);simp_all
 clear H;intro q4 a w hI H;dsimp only [lca,aO] at H;simp only [mG,jU];have hq4:=hI;refine mU (ι:=Bool) (Tc:=[(1,_),(3,_)]) 11 (fun (q5:Bool)=>[(126,.bool q5)]) (fun (q5:Bool)=>q5=wI x) (by exact H.sub ⟨rfl,rfl,av⟩) ?_ ?_
 ·intro TK;refine kH H (Rm rfl (Sp 116 rfl ?_ ?_)) <;> clear H
  ·intro h116 a H
   try have PU:=dT h116
   refine kH H (aT h116 rfl (aT h116 rfl (Ku rfl (Ku rfl (Ku rfl (Ku rfl (Ks h116 rfl (Pt h116 rfl ?_))))))));clear H;intro a H;refine TK (_) _ _ ?_ (by exact H.sub ⟨rfl,rfl,rfl,av⟩);rw [show wI x=(q4 || decide (x.kind≠7) && decide (0 < (x.rows.length:Int))) by rw [hq4,hq3,hq2,hq1];rfl];clear hq4;clear hst hwd hnm hck hcd;(try clear hq1);(try clear hq2);(try clear hq3);(try clear hq0);(try clear hq4);(try clear iB);(try clear iF);(try clear iG);simp_all
  intro h116 a H
  try have PU:=dF h116
  refine kH H (YF gH h116 rfl (YO aD 0 h116 rfl (YC h116 rfl (YM h116 rfl (Sp 120 rfl ?_ ?_))))) <;> clear H
  ·intro ny a H
   try have FJ:=dT ny
   refine kH H (YF qH ny rfl (YO qR 0 ny rfl (YL jG ny rfl (YC ny rfl (PT h116 ny rfl (Pf h116 rfl ?_))))));clear H;intro a H;refine TK (_) _ _ ?_ (by exact H.sub ⟨rfl,rfl,rfl,av⟩);rw [show wI x=(q4 || decide (x.kind≠7) && decide (0 < (x.rows.length:Int))) by rw [hq4,hq3,hq2,hq1];rfl];clear hq4;clear hst hwd hnm hck hcd;(try clear hq1);(try clear hq2);(try clear hq3);(try clear hq0);(try clear hq4);(try clear iB);(try clear iF);(try clear iG);simp_all
  intro ny a H
  try have FJ:=dF ny
  refine kH H (aT ny rfl (aT ny rfl (PF h116 ny rfl (Pf h116 rfl ?_))));clear H;intro a H;refine TK (_) _ _ ?_ (by exact H.sub ⟨rfl,rfl,rfl,av⟩);rw [show wI x=(q4 || decide (x.kind≠7) && decide (0 < (x.rows.length:Int))) by rw [hq4,hq3,hq2,hq1];rfl];clear hq4;clear hst hwd hnm hck hcd;(try clear hq1);(try clear hq2);(try clear hq3);(try clear hq0);(try clear hq4);(try clear iB);(try clear iF);(try clear iG);simp_all
 clear H;intro q5 a w hI H;dsimp only [lca,aO] at H;simp only [mG,jU];have iB:=hI;refine kH H (ak aU rfl (Cd rfl ?_ ?_)) <;> clear H aU
 ·intro iZ a H
  refine aN (fun _ bD=>?_)
  have e:jE x=15:=by unfold jE;rw [ah f0,au (by rw [← iB];exact iZ)]
  exact kP H (SC (aL bD rfl (LR results162 rfl fun H=>H.rt ⟨by rw [e],rfl⟩)))
 intro iZ a H
 try have zH:=dF iZ
 have f1:¬ wI x=true:=by rw [← iB,iZ];decide
 refine kP H (SR fun _ bE=>aR vF gZ 0 rfl rfl ?_);clear H;intro a H;refine s_call E8 H wn rfl (FY _ _ H.ro x.text hs) rfl ?_;clear H;rintro v130 _ a w ⟨rfl,rfl⟩ - H;refine kH H (Rn rfl (ak bE rfl (Cd rfl ?_ ?_))) <;> clear H bE
 ·intro h127 a H
  refine aN (fun _ bQ=>?_)
  have e:jE x=12:=by unfold jE;rw [ah f0,ah f1,au (by simpa using h127)]
  exact kP H (SC (aL bQ rfl (LR results162 rfl fun H=>H.rt ⟨by rw [e],rfl⟩)))
 intro h127 a H
 try have aci:=dF h127
 have f2:¬ qW x.text=false:=by simpa using h127
 refine cO (fun _ bR=>?_);refine mU (ι:=Bool) (Tc:=[(1,_),(3,_)]) 13 (fun (q6:Bool)=>[(145,.bool q6)]) (fun (q6:Bool)=>q6=(decide (x.kind=1∨x.kind=5) && qd x.text)) (by exact H.sub ⟨rfl,rfl,av⟩) ?_ ?_
 ·intro TM;refine kH H (aR gH aD 0 rfl rfl (Rc rfl (Rm rfl (Sp 136 rfl ?_ ?_)))) <;> clear H
  ·intro qI a H
   try have Vw:=dT qI
   refine kH H (aZ qI rfl (Pt qI rfl (Rm rfl ?_)));clear H;intro a H;refine Km vF H (wg H rfl rfl rfl) rfl rfl ?_;clear H;intro a H;refine zK gZ H (wg H rfl rfl rfl) rfl (H.hp.tN 0 rfl rfl) rfl ?_;clear H;intro a H;refine II H (wg H rfl rfl rfl) rfl rfl rfl ?_;clear H;intro a H;refine kH H (Pt rfl rfl ?_);clear H;intro a H;refine TM (_) _ _ ?_ (by exact H.sub ⟨rfl,rfl,rfl,av⟩);clear hst hwd hnm hck hcd;(try clear hq1);(try clear hq2);(try clear hq3);(try clear hq0);(try clear hq4);(try clear iB);(try clear iF);(try clear iG);simp_all [qd]
  intro qI a H
  try have Vw:=dF qI
  refine kH H (YF gH qI rfl (YO aD 0 qI rfl (YC qI rfl (Pf qI rfl (Rm rfl (Sp 141 rfl ?_ ?_)))))) <;> clear H
  ·intro DR a H
   try have anB:=dT DR
   refine kH H (YF vF DR rfl (YO gZ 0 DR rfl ?_));clear H;intro a H;refine II H (wg H rfl rfl DR) rfl rfl rfl ?_;clear H;intro a H;refine kH H (Pt DR rfl ?_);clear H;intro a H;refine TM (_) _ _ ?_ (by exact H.sub ⟨rfl,rfl,rfl,av⟩);clear hst hwd hnm hck hcd;(try clear hq1);(try clear hq2);(try clear hq3);(try clear hq0);(try clear hq4);(try clear iB);(try clear iF);(try clear iG);simp_all [qd]
  intro DR a H
  try have anB:=dF DR
  refine kH H (aZ DR rfl (Pf DR rfl ?_));clear H;intro a H;refine TM (_) _ _ ?_ (by exact H.sub ⟨rfl,rfl,rfl,av⟩);clear hst hwd hnm hck hcd;(try clear hq1);(try clear hq2);(try clear hq3);(try clear hq0);(try clear hq4);(try clear iB);(try clear iF);(try clear iG);simp_all [qd]
 clear H;intro q6 a w hI H;dsimp only [lca,aO] at H;simp only [mG,jU];have iF:=hI;refine kH H (ak bR rfl (Cd rfl ?_ ?_)) <;> clear H bR
 ·intro DN a H
  refine aN (fun _ bW=>?_)
  have e:jE x=11:=by unfold jE;rw [ah f0,ah f1,ah f2,au (by rw [← iF];exact DN)]
  exact kP H (SC (aL bW rfl (LR results162 rfl fun H=>H.rt ⟨by rw [e],rfl⟩)))
 intro DN a H
 try have anz:=dF DN
 have f3:¬ (decide (x.kind=1∨x.kind=5) && qd x.text)=true:=by rw [← iF,DN];decide
 refine cO (fun _ cK=>?_);refine mU (ι:=Bool) (Tc:=[(1,_),(3,_)]) 9 (fun (q7:Bool)=>[(155,.bool q7)]) (fun (q7:Bool)=>q7=(decide (x.kind=5) && decide (1024 < (x.text.size:Int)))) (by exact H.sub ⟨rfl,rfl,av⟩) ?_ ?_
 ·intro ZN;refine kH H (aR gH aD 0 rfl rfl (Rc rfl (Rm rfl (Sp 150 rfl ?_ ?_)))) <;> clear H
  ·intro Bq a H
   try have anD:=dT Bq
   refine kH H (YF vF Bq rfl (YO gZ 0 Bq rfl ?_));clear H;intro a H;refine BO iD H (wg H rfl rfl Bq) rfl rfl ?_;clear H;intro a H;refine kH H (YC Bq rfl (Pt Bq rfl ?_));clear H;intro a H;refine ZN (_) _ _ ?_ (by exact H.sub ⟨rfl,rfl,rfl,av⟩);clear hst hwd hnm hck hcd;(try clear hq1);(try clear hq2);(try clear hq3);(try clear hq0);(try clear hq4);(try clear iB);(try clear iF);(try clear iG);simp_all
  intro Bq a H
  try have anD:=dF Bq
  refine kH H (aT Bq rfl (aT Bq rfl (Pf Bq rfl ?_)));clear H;intro a H;refine ZN (_) _ _ ?_ (by exact H.sub ⟨rfl,rfl,rfl,av⟩);clear hst hwd hnm hck hcd;(try clear hq1);(try clear hq2);(try clear hq3);(try clear hq0);(try clear hq4);(try clear iB);(try clear iF);(try clear iG);simp_all
 clear H;intro q7 a w hI H;dsimp only [lca,aO] at H;simp only [mG,jU];have iG:=hI;refine kH H (ak cK rfl (Cd rfl ?_ ?_)) <;> clear H cK
 ·intro Oy a H
  refine aN (fun _ bY=>?_)
  have e:jE x=10:=by unfold jE;rw [ah f0,ah f1,ah f2,ah f3,au (by rw [← iG];exact Oy)]
  exact kP H (SC (aL bY rfl (LR results162 rfl fun H=>H.rt ⟨by rw [e],rfl⟩)))
 intro Oy a H
 try have asa:=dF Oy
 have f4:¬ (decide (x.kind=5) && decide (1024 < (x.text.size:Int)))=true:=by rw [← iG,Oy];decide
 refine cO (fun _ dG=>?_);refine mU (ι:=Bool) (Tc:=[]) 7 (fun (q8:Bool)=>[(163,.bool q8)]) (fun (q8:Bool)=>q8=(Ay x && !oV x.text)) (by exact H.sub trivial) ?_ ?_
 ·intro ZP;refine kH H (Rm rfl (Rm rfl (Sp 158 rfl ?_ ?_))) <;> clear H
  ·intro Br a H
   try have anE:=dT Br
   refine kH H (YF vF Br rfl (YO gZ 0 Br rfl ?_));clear H;intro a H;refine s_call LJ H (wg H rfl rfl Br) rfl (Ls _ _ H.ro x.text hs) rfl ?_;clear H;rintro asO _ a w ⟨rfl,rfl⟩ - H;refine kH H (YN Br rfl (Pt Br rfl ?_));clear H;intro a H;refine ZP (_) _ _ ?_ (by exact H.sub ⟨rfl,av⟩);rw [← hst];clear hst hwd hnm hck hcd;(try clear hq1);(try clear hq2);(try clear hq3);(try clear hq0);(try clear hq4);(try clear iB);(try clear iF);(try clear iG);simp_all
  intro Br a H
  try have anE:=dF Br
  refine kH H (aT Br rfl (aT Br rfl (Pf Br rfl ?_)));clear H;intro a H;refine ZP (_) _ _ ?_ (by exact H.sub ⟨rfl,av⟩);rw [← hst];clear hst hwd hnm hck hcd;(try clear hq1);(try clear hq2);(try clear hq3);(try clear hq0);(try clear hq4);(try clear iB);(try clear iF);(try clear iG);simp_all
 clear H;intro q8 a w hI H;dsimp only [lca,aO] at H;simp only [mG,jU];have hq8:=hI;refine kH H (ak dG rfl (Cd rfl ?_ ?_)) <;> clear H dG
 ·intro Td a H
  refine aN (fun _ dN=>?_)
  have e:jE x=13:=by unfold jE;rw [ah f0,ah f1,ah f2,ah f3,ah f4,au (by rw [← hq8];exact Td)]
  exact kP H (SC (aL dN rfl (LR results162 rfl fun H=>H.rt ⟨by rw [e],rfl⟩)))
 intro Td a H
 refine fT ?_;refine K7 _ _ ?_;clear K7;refine aN (fun _ dH=>?_)
 have e:jE x=0:=by unfold jE;rw [ah f0,ah f1,ah f2,ah f3,ah f4,ah (by rw [← hq8,Td];decide)]
 exact kP H (SC (aL dH rfl (LR results162 rfl fun H=>H.rt ⟨by rw [e],rfl⟩)))
end
section
open Go.RowKit
structure CS where
 n:Int
 aY:List Int
abbrev CR:=Int × CS
def gD (r:CR) (f:CS→CR):CR:=if r.1≠0 then r else f r.2
theorem tq {r:CR} {f:CS→CR} (h:r.1=0):gD r f=f r.2:=by rw [gD,ah (fun h'=>h' h)]
theorem uq {r:CR} {f:CS→CR} (h:r.1≠0):gD r f=r:=by rw [gD,au h]
def jo (s:CS) (x:Int):CR:=(nP s.aY x,⟨s.n,jH s.aY x⟩)
def kr (body note:Bool) (t k i:Int) (s:CS):CR :=
 if k=3 then (bL (!body) 19,s) else if k=6 then gD (bL note 19,s) fun s=>jo s i else if k=7 then gD (bL (decide (4≤t)) 17,s) fun s=>jo s i else if k=8 then (bL (!decide (1≤i∧i≤1073741824)) 18,s) else (0,s)
def sO (C:eZ) (h:dz) (n:Nat):Int:=bO [fI C 9 h,bL (decide ((n:Int)=0)) 11,bL (decide (32 < (n:Int))) 9]
def kD (n:Nat) (f:CS→CR) (s:CS):CR:=if n=0 then (11,s) else if 256 < n then (9,s) else f s
mutual
def eP (C:eZ) (body note:Bool) (t:Int):aC→CS→CR
 | .mk k c i tx h f r,s =>
  gD (jE (.mk k c i tx h f r),s) fun s=>gD (kr body note t k i ⟨s.n+(if k=1 then xR tx else 1:Nat),s.aY⟩) fun s=>gD (fI C k h,s) fun s =>
   if k=6 then gU C false true t f s else if k=7 then kD r.length (fun s=>gN C note (t+1) r s) s else (0,s)
def Av (C:eZ) (note:Bool) (t:Int):bH→CS→CR
 | .mk h cs,s=>gD (sO C h cs.length,s) fun s=>mI C note t cs s
def cellC (C:eZ) (note:Bool) (t:Int):bq→CS→CR
 | .mk i h f,s=>gD (jo s i) fun s=>gD (fI C 10 h,s) fun s=>gU C false note t f s
def gU (C:eZ) (body note:Bool) (t:Int):List aC→CS→CR
 | [],s=>(0,s)
 | x :: r,s=>gD (eP C body note t x s) fun s=>gU C body note t r s
def gN (C:eZ) (note:Bool) (t:Int):List bH→CS→CR
 | [],s=>(0,s)
 | x :: r,s=>gD (Av C note t x s) fun s=>gN C note t r s
def mI (C:eZ) (note:Bool) (t:Int):List bq→CS→CR
 | [],s=>(0,s)
 | x :: r,s=>gD (cellC C note t x s) fun s=>mI C note t r s
end
theorem MO (C:eZ) (body note:Bool) (t:Int) (x:aC) (s:CS):eP C body note t x s=gD (jE x,s) fun s=>gD (kr body note t x.kind x.id ⟨s.n+(gI x:Nat),s.aY⟩) fun s=>gD (fI C x.kind x.head,s) fun s =>
  if x.kind=6 then gU C false true t x.flow s else if x.kind=7 then kD x.rows.length (fun s=>gN C note (t+1) x.rows s) s else (0,s):=by cases x;rw [eP];rfl
theorem IC (C:eZ) (note:Bool) (t:Int) (x:bH) (s:CS):Av C note t x s=gD (sO C x.head x.cells.length,s) fun s=>mI C note t x.cells s:=by cases x;rw [Av];rfl
theorem Aa (C:eZ) (note:Bool) (t:Int) (x:bq) (s:CS):cellC C note t x s=gD (jo s x.id) fun s=>gD (fI C 10 x.head,s) fun s=>gU C false note t x.flow s:=by cases x;rw [cellC];rfl
def Up (s:CS) (z:Nat) (r:CR):Prop:=s.n≤r.2.n∧r.2.n≤s.n+z
theorem Up.and {s:CS} {z y q:Nat} {r:CR} {f:CS→CR} (h:Up s z r) (hq:z+y≤q) (hf:∀ s,Up s y (f s)):Up s q (gD r f):=by
 obtain ⟨h1,h2⟩:=h
 unfold gD
 split
 ·exact ⟨h1,by omega⟩
 obtain ⟨h3,h4⟩:=hf r.2;exact ⟨by omega,by omega⟩
theorem Up.zero (s:CS) (e:Int) (q:Nat):Up s q (e,s):=⟨Int.le_refl _,by dsimp only;omega⟩
theorem Up.le {s:CS} {z y:Nat} {r:CR} (h:Up s z r) (hq:z≤y):Up s y r:=⟨h.1,by have:=h.2;omega⟩
theorem adD (s:CS) (x:Int) (q:Nat):Up s q (jo s x):=⟨Int.le_refl _,by dsimp only [jo];omega⟩
theorem aqf (body note:Bool) (t k i:Int) (s:CS) (q:Nat):Up s q (kr body note t k i s):=by
 unfold kr
 (repeat' split) <;> first|exact Up.zero _ _ _|exact (Up.zero _ _ 0).and (y:=0) (by omega) fun s=>adD _ _ _
mutual
theorem WA (C:eZ) (body note:Bool) (t:Int):∀ (x:aC) (s:CS),Up s (dh x.dat) (eP C body note t x s)
 | .mk k c i tx h f r,s=>by
  have hz:=oN (.mk k c i tx h f r);have hf:=Qs C false true t f;have hr:=adF C note (t+1) r;rw [eP];obtain ⟨u,hu'⟩:∃ u,u=(if k=1 then xR tx else 1:Nat):=⟨_,rfl⟩
  have hu:u≤tx.size+1:=by
   have:=EZ tx
   rw [hu'];split <;> omega
  rw [← hu'];dsimp only [aC.text,aC.flow,aC.rows,aC.head] at hz;refine (Up.zero s _ 0).and (Nat.le_of_eq (ng _)) fun s=>?_
  have h2:Up s (u) (kr body note t k i ⟨s.n+(u:Nat),s.aY⟩):=by
   obtain ⟨h3,h4⟩:=aqf body note t k i ⟨s.n+(u:Nat),s.aY⟩ 0;dsimp only at h3 h4;exact ⟨by omega,by omega⟩
  refine h2.and (y:=bB f+eG r) (by omega) fun s=>(Up.zero s _ 0).and (Nat.le_of_eq (ng _)) fun s=>?_
  by_cases h6:k=6
  ·rw [au h6];exact (hf s).le (by omega)
  rw [ah h6]
  by_cases h7:k=7
  ·rw [au h7]
   unfold kD
   by_cases c1:r.length=0
   ·rw [au c1];exact Up.zero _ _ _
   rw [ah c1]
   by_cases c2:256 < r.length
   ·rw [au c2];exact Up.zero _ _ _
   rw [ah c2];exact (hr s).le (by omega)
  rw [ah h7];exact Up.zero _ _ _
theorem aqg (C:eZ) (note:Bool) (t:Int):∀ (x:bH) (s:CS),Up s (dh x.dat) (Av C note t x s)
 | .mk h cs,s=>by
  have hz:=tY (.mk h cs);have hc:=adC C note t cs;rw [IC];dsimp only [bH.cells,bH.head] at hz ⊢;exact (Up.zero s _ 0).and (y:=iC cs) (by omega) fun s=>hc s
theorem adB (C:eZ) (note:Bool) (t:Int):∀ (x:bq) (s:CS),Up s (dh x.dat) (cellC C note t x s)
 | .mk i h f,s=>by
  have hz:=uX (.mk i h f);have hf:=Qs C false note t f;rw [Aa];dsimp only [bq.flow,bq.head,bq.id] at hz ⊢;exact (adD s _ 0).and (y:=bB f) (by omega) fun s=>(Up.zero s _ 0).and (Nat.le_of_eq (ng _)) fun s=>hf s
theorem Qs (C:eZ) (body note:Bool) (t:Int):∀ (l:List aC) (s:CS),Up s (bB l) (gU C body note t l s)
 | [],s=>by rw [gU];exact Up.zero _ _ _
 | x :: r,s=>by
  rw [gU];exact (WA C body note t x s).and (y:=bB r) (by simp only [bB,dW,eu];omega) fun s=>Qs C body note t r s
theorem adF (C:eZ) (note:Bool) (t:Int):∀ (l:List bH) (s:CS),Up s (eG l) (gN C note t l s)
 | [],s=>by rw [gN];exact Up.zero _ _ _
 | x :: r,s=>by
  rw [gN];exact (aqg C note t x s).and (y:=eG r) (by simp only [eG,dW,eu];omega) fun s=>adF C note t r s
theorem adC (C:eZ) (note:Bool) (t:Int):∀ (l:List bq) (s:CS),Up s (iC l) (mI C note t l s)
 | [],s=>by rw [mI];exact Up.zero _ _ _
 | x :: r,s=>by
  rw [mI];exact (adB C note t x s).and (y:=iC r) (by simp only [iC,dW,eu];omega) fun s=>adC C note t r s
end
def rQ {α:Type} (f:α→CS→CR) (l:List α) (s:CS):Nat→CS
 | 0=>s
 | i+1=>match l[i]? with|some x=>(f x (rQ f l s i)).2|none=>rQ f l s i
def Dz {α:Type} (f:α→CS→CR) (l:List α) (s:CS) (i:Nat):Int:=match l[i]? with|some x=>(f x (rQ f l s i)).1|none=>0
theorem Wd {α:Type} (f:α→CS→CR) (x:α) (l:List α) (s:CS):∀ i,rQ f (x :: l) s (i+1)=rQ f l (f x s).2 i
 | 0=>rfl
 | i+1=>by
  have ih:=Wd f x l s i
  simp only [rQ,List.getElem?_cons_succ] at ih ⊢
  rw [ih]
theorem ahT {α:Type} (f:α→CS→CR) (x:α) (l:List α) (s:CS) (i:Nat):Dz f (x :: l) s (i+1)=Dz f l (f x s).2 i:=by
 unfold Dz
 simp only [List.getElem?_cons_succ,Wd]
theorem aeN (E:Nat→Int) (n:Nat):iw E (n+1)=if E 0≠0 then E 0 else iw (fun i=>E (i+1)) n:=by
 unfold iw
 rw [List.range_succ_eq_map,dW,bO,List.map_map]
 rfl
theorem abv (C:eZ) (body note:Bool) (t:Int):∀ (l:List aC) (s:CS),(gU C body note t l s).1=iw (Dz (eP C body note t) l s) l.length∧((gU C body note t l s).1=0→(gU C body note t l s).2=rQ (eP C body note t) l s l.length)
 | [],s=>by rw [gU];exact ⟨rfl,fun _=>rfl⟩
 | x :: r,s=>by
  obtain ⟨h1,h2⟩:=abv C body note t r (eP C body note t x s).2;have e0:Dz (eP C body note t) (x :: r) s 0=(eP C body note t x s).1:=rfl;rw [gU,jZ,aeN,e0,Wd]
  simp only [ahT]
  unfold gD
  split
  ·next h=>exact ⟨rfl,fun h0=>absurd h0 h⟩
  exact ⟨h1,h2⟩
theorem adG (C:eZ) (body note:Bool) (t:Int) (l:List aC) (s:CS):∀ i,i≤l.length→s.n≤(rQ (eP C body note t) l s i).n∧(rQ (eP C body note t) l s i).n+(bB (l.drop i):Nat)≤s.n+(bB l:Nat)
 | 0,_=>⟨Int.le_refl _,Int.le_refl _⟩
 | i+1,hi=>by
  have hi':i < l.length:=hi;obtain ⟨h1,h2⟩:=adG C body note t l s i (by omega)
  have hs:rQ (eP C body note t) l s (i+1)=(eP C body note t l[i] (rQ (eP C body note t) l s i)).2:=by rw [rQ,fH hi']
  have hd:bB (l.drop i)=1+dh l[i].dat+bB (l.drop (i+1)):=by
   simp only [bB];rw [jw hi',dW,eu]
  obtain ⟨h3,h4⟩:=WA C body note t l[i] (rQ (eP C body note t) l s i);rw [hs];exact ⟨by omega,by omega⟩
end
section
open Go.RowKit
theorem nI {r:CR} {f:CS→CR} {s':CS} (h:gD r f=(0,s')):r.1=0∧f r.2=(0,s'):=by
 unfold gD at h
 split at h
 ·rename_i h1;rw [h] at h1;exact absurd rfl h1
 rename_i h1;exact ⟨gL.1 h1,h⟩
theorem Rq {r:CR} (h:r.1=0):r=(0,r.2):=Prod.ext h rfl
structure mZ (a b c:List Int):Prop where
 eq:c=a++b
 nd:a.Nodup→c.Nodup
 pos:∀ i∈b,1≤i∧i≤1073741824
theorem mZ.nil (a:List Int):mZ a [] a:=⟨by simp,fun h=>h,fun i h=>by cases h⟩
theorem mZ.trans {a b c d e:List Int} (h:mZ a b c) (g:mZ c d e):mZ a (b++d) e:=⟨by rw [g.eq,h.eq,iQ],fun h1=>g.nd (h.nd h1),fun i hi=>(rU.1 hi).elim (h.pos i) (g.pos i)⟩
theorem mZ.id {a:List Int} {x:Int} (h:nP a x=0):mZ a [x] (jH a x):=by
 unfold jH
 rw [au h]
 unfold nP at h
 by_cases h1:1≤x∧x≤1073741824
 ·rw [ah (fun h'=>h' h1)] at h
  by_cases h2:x∈a
  ·rw [au h2] at h;cases h
  exact ⟨rfl,fun h3=>List.nodup_append.2 ⟨h3,by simp,fun u hu v hv=>by rw [um.1 hv];exact fun e=>h2 (e ▸ hu)⟩,fun i hi=>by rw [um.1 hi];exact h1⟩
 rw [au h1] at h;cases h
theorem mZ.jo {s s':CS} {x:Int} (h:jo s x=(0,s')):mZ s.aY [x] s'.aY:=by
 unfold Go.Proofs.YthmanofbmnfemaaGreat.jo at h
 injection h with h1 h2
 rw [← h2];exact mZ.id h1
theorem anW {body note:Bool} {t k i:Int} {s s':CS} (h:kr body note t k i s=(0,s')):mZ s.aY (if k=6∨k=7 then [i] else []) s'.aY:=by
 unfold kr at h
 by_cases h3:k=3
 ·rw [au h3] at h;injection h with _ h2;rw [ah (by omega),← h2];exact mZ.nil _
 rw [ah h3] at h
 by_cases h6:k=6
 ·rw [au h6] at h;rw [au (.inl h6)];exact mZ.jo (nI h).2
 rw [ah h6] at h
 by_cases h7:k=7
 ·rw [au h7] at h;rw [au (.inr h7)];exact mZ.jo (nI h).2
 rw [ah h7] at h;rw [ah (by omega)]
 by_cases h8:k=8
 ·rw [au h8] at h;injection h with _ h2;rw [← h2];exact mZ.nil _
 rw [ah h8] at h;injection h with _ h2;rw [← h2];exact mZ.nil _
theorem VT {n:Nat} {f:CS→CR} {s s':CS} (h:kD n f s=(0,s')):n≠0∧f s=(0,s'):=by
 unfold kD at h
 split at h
 ·cases h
 rename_i h1
 split at h
 ·cases h
 exact ⟨h1,h⟩
mutual
theorem ahY (C:eZ) (body note:Bool) (t:Int):∀ (x:aC) (s s':CS),eP C body note t x s=(0,s')→mZ s.aY (Eh x) s'.aY
 | .mk k c i tx h f r,s,s',e=>by
  have hf:=Oi C false true t f;have hr:=Zl C note (t+1) r;rw [eP] at e;obtain ⟨-,e⟩:=nI e;obtain ⟨e1,e⟩:=nI e;obtain ⟨-,e⟩:=nI e;have h1:=anW (Rq e1);rw [Eh];refine h1.trans ?_
  by_cases h6:k=6
  ·rw [au h6] at e ⊢;rw [ah (show ¬ k=7 by omega),mW];exact hf _ _ e
  rw [ah h6] at e ⊢;rw [jB]
  by_cases h7:k=7
  ·rw [au h7] at e ⊢;exact hr _ _ (VT e).2
  rw [ah h7] at e ⊢
  injection e with _ e
  rw [← e];exact mZ.nil _
theorem ahZ (C:eZ) (note:Bool) (t:Int):∀ (x:bH) (s s':CS),Av C note t x s=(0,s')→mZ s.aY (Ei x) s'.aY
 | .mk h cs,s,s',e=>by
  have hc:=Zk C note t cs;rw [IC] at e;rw [Ei];exact hc _ _ (nI e).2
theorem ahX (C:eZ) (note:Bool) (t:Int):∀ (x:bq) (s s':CS),cellC C note t x s=(0,s')→mZ s.aY (Ef x) s'.aY
 | .mk i h f,s,s',e=>by
  have hf:=Oi C false note t f;rw [Aa] at e;dsimp only [bq.id,bq.head,bq.flow] at e;obtain ⟨e1,e⟩:=nI e;have h1:=mZ.jo (s':=(jo s i).2) (Prod.ext e1 rfl);rw [Ef];exact h1.trans (hf _ _ (nI e).2)
theorem Oi (C:eZ) (body note:Bool) (t:Int):∀ (l:List aC) (s s':CS),gU C body note t l s=(0,s')→mZ s.aY (fK l) s'.aY
 | [],s,s',e=>by rw [gU] at e;injection e with _ e;rw [← e];exact mZ.nil _
 | x :: r,s,s',e=>by
  rw [gU] at e;obtain ⟨e1,e⟩:=nI e;rw [fK];exact (ahY C body note t x s _ (Prod.ext e1 rfl)).trans (Oi C body note t r _ _ e)
theorem Zl (C:eZ) (note:Bool) (t:Int):∀ (l:List bH) (s s':CS),gN C note t l s=(0,s')→mZ s.aY (wU l) s'.aY
 | [],s,s',e=>by rw [gN] at e;injection e with _ e;rw [← e];exact mZ.nil _
 | x :: r,s,s',e=>by
  rw [gN] at e;obtain ⟨e1,e⟩:=nI e;rw [wU];exact (ahZ C note t x s _ (Prod.ext e1 rfl)).trans (Zl C note t r _ _ e)
theorem Zk (C:eZ) (note:Bool) (t:Int):∀ (l:List bq) (s s':CS),mI C note t l s=(0,s')→mZ s.aY (yu l) s'.aY
 | [],s,s',e=>by rw [mI] at e;injection e with _ e;rw [← e];exact mZ.nil _
 | x :: r,s,s',e=>by
  rw [mI] at e;obtain ⟨e1,e⟩:=nI e;rw [yu];exact (ahX C note t x s _ (Prod.ext e1 rfl)).trans (Zk C note t r _ _ e)
end
def oO (l:List aC):Prop:=∃ (C:eZ) (body note:Bool) (t:Int) (s s':CS),gU C body note t l s=(0,s')
structure GA (x:aC):Prop where
 txt:qW x.text=true
 kd:1≤x.kind∧x.kind≤8
 rw0:x.kind≠7→x.rows=[]
 fl0:x.kind≠6→x.flow=[]
 fl:oO x.flow
 rw:∀ r∈x.rows,∀ c∈r.cells,oO c.flow
theorem anp:oO []:=⟨⟨[],[],[]⟩,false,false,0,⟨0,[]⟩,⟨0,[]⟩,by rw [gU]⟩
theorem aiB {x:aC} (h:jE x=0):qW x.text=true∧(1≤x.kind∧x.kind≤8)∧(x.kind≠7→x.rows=[])∧(x.kind≠6→x.flow=[]):=by
 unfold jE at h
 split at h
 ·cases h
 rename_i h1
 split at h
 ·cases h
 rename_i h2
 split at h
 ·cases h
 rename_i h3
 have hk:decide (1≤x.kind∧x.kind≤8)=true:=by
  cases hd:decide (1≤x.kind∧x.kind≤8)
  ·rw [hd] at h1;exact absurd rfl h1
  rfl
 refine ⟨by simpa using h3,oU hk,fun h7=>?_,fun h6=>?_⟩
 ·rw [Bool.not_eq_true] at h2
  unfold wI at h2
  simp only [Bool.or_eq_false_iff] at h2
  have h4:=h2.2;rw [iq h7,vg,wB] at h4;exact List.length_eq_zero_iff.1 (by omega)
 rw [Bool.not_eq_true] at h2
 unfold wI at h2
 simp only [Bool.or_eq_false_iff] at h2
 have h4:=h2.1.2;rw [iq h6,vg,wB] at h4;exact List.length_eq_zero_iff.1 (by omega)
theorem cells_ok {C:eZ} {note:Bool} {t:Int}:∀ {l:List bq} {s s':CS},mI C note t l s=(0,s')→∀ c∈l,oO c.flow
 | [],_,_,_,_,h=>by cases h
 | x :: r,s,s',e,c,h=>by
  rw [mI] at e;obtain ⟨e1,e⟩:=nI e
  rcases nG.1 h with rfl|h
  ·have e2:cellC C note t c s=(0,(cellC C note t c s).2):=Prod.ext e1 rfl
   generalize (cellC C note t c s).2=s2 at e2
   rw [Aa] at e2;exact ⟨C,false,note,t,_,_,(nI (nI e2).2).2⟩
  exact cells_ok e c h
theorem acC {C:eZ} {note:Bool} {t:Int}:∀ {l:List bH} {s s':CS},gN C note t l s=(0,s')→∀ r∈l,∀ c∈r.cells,oO c.flow
 | [],_,_,_,_,h=>by cases h
 | x :: r,s,s',e,q,h=>by
  rw [gN] at e;obtain ⟨e1,e⟩:=nI e
  rcases nG.1 h with rfl|h
  ·have e2:Av C note t q s=(0,(Av C note t q s).2):=Prod.ext e1 rfl
   generalize (Av C note t q s).2=s2 at e2
   rw [IC] at e2;exact cells_ok (nI e2).2
  exact acC e q h
theorem oO.head {x:aC} {l:List aC} (h:oO (x :: l)):GA x∧oO l:=by
 obtain ⟨C,body,note,t,s,s',e⟩:=h;rw [gU] at e;obtain ⟨e1,e⟩:=nI e;have e2:eP C body note t x s=(0,(eP C body note t x s).2):=Prod.ext e1 rfl
 generalize (eP C body note t x s).2=s2 at e2
 refine ⟨?_,⟨C,body,note,t,_,_,e⟩⟩;rw [MO] at e2;obtain ⟨f1,e2⟩:=nI e2;(iterate 2 obtain ⟨-,e2⟩:=nI e2);obtain ⟨h1,h2,h3,h4⟩:=aiB f1;refine ⟨h1,h2,h3,h4,?_,?_⟩
 ·by_cases h6:x.kind=6
  ·rw [au h6] at e2;exact ⟨_,_,_,_,_,_,e2⟩
  rw [h4 h6];exact anp
 by_cases h7:x.kind=7
 ·rw [ah (by omega),au h7] at e2;exact acC (VT e2).2
 rw [h3 h7];exact fun _ h=>by cases h
theorem oO.tail {x:aC} {l:List aC} (h:oO (x :: l)):oO l:=h.head.2
theorem oO.mem:∀ {l:List aC} {x:aC},oO l→x∈l→GA x
 | y :: l,x,h,hx=>by
  rcases nG.1 hx with rfl|hx
  ·exact h.head.1
  exact oO.mem h.head.2 hx
theorem GA.e {x:aC} (h:GA x):AJ x=0:=by unfold AJ KD;rw [au h.txt];split <;> rfl
theorem GA.n1 {x:aC} (h:GA x):n1 x=gI x:=by unfold Go.Proofs.YthmanofbmnfemaaGreat.n1;rw [au h.e]
theorem oO.div {l:List aC} (h:oO l):xU l=true:=by
 unfold xU
 rw [mD];exact fun x hx=>iq (h.mem hx).e
theorem oO.len {l:List aC} (h:oO l):uO l=uT l:=by unfold uO;rw [au h.div]
mutual
theorem aqB (note:Bool) (t:Int):∀ x:aC,((zP note t x).map lu.id).Sublist (Eh x)
 | .mk k c i tx h f r=>by
  have hf:=Qx true t f;have hr:=adV note t r;rw [zP,Eh]
  by_cases h6:k=6
  ·rw [au h6,au (.inl h6),au h6,ah (by omega),mW];exact List.Sublist.cons_cons _ hf
  rw [ah h6,ah h6,jB]
  by_cases h7:k=7
  ·rw [au h7,au h7,au (.inr h7)];exact List.Sublist.cons _ hr
  rw [ah h7];exact List.nil_sublist _
theorem Qx (note:Bool) (t:Int):∀ l:List aC,((jO note t l).map lu.id).Sublist (fK l)
 | []=>by rw [jO];exact List.nil_sublist _
 | x :: l=>by
  rw [jO,fK,kZ];exact (aqB note t x).append (Qx note t l)
theorem aqC (note:Bool) (t:Int):∀ x:bH,((zQ note t x).map lu.id).Sublist (Ei x)
 | .mk h cs=>by rw [zQ,Ei];exact adU note t cs
theorem adV (note:Bool) (t:Int):∀ l:List bH,((pR note t l).map lu.id).Sublist (wU l)
 | []=>by rw [pR];exact List.nil_sublist _
 | x :: l=>by
  rw [pR,wU,kZ];exact (aqC note t x).append (adV note t l)
theorem aqA (note:Bool) (t:Int):∀ x:bq,((zO note t x).map lu.id).Sublist (Ef x)
 | .mk i h f=>by rw [zO,Ef];exact List.Sublist.cons_cons _ (Qx note (t+1) f)
theorem adU (note:Bool) (t:Int):∀ l:List bq,((qz note t l).map lu.id).Sublist (yu l)
 | []=>by rw [qz];exact List.nil_sublist _
 | x :: l=>by
  rw [qz,yu,kZ];exact (aqA note t x).append (adU note t l)
end
structure I7 (l:List aC):Prop where
 ok:oO l
 nd:(fK l).Nodup
 pos:∀ i∈fK l,1≤i∧i≤1073741824
theorem I7.of {C:eZ} {body note:Bool} {t n:Int} {l:List aC} {s':CS} (h:gU C body note t l ⟨n,[]⟩=(0,s')):I7 l:=by
 have he:=Oi C body note t l _ _ h;have hn:=he.nd List.nodup_nil;rw [he.eq] at hn;exact ⟨⟨C,body,note,t,_,_,h⟩,by simpa using hn,he.pos⟩
theorem I7.ids {l:List aC} (h:I7 l):((gK l).map lu.id).Nodup:=by
 have hs:=Qx false 0 l;rw [gK,dW,List.nodup_cons];exact ⟨fun hm=>by have:=h.pos _ (hs.subset hm);dsimp only at this;omega,hs.nodup h.nd⟩
end
section
open Go.RowKit
def kQ (s:CS) (z:Nat) (r:CR):Prop:=r.2.aY.length≤s.aY.length+z
theorem kQ.and {s:CS} {z y q:Nat} {r:CR} {f:CS→CR} (h:kQ s z r) (hq:z+y≤q) (hf:∀ s,kQ s y (f s)):kQ s q (gD r f):=by
 unfold kQ at *
 unfold gD
 split
 ·omega
 have:=hf r.2
 omega
theorem kQ.zero (s:CS) (e:Int) (q:Nat):kQ s q (e,s):=by unfold kQ;dsimp only;omega
theorem kQ.le {s:CS} {z y:Nat} {r:CR} (h:kQ s z r) (hq:z≤y):kQ s y r:=by unfold kQ at *;omega
theorem alS (l:List Int) (x:Int):(jH l x).length≤l.length+1:=by
 unfold jH
 split
 ·simp
 omega
theorem Qq (s:CS) (x:Int):kQ s 1 (jo s x):=alS _ _
theorem apZ (body note:Bool) (t k i:Int) (s:CS):kQ s 1 (kr body note t k i s):=by
 unfold kr
 (repeat' split) <;> first|exact kQ.zero _ _ _|exact (kQ.zero _ _ 0).and (y:=1) (by omega) fun s=>Qq _ _
mutual
theorem adt (C:eZ) (body note:Bool) (t:Int):∀ (x:aC) (s:CS),kQ s (dh x.dat) (eP C body note t x s)
 | .mk k c i tx h f r,s=>by
  have hz:=oN (.mk k c i tx h f r);have hf:=Wz C false true t f;have hr:=adu C note (t+1) r;rw [eP];dsimp only [aC.text,aC.flow,aC.rows,aC.head] at hz;refine (kQ.zero s _ 0).and (Nat.le_of_eq (ng _)) fun s=>?_;refine kQ.and (z:=1) (s:=s) (apZ body note t k i ⟨_,s.aY⟩) (y:=bB f+eG r) (by omega) fun s=>(kQ.zero s _ 0).and (Nat.le_of_eq (ng _)) fun s=>?_
  by_cases h6:k=6
  ·rw [au h6];exact (hf s).le (by omega)
  rw [ah h6]
  by_cases h7:k=7
  ·rw [au h7]
   unfold kD
   by_cases c1:r.length=0
   ·rw [au c1];exact kQ.zero _ _ _
   rw [ah c1]
   by_cases c2:256 < r.length
   ·rw [au c2];exact kQ.zero _ _ _
   rw [ah c2];exact (hr s).le (by omega)
  rw [ah h7];exact kQ.zero _ _ _
theorem aqa (C:eZ) (note:Bool) (t:Int):∀ (x:bH) (s:CS),kQ s (dh x.dat) (Av C note t x s)
 | .mk h cs,s=>by
  have hz:=tY (.mk h cs);have hc:=ads C note t cs;rw [IC];dsimp only [bH.cells,bH.head] at hz ⊢;exact (kQ.zero s _ 0).and (y:=iC cs) (by omega) fun s=>hc s
theorem adr (C:eZ) (note:Bool) (t:Int):∀ (x:bq) (s:CS),kQ s (dh x.dat) (cellC C note t x s)
 | .mk i h f,s=>by
  have hz:=uX (.mk i h f);have hf:=Wz C false note t f;rw [Aa];dsimp only [bq.flow,bq.head,bq.id] at hz ⊢;exact (Qq s _).and (y:=bB f) (by omega) fun s=>(kQ.zero s _ 0).and (Nat.le_of_eq (ng _)) fun s=>hf s
theorem Wz (C:eZ) (body note:Bool) (t:Int):∀ (l:List aC) (s:CS),kQ s (bB l) (gU C body note t l s)
 | [],s=>by rw [gU];exact kQ.zero _ _ _
 | x :: r,s=>by
  rw [gU];exact (adt C body note t x s).and (y:=bB r) (by simp only [bB,dW,eu];omega) fun s=>Wz C body note t r s
theorem adu (C:eZ) (note:Bool) (t:Int):∀ (l:List bH) (s:CS),kQ s (eG l) (gN C note t l s)
 | [],s=>by rw [gN];exact kQ.zero _ _ _
 | x :: r,s=>by
  rw [gN];exact (aqa C note t x s).and (y:=eG r) (by simp only [eG,dW,eu];omega) fun s=>adu C note t r s
theorem ads (C:eZ) (note:Bool) (t:Int):∀ (l:List bq) (s:CS),kQ s (iC l) (mI C note t l s)
 | [],s=>by rw [mI];exact kQ.zero _ _ _
 | x :: r,s=>by
  rw [mI];exact (adr C note t x s).and (y:=iC r) (by simp only [iC,dW,eu];omega) fun s=>ads C note t r s
end
theorem Je {C:eZ} {body note:Bool} {t:Int} {x:aC} {s s':CS} {e:Int} (h:eP C body note t x s=(e,s')):s.n≤s'.n∧s'.n≤s.n+dh x.dat∧s'.aY.length≤s.aY.length+dh x.dat:=by
 have h1:=WA C body note t x s;have h2:=adt C body note t x s;rw [h] at h1 h2;exact ⟨h1.1,h1.2,h2⟩
theorem aeY {C:eZ} {note:Bool} {t:Int} {x:bq} {s s':CS} {e:Int} (h:cellC C note t x s=(e,s')):s.n≤s'.n∧s'.n≤s.n+dh x.dat∧s'.aY.length≤s.aY.length+dh x.dat:=by
 have h1:=adB C note t x s;have h2:=adr C note t x s;rw [h] at h1 h2;exact ⟨h1.1,h1.2,h2⟩
theorem amk {C:eZ} {body note:Bool} {t:Int} {l:List aC} {k:Nat} (hk:k < l.length) (s:CS):gU C body note t (l.drop k) s=gD (eP C body note t l[k] s) fun s=>gU C body note t (l.drop (k+1)) s:=by rw [jw hk,gU]
theorem aow {C:eZ} {note:Bool} {t:Int} {l:List bH} {k:Nat} (hk:k < l.length) (s:CS):gN C note t (l.drop k) s=gD (Av C note t l[k] s) fun s=>gN C note t (l.drop (k+1)) s:=by rw [jw hk,gN]
theorem afm {C:eZ} {note:Bool} {t:Int} {l:List bq} {k:Nat} (hk:k < l.length) (s:CS):mI C note t (l.drop k) s=gD (cellC C note t l[k] s) fun s=>mI C note t (l.drop (k+1)) s:=by rw [jw hk,mI]
theorem Qy {l:List aC} {k:Nat} (hk:k < l.length):bB (l.drop k)=1+dh l[k].dat+bB (l.drop (k+1)):=by
 simp only [bB];rw [jw hk,dW,eu]
theorem Qz {l:List bH} {k:Nat} (hk:k < l.length):eG (l.drop k)=1+dh l[k].dat+eG (l.drop (k+1)):=by
 simp only [eG];rw [jw hk,dW,eu]
theorem WO {l:List bq} {k:Nat} (hk:k < l.length):iC (l.drop k)=1+dh l[k].dat+iC (l.drop (k+1)):=by
 simp only [iC];rw [jw hk,dW,eu]
end
section
open Go.ChangeShapes Go.RowKit Go.Deep
abbrev rF (W:World):GH:=fun k=>W.heap[k]?
theorem aiE {W:World} {b o:Nat} {v:aj} (h:W.cell? ⟨b,o,none⟩=some v):aF (rF W) b o=some v:=by
 unfold World.cell? at h
 unfold aF rF
 split at h
 ·rename_i c e f hh
  simp only at hh
  rw [hh];simpa using h
 cases h
theorem abD {α:Type} {p:Nat→α→Prop}:∀ n:Nat,(∀ i,i < n→∃ x,p i x)→∃ l:List α,l.length=n∧∀ i x,l[i]?=some x→p i x
 | 0,_=>⟨[],rfl,fun i x h=>by simp at h⟩
 | n+1,h=>by
  obtain ⟨l,hl,hp⟩:=abD n (fun i hi=>h i (by omega));obtain ⟨x,hx⟩:=h n (by omega);refine ⟨l++[x],by simp [hl],fun i y hy=>?_⟩
  by_cases hi:i < l.length
  ·exact hp i y (by rwa [Ce hi] at hy)
  rw [Cg (by omega)] at hy
  have hin:i - l.length=0:=by
   have:=(kG.1 hy).1
   simp at this;omega
  rw [hin] at hy
  simp only [EU,oP] at hy
  subst hy;rw [show i=n by omega];exact hx
theorem afa {H:Type} (d:DataW H):1≤Rows.uptoBulk d:=by
 cases d <;> (try simp only [Rows.uptoBulk]) <;> (try omega)
 rename_i x;cases x <;> simp only [Rows.uptoBulk] <;> omega
theorem Yb {H ρ:Type} {dat:ρ→List Dat}:∀ (rs:List ρ) (D:Nat→DataW H),(∀ i r,rs[i]?=some r→dh (dat r)+1≤8*Rows.uptoBulk (D i))→eu (rs.map dat)≤8*Rows.uptoBulkAll ((List.range rs.length).map D)
 | [],D,_=>fQ _
 | r :: rs,D,h=>by
  have h0:=h 0 r rfl;have hp:=afa (D 0);have ih:=Yb rs (fun i=>D (i+1)) (fun i r hr=>h (i+1) r (by simpa using hr));rw [jZ,List.range_succ_eq_map]
  simp only [dW,List.map_map,eu,Rows.uptoBulkAll]
  have e:(List.map (D ∘ Nat.succ) (List.range rs.length))=(List.map (fun i=>D (i+1)) (List.range rs.length)):=rfl;rw [e];omega
theorem Ya {H:Type} {D:Nat→DataW H}:∀ {n i:Nat},i < n→Rows.uptoBulk (D i)≤Rows.uptoBulkAll ((List.range n).map D)
 | 0,i,h=>absurd h (by omega)
 | n+1,i,h=>by
  have key:∀ (l m:List (DataW H)),Rows.uptoBulkAll (l++m)=Rows.uptoBulkAll l+Rows.uptoBulkAll m:=by
   intro l m
   induction l with
   | nil=>simp [Rows.uptoBulkAll]
   | cons x l ih=>simp only [mE,Rows.uptoBulkAll,ih];omega
  rw [List.range_succ,kZ,key]
  by_cases hi:i < n
  ·have:=Ya (D:=D) hi;omega
  have:i=n:=by omega
  subst this
  simp only [dW,sZ,Rows.uptoBulkAll];omega
section
variable {H:Type} {enc:TypeId × aj→H} {P:Program} {W:World} {base:Nat} {spare:Nat→Bool} {held:Bool}
theorem wZ {ρ:Type} {dat:ρ→List Dat} {t e:TypeId} {sz:Nat} (hsz:0 < sz) {fuel:Nat} {cs:List aj} {x:DataW H × List MemPlace} (ht:P.underlying t=some (.slice e)) (hc:P.cellsOf e=sz) (h:DataW.trod enc P W base spare held fuel t cs=some x)
  (row:∀ n cs' D Pl,DataW.trod enc P W base spare held n e cs'=some (D,Pl)→Rows.uptoBulk D < Rows.uptoBulk x.1→∃ r:ρ,bM (rF W) (dat r) cs'∧dh (dat r)+1≤8*Rows.uptoBulk D) :
  ∃ (rs:List ρ) (v:aj),cs=[v]∧aB (rF W) (.sl sz (rs.map dat)) v∧eu (rs.map dat)+8≤8*Rows.uptoBulk x.1:=by
 rcases open_slice ht h with ⟨rfl,rfl⟩|⟨a,len,cap,m,n,D,Pl,rfl,hb,hl,hm,hmm,rfl,hx⟩
 ·exact ⟨[],_,rfl,aB.lM rfl (by decide),by simp [eu,Rows.uptoBulk]⟩
 obtain ⟨rs,hrl,hrs⟩:=abD (p:=fun i (r:ρ)=>∃ cs',W.cells? base (a.add (i*sz)) sz=some cs'∧bM (rF W) (dat r) cs'∧dh (dat r)+1≤8*Rows.uptoBulk (D i)) len (fun i hi=>by
  have him:i < m:=by rw [hmm];split <;> omega
  obtain ⟨cs',h1,h2⟩:=hx i him;rw [hc] at h1;have hb1:=Ya (D:=D) hi;obtain ⟨r,hr1,hr2⟩:=row n cs' (D i) (Pl i) h2 (by simp only [Rows.uptoBulk];omega)
  exact ⟨r,cs',h1,hr1,hr2⟩)
 refine ⟨rs,_,rfl,?_,?_⟩
 ·simp only [aB,bN]
  refine ⟨some a,cap,by rw [hrl],by omega,hm,fun hne=>?_⟩;obtain ⟨b,off,spot⟩:=a
  have hlen:0 < rs.length:=by cases rs with|nil=>simp at hne|cons _ _=>simp
  obtain ⟨cs0,h1,-,-⟩:=hrs 0 rs[0] (fH hlen);obtain ⟨-,hl0,hg0⟩:=World.cells?_some h1
  have hspot:spot=none:=by
   have h3:=hg0 0 hsz;rw [fH (by omega)] at h3
   simpa [Addr.add] using World.cell?_spot h3
  subst hspot;refine ⟨b,off,rfl,nE.mk fun k r hk=>?_⟩;rw [oQ] at hk;obtain ⟨y,hy,rfl⟩:=oD.1 hk;obtain ⟨cs',h2,h3,-⟩:=hrs k y hy;obtain ⟨-,hl1,hg1⟩:=World.cells?_some h2;refine ⟨cs',hl1,fun j u hj=>aiE ?_,h3⟩
  have hj2:j < sz:=by rw [← hl1];exact (kG.1 hj).1
  have:=hg1 j hj2;rw [add_add,Go.WideShapes.add_plain] at this;rw [show off+k*sz+j=off+(k*sz+j) by omega,this];exact hj
 have:=Yb rs D (fun i r hr=>(hrs i r hr).choose_spec.2.2);rw [hrl] at this
 simp only [Rows.uptoBulk];omega
end
structure uh (P:Program) (t:TypeId) (sz:Nat) (fs:List (TypeId × Nat × Nat)):Prop where
 und:P.underlying t=some (.struct (P.fieldsOf t))
 cells:P.cellsOf t=sz
 L8:(P.fieldsOf t).toList.map (fun f=>(f.type,f.offset,P.cellsOf f.type))=fs
theorem vO {P:Program} {H:Type} {enc:TypeId × aj→H} {W:World} {base:Nat} {spare:Nat→Bool} {held:Bool} {t:TypeId} {sz fuel:Nat} {fs:List (TypeId × Nat × Nat)} {cs:List aj} {x:DataW H × List MemPlace} (hs:uh P t sz fs) (h:DataW.trod enc P W base spare held fuel t cs=some x) :
  ∃ (xs:List (DataW H × List MemPlace)) (n:Nat),x.1=.agg (xs.map (·.1))∧cs.length=sz∧xs.length=fs.length∧∀ (i:Nat) (ti:TypeId) (off k:Nat),fs[i]?=some (ti,off,k)→DataW.trod enc P W base spare held n ti ((cs.drop off).take k)=xs[i]?:=by
 obtain ⟨xs,n,-,rfl,hl,hxl,hf⟩:=DataW.trod_struct hs.und h;refine ⟨xs,n,rfl,by rw [hl,hs.cells],by rw [hxl,← hs.L8];simp,fun i ti off k hi=>?_⟩;rw [← hs.L8,oQ] at hi;obtain ⟨f,hf1,hf2⟩:=oD.1 hi
 simp only [iU] at hf2
 obtain ⟨rfl,rfl,rfl⟩:=hf2;exact hf i f (by simpa using hf1)
section
variable {H:Type} {enc:TypeId × aj→H} {W:World} {base:Nat} {spare:Nat→Bool} {held:Bool}
theorem apm:uh prog 171 2 [(3,0,1),(3,1,1)]:=⟨by kernel_rfl,by kernel_rfl,by kernel_rfl⟩
theorem acz {n:Nat} {cs:List aj} {D:DataW H} {Pl:List MemPlace} (h:DataW.trod enc prog W base spare held n 171 cs=some (D,Pl)):∃ r:jX,bM (rF W) r.dat cs∧dh r.dat+1≤8*Rows.uptoBulk D:=by
 obtain ⟨xs,m,hx,hl,hxl,hf⟩:=vO apm h
 match cs,hl,xs,hxl with
 | [c0,c1],_,[y0,y1],_ =>
  have h0:=hf 0 _ _ _ rfl;have h1:=hf 1 _ _ _ rfl;obtain ⟨k0,e0,d0,-⟩:=DataW.trod_int underlying3 h0;obtain ⟨k1,e1,d1,-⟩:=DataW.trod_int underlying3 h1
  simp at e0 e1
  subst e0 e1
  simp only at hx
  refine ⟨⟨k0,k1⟩,?_,?_⟩
  ·simp [bM,jX.dat,aB,Value.oneCell']
  rw [hx];simp [d0,d1,jX.dat,dh,qx,Rows.uptoBulk,Rows.uptoBulkAll]
theorem ape:uh prog 115 2 [(3,0,1),(3,1,1)]:=⟨by kernel_rfl,by kernel_rfl,by kernel_rfl⟩
theorem aoe {n:Nat} {cs:List aj} {D:DataW H} {Pl:List MemPlace} (h:DataW.trod enc prog W base spare held n 115 cs=some (D,Pl)):∃ r:kV,bM (rF W) r.dat cs∧dh r.dat+1≤8*Rows.uptoBulk D:=by
 obtain ⟨xs,m,hx,hl,hxl,hf⟩:=vO ape h
 match cs,hl,xs,hxl with
 | [c0,c1],_,[y0,y1],_ =>
  have h0:=hf 0 _ _ _ rfl;have h1:=hf 1 _ _ _ rfl;obtain ⟨k0,e0,d0,-⟩:=DataW.trod_int underlying3 h0;obtain ⟨k1,e1,d1,-⟩:=DataW.trod_int underlying3 h1
  simp at e0 e1
  subst e0 e1
  simp only at hx
  refine ⟨⟨k0,k1⟩,?_,?_⟩
  ·simp [bM,kV.dat,aB,Value.oneCell']
  rw [hx];simp [d0,d1,kV.dat,dh,qx,Rows.uptoBulk,Rows.uptoBulkAll]
theorem aph:uh prog 117 4 [(3,0,1),(3,1,1),(3,2,1),(4,3,1)]:=⟨by kernel_rfl,by kernel_rfl,by kernel_rfl⟩
theorem aoh {n:Nat} {cs:List aj} {D:DataW H} {Pl:List MemPlace} (h:DataW.trod enc prog W base spare held n 117 cs=some (D,Pl)):∃ r:lF,bM (rF W) r.dat cs∧dh r.dat+1≤8*Rows.uptoBulk D:=by
 obtain ⟨xs,m,hx,hl,hxl,hf⟩:=vO aph h
 match cs,hl,xs,hxl with
 | [c0,c1,c2,c3],_,[y0,y1,y2,y3],_ =>
  have h0:=hf 0 _ _ _ rfl;have h1:=hf 1 _ _ _ rfl;have h2:=hf 2 _ _ _ rfl;have h3:=hf 3 _ _ _ rfl;obtain ⟨k0,e0,d0,-⟩:=DataW.trod_int underlying3 h0;obtain ⟨k1,e1,d1,-⟩:=DataW.trod_int underlying3 h1;obtain ⟨k2,e2,d2,-⟩:=DataW.trod_int underlying3 h2;obtain ⟨k3,e3,d3⟩:=DataW.trod_bool underlying4 h3
  simp at e0 e1 e2 e3
  subst e0 e1 e2 e3
  simp only at hx
  refine ⟨⟨k0,k1,k2,k3⟩,?_,?_⟩
  ·simp [bM,lF.dat,aB,Value.oneCell']
  rw [hx];simp [d0,d1,d2,d3,lF.dat,dh,qx,Rows.uptoBulk,Rows.uptoBulkAll]
theorem apl:uh prog 27 4 [(3,0,1),(3,1,1),(24,2,1),(25,3,1)]:=⟨by kernel_rfl,by kernel_rfl,by kernel_rfl⟩
theorem apf:uh prog 29 5 [(23,0,1),(27,1,4)]:=⟨by kernel_rfl,by kernel_rfl,by kernel_rfl⟩
theorem Ym:prog.cellsOf 171=2:=by kernel_rfl
theorem afp:prog.cellsOf 115=2:=by kernel_rfl
theorem afq:prog.cellsOf 117=4:=by kernel_rfl
theorem P9 {n:Nat} {cs:List aj} {x:DataW H × List MemPlace} (h:DataW.trod enc prog W base spare held n 29 cs=some x):∃ (r:dz) (p d l:aj),cs=[p,vi r.marks.ins,vi r.marks.move,d,l]∧nS (rF W) r p d l∧pU r+15≤8*Rows.uptoBulk x.1:=by
 obtain ⟨xs,m,hx,hl,hxl,hf⟩:=vO apf h
 match cs,hl,xs,hxl with
 | [c0,c1,c2,c3,c4],_,[y0,y1],_ =>
  have h0:=hf 0 _ _ _ rfl;have h1:=hf 1 _ _ _ rfl;obtain ⟨ps,pv,e0,rp,sp⟩:=wZ (dat:=jX.dat) (sz:=2) (by omega) underlying23 Ym h0 (fun n cs' D Pl hh _=>acz hh);obtain ⟨zs,m2,hz,hzl,hzx,Ed⟩:=vO apl h1
  match zs,hzx with
  | [z0,z1,z2,z3],_ =>
   have g0:=Ed 0 _ _ _ rfl;have g1:=Ed 1 _ _ _ rfl;have g2:=Ed 2 _ _ _ rfl;have g3:=Ed 3 _ _ _ rfl;obtain ⟨k0,e1,d0,-⟩:=DataW.trod_int underlying3 g0;obtain ⟨k1,e2,d1,-⟩:=DataW.trod_int underlying3 g1;obtain ⟨ds,dv,e3,rd,sd⟩:=wZ (dat:=kV.dat) (sz:=2) (by omega) underlying24 afp g2 (fun n cs' D Pl hh _=>aoe hh);obtain ⟨ls,lv,e4,rl,sl⟩:=wZ (dat:=lF.dat) (sz:=4) (by omega) underlying25 afq g3 (fun n cs' D Pl hh _=>aoh hh)
   simp at e0 e1 e2 e3 e4
   subst e0 e1 e2 e3 e4;refine ⟨⟨ps,⟨k0,k1,ds,ls⟩⟩,_,_,_,rfl,⟨rp,rd,rl⟩,?_⟩;have U8:=Df ⟨ps,⟨k0,k1,ds,ls⟩⟩
   simp only at U8
   rw [hx]
   simp only [dW,sZ,Rows.uptoBulk,Rows.uptoBulkAll,hz,d0,d1]
   omega
theorem apg:uh prog 68 11 [(3,0,1),(3,1,1),(3,2,1),(9,3,1),(29,4,5),(22,9,1),(66,10,1)]:=⟨by kernel_rfl,by kernel_rfl,by kernel_rfl⟩
theorem apn:uh prog 144 6 [(29,0,5),(142,5,1)]:=⟨by kernel_rfl,by kernel_rfl,by kernel_rfl⟩
theorem apc:uh prog 147 7 [(3,0,1),(29,1,5),(22,6,1)]:=⟨by kernel_rfl,by kernel_rfl,by kernel_rfl⟩
theorem Rb:prog.cellsOf 68=11:=by kernel_rfl
theorem afu:prog.cellsOf 144=6:=by kernel_rfl
theorem afn:prog.cellsOf 147=7:=by kernel_rfl
theorem acy:∀ (N:Nat) (n:Nat) (cs:List aj) (D:DataW H) (Pl:List MemPlace),DataW.trod enc prog W base spare held n 68 cs=some (D,Pl)→Rows.uptoBulk D < N→∃ r:aC,bM (rF W) r.dat cs∧dh r.dat+1≤8*Rows.uptoBulk D
 | 0,_,_,_,_,_,hN=>absurd hN (by omega)
 | N+1,n,cs,D,Pl,h,hN=>by
  have ih:=acy N;obtain ⟨xs,m,hx,hl,hxl,hf⟩:=vO apg h
  match cs,hl,xs,hxl with
  | [c0,c1,c2,c3,c4,c5,c6,c7,c8,c9,c10],_,[y0,y1,y2,y3,y4,y5,y6],_ =>
   have h0:=hf 0 _ _ _ rfl;have h1:=hf 1 _ _ _ rfl;have h2:=hf 2 _ _ _ rfl;have h3:=hf 3 _ _ _ rfl;have h4:=hf 4 _ _ _ rfl;have h5:=hf 5 _ _ _ rfl;have h6:=hf 6 _ _ _ rfl
   simp only at hx
   have hD:Rows.uptoBulk D=Rows.uptoBulk y0.1+(Rows.uptoBulk y1.1+(Rows.uptoBulk y2.1+(Rows.uptoBulk y3.1+(Rows.uptoBulk y4.1+(Rows.uptoBulk y5.1+(Rows.uptoBulk y6.1+0))))))+1:=by
    rw [hx];simp only [dW,sZ,Rows.uptoBulk,Rows.uptoBulkAll]
   obtain ⟨k0,e0,d0,-⟩:=DataW.trod_int underlying3 h0;obtain ⟨k1,e1,d1,-⟩:=DataW.trod_int underlying3 h1;obtain ⟨k2,e2,d2,-⟩:=DataW.trod_int underlying3 h2;obtain ⟨s,e3,d3,-⟩:=DataW.trod_string underlying9 h3;obtain ⟨hd,p,d,l,e4,rh,sh⟩:=P9 h4;obtain ⟨fl,fv,e5,rf,sf⟩:=wZ (dat:=aC.dat) (sz:=11) (by omega) underlying22 Rb h5 (fun n cs' D' bZ hh hlt=>ih n cs' D' bZ hh (by omega))
   obtain ⟨rs,rv,e6,rr,sr⟩:=wZ (dat:=bH.dat) (sz:=6) (by omega) underlying66 afu h6 (fun n cs' D' bZ hh hlt=>by
    obtain ⟨xs,m,hx,hl,hxl,hf⟩:=vO apn hh
    match cs',hl,xs,hxl with
    | [a0,a1,a2,a3,a4,a5],_,[w0,w1],_ =>
     have g0:=hf 0 _ _ _ rfl;have g1:=hf 1 _ _ _ rfl
     simp only at hx
     have hD':Rows.uptoBulk D'=Rows.uptoBulk w0.1+(Rows.uptoBulk w1.1+0)+1:=by
      rw [hx];simp only [dW,sZ,Rows.uptoBulk,Rows.uptoBulkAll]
     obtain ⟨hd2,p2,d2',l2,q0,rh2,sh2⟩:=P9 g0
     obtain ⟨cl,cv,q1,rc,sc⟩:=wZ (dat:=bq.dat) (sz:=7) (by omega) underlying142 afn g1 (fun n cs'' D'' aqT hh2 hlt2=>by
      obtain ⟨xs,m,hx2,hl2,alP,hf2⟩:=vO apc hh2
      match cs'',hl2,xs,alP with
      | [b0,b1,b2,b3,b4,b5,b6],_,[v0,v1,v2],_ =>
       have u0:=hf2 0 _ _ _ rfl;have u1:=hf2 1 _ _ _ rfl;have u2:=hf2 2 _ _ _ rfl
       simp only at hx2
       have ara:Rows.uptoBulk D''=Rows.uptoBulk v0.1+(Rows.uptoBulk v1.1+(Rows.uptoBulk v2.1+0))+1:=by
        rw [hx2];simp only [dW,sZ,Rows.uptoBulk,Rows.uptoBulkAll]
       obtain ⟨j0,t0,z0,-⟩:=DataW.trod_int underlying3 u0;obtain ⟨hd3,p3,d3',l3,t1,rh3,sh3⟩:=P9 u1;obtain ⟨Sw,fv3,t2,rf3,sf3⟩:=wZ (dat:=aC.dat) (sz:=11) (by omega) underlying22 Rb u2 (fun n cs3 D3 Pl3 hh3 hlt3=>ih n cs3 D3 Pl3 hh3 (by omega))
       simp at t0 t1 t2
       obtain ⟨rfl,rfl,rfl,rfl,rfl⟩:=t1;subst t0 t2;have hz:=uX (bq.mk j0 hd3 Sw)
       simp only [bq.head,bq.flow] at hz
       have bz:Rows.uptoBulk v0.1=1:=by rw [z0];rfl
       exact ⟨bq.mk j0 hd3 Sw,bM.PO (x:=bq.mk j0 hd3 Sw) rh3 rf3,by simp only [bB] at hz;omega⟩)
     simp at q0 q1
     obtain ⟨rfl,rfl,rfl,rfl,rfl⟩:=q0;subst q1;have hz:=tY (bH.mk hd2 cl)
     simp only [bH.head,bH.cells] at hz
     exact ⟨bH.mk hd2 cl,bM.abV (x:=bH.mk hd2 cl) rh2 rc,by simp only [iC] at hz;omega⟩)
   simp at e0 e1 e2 e3 e4 e5 e6
   obtain ⟨rfl,rfl,rfl,rfl,rfl⟩:=e4;subst e0 e1 e2 e3 e5 e6;have hz:=oN (aC.mk k0 k1 k2 s hd fl rs)
   simp only [aC.text,aC.head,aC.flow,aC.rows] at hz
   have b0:Rows.uptoBulk y0.1=1:=by rw [d0];rfl
   have b1:Rows.uptoBulk y1.1=1:=by rw [d1];rfl
   have b2:Rows.uptoBulk y2.1=1:=by rw [d2];rfl
   have b3:Rows.uptoBulk y3.1=s.size+1:=by rw [d3];show s.data.toList.length+1=s.data.size+1;rw [yT]
   exact ⟨aC.mk k0 k1 k2 s hd fl rs,bM.mkItem (x:=aC.mk k0 k1 k2 s hd fl rs) rh rf rr,by simp only [bB,eG] at hz;omega⟩
theorem aog {n:Nat} {cs:List aj} {x:DataW H × List MemPlace} (h:DataW.trod enc prog W base spare held n 22 cs=some x):∃ (l:List aC) (v:aj),cs=[v]∧aB (rF W) (.sl 11 (l.map aC.dat)) v∧bB l+8≤8*Rows.uptoBulk x.1 :=
 wZ (dat:=aC.dat) (sz:=11) (by omega) underlying22 Rb h (fun n cs' D' bZ hh _=>acy _ n cs' D' bZ hh (Nat.lt_succ_self _))
end
end
end Go.Proofs.YthmanofbmnfemaaGreat
