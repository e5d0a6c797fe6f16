/-
  What the claim stands on, part 4: Dsc Mi Ro Ri Chn Chk Dsv Mq Nck Stq Cid Mt Hdr Hea Frm Itc.
-/
import Derived.Test.YtdacibabefnabaaGreatWkc
namespace Go.Proofs.YtdacibabefnabaaGreat
open Go.Proofs.Tryz
section
open Go.RowKit
theorem rV:Ty prog 33 1 24 [.slice none 0 0] false:=⟨by kernel_rfl,by kernel_rfl⟩
theorem nX:prog.underlying 33=some (.slice 96):=by kernel_rfl
theorem oP:Ty prog 96 6 64 [.int .i64 0,.int .i64 0,.string ⟨#[]⟩,.int .i64 0,.string ⟨#[]⟩,.bool false] true:=⟨by kernel_rfl,by kernel_rfl⟩
theorem Lj:dV prog 96 0 0:=⟨by kernel_rfl⟩
theorem N8:dV prog 96 1 1:=⟨by kernel_rfl⟩
theorem afC:∀ args w,(callFunc 185 args).run prog w=.ok (.enter 185 args) w:=enters func185 rfl (by kernel_rfl)
theorem afh:∀ args w,(callFunc 161 args).run prog w=.ok (.enter 161 args) w:=enters func161 rfl (by kernel_rfl)
theorem Yb:dV prog 96 2 2:=⟨by kernel_rfl⟩
theorem Xt:∀ args w,(callFunc 127 args).run prog w=.ok (.enter 127 args) w:=enters func127 rfl (by kernel_rfl)
theorem RG:dV prog 96 3 3:=⟨by kernel_rfl⟩
theorem Yc:dV prog 96 4 4:=⟨by kernel_rfl⟩
theorem Q9:∀ args w,(callFunc 164 args).run prog w=.ok (.enter 164 args) w:=enters func164 rfl (by kernel_rfl)
theorem afj:∀ args w,(callFunc 163 args).run prog w=.ok (.enter 163 args) w:=enters func163 rfl (by kernel_rfl)
theorem afi:∀ args w,(callFunc 162 args).run prog w=.ok (.enter 162 args) w:=enters func162 rfl (by kernel_rfl)
theorem afg:∀ args w,(callFunc 160 args).run prog w=.ok (.enter 160 args) w:=enters func160 rfl (by kernel_rfl)
theorem Ig {G:GH} {b:Nat} (l:List Int) (h:G b=some (.cells (l.map vi).toArray 41 (0,0))) (hl:l.length≤maxLen):au G (.sl 1 (l.map fun k=>[li k])) (.slice (some ⟨b,0,none⟩) l.length l.length) :=
 au.fF h (by simp) (dJ _) hl (iH (by simp)) (fU G l)
theorem Je {G:GH} {l:List fq} {A:Option Addr} {n c k:Nat} (hv:au G (.sl 6 (l.map fq.dat)) (.slice A n c)) (hk:k < l.length):∃ b o,A=some ⟨b,o,none⟩∧(∀ j u,l[k].cells[j]?=some u→aF G b (o+k*6+j)=some u)∧bH G l[k].dat l[k].cells:=by
 obtain ⟨A',c',he,_,_,hg⟩:=hv.slice
 injection he with e1 e2 e3
 subst e1;obtain ⟨b,o,cs,h1,h2,h3,h4⟩:=hg k l[k].dat (by simp [hk]);have:=KI h4;subst this;exact ⟨b,o,h1,h3,h4⟩
theorem adU {G:GH} {bl:Nat} {l:List fq} {A:Option Addr} {n c:Nat} (hb:aF G bl 0=some (.slice A n c)) (hv:au G (.sl 6 (l.map fq.dat)) (.slice A n c)):uY (.func (.func 163) #[] #[(aM bl 0)]) G l.length fun k=>(l[k]?.map fq.id).getD 0:=by
 intro k hk G1 w0 hm hG;refine mF (caps:=[(aM bl 0)]) afj ?_;replace hb:=ay hm hb
 obtain rfl:n=l.length:=by have:=hv.len;simpa using this
 obtain ⟨b,o,rfl,hrow,-⟩:=Je (hv.mono hm) hk;have hq:=hrow 0 _ rfl;refine eN [(0,_),(1,_)] func163 rfl ntmps163 rfl rfl hG ?_;intro a H;refine kP H (SR fun _ K1=>aj K1 rfl (SR fun _ K2=>Rg rV rfl (by assumption) ?_));clear H K1;intro a H;refine kH H (Rm rfl (Ri nX oP rfl rfl (Rf Lj rfl (Rg aD rfl (by assumption) ?_))));clear H;intro a H;exact kH H (aj K2 rfl (LR results163 rfl fun H=>H.rt (by dsimp only;rw [fT hk];rfl)))
theorem adW {G:GH} {bc:Nat} {x:fq} (hb:aF G bc 1=some (vi x.parent)) (y:fq):wB (.func (.func 162) #[] #[(aM bc 0)]) G y.dat (decide (y.id=x.parent)):=by
 intro G1 w0 cs hm hG hr;refine mF (caps:=[(aM bc 0)]) afi ?_;obtain rfl:=KI hr;replace hb:=ay hm hb;refine eN [(0,_),(1,_)] func162 rfl ntmps162 rfl rfl hG ?_;intro a H;refine dw (fun _ K1=>?_);refine eD (cs:=[_,_,_,_,_,_]) H wn rfl rfl rfl ?_;clear H;intro b2 a w hb2 H;refine kH H (aj K1 rfl (SR fun _ K2=>bg Lj aD 0 rfl rfl (Rf N8 rfl (Rg aD rfl (by assumption) ?_))));clear H K1;intro a H;exact kH H (Rc rfl (aj K2 rfl (LR results162 rfl fun H=>H.rt rfl)))
theorem akp (G:GH) (w0:World) (hG:Hold G w0) (l:List fq) (p:fq→Bool) (v fv:ak) (hv:au G (.sl 6 (l.map fq.dat)) v) (hf:∀ x∈l,wB fv G x.dat (p x)) :
  Calls prog 185 #[v,fv] w0 (bJ w0 G fun u G'=>u=vi (qV (l.findIdx? p))):=by
 obtain ⟨A,c,rfl,hc1,hc2,hg⟩:=hv.slice;have hml:maxLen=9223372036854775807:=rfl;rw [bV] at *;refine eN [(0,_),(1,_)] func185 rfl ntmps185 rfl rfl hG ?_;intro a H;refine kP H (SR fun _ K1=>aj K1 rfl (SQ fun _ K2=>SR fun _ K3=>Rm rfl (Rl nX rfl (Rm rfl (Kz K3 (SB ?_))))));clear H K1 K3;intro a H;skip;refine eH (ι:=Nat × GH) (Tc:=[(0,_),(1,_),(7,_)]) (Lc:=[]) (fun gh=>[(8,vi gh.1)]) (fun gh=>[]) (fun gh=>gh.2) (fun gh=>gh.1≤l.length∧(l.take gh.1).findIdx? p=none∧(∀ b o,G b=some o→gh.2 b=some o)) (fun gh=>l.length - gh.1) ((0,G)) (by exact (H).sub ⟨rfl,rfl,rfl,rfl,aC⟩) ?_ ?_
 ·exact ⟨by omega,rfl,fun _ _ h=>h⟩
 clear H;intro gh a w hI H;obtain ⟨k,g⟩:=gh;dsimp only at hI H;obtain ⟨hk,hno,hgm⟩:=hI;dsimp only [lca,aV] at H;refine kP H (SR fun _ K4=>Rc rfl (Kz K4 (SQ fun _ K5=>Cd rfl ?_ ?_))) <;> clear H K4
 ·intro h9 a H
  try have p9:=dT h9
  have hk2:k < l.length:=by omega
  obtain ⟨b,o,rfl,hrow,hrep⟩:=Je hv hk2;refine kP H (Kc K5 (SQ fun _ K6=>SB (SR fun _ K7=>Rm rfl (aj K7 rfl (SR fun _ K8=>Rm rfl (Rm rfl (Rm rfl (Ri nX oP rfl rfl ?_))))))));clear H K5 K7;intro a H;refine aW oP (cs:=l[k].cells) H wn rfl rfl (fun j v hj=>H.hp.aF (ay hgm (hrow j v hj))) rfl ?_;clear H;intro a H;refine pI H wn rfl rfl (hf _ (jW hk2) _ _ _ hgm H.ro (hrep.mono hgm)) rfl ?_;clear H;rintro v16 yP a w rfl pY H;refine K8 _ _ ?_;clear K8;refine jX H rfl ?_ ?_
  ·intro h16
   try have p16:=dT h16
   refine kP H (SR fun _ K9=>Rm rfl (aj K9 rfl ?_));clear H K9;intro a H;refine lr H results185 rfl ?_
   first
    | exact H.rt (by rw [zK hk2 hno h16];rfl)
    | exact H.rt (by rw [show l.take k=l from iH (by omega)] at hno;rw [hno];rfl)
  intro h16
  try have p16:=dF h16
  refine kP H (Kc K6 (SC (Rd rfl (Rm rfl ?_))));clear H K6;intro a H;refine aH ?_;refine dK ((k+1,yP)) (by exact (H).sub ⟨rfl,rfl,rfl,rfl,aC⟩) ?_ ?_
  ·(try dsimp only);exact ⟨by omega,Ie hk2 hno h16,fun b o h=>pY b o (hgm b o h)⟩
  first|omega|(dsimp only;omega)
 intro h9 a H
 try have p9:=dF h9
 refine dW ?_;refine K2 _ _ ?_;clear K2;refine kP H (SR fun _ aT=>aj aT rfl ?_);clear H aT;intro a H;refine lr H results185 rfl ?_
 first
  | exact H.rt (by rw [zK hk2 hno h16];rfl)
  | exact H.rt (by rw [show l.take k=l from iH (by omega)] at hno;rw [hno];rfl)
theorem adY (G:GH) (w0:World) (hG:Hold G w0) (l:List fq) (p:fq→Bool) (v fv:ak) (hv:au G (.sl 6 (l.map fq.dat)) v) (hf:∀ x∈l,wB fv G x.dat (p x)) :
  Calls prog 161 #[v,fv] w0 (bJ w0 G fun u G'=>u=.bool (l.findIdx? p).isSome):=by
 obtain ⟨A,c,rfl,hc1,hc2,-⟩:=hv.slice;rw [bV] at *;refine eN [(0,_),(1,_)] func161 rfl ntmps161 rfl rfl hG ?_;intro a H;refine kP H (SR fun _ K1=>aj K1 rfl (SR fun _ K2=>Rm rfl (Rm rfl ?_)));clear H K1;intro a H;refine s_call afC H wn rfl (akp _ _ H.ro l p _ _ hv hf) rfl ?_;clear H;rintro v7 G7 a w rfl wU H;exact kH H (Rc rfl (aj K2 rfl (LR results161 rfl fun H=>H.rt (aL (Ur _)))))
def EP (l:List fq) (i:Nat) (x:fq):Bool:=decide (x.parent=0) || ((l.take i).findIdx? fun y=>decide (y.id=x.parent)).isSome
def Ba (l:List fq) (i:Nat) (x:fq):Int:=bT [kY (fun k=>(l[k]?.map fq.id).getD 0) i,bQ (!EP l i x) 8,bQ (!qm x.author) 39,bQ (!decide (0≤x.time∧x.time≤1099511627776)) 40,sU x.text]
def uF (l:List fq) (i:Nat):Int:=match l[i]? with|some x=>Ba l i x|none=>0
theorem adT {G:GH} {bl:Nat} {l:List fq} {A:Option Addr} {n c:Nat} (hb:aF G bl 0=some (.slice A n c)) (hv:au G (.sl 6 (l.map fq.dat)) (.slice A n c)) (hl:l.length≤4294967296) (ht:∀ x∈l,x.author.size < 4611686018427387904∧x.text.size < 4611686018427387904):uY (.func (.func 160) #[] #[(aM bl 0)]) G l.length (uF l):=by
 intro k hk G1 w0 hm hG;refine mF (caps:=[(aM bl 0)]) afg ?_;replace hb:=ay hm hb;replace hv:=hv.mono hm;have hcb:=adU hb hv;obtain ⟨_,_,hee,ZC,-,-⟩:=hv.slice
 injection hee with _ _ hcc
 subst hcc;rw [bV] at ZC
 obtain rfl:n=l.length:=by have:=hv.len;simpa using this
 obtain ⟨b,o,rfl,hrow,hrep⟩:=Je hv hk;have hte:=ht _ (jW hk);obtain ⟨x,hx⟩:∃ x,x=l[k]:=⟨_,rfl⟩;rw [← hx] at hrow hte
 have he:uF l k=Ba l k x:=by unfold uF;rw [fT hk,hx]
 refine eN [(0,_),(1,_)] func160 rfl ntmps160 rfl rfl hG ?_;intro a H;refine kP H (SR fun _ K1=>aj K1 rfl (SR fun _ K2=>Rg rV rfl (by assumption) ?_));clear H K1;intro a H;refine kH H (Rm rfl (Ri nX oP rfl rfl ?_));clear H;intro a H;refine aW oP (cs:=x.cells) H wn rfl rfl (fun j v hj=>H.hp.aF (hrow j v hj)) rfl ?_;clear H;intro a H;refine dU oP H wn rfl ?_;clear H;intro b4 a w hb4 H;refine bN oP 0 (vs:=[_,_,_,_,_,_]) _ H wn rfl rfl rfl rfl rfl rfl rfl rfl ?_;clear H;intro w H;dsimp only [List.set,setRow] at H;obtain ⟨Ga,hma,Bv,H⟩:=H.eG
 have hcell:∀ (j:Nat) (u:ak),x.cells[j]?=some u→aF Ga b4 j=some u:=fun j u hj=>by unfold aF;rw [Bv];simpa using hj
 have q1:=hcell 1 _ rfl;have hbA:=ay hma hb;have ZA:=(hv.mono hma).pre k (by rw [bV];omega);rw [← List.map_take] at ZA;refine K2 _ _ ?_;clear K2;refine qL (ι:=Bool × GH) (Tc:=[(0,_),(1,_),(4,_)]) (Lc:=[]) (fun gh=>[(5,.bool gh.1)]) (fun gh=>[]) (fun gh=>gh.2) (fun gh=>gh.1=EP l k x∧(∀ b o,Ga b=some o→gh.2 b=some o)) (by exact (H).sub ⟨rfl,rfl,rfl,aC⟩) ?_ ?_
 ·skip;refine kP H (SC (Rf N8 rfl (Rg aD rfl (by assumption) ?_)));clear H;intro a H;refine kH H (Rc rfl (Rm rfl (Sp 13 rfl ?_ ?_))) <;> clear H
  ·intro gG a H
   try have rR:=dT gG
   refine kH H (aQ gG rfl (aN gG rfl (Pt gG rfl (Ra rfl ?_))));clear H;intro a H;refine aH ?_;refine ⟨(_,_),by exact (H).sub ⟨rfl,rfl,rfl,rfl,aC⟩,?_⟩;(try dsimp only)
   first
   | exact ⟨by unfold EP;rw [gW (by assumption)];rfl,fun _ _ h=>h⟩
   | exact ⟨by unfold EP;rw [fZ (by assumption)];rfl,hm18⟩
  intro gG a H
  try have rR:=dF gG
  refine kH H (YR rV gG rfl (by assumption) ?_);clear H;intro a H;refine kH H (YM gG rfl ?_);clear H;intro a H;refine aaU nX oP k H (wg H rfl rfl gG) rfl rfl rfl (by omega) rfl ?_;clear H;intro a H;refine qX H (wg H rfl rfl gG) rfl rfl ?_;clear H;intro a H;refine s_call afh H (wg H rfl rfl gG) rfl (adY _ _ H.ro (l.take k) (fun y=>decide (y.id=x.parent)) _ _ ZA (fun y _=>adW q1 y)) rfl ?_;clear H;rintro v18 G18 a w rfl hm18 H;refine kH H (Pf gG rfl (Ra rfl ?_));clear H;intro a H;refine aH ?_;refine ⟨(_,_),by exact (H).sub ⟨rfl,rfl,rfl,rfl,aC⟩,?_⟩;(try dsimp only)
  first
  | exact ⟨by unfold EP;rw [gW (by assumption)];rfl,fun _ _ h=>h⟩
  | exact ⟨by unfold EP;rw [fZ (by assumption)];rfl,hm18⟩
 clear H;intro gh a w hI H;obtain ⟨bf,g⟩:=gh;dsimp only at hI H;obtain ⟨hbf,hgm⟩:=hI;replace hcell:=fun j u hj=>ay hgm (hcell j u hj);replace hcb:=(hcb.mono hma).mono hgm;dsimp only [lca,aV] at H;refine aS (fun _ K3=>?_);have H:=H.sub (T':=[(0,_),(1,_),(4,_),(5,_)]) ⟨rfl,rfl,rfl,rfl,aC⟩;refine dI hmx [[],[],[0,1],[],[3],(ra 0 5),[],[6],(ra 0 8),(ra 0 9),(ra 0 10),[],[11],(ra 0 13),(ra 0 14),(ra 0 15),[],[16],(ra 0 18),(ra 0 19),(ra 0 20),(ra 0 21)] [19,20,21] (by kernel_rfl) [_,.func (.func 163) #[] #[(aM bl 0)],vi (kY (fun k=>(l[k]?.map fq.id).getD 0) k),_,_,vi (bQ (!bf) 8),_,_,.bool (qm x.author),_,vi (bQ (!qm x.author) 39),_,_,.bool (decide (0≤x.time∧x.time≤1099511627776)),_,vi (bQ (!decide (0≤x.time∧x.time≤1099511627776)) 40),_,_,vi (sU x.text)] H (aG (Z0 rfl (Rm rfl)) ?_ ?_ (Z0 rfl (Rm rfl)) (aG (Z1 3 23 rfl (Rn rfl)) ?_ (Z0 rfl (Rf Yb rfl)) (X1 6 26 rfl fun hG=>Rg gD rfl (ay hG (hcell 2 _ rfl))) (aG ?_ (Z1 8 28 rfl (Rn rfl)) ?_ (Z0 rfl (Rf RG rfl)) (aG (X1 11 31 rfl fun hG=>Rg aD rfl (ay hG (hcell 3 _ rfl))) ?_ (Z1 13 33 rfl (Rn rfl)) ?_ (aG (Z0 rfl (Rf Yc rfl)) (X1 16 36 rfl fun hG=>Rg gD rfl (ay hG (hcell 4 _ rfl))) ?_ (bY rfl) (bq (bY rfl) (bq (bY rfl) dD))))))) ?_
 ·refine yR rfl fun _ a w G1 hG HT H fin=>?_;refine qX H wn rfl rfl ?_;clear H;intro a H;exact fin H iJ rfl
 ·refine eu 0 20 1 21 rfl rfl fun _ a w G1 hG HT H fin=>?_;refine s_call QY H wn rfl (Uo _ _ H.ro k _ _ (by omega) (fun i hi=>(hcb.mono hG) i (by omega))) rfl ?_;clear H;rintro v22 Qq a w rfl xW H;exact fin H xW (rfl)
 ·refine dN 4 24 rfl rfl fun _ a w G1 hG HT H fin=>?_;refine s_call kD H wn rfl (kI _ _ H.ro _ 8) rfl ?_;clear H;rintro v25 G25 a w ⟨rfl,-⟩ ahQ H;exact fin H ahQ (rfl)
 ·refine dN 7 27 rfl rfl fun _ a w G1 hG HT H fin=>?_;refine s_call Xt H wn rfl (WJ _ _ H.ro x.author hte.1) rfl ?_;clear H;rintro v28 G28 a w ⟨rfl,-⟩ ahR H;exact fin H ahR (rfl)
 ·refine dN 9 29 rfl rfl fun _ a w G1 hG HT H fin=>?_;refine s_call kD H wn rfl (kI _ _ H.ro _ 39) rfl ?_;clear H;rintro v30 Dq a w ⟨rfl,-⟩ Sl H;exact fin H Sl (rfl)
 ·refine dN 12 32 rfl rfl fun _ a w G1 hG HT H fin=>?_;refine s_call ze H wn rfl (zL _ _ H.ro x.time 0 1099511627776) rfl ?_;clear H;rintro v33 G33 a w ⟨rfl,-⟩ Sm H;exact fin H Sm (rfl)
 ·refine dN 14 34 rfl rfl fun _ a w G1 hG HT H fin=>?_;refine s_call kD H wn rfl (kI _ _ H.ro _ 40) rfl ?_;clear H;rintro v35 VQ a w ⟨rfl,-⟩ Sn H;exact fin H Sn (rfl)
 ·refine dN 17 37 rfl rfl fun _ a w G1 hG HT H fin=>?_;refine s_call Q9 H wn rfl (Vp _ _ H.ro x.text hte.2) rfl ?_;clear H;rintro v38 VR a w rfl ahU H;exact fin H ahU (rfl)
 clear H;intro a w G ahS H hv;have H:=H.aZ (hv 2 22 rfl rfl) rfl;have H:=H.aZ (hv 5 25 rfl rfl) rfl;have H:=H.aZ (hv 10 30 rfl rfl) rfl;have H:=H.aZ (hv 15 35 rfl rfl) rfl;have H:=H.aZ (hv 18 38 rfl rfl) rfl;clear hv;refine jJ qZ iW [_,_,_,_,_] [_,_,_,_,_] H wn rfl rfl rfl rfl rfl (by intro i q h;match i,h with|0,h=>exact h|1,h=>exact h|2,h=>exact h|3,h=>exact h|4,h=>exact h|n+5,h=>simp at h) rfl rfl ?_;clear H;intro b39 a w aoO H;obtain ⟨VT,Y9,aiz,H⟩:=H.eG;refine s_call sj H wn rfl (sw _ _ H.ro _ _ (Ig [kY (fun k=>(l[k]?.map fq.id).getD 0) k,bQ (!bf) 8,bQ (!qm x.author) 39,bQ (!decide (0≤x.time∧x.time≤1099511627776)) 40,sU x.text] aiz (show 5≤maxLen by decide))) rfl ?_;clear H;rintro v40 _ a w ⟨rfl,rfl⟩ - H;refine kH H (Ra rfl ?_);clear H;intro a H;refine aH ⟨rfl,?_⟩;refine K3 _ _ ?_;clear K3;refine lr H results160 rfl ?_;exact H.rt (by rw [he,Ba,← hbf])
def uE (l:List fq):Int:=bT [bQ (decide (1024 < (l.length:Int))) 9,iI (uF l) (min l.length 1024)]
theorem ads (G:GH) (w0:World) (hG:Hold G w0) (l:List fq) (v:ak) (hv:au G (.sl 6 (l.map fq.dat)) v) (hl:l.length≤4294967296) (ht:∀ x∈l,x.author.size < 4611686018427387904∧x.text.size < 4611686018427387904) :
  Calls prog 121 #[v] w0 (bJ w0 G fun u G'=>u=vi (uE l)):=by
 obtain ⟨A,c,rfl,hc1,hc2,-⟩:=hv.slice;rw [bV] at *;refine eN [(0,_)] func121 rfl ntmps121 rfl rfl hG ?_;intro a H;refine dw (fun _ K1=>?_);refine eD (cs:=[_]) H wn rfl rfl rfl ?_;clear H;intro b1 a w hb1 H;refine kH H (aj K1 rfl (SQ fun _ K2=>?_));clear H K1;intro a H;have H:=H.sub (T':=[(1,_)]) ⟨rfl,aC⟩;obtain ⟨Ga,hma,hb1',H⟩:=H.eG
 have hbl:aF Ga b1 0=some (.slice A l.length c):=by unfold aF;rw [hb1'];rfl
 have hcb:=adT hbl (hv.mono hma) hl ht;refine dI hmx [[],[0],[0,1],[0,1,2],[],[4],[4,5],[],(ra 0 8),(ra 0 9),(ra 0 10),(ra 0 11)] [9,10,11] (by kernel_rfl) [_,_,_,vi (bQ (decide (1024 < (l.length:Int))) 9),_,_,vi ((min l.length 1024:Nat):Int),.func (.func 160) #[] #[(aM b1 0)],vi (iI (uF l) (min l.length 1024))] H (aG (X0 rfl fun hG=>Rg rV rfl (ay hG hbl)) (Z1 0 3 rfl (Rl nX rfl)) (Z1 1 4 rfl (Rc rfl)) ?_ (aG (X0 rfl fun hG=>Rg rV rfl (ay hG hbl)) (Z1 4 7 rfl (Rl nX rfl)) ?_ ?_ (aG ?_ (bY rfl) (bY rfl) (bY rfl) dD))) ?_
 ·refine dN 2 5 rfl rfl fun _ a w G1 hG HT H fin=>?_;refine s_call kD H wn rfl (kI _ _ H.ro _ 9) rfl ?_;clear H;rintro v6 G6 a w ⟨rfl,-⟩ fH H;exact fin H fH (rfl)
 ·refine dN 5 8 rfl rfl fun _ a w G1 hG HT H fin=>?_;refine PZ H wn rfl rfl rfl ?_;clear H;intro a H;exact fin H iJ (aB vi (by omega))
 ·refine yR rfl fun _ a w G1 hG HT H fin=>?_;refine qX H wn rfl rfl ?_;clear H;intro a H;exact fin H iJ rfl
 ·refine eu 6 9 7 10 rfl rfl fun _ a w G1 hG HT H fin=>?_;refine s_call Jj H wn rfl (KF _ _ H.ro (min l.length 1024) (uF l) _ (by omega) ((hcb.mono hG).le (Nat.min_le_left _ _))) rfl ?_;clear H;rintro v11 wh a w rfl qQ H;exact fin H qQ (rfl)
 clear H;intro a w G jY H hv;have H:=H.aZ (hv 3 6 rfl rfl) rfl;have H:=H.aZ (hv 8 11 rfl rfl) rfl;clear hv;refine jJ qZ iW [_,_] [_,_] H wn rfl rfl rfl rfl rfl (by intro i q h;match i,h with|0,h=>exact h|1,h=>exact h|n+2,h=>simp at h) rfl rfl ?_;clear H;intro b12 a w Fg H;obtain ⟨Dp,BA,Ht,H⟩:=H.eG;refine s_call sj H wn rfl (sw _ _ H.ro _ _ (AQ Ht)) rfl ?_;clear H;rintro v13 _ a w ⟨rfl,rfl⟩ - H;refine kH H (Ra rfl ?_);clear H;intro a H;refine aH ⟨rfl,?_⟩;refine K2 _ _ ?_;clear K2;refine lr H results121 rfl ?_;exact H.rt rfl
end
section
open Go.RowKit
def zM:Nat→List Int→List MapEntry
 | _,[]=>[]
 | i,k :: r=>⟨.int .i64 k,.int .i64 (i:Int),i⟩ :: zM (i+1) r
theorem aai (x:Int):∀ (i:Nat) (l:List Int),zM i (l++[x])=zM i l++[⟨.int .i64 x,.int .i64 ((i+l.length:Nat):Int),i+l.length⟩]
 | _,[]=>rfl
 | i,k :: r=>by
  rw [oG,zM,aai x (i+1) r,zM,oG,qH,show i+1+r.length=i+(r.length+1) by omega]
def wX (x:Int):Nat→List Int→Option Nat
 | _,[]=>none
 | i,k :: r=>if k=x then some i else wX x (i+1) r
theorem ZL {x:Int}:∀ {l:List Int} {i n:Nat},wX x i l=some n→i≤n
 | [],_,_,h=>by cases h
 | k :: r,i,n,h=>by
  rw [wX] at h;split at h
  ·cases h;exact dJ _
  ·have:=ZL h;omega
theorem ZN {x:Int}:∀ {l:List Int} {i:Nat},x∉l→wX x i l=none
 | [],_,_=>rfl
 | k :: r,i,h=>by
  rw [wX,ah (fun e=>h (by simp [e])),ZN (fun hm=>h (nE _ hm))]
theorem RI (x:Int):∀ (i j:Nat) (l:List Int),Instr.findNow (.int .i64) (.int .i64 x) (zM i l) j=some ((wX x i l).map fun n=>(j+(n - i),.int .i64 (n:Int)))
 | _,_,[]=>rfl
 | i,j,k :: r=>by
  have ih:=RI x (i+1) (j+1) r
  by_cases e:k=x
  ·subst e
   simp only [zM,Instr.findNow,Instr.sameNow,av,wX,beq_self_eq_true]
   simp
  ·have hb:(x == k)=false:=by simp;exact fun h=>e h.symm
   simp only [zM,Instr.findNow,Instr.sameNow,av,hb,wX,ah e,ih]
   cases h:wX x (i+1) r with
   | none=>rfl
   | some n =>
    have:=ZL h
    simp only [Option.map_some,nM,jh,and_true]
    omega
abbrev acK (b:Nat) (l:List Int):Nat × Obj:=(b,.map (zM 0 l).toArray l.length)
theorem alb (l:List Int) (x:Int):(zM 0 l).toArray.push ⟨.int .i64 x,.int .i64 (l.length:Int),l.length⟩=(zM 0 (l++[x])).toArray:=by
 rw [aai,List.push_toArray,lD]
end
section
open Go.RowKit
section
variable {P:Program} {N:Nat} {D:List Deferred} {w0 w w':World} {F:Nat→Prop} {G0 G G':GH} {L L' Li Lo:OL} {T:List (Nat × ak)} {a a':Act} {Q:Exit→Act→World→Prop}
variable {r:Option Nat} {ops:Array Oper} {rest:List Oper}
def Qw (P:Program) (Gi:GH) (B:OL) (gv:ak) (xs:List AP):Prop :=
 ∀ (J:Nat→GH→OL→Prop) (Jx:GH→OL→Prop) (fv:ak) (G:GH) (L:OL) (w:World),fv.cells=#[fv]→(∀ b o,Gi b=some o→G b=some o)→F4 J→GA Jx→J 0 G L→ig G (B++L) w→Ew P fv G xs J Jx →
  xB P gv [fv] w (gy w G (B++L) fun _ G' L'=>J xs.length G' L'∨Jx G' L')
theorem Qw.mono {Gi EB:GH} {B:OL} {gv:ak} {xs:List AP} (h:Qw P Gi B gv xs) (hm:∀ b o,Gi b=some o→EB b=some o):Qw P EB B gv xs :=
 fun J Jx fv G L w h0 h1=>h J Jx fv G L w h0 fun b o hb=>h1 b o (hm b o hb)
end
end
section
open Go.RowKit
section
variable {P:Program} {N:Nat} {D:List Deferred} {w0 w w':World} {F:Nat→Prop} {G0 G G':GH} {L L' Li Lo:OL} {T:List (Nat × ak)} {a a':Act} {Q:Exit→Act→World→Prop}
variable {r:Option Nat} {ops:Array Oper} {rest:List Oper}
def IX (P:Program) (Gi:GH) (B:OL) (gv:ak) (xs:List AP) (fin:Bool):Prop :=
 ∀ (J:Nat→GH→OL→Prop) (Jx:GH→OL→Prop) (fv:ak) (G:GH) (L:OL) (w:World),fv.cells=#[fv]→(∀ b o,Gi b=some o→G b=some o)→F4 J→GA Jx→J 0 G L→ig G (B++L) w→Ew P fv G xs J Jx→(fin=false→∀ g l,¬ J xs.length g l) →
  xB P gv [fv] w (gy w G (B++L) fun _ G' L'=>J xs.length G' L'∨Jx G' L')
theorem IX.mono {Gi EB:GH} {B:OL} {gv:ak} {xs:List AP} {fin:Bool} (h:IX P Gi B gv xs fin) (hm:∀ b o,Gi b=some o→EB b=some o):IX P EB B gv xs fin :=
 fun J Jx fv G L w h0 h1=>h J Jx fv G L w h0 fun b o hb=>h1 b o (hm b o hb)
theorem acU {fin:Bool} {B:OL} {Bl:Operand} {ps:List Nat} {assign body:Code} {gf:FuncId} {caps:List ak} {xs:List AP} {Gi:GH}
  (H:St N D w0 F G0 G (B++L) T a w) (hg:ev T Bl=some (.func (.func gf) #[] caps.toArray)) (en:∀ args w,(callFunc gf args).run P w=.ok (.enter gf args) w) (hit:IX P Gi B (.func (.func gf) #[] caps.toArray) xs fin) (hGi:∀ b o,Gi b=some o→G b=some o)
  (hps:ps.all (Nat.blt · N)=true) (hlen:∀ k args g,yN xs k args g→args.length=ps.length)
  (J:Nat→GH→OL→Prop) (Jx:Code→GH→OL→Prop) (hno:fin=false→∀ g l,¬ J xs.length g l) (nR:F4 J) (hJx:∀ c,GA (Jx c)) (h0:J 0 G L) (TT:Qy P N ps assign body T G J Jx xs)
  (hdone:∀ Dk G1 L1 a1 w1,(∀ b o,G b=some o→G1 b=some o)→J xs.length G1 L1→St N ({ target:=.collected Dk,args:=#[] } :: D) w0 F G0 G1 ((Dk,.deferred (some [])) :: L1) T a1 w1→Q .normal a1 w1)
  (hstop:∀ Dk c G1 L1 a1 w1,(∀ b o,G b=some o→G1 b=some o)→Jx c G1 L1→St N ({ target:=.collected Dk,args:=#[] } :: D) w0 F G0 G1 ((Dk,.deferred (some [])) :: L1) T a1 w1→WP none P c Q a1 w1) :
  WP none P (.rangeFunc Bl ps.toArray assign body) Q a w:=by
 refine wpIn_rangeFunc ?_
 intro fn _
 have hev:=H.ev hg
 let q:Rec:=⟨fn,a.tmps,ps.toArray,assign,body,w.heap.size⟩
 obtain ⟨W1,hW1⟩:∃ W1,W1=(w.alloc (.deferred (some []))).alloc (q.at .ready none):=⟨_,rfl⟩
 have H1:Hp w0 F G0 G (B++((w.heap.size+1,q.at .ready none) :: (w.heap.size,.deferred (some [])) :: L)) W1:=by
  have:=(H.hp.alloc (.deferred (some []))).alloc (q.at .ready none)
  rw [World.size_alloc] at this
  rw [hW1]
  refine this.perm ?_
  have e:=vv (l₁:=[(w.heap.size+1,q.at .ready none),(w.heap.size,Obj.deferred (some []))]) (l₂:=B)
  have e2:=List.Perm.append_right L e
  rw [nN,nN] at e2
  exact e2
 refine ⟨w.heap.size+1,[{ target:=.collected w.heap.size,args:=#[] }],W1,{ target:=.fn (.func gf) caps.toArray,args:=#[.func (.yield (w.heap.size+1)) #[] #[]] },W1,gf,
  #[.func (.yield (w.heap.size+1)) #[] #[]]++caps.toArray,W1,by rw [hW1];exact run_enterLoop_outer fn a.tmps ps.toArray assign body,?_,fun _ _=>trivial,?_,Nf none,?_⟩
 ·simp only [resolve,rangeCall,hev]
  simp [Deferred.ofValue,Act.eval]
 ·simp [invoke,en]
 ·have hcv:=hit (fun k=>Jr (w.heap.size+1) q [(w.heap.size,.deferred (some []))] (J k)) (Nh (w.heap.size+1) q [(w.heap.size,.deferred (some []))] Jx) (.func (.yield (w.heap.size+1)) #[] #[]) G
   ((w.heap.size+1,q.at .ready none) :: (w.heap.size,.deferred (some [])) :: L) W1 rfl hGi (fun k G G' L hm ⟨Lu,e,h⟩=>⟨Lu,e,nR k G G' Lu hm h⟩) (fun G G' L hm ⟨c,Lu,e,h⟩=>⟨c,Lu,e,hJx c G G' Lu hm h⟩) ⟨L,rfl,h0⟩ (Hp.owns (Li:=[]) H1) (WW H.og H.get hps hlen TT) (fun e g l ⟨Lu,_,h⟩=>hno e g Lu h)
  replace hcv:=hcv.go
  have e:(do let d ← Deferred.ofValue (.func (.func gf) #[] caps.toArray) [Value.func (.yield (w.heap.size+1)) #[] #[]].toArray;invoke d.target d.args:Sem Next).run P W1=.ok (.enter gf (#[.func (.yield (w.heap.size+1)) #[] #[]]++caps.toArray)) W1:=by
   simp [Deferred.ofValue,invoke,en]
  rw [e] at hcv
  refine (QK hcv).mono ?_
  rintro e w2 ⟨v,G2,L2,rfl,hch,hJ⟩
  have H2:=Hp.change (Li:=[]) H1 hch
  rcases hJ with ⟨Lu,rfl,hJ⟩|⟨c,Lu,rfl,hJ⟩
  ·have hl:=H2.own _ (lW)
   have H3:=(H2.upd (i:=0) rfl (FJ (q.at .exhausted none) hl)).drop (Co _ _)
   exact ⟨none,_,run_endLoop hl (by simp),hdone _ G2 Lu _ _ hch.gm hJ ⟨H.og,H.get,by simp [H.uH],H3⟩⟩
  ·have hl:=H2.own _ (lW)
   have H3:=(H2.upd (i:=0) rfl (FJ (q.at .exhausted (some c)) hl)).drop (Co _ _)
   exact ⟨some c,_,run_endLoop hl (by simp),hstop _ c G2 Lu _ _ hch.gm hJ ⟨H.og,H.get,by simp [H.uH],H3⟩⟩
theorem acV {fin:Bool} {B:OL} {ι κ:Type} {Lc:OL} {Bl:Operand} {ps:List Nat} {assign body:Code} {gf:FuncId} {caps:List ak} {xs:List AP} {Gi:GH}
  (Lv:Nat→ι→OL) (Lt:Nat→ι→OL) (inv:Nat→ι→GH→Prop) (cx:κ→Code) (Lx Gx:κ→OL) (BM:κ→GH→Prop) (i0:ι)
  (H:St N D w0 F G0 G (B++(Lc++Lv 0 i0++Lt 0 i0)) T a w) (hg:ev T Bl=some (.func (.func gf) #[] caps.toArray)) (en:∀ args w,(callFunc gf args).run P w=.ok (.enter gf args) w) (hit:IX P Gi B (.func (.func gf) #[] caps.toArray) xs fin) (hGi:∀ b o,Gi b=some o→G b=some o)
  (hno:fin=false→∀ i g,¬ inv xs.length i g) (hps:ps.all (Nat.blt · N)=true) (hlen:∀ k args g,yN xs k args g→args.length=ps.length) (hinv:∀ k i (G G':GH),(∀ b o,G b=some o→G' b=some o)→inv k i G→inv k i G') (Tt:∀ x (G G':GH),(∀ b o,G b=some o→G' b=some o)→BM x G→BM x G') (h0:inv 0 i0 G)
  (round:∀ (l:Nat) (yE vB:Obj) (bk:OL) (k:Nat) (args:List ak) (i:ι) (G1:GH) (w1:World) (F1:Nat→Prop) (B1:Code→Exit→Act→World→Prop) (a1:Act),yN xs k args G1→(∀ b o,G b=some o→G1 b=some o)→inv k i G1 →
   (∀ T' G2 L2 a2 w2 c,St N [] w1 F1 G1 G2 ((l,yE) :: L2) T' a2 w2→(∀ w3,St N [] w1 F1 G1 G2 ((l,vB) :: L2) T' a2 w3→WP (some l) P c (B1 c) a2 w3)→Exit.then (fun a2 w2=>∃ w3,(Instr.beginRound l).run P w2=.ok () w3∧c.wpIn (FW (some l)) 0 P (B1 c) a2 w3) (fun _ _ _=>False) .normal a2 w2) →
   (∀ i' T' G2 a2 w2 c,St N [] w1 F1 G1 G2 ((l,vB) :: (Lc++Lv (k+1) i'++(bk++Lt (k+1) i'))) T' a2 w2→inv (k+1) i' G2→B1 c .normal a2 w2) →
   (∀ x T' G2 a2 w2 c,St N [] w1 F1 G1 G2 ((l,vB) :: (Lc++Lx x++(bk++Gx x))) T' a2 w2→BM x G2→(cx x=.ret→B1 c .ret a2 w2)∧∀ n,cx x=.exit n→B1 c (.exit n) a2 w2) →
   St N [] w1 F1 G1 G1 ((l,yE) :: (Lc++Lv k i++(bk++Lt k i))) (uD ps args T) a1 w1 →
   WP (some l) P assign (Exit.then (fun a2 w2=>∃ w3,(Instr.beginRound l).run P w2=.ok () w3∧body.wpIn (FW (some l)) 0 P (B1 body) a2 w3) (fun _ _ _=>False)) a1 w1)
  (hdone:∀ Dk i G1 a1 w1,(∀ b o,G b=some o→G1 b=some o)→inv xs.length i G1→St N ({ target:=.collected Dk,args:=#[] } :: D) w0 F G0 G1 ((Dk,.deferred (some [])) :: (Lc++Lv xs.length i++Lt xs.length i)) T a1 w1→Q .normal a1 w1)
  (hstop:∀ Dk x G1 a1 w1,(∀ b o,G b=some o→G1 b=some o)→BM x G1→St N ({ target:=.collected Dk,args:=#[] } :: D) w0 F G0 G1 ((Dk,.deferred (some [])) :: (Lc++Lx x++Gx x)) T a1 w1→WP none P (cx x) Q a1 w1) :
  WP none P (.rangeFunc Bl ps.toArray assign body) Q a w:=by
 refine acU (J:=fun k g L=>∃ i,L=Lc++Lv k i++Lt k i∧inv k i g) (Jx:=fun c g L=>∃ x,c=cx x∧L=Lc++Lx x++Gx x∧BM x g) H hg en hit hGi hps hlen (hno:=fun e g l ⟨i,_,h⟩=>hno e i g h) (fun k G G' L hm ⟨i,e,h⟩=>⟨i,e,hinv k i G G' hm h⟩) (fun c G G' L hm ⟨x,e1,e2,h⟩=>⟨x,e1,e2,Tt x G G' hm h⟩) ⟨i0,rfl,h0⟩ ?_ ?_ ?_
 ·rintro l q bk k args G1 L1 w1 a1 hk hm ⟨i,rfl,hi⟩ H1
  have pm:∀ A B:OL,(bk++(A++B)).Perm (A++(bk++B)):=fun A B=>by
   rw [← nN,← nN]
   exact List.Perm.append_right B vv
  refine round l (q.at .ready none) (q.at .busy none) bk k args i G1 w1 _ (fun _=>roundPost P l _) a1 hk hm hi ?_ ?_ ?_ (H1.perm (List.Perm.cons _ (pm _ _)))
  ·intro T' G2 L2 a2 w2 c H2 h
   exact WS H2 h
  ·intro i' T' G2 a2 w2 c H2 h2
   exact JU none (H2.perm (List.Perm.cons _ (pm _ _).symm)) ⟨_,rfl,i',rfl,h2⟩
  ·intro x T' G2 a2 w2 c H2 h2
   have H3:=H2.perm (List.Perm.cons _ (pm _ _).symm)
   refine ⟨fun e=>?_,fun n e=>?_⟩
   ·exact JU (some .ret) H3 ⟨_,_,rfl,x,e.symm,rfl,h2⟩
   ·exact JU (some (.exit n)) H3 ⟨_,_,rfl,x,e.symm,rfl,h2⟩
 ·rintro Dk G1 L1 a1 w1 hm ⟨i,rfl,hi⟩ H1
  exact hdone Dk i G1 a1 w1 hm hi H1
 ·rintro Dk c G1 L1 a1 w1 hm ⟨x,rfl,rfl,hx⟩ H1
  exact hstop Dk x G1 a1 w1 hm hx H1
end
end
section
open Go.RowKit
theorem IB:prog.underlying 149=some (.map 3 3):=by kernel_rfl
theorem nu:Ty prog 31 1 24 [.slice none 0 0] false:=⟨by kernel_rfl,by kernel_rfl⟩
theorem Lb:dV prog 159 3 3:=⟨by kernel_rfl⟩
theorem Xx:∀ args w,(callFunc 173 args).run prog w=.ok (.enter 173 args) w:=enters func173 rfl (by kernel_rfl)
theorem ZM {x:Int}:∀ {l:List Int} {i n:Nat},wX x i l=some n→n < i+l.length
 | [],_,_,h=>by cases h
 | k :: r,i,n,h=>by
  rw [wX] at h;split at h
  ·cases h;simp
  have:=ZM h;simp only [qH];omega
def Ai (l:List bL):Nat→Int→List bL
 | 0,_=>[]
 | f+1,id=>if id=0 then [] else match wX id 0 (l.map bL.id) with|none=>[]|some i=>match l[i]? with|none=>[]|some s=>s :: Ai l f s.base
def Jd (l:List bL) (id:Int):List bL:=Ai l (l.length+1) id
theorem ado {l:List bL} {f:Nat} {id:Int} (h:id=0):Ai l f id=[]:=by
 cases f with
 | zero=>rfl
 | succ f=>rw [Ai,av h]
theorem adl {l:List bL} {f:Nat} {id:Int} (h0:¬ id=0) (h:wX id 0 (l.map bL.id)=none):Ai l f id=[]:=by
 cases f with
 | zero=>rfl
 | succ f=>rw [Ai,ah h0,h]
theorem adn {l:List bL} {f i:Nat} {id:Int} (h0:¬ id=0) (h:wX id 0 (l.map bL.id)=some i) (hi:i < l.length):Ai l (f+1) id=l[i] :: Ai l f l[i].base:=by
 rw [Ai,ah h0,h];dsimp only;rw [fT hi]
def stP (x:bL):AP:=fun args g=>∃ cs,args=[.agg cs.toArray]∧bH g x.dat cs
theorem abn {A:List bL} {k:Nat} {args:List ak} {g:GH} (h:yN (A.map stP) k args g):∃ (hk:k < A.length) (cs:List ak),args=[.agg cs.toArray]∧bH g A[k].dat cs:=by
 obtain ⟨p,hp,hargs⟩:=h;rw [tu] at hp;obtain ⟨q,hq,rfl⟩:=ql.1 hp;obtain ⟨hk,rfl⟩:=mq.1 hq;obtain ⟨cs,h1,h2⟩:=hargs;exact ⟨hk,cs,h1,h2⟩
abbrev bI (b:Nat) (n:Int):Nat × Obj:=(b,.cells #[vi n] 3 (0,0))
set_option maxHeartbeats 1000000 in
theorem adp {G:GH} {bl bi:Nat} {l:List bL} {id:Int} {v:ak} (hb:aF G bl 0=some v) (hv:au G (.sl 6 (l.map bL.dat)) v) (hnd:∀ (k:Nat) (h:k < l.length),l[k].id∉(l.take k).map bL.id) :
  IX prog G [bI bi id] (.func (.func 173) #[] #[(aM bl 0),(aM bi 0)]) ((Jd l id).map stP) (decide ((Jd l id).length≤l.length)):=by
 intro J Jx fv G1 L w0 D7 hGi nR hJx hJ hO hcb hfin;refine mF (caps:=[(aM bl 0),(aM bi 0)]) Xx ?_;obtain ⟨A,c,rfl,hc1,hc2,-⟩:=hv.slice;have hml:maxLen=9223372036854775807:=rfl;rw [bV] at *;replace hb:=ay hGi hb;replace hv:=hv.mono hGi;refine jB (N:=46) (T:=[(0,_),(1,_),(2,_)]) func173 rfl ntmps173 rfl rfl hO ?_;intro a H;refine dw (fun _ K1=>?_);refine J3 H wn rfl ?_;clear H;intro bm a w hbm H;refine kH H (aj K1 rfl (SQ fun _ K2=>SR fun _ K3=>Rg nu rfl (by assumption) ?_));clear H K1;intro a H;refine kH H (Rl ko rfl (Rm rfl (Kz K3 (SB ?_))));clear H K3;intro a H;skip;refine eH (ι:=Nat) (Tc:=[(0,_),(1,_),(2,_),(4,_),(10,_),(11,_)]) (Lc:=[(_,_)]) (fun gh=>[(12,vi gh)]) (fun gh=>[acK bm ((l.take gh).map bL.id)]++L) (fun gh=>G1) (fun gh=>gh≤l.length) (fun gh=>l.length - gh) (0) (by exact (H.dS (Pl:=[_,_]) (dL:=[_,_]) [1,0] (by decide) rfl).sub ⟨rfl,rfl,rfl,rfl,rfl,rfl,rfl,aC⟩) ?_ ?_
 ·exact iF _
 clear H;intro gh a w hI H;obtain ⟨k,hgh⟩:∃ x,x=gh:=⟨_,rfl⟩;subst hgh;have hk:=hI;dsimp only [lca,aV] at H;refine kP H (SR fun _ K4=>Rc rfl (Kz K4 (SQ fun _ K5=>Cd rfl ?_ ?_))) <;> clear H K4
 ·intro gG a H
  try have rR:=dT gG
  have hk2:k < l.length:=by omega
  obtain ⟨b,o,pA,pc,rfl,hrow,hp,hrep⟩:=BZ hv hk2;have ajD:=hnd k hk2
  have hlk:((l.take k).map bL.id).length=k:=by rw [bV,List.length_take];omega
  have hnx:(l.take k).map bL.id++[l[k].id]=(l.take (k+1)).map bL.id:=by rw [iG hk2,List.map_append];rfl
  refine kP H (Kc K5 (SQ fun _ K6=>SB (SR fun _ K7=>Rm rfl (Ri ko iR rfl rfl ?_))));clear H K5;intro a H;refine aW iR (cs:=[_,_,_,_,_,_]) H wn rfl rfl (fun j v hj=>H.hp.aF (hrow j v hj)) rfl ?_;clear H;intro a H;refine dU iR H wn rfl ?_;clear H;intro b6 a w hb6 H;refine kH H (Ra rfl ?_);clear H;intro a H;refine bN iR 0 (vs:=[_,_,_,_,_,_]) _ H wn rfl rfl rfl rfl rfl rfl rfl rfl ?_;clear H;intro w H;dsimp only [List.set,setRow] at H;refine K7 _ _ ?_;clear K7;refine kP H (SC (Rm rfl (bg uK aD 0 rfl rfl (Rm rfl ?_))));clear H;intro a H;refine aaP (i:=2) (ky:=vi l[k].id) (v:=vi k) IB qh H wn rfl rfl rfl rfl (by trivial) (by rw [List.toList_toArray,RI,ZN ajD];rfl) ?_;clear H;intro w H
  have hpush:((zM 0 ((l.take k).map bL.id)).toArray.push ⟨vi l[k].id,vi k,((l.take k).map bL.id).length⟩)=(zM 0 ((l.take (k+1)).map bL.id)).toArray:=by rw [← hnx,← alb,hlk]
  rw [hpush,show ((l.take k).map bL.id).length+1=((l.take (k+1)).map bL.id).length by rw [← hnx];simp] at H;refine kH H (Kn K6 (SC (Rd rfl (Rm rfl ?_))));clear H K6;intro a H;refine aH ?_;refine dK ((k+1)) (by exact (H.dS (Pl:=[_,_,_]) (dL:=[_,_]) [1,2] (by decide) rfl).sub ⟨rfl,rfl,rfl,rfl,rfl,rfl,rfl,aC⟩) ?_ ?_
  ·exact by omega
  first|omega|(dsimp only;omega)
 intro gG a H
 try have rR:=dF gG
 obtain rfl:k=l.length:=by omega
 rw [List.take_length] at H;refine dW ?_;refine K2 _ _ ?_;clear K2;refine vC ?_;skip;refine eH (ι:=Int × Nat × Nat × OL × GH) (Tc:=[(0,_),(1,_),(2,_),(4,_)]) (Lc:=[(_,_)]) (fun gh=>[]) (fun gh=>[bI bi gh.1]++gh.2.2.2.1) (fun gh=>gh.2.2.2.2) (fun gh=>(∀ b o,G1 b=some o→gh.2.2.2.2 b=some o)∧Now ((Jd l id).map stP) stP J (Jd l id).length gh.2.2.1 (Ai l gh.2.1 gh.1) gh.2.2.2.2 gh.2.2.2.1∧gh.2.2.1+gh.2.1=l.length+1) (fun gh=>gh.2.1) ((id,l.length+1,0,L,G1)) (by exact (H.dS (Pl:=[_,_]) (dL:=[_,_]) [1,0] (by decide) rfl).sub ⟨rfl,rfl,rfl,rfl,aC⟩) ?_ ?_
 ·exact ⟨fun _ _ h=>h,⟨hJ,fun i a h=>by rw [lD,tu];rw [show Ai l (l.length+1) id=Jd l id from rfl] at h;rw [h];rfl,lD _⟩,lD _⟩
 clear H;intro gh a w hI H;obtain ⟨i,f,j1,Lt,g⟩:=gh;dsimp only at hI H;obtain ⟨hgm,bZ,hjf⟩:=hI;have hbg:=ay hgm hb;dsimp only [lca,aV] at H;refine kP H (SQ fun _ K8=>SR fun _ K9=>Ro aD 1 rfl (Rc rfl (Kz K9 (Cd rfl ?_ ?_)))) <;> clear H K9
 ·intro h23 a H
  try have AA:=dT h23
  have h0:¬ i=0:=by simpa using h23
  obtain ⟨an,han⟩:∃ an,an=wX i 0 (l.map bL.id):=⟨_,rfl⟩;have hfn:=RI i 0 0 (l.map bL.id);rw [← han] at hfn;refine kP H (Kc K8 (SB (SR fun _ aT=>Rm rfl (Ro aD 1 rfl ?_))));clear H K8;intro a H;refine amv (i:=0) (zv:=vi 0) _ IB qh (by kernel_rfl) H wn rfl rfl rfl (by trivial) (by simpa using hfn) rfl ?_;clear H;intro a H;refine kH H (Rm rfl ?_);clear H;intro a H;(iterate 2 refine uT H wn rfl rfl rfl ?_;clear H;intro a H);refine kH H (Ra rfl (aj aT rfl (SQ fun _ bB=>SR fun _ bC=>Rm rfl (Rn rfl (Rm rfl (Sp 32 rfl ?_ ?_)))))) <;> clear H aT
  ·intro h32 a H
   try have p32:=dT h32
   obtain rfl:an=none:=by
    cases an with
    | none=>rfl
    | some n=>simp [Eh] at h32
   rw [adl h0 han.symm] at bZ;refine kH H (aQ h32 rfl (aN h32 rfl (aN h32 rfl (Pt h32 rfl (Kz bC (Ct rfl rfl ?_))))));clear H bC;intro a H;refine dR ?_;refine (leave0 H results173 ?_).1;refine H.hp.cK (L':=Lt) (by repeat (first|exact cO _|apply List.Sublist.cons)) (.inl ?_);have h:=bZ.len
   simp only [List.length_nil,nY] at h
   rw [← h];exact bZ.now
  intro h32 a H
  try have p32:=dF h32
  obtain ⟨n,rfl⟩:∃ n,an=some n:=by
   cases an with
   | none=>simp [Eh] at h32
   | some n=>exact ⟨n,rfl⟩
  have hnl:n < l.length:=by have:=ZM han.symm;simpa using this
  obtain ⟨f',rfl⟩:∃ f',f=f'+1:=by
   cases f with
   | succ f'=>exact ⟨f',rfl⟩
   | zero =>
    exfalso
    have hl:=bZ.len
    simp only [Ai,List.length_nil,nY] at hl
    refine hfin (fZ (by omega)) g Lt ?_;rw [← hl];exact bZ.now
  rw [adn h0 han.symm hnl] at bZ;dsimp only [Eh,Option.map_some] at H;obtain ⟨b,o,pA,pc,rfl,hrow,hp,hrep⟩:=BZ (hv.mono hgm) hnl;refine kH H (YM h32 rfl (YR nu h32 rfl (by assumption) ?_));clear H;intro a H;refine kH H (YM h32 rfl (YI ko iR h32 rfl rfl ?_));clear H;intro a H;refine aW iR (cs:=[_,_,_,_,_,_]) H (wg H rfl rfl h32) rfl rfl (fun j v hj=>H.hp.aF (hrow j v hj)) rfl ?_;clear H;intro a H;refine yG (Li:=[_,_]) (L:=Lt) H (wg H rfl rfl h32) rfl rfl (hcb j1 _ _ _ _ ⟨_,bZ.head,_,rfl,hrep⟩ hgm bZ.now (Hp.owns (Li:=[_,_]) H.hp)) rfl ?_;clear H;rintro v38 VR Wz a w ⟨b38,rfl,hb1,hb2⟩ TA H;have hbg:=ay TA hbg;have r3:=ay TA (hrow 3 _ rfl);refine kH H (YN h32 rfl (Pf h32 rfl (Kz bC (Cd rfl ?_ ?_)))) <;> clear H bC
  ·intro qO a H
   try have p40:=dT qO
   refine dR ?_;refine (leave0 H results173 ?_).1;exact H.hp.cK (L':=Wz) (by repeat (first|exact cO _|apply List.Sublist.cons)) (.inr (hb2 (by simpa using qO)))
  intro qO a H
  try have p40:=dF qO
  refine kP H (Kc bB (SC (Rg nu rfl (by assumption) ?_)));clear H bB;intro a H;refine kH H (Rm rfl (Ri ko iR rfl rfl (Rf Lb rfl (Rg aD rfl (by assumption) ?_))));clear H;intro a H;refine bN aD 1 (vs:=[_]) _ H wn rfl rfl rfl rfl rfl rfl rfl rfl ?_;clear H;intro w H;dsimp only [List.set,setRow] at H;refine aH ?_;refine dK ((l[n].base,f',j1+1,Wz,VR)) (by exact (H).sub ⟨rfl,rfl,rfl,rfl,aC⟩) ?_ ?_
  ·(try dsimp only);exact ⟨fun b o h=>TA b o (hgm b o h),bZ.step (hb1 (by simpa using qO)),by omega⟩
  first|omega|(dsimp only;omega)
 intro h23 a H
 try have AA:=dF h23
 refine dW ?_;refine (leave0 H results173 ?_).2;rw [ado (by simpa using h23)] at bZ;refine H.hp.cK (L':=Lt) (by repeat (first|exact cO _|apply List.Sublist.cons)) (.inl ?_);have h:=bZ.len
 simp only [List.length_nil,nY] at h
 rw [← h];exact bZ.now
end
section
open Go.RowKit
theorem aeV:∀ args w,(callFunc 140 args).run prog w=.ok (.enter 140 args) w:=enters func140 rfl (by kernel_rfl)
theorem aeU:∀ args w,(callFunc 138 args).run prog w=.ok (.enter 138 args) w:=enters func138 rfl (by kernel_rfl)
theorem Q5:∀ args w,(callFunc 139 args).run prog w=.ok (.enter 139 args) w:=enters func139 rfl (by kernel_rfl)
theorem Jo:dV prog 159 4 4:=⟨by kernel_rfl⟩
theorem adq {G:GH} {w0:World} (hO:ig G [] w0) (l:List bL) (id:Int) (v:ak) (hv:au G (.sl 6 (l.map bL.dat)) v) :
  Calls prog 140 #[v,vi id] w0 (gy w0 G [] fun u G' L'=>∃ bl bi,u=.func (.func 173) #[] #[(aM bl 0),(aM bi 0)]∧L'=[bI bi id]∧aF G' bl 0=some v):=by
 obtain ⟨A,c,rfl,hc1,hc2,-⟩:=hv.slice;refine jB (N:=6) (T:=[(0,_),(1,_)]) func140 rfl ntmps140 rfl rfl hO ?_;intro a H;refine dw (fun _ K1=>?_);refine eD (cs:=[_]) H wn rfl rfl rfl ?_;clear H;intro b2 a w hb2 H;refine eD (cs:=[_]) H wn rfl rfl rfl ?_;clear H;intro b3 a w hb3 H;refine kH H (aj K1 rfl (SR fun _ K2=>?_));clear H K1;intro a H;refine qX H wn rfl rfl ?_;clear H;intro a H;refine kH H (aj K2 rfl ?_);clear H K2;intro a H;refine lr H results140 rfl ?_;have H:=H.dS (Pl:=[_,_]) (dL:=[_,_]) [1,0] (by decide) rfl;obtain ⟨Ga,hma,hb2',H⟩:=H.eG;exact H.hp.eB ⟨b2,b3,rfl,rfl,by unfold aF;rw [hb2'];rfl⟩
def uI (p:Nat→Int):Nat→Nat→Int
 | _,0=>0
 | k,n+1=>if p k=0 then uI p (k+1) n else p k
theorem ahi {p:Nat→Int} {k m:Nat} (h:k < m):uI p k (m - k)=if p k=0 then uI p (k+1) (m - (k+1)) else p k:=by
 obtain ⟨n,hn⟩:∃ n,m - k=n+1:=⟨m - k - 1,by omega⟩;rw [hn,uI,show m - (k+1)=n by omega]
theorem ahh {p:Nat→Int} {k m:Nat} (h:m≤k):uI p k (m - k)=0:=by rw [show m - k=0 by omega];rfl
theorem XZ {p:Nat→Int}:∀ {n k:Nat},uI p k n=0→∀ j,k≤j→j < k+n→p j=0
 | 0,k,_,j,h1,h2=>by omega
 | n+1,k,h,j,h1,h2=>by
  rw [uI] at h;split at h
  ·rename_i hp
   by_cases e:j=k
   ·rw [e];exact hp
   exact XZ h j (by omega) (by omega)
  rename_i hp;exact absurd h hp
def BP (l:List bL) (k:Nat):Int:=match l[k]? with|some s=>jG l k s|none=>0
theorem aar {l:List bL} {k:Nat} (h:k < l.length):BP l k=jG l k l[k]:=by unfold BP;rw [fT h]
def vw (l:List bL) (s:bL):Bool:=(decide (s.base≠0) && !Ih l s.kind s.base) || (decide (s.next≠0) && (decide (s.kind=2) || !Ih l 1 s.next))
def QT (l:List bL) (s:bL):Bool:=decide (l.length < (Jd l s.id).length)
def gI (l:List bL):Int:=if 128 < l.length then 9 else if uI (BP l) 0 l.length≠0 then uI (BP l) 0 l.length else if l.any (vw l)=true then 25 else if l.any (QT l)=true then 16 else 0
theorem aln {l:List bL} (h:uI (BP l) 0 l.length=0) {k:Nat} (hk:k+1 < l.length):l[k].id < l[k+1].id:=by
 have h1:=XZ h (k+1) (iF _) (by omega);rw [aar hk,jG,nJ] at h1
 have hp:AJ l (k+1)=some l[k].id:=by rw [AJ,ah (by omega),Nat.add_sub_cancel,fT (by omega)];rfl
 rw [hp] at h1
 split at h1
 ·cases h1
 split at h1
 ·cases h1
 split at h1
 ·cases h1
 rename_i _ h2 h3
 have h2':¬ l[k].id=l[k+1].id:=fun e=>h2 (by rw [e]);have h3':¬ l[k+1].id < l[k].id:=fun e=>h3 (aI e)
 omega
theorem aas {l:List bL} (h:uI (BP l) 0 l.length=0):∀ {k j:Nat} (hk:k < l.length) (hj:j < k),l[j].id < l[k].id
 | k+1,j,hk,hj=>by
  have h1:=aln h hk
  by_cases e:j=k
  ·subst e;exact h1
  have:=aas h (k:=k) (j:=j) (by omega) (by omega)
  omega
theorem aat {l:List bL} (h:uI (BP l) 0 l.length=0) (k:Nat) (hk:k < l.length):l[k].id∉(l.take k).map bL.id:=by
 intro hm;obtain ⟨x,hx1,hx2⟩:=List.mem_map.1 hm;obtain ⟨j,hj,rfl⟩:=List.getElem_of_mem hx1;rw [List.getElem_take] at hx2;rw [List.length_take] at hj;have:=aas h hk (j:=j) (by omega)
 omega
theorem KG {α:Type} {p:α→Bool} {l:List α} {k:Nat} (hk:k < l.length) (h:(l.take k).any p=false) (hp:p l[k]=false):(l.take (k+1)).any p=false:=by
 rw [iG hk,List.any_append,h];simp [hp]
theorem xJ {α:Type} {p:α→Bool} {l:List α} {k:Nat} (hk:k < l.length) (hp:p l[k]=true):l.any p=true:=List.any_eq_true.2 ⟨_,jW hk,hp⟩
theorem Cq {α:Type} {p:α→Bool} {l:List α} {k:Nat} (hk:l.length≤k) (h:(l.take k).any p=false):¬ l.any p=true:=by
 rw [iH hk] at h;rw [h];decide
set_option maxHeartbeats 1000000 in
theorem W9 (G:GH) (w0:World) (hG:Hold G w0) (l:List bL) (v:ak) (hv:au G (.sl 6 (l.map bL.dat)) v) (hN:∀ s∈l,s.name.size≤4611686018427387904) :
  Calls prog 74 #[v] w0 (bJ w0 G fun u G'=>u=vi (gI l)):=by
 obtain ⟨A,c,rfl,hc1,hc2,-⟩:=hv.slice;have hml:maxLen=9223372036854775807:=rfl;rw [bV] at *;refine eN [(0,_)] func74 rfl ntmps74 rfl rfl hG ?_;intro a H;refine dw (fun _ K1=>?_);refine eD (cs:=[_]) H wn rfl rfl rfl ?_;clear H;intro b1 a w hb1 H;refine dU iW H wn rfl ?_;clear H;intro b2 a w hb2 H;refine K1 _ _ ?_;clear K1;refine kP H (SQ fun _ K2=>SR fun _ K3=>Ro nu 1 rfl (Rl ko rfl (Rc rfl (Kz K3 (Cd rfl ?_ ?_))))) <;> clear H K3
 ·intro h12 a H
  try have pF:=dT h12
  refine dw (fun _ K4=>?_);refine bN iW 0 (vs:=[_]) _ H wn rfl rfl rfl rfl rfl rfl rfl rfl ?_;clear H;intro w H;dsimp only [List.set,setRow] at H;refine K4 _ _ ?_;clear K4;refine dR ?_;refine (leave1 H results74 (.cons (BR iW H rfl (H.hp.tV 0 rfl rfl)) .nil) ?_).1
  first
   | exact H.rt (aB vi (by rw [gI,av (by omega)]))
   | exact H.rt (aB vi (by rw [ah (by simpa using jI)] at heq;rw [gI,ah (by omega),← heq,av (by simpa using jI)]))
   | exact H.rt (aB vi (by rw [gI,ah (by omega),ah (by rw [hok];decide),av hbad]))
   | exact H.rt (aB vi (by rw [gI,ah (by omega),ah (by rw [hok];decide),ah hbad,av (xJ hj2 hI)]))
   | exact H.rt (aB vi (by rw [gI,ah (by omega),ah (by rw [hok];decide),ah hbad,ah (Cq (by omega) hnc)]))
 intro h12 a H
 try have pF:=dF h12
 refine kP H (Kc K2 (SQ fun _ K5=>SR fun _ K6=>Ro nu 1 rfl (Rl ko rfl (Rm rfl (Kz K6 (SB ?_))))));clear H K2 K6;intro a H;skip;refine eH (ι:=Nat × GH) (Tc:=[(1,_),(2,_),(14,_)]) (Lc:=[(_,_),(_,_)]) (fun gh=>[(15,vi gh.1)]) (fun gh=>[]) (fun gh=>gh.2) (fun gh=>gh.1≤l.length∧uI (BP l) gh.1 (l.length - gh.1)=uI (BP l) 0 l.length∧(∀ b o,G b=some o→gh.2 b=some o)) (fun gh=>l.length - gh.1) ((0,G)) (by exact (H).sub ⟨rfl,rfl,rfl,rfl,aC⟩) ?_ ?_
 ·exact ⟨iF _,rfl,fun _ _ h=>h⟩
 clear H;intro gh a w hI H;obtain ⟨k,g⟩:=gh;dsimp only at hI H;obtain ⟨hk,heq,hgm⟩:=hI;dsimp only [lca,aV] at H;refine kP H (SR fun _ K7=>Rc rfl (Kz K7 (SQ fun _ K8=>Cd rfl ?_ ?_))) <;> clear H K7
 ·intro h16 a H
  try have p16:=dT h16
  have hk2:k < l.length:=by omega
  rw [ahi hk2,aar hk2] at heq;refine kP H (Kc K8 (SQ fun _ K9=>SB (SR fun _ aT=>Rm rfl (aj aT rfl (SR fun _ bB=>Ro nu 1 rfl (Rm rfl ?_))))));clear H K8 aT;intro a H;refine s_call aeU H wn rfl (alo _ _ H.ro l k _ (hv.mono hgm) hk2 (hN _ (jW hk2))) rfl ?_;clear H;rintro v20 EA a w rfl Eb H;refine kH H (aj bB rfl (SR fun _ bC=>Rm rfl (Rc rfl (Kz bC (Cd rfl ?_ ?_))))) <;> clear H bB bC
  ·intro h22 a H
   try have jI:=dT h22
   refine kP H (SR fun _ bK=>Rm rfl ?_);clear H;intro a H;refine bN iW 0 (vs:=[_]) _ H wn rfl rfl rfl rfl rfl rfl rfl rfl ?_;clear H;intro w H;dsimp only [List.set,setRow] at H;refine bK _ _ ?_;clear bK;refine dR ?_;refine (leave1 H results74 (.cons (BR iW H rfl (H.hp.tV 0 rfl rfl)) .nil) ?_).1
   first
    | exact H.rt (aB vi (by rw [gI,av (by omega)]))
    | exact H.rt (aB vi (by rw [ah (by simpa using jI)] at heq;rw [gI,ah (by omega),← heq,av (by simpa using jI)]))
    | exact H.rt (aB vi (by rw [gI,ah (by omega),ah (by rw [hok];decide),av hbad]))
    | exact H.rt (aB vi (by rw [gI,ah (by omega),ah (by rw [hok];decide),ah hbad,av (xJ hj2 hI)]))
    | exact H.rt (aB vi (by rw [gI,ah (by omega),ah (by rw [hok];decide),ah hbad,ah (Cq (by omega) hnc)]))
  intro h22 a H
  try have jI:=dF h22
  refine kP H (Kc K9 (SC (Rd rfl (Rm rfl ?_))));clear H K9;intro a H;refine aH ?_;refine dK ((k+1,EA)) (by exact (H).sub ⟨rfl,rfl,rfl,rfl,aC⟩) ?_ ?_
  ·(try dsimp only);exact ⟨by omega,by rw [av (by simpa using jI)] at heq;exact heq,fun b o h=>Eb b o (hgm b o h)⟩
  first|omega|(dsimp only;omega)
 intro h16 a H
 try have p16:=dF h16
 have hok:uI (BP l) 0 l.length=0:=by rw [← heq];exact ahh (by omega)
 clear heq;have Ib:=hv.mono hgm;refine dW ?_;refine K5 _ _ ?_;clear K5;refine kP H (SQ fun _ bP=>SR fun _ dx=>Ro nu 1 rfl (Rl ko rfl (Rm rfl (Kz dx (SB ?_)))));clear H dx;intro a H;skip;refine eH (ι:=Nat × GH) (Tc:=[(1,_),(2,_),(25,_),(26,_)]) (Lc:=[(_,_),(_,_)]) (fun gh=>[(27,vi gh.1)]) (fun gh=>[]) (fun gh=>gh.2) (fun gh=>gh.1≤l.length∧(l.take gh.1).any (vw l)=false∧(∀ b o,g b=some o→gh.2 b=some o)) (fun gh=>l.length - gh.1) ((0,g)) (by exact (H).sub ⟨rfl,rfl,rfl,rfl,rfl,aC⟩) ?_ ?_
 ·exact ⟨iF _,rfl,fun _ _ h=>h⟩
 clear H;intro gh a w hI H;obtain ⟨k,g2⟩:=gh;dsimp only at hI H;obtain ⟨hk3,hno,kG⟩:=hI;have BL:=Ib.mono kG;dsimp only [lca,aV] at H;refine kP H (SR fun _ dP=>Rc rfl (Kz dP (SQ fun _ dB=>Cd rfl ?_ ?_))) <;> clear H dP
 ·intro gQ a H
  try have p28:=dT gQ
  have hk4:k < l.length:=by omega
  obtain ⟨b,o,pA,pc,rfl,hrow,hp,hrep⟩:=BZ BL hk4;refine kP H (Kc dB (SQ fun _ dY=>SB (SR fun _ eP=>Ri ko iR rfl rfl ?_)));clear H dB;intro a H;refine aW iR (cs:=[_,_,_,_,_,_]) H wn rfl rfl (fun j v hj=>H.hp.aF (hrow j v hj)) rfl ?_;clear H;intro a H;refine dU iR H wn rfl ?_;clear H;intro b6 a w hb6 H;refine bN iR 0 (vs:=[_,_,_,_,_,_]) _ H wn rfl rfl rfl rfl rfl rfl rfl rfl ?_;clear H;intro w H;dsimp only [List.set,setRow] at H;refine eP _ _ ?_;clear eP;refine kP H (SR fun _ dZ=>bg Lb aD 0 rfl rfl (Rc rfl (Rm rfl (Sp 34 rfl ?_ ?_)))) <;> clear H
  ·intro fD a H
   try have p34:=dT fD
   refine kH H (YO nu 2 fD rfl (YF wH fD rfl (YO aD 0 fD rfl (YF Lb fD rfl (YO aD 0 fD rfl ?_)))));clear H;intro a H;refine s_call Q5 H (wg H rfl rfl fD) rfl (Uq _ _ H.ro l l[k].kind l[k].base _ BL) rfl ?_;clear H;rintro v40 g2 a w rfl OB H;replace kG:=fun b o (h:g b=some o)=>OB b o (kG b o h);replace BL:=BL.mono OB;refine kH H (YN fD rfl (Pt fD rfl (Rm rfl (Sp 43 rfl ?_ ?_)))) <;> clear H
   ·intro h43 a H
    try have p43:=dT h43
    refine kH H (aN h43 rfl (aN h43 rfl (Ku rfl (Ku rfl (Ku rfl (Ku rfl (Ku rfl (Ku rfl (Ku rfl (Ku rfl (Ku rfl (Ku rfl (Ks h43 rfl (Pt h43 rfl (Kz dZ (Ct rfl rfl (SQ fun _ eU=>?_)))))))))))))))));clear H dZ;intro a H;have hbad:l.any (vw l)=true:=xJ hk4 (by unfold vw;simp_all);refine nG ?_;refine bN iW 1 (vs:=[_]) _ H wn rfl rfl rfl rfl rfl rfl rfl rfl ?_;clear H;intro w H;dsimp only [List.set,setRow] at H;refine aH ?_;refine eU _ _ ?_;clear eU;refine dR ?_;refine (leave1 H results74 (.cons (BR iW H rfl (H.hp.tV 1 rfl rfl)) .nil) ?_).1
    first
     | exact H.rt (aB vi (by rw [gI,av (by omega)]))
     | exact H.rt (aB vi (by rw [ah (by simpa using jI)] at heq;rw [gI,ah (by omega),← heq,av (by simpa using jI)]))
     | exact H.rt (aB vi (by rw [gI,ah (by omega),ah (by rw [hok];decide),av hbad]))
     | exact H.rt (aB vi (by rw [gI,ah (by omega),ah (by rw [hok];decide),ah hbad,av (xJ hj2 hI)]))
     | exact H.rt (aB vi (by rw [gI,ah (by omega),ah (by rw [hok];decide),ah hbad,ah (Cq (by omega) hnc)]))
   intro h43 a H
   try have p43:=dF h43
   refine kH H (YF Jo h43 rfl (YO aD 0 h43 rfl (YC h43 rfl (YM h43 rfl (Sp 47 rfl ?_ ?_))))) <;> clear H
   ·intro h47 a H
    try have p47:=dT h47
    refine kH H (YF wH h47 rfl (YO aD 0 h47 rfl (YC h47 rfl (YM h47 rfl (Sp 51 rfl ?_ ?_))))) <;> clear H
    ·intro lY a H
     try have p51:=dT lY
     refine kH H (aQ lY rfl (aN lY rfl (PT h47 lY rfl (PT h43 h47 rfl (Pf h43 rfl (Kz dZ (Ct rfl rfl (SQ fun _ fK=>?_))))))));clear H dZ;intro a H;have hbad:l.any (vw l)=true:=xJ hk4 (by unfold vw;simp_all);refine nG ?_;refine bN iW 1 (vs:=[_]) _ H wn rfl rfl rfl rfl rfl rfl rfl rfl ?_;clear H;intro w H;dsimp only [List.set,setRow] at H;refine aH ?_;refine fK _ _ ?_;clear fK;refine dR ?_;refine (leave1 H results74 (.cons (BR iW H rfl (H.hp.tV 1 rfl rfl)) .nil) ?_).1
     first
      | exact H.rt (aB vi (by rw [gI,av (by omega)]))
      | exact H.rt (aB vi (by rw [ah (by simpa using jI)] at heq;rw [gI,ah (by omega),← heq,av (by simpa using jI)]))
      | exact H.rt (aB vi (by rw [gI,ah (by omega),ah (by rw [hok];decide),av hbad]))
      | exact H.rt (aB vi (by rw [gI,ah (by omega),ah (by rw [hok];decide),ah hbad,av (xJ hj2 hI)]))
      | exact H.rt (aB vi (by rw [gI,ah (by omega),ah (by rw [hok];decide),ah hbad,ah (Cq (by omega) hnc)]))
    intro lY a H
    try have p51:=dF lY
    refine kH H (YO nu 2 lY rfl (YF Jo lY rfl (YO aD 0 lY rfl ?_)));clear H;intro a H;refine s_call Q5 H (wg H rfl rfl lY) rfl (Uq _ _ H.ro l 1 l[k].next _ BL) rfl ?_;clear H;rintro v55 g2 a w rfl zG H;replace kG:=fun b o (h:g b=some o)=>zG b o (kG b o h);replace BL:=BL.mono zG;refine kH H (YN lY rfl (PF h47 lY rfl (PT h43 h47 rfl (Pf h43 rfl (Kz dZ (Cd rfl ?_ ?_)))))) <;> clear H dZ
    ·intro jl a H
     try have p59:=dT jl
     refine aS (fun _ gM=>?_);have hbad:l.any (vw l)=true:=xJ hk4 (by unfold vw;simp_all);refine nG ?_;refine bN iW 1 (vs:=[_]) _ H wn rfl rfl rfl rfl rfl rfl rfl rfl ?_;clear H;intro w H;dsimp only [List.set,setRow] at H;refine aH ?_;refine gM _ _ ?_;clear gM;refine dR ?_;refine (leave1 H results74 (.cons (BR iW H rfl (H.hp.tV 1 rfl rfl)) .nil) ?_).1
     first
      | exact H.rt (aB vi (by rw [gI,av (by omega)]))
      | exact H.rt (aB vi (by rw [ah (by simpa using jI)] at heq;rw [gI,ah (by omega),← heq,av (by simpa using jI)]))
      | exact H.rt (aB vi (by rw [gI,ah (by omega),ah (by rw [hok];decide),av hbad]))
      | exact H.rt (aB vi (by rw [gI,ah (by omega),ah (by rw [hok];decide),ah hbad,av (xJ hj2 hI)]))
      | exact H.rt (aB vi (by rw [gI,ah (by omega),ah (by rw [hok];decide),ah hbad,ah (Cq (by omega) hnc)]))
    intro jl a H
    try have p59:=dF jl
    refine kP H (Kc dY (SC (Rd rfl (Rm rfl ?_))));clear H dY;intro a H;refine aH ?_;refine dK ((k+1,g2)) (by exact (H.dS (Pl:=[_,_,_]) (dL:=[_,_]) [1,2] (by decide) rfl).sub ⟨rfl,rfl,rfl,rfl,rfl,aC⟩) ?_ ?_
    ·(try dsimp only);exact ⟨by omega,KG hk4 hno (by unfold vw;simp_all),kG⟩
    first|omega|(dsimp only;omega)
   intro h47 a H
   try have p47:=dF h47
   refine kH H (aN h47 rfl (aN h47 rfl (Ku rfl (Ku rfl (Ku rfl (Ku rfl (Ku rfl (Ks h47 rfl (PF h43 h47 rfl (Pf h43 rfl (Kz dZ (Cf rfl rfl (Kc dY (SC (Rd rfl (Rm rfl ?_))))))))))))))));clear H dZ dY;intro a H;refine aH ?_;refine dK ((k+1,g2)) (by exact (H.dS (Pl:=[_,_,_]) (dL:=[_,_]) [1,2] (by decide) rfl).sub ⟨rfl,rfl,rfl,rfl,rfl,aC⟩) ?_ ?_
   ·(try dsimp only);exact ⟨by omega,KG hk4 hno (by unfold vw;simp_all),kG⟩
   first|omega|(dsimp only;omega)
  intro fD a H
  try have p34:=dF fD
  refine kH H (aQ fD rfl (aN fD rfl (aN fD rfl (Pf fD rfl (Rm rfl ?_)))));clear H;intro a H;refine J2 Jo H (wg H rfl rfl rfl) rfl rfl ?_;clear H;intro a H;refine zT aD H (wg H rfl rfl rfl) rfl (H.hp.tV 0 rfl rfl) rfl ?_;clear H;intro a H;refine MR H (wg H rfl rfl rfl) rfl rfl rfl rfl ?_;clear H;intro a H;refine J4 H (wg H rfl rfl rfl) rfl rfl ?_;clear H;intro a H;refine Vb H 47 rfl ?_ ?_
  ·intro h47
   try have p47:=dT h47
   refine kH H (YF wH h47 rfl (YO aD 0 h47 rfl (YC h47 rfl (YM h47 rfl (Sp 51 rfl ?_ ?_))))) <;> clear H
   ·intro lY a H
    try have p51:=dT lY
    refine kH H (aQ lY rfl (aN lY rfl (PT h47 lY rfl ?_)));clear H;intro a H;refine MU H (wg H rfl rfl rfl) rfl h47 rfl rfl ?_;clear H;intro a H;refine kH H (Pf rfl rfl (Kz dZ (Ct rfl rfl (SQ fun _ iC=>?_))));clear H dZ;intro a H;have hbad:l.any (vw l)=true:=xJ hk4 (by unfold vw;simp_all);refine nG ?_;refine bN iW 1 (vs:=[_]) _ H wn rfl rfl rfl rfl rfl rfl rfl rfl ?_;clear H;intro w H;dsimp only [List.set,setRow] at H;refine aH ?_;refine iC _ _ ?_;clear iC;refine dR ?_;refine (leave1 H results74 (.cons (BR iW H rfl (H.hp.tV 1 rfl rfl)) .nil) ?_).1
    first
     | exact H.rt (aB vi (by rw [gI,av (by omega)]))
     | exact H.rt (aB vi (by rw [ah (by simpa using jI)] at heq;rw [gI,ah (by omega),← heq,av (by simpa using jI)]))
     | exact H.rt (aB vi (by rw [gI,ah (by omega),ah (by rw [hok];decide),av hbad]))
     | exact H.rt (aB vi (by rw [gI,ah (by omega),ah (by rw [hok];decide),ah hbad,av (xJ hj2 hI)]))
     | exact H.rt (aB vi (by rw [gI,ah (by omega),ah (by rw [hok];decide),ah hbad,ah (Cq (by omega) hnc)]))
   intro lY a H
   try have p51:=dF lY
   refine kH H (YO nu 2 lY rfl (YF Jo lY rfl (YO aD 0 lY rfl ?_)));clear H;intro a H;refine s_call Q5 H (wg H rfl rfl lY) rfl (Uq _ _ H.ro l 1 l[k].next _ BL) rfl ?_;clear H;rintro v55 g2 a w rfl zG H;replace kG:=fun b o (h:g b=some o)=>zG b o (kG b o h);replace BL:=BL.mono zG;refine kH H (YN lY rfl (PF h47 lY rfl ?_));clear H;intro a H;refine MU H (wg H rfl rfl rfl) rfl h47 rfl rfl ?_;clear H;intro a H;refine kH H (Pf rfl rfl (Kz dZ (Cd rfl ?_ ?_))) <;> clear H dZ
   ·intro jl a H
    try have p59:=dT jl
    refine aS (fun _ gu=>?_);have hbad:l.any (vw l)=true:=xJ hk4 (by unfold vw;simp_all);refine nG ?_;refine bN iW 1 (vs:=[_]) _ H wn rfl rfl rfl rfl rfl rfl rfl rfl ?_;clear H;intro w H;dsimp only [List.set,setRow] at H;refine aH ?_;refine gu _ _ ?_;clear gu;refine dR ?_;refine (leave1 H results74 (.cons (BR iW H rfl (H.hp.tV 1 rfl rfl)) .nil) ?_).1
    first
     | exact H.rt (aB vi (by rw [gI,av (by omega)]))
     | exact H.rt (aB vi (by rw [ah (by simpa using jI)] at heq;rw [gI,ah (by omega),← heq,av (by simpa using jI)]))
     | exact H.rt (aB vi (by rw [gI,ah (by omega),ah (by rw [hok];decide),av hbad]))
     | exact H.rt (aB vi (by rw [gI,ah (by omega),ah (by rw [hok];decide),ah hbad,av (xJ hj2 hI)]))
     | exact H.rt (aB vi (by rw [gI,ah (by omega),ah (by rw [hok];decide),ah hbad,ah (Cq (by omega) hnc)]))
   intro jl a H
   try have p59:=dF jl
   refine kP H (Kc dY (SC (Rd rfl (Rm rfl ?_))));clear H dY;intro a H;refine aH ?_;refine dK ((k+1,g2)) (by exact (H.dS (Pl:=[_,_,_]) (dL:=[_,_]) [1,2] (by decide) rfl).sub ⟨rfl,rfl,rfl,rfl,rfl,aC⟩) ?_ ?_
   ·(try dsimp only);exact ⟨by omega,KG hk4 hno (by unfold vw;simp_all),kG⟩
   first|omega|(dsimp only;omega)
  intro h47
  try have p47:=dF h47
  refine kH H (aN h47 rfl (aN h47 rfl (Ku rfl (Ku rfl (Ku rfl (Ku rfl (Ku rfl (Ks h47 rfl ?_))))))));clear H;intro a H;refine P5 H (wg H rfl rfl rfl) rfl h47 rfl rfl ?_;clear H;intro a H;refine kH H (Pf rfl rfl (Kz dZ (Cf rfl rfl (Kc dY (SC (Rd rfl (Rm rfl ?_)))))));clear H dZ dY;intro a H;refine aH ?_;refine dK ((k+1,g2)) (by exact (H.dS (Pl:=[_,_,_]) (dL:=[_,_]) [1,2] (by decide) rfl).sub ⟨rfl,rfl,rfl,rfl,rfl,aC⟩) ?_ ?_
  ·(try dsimp only);exact ⟨by omega,KG hk4 hno (by unfold vw;simp_all),kG⟩
  first|omega|(dsimp only;omega)
 intro gQ a H
 try have p28:=dF gQ
 have hbad:=Cq (by omega) hno;refine dW ?_;refine bP _ _ ?_;clear bP;refine kP H (SQ fun _ iX=>SR fun _ jo=>Ro nu 1 rfl (Rl ko rfl (Rm rfl (Kz jo (SB ?_)))));clear H jo;intro a H;skip;refine Nw (ι:=Nat × GH × List Nat) (Tc:=[(1,_),(2,_),(61,_),(62,_)]) (Lc:=[(_,_),(_,_)]) (fun gh=>JN gh.2.2) (fun gh=>[(63,vi gh.1)]) (fun gh=>[]++(mV gh.2.2++[])) (fun gh=>gh.2.1) (fun gh=>gh.1≤l.length∧(l.take gh.1).any (QT l)=false∧(∀ b o,g2 b=some o→gh.2.1 b=some o)) (fun gh=>l.length - gh.1) ((0,g2,[])) (by exact (H).sub ⟨rfl,rfl,rfl,rfl,rfl,aC⟩) ?_ ?_
 ·exact ⟨iF _,rfl,fun _ _ h=>h⟩
 clear H;intro gh a w hI H;obtain ⟨j,g3,ds⟩:=gh;dsimp only at hI H;obtain ⟨hj,hnc,rO⟩:=hI;have Ud:=BL.mono rO;dsimp only [lca,aV] at H;refine kP H (SR fun _ iN=>Rc rfl (Kz iN (SQ fun _ kJ=>Cd rfl ?_ ?_))) <;> clear H iN
 ·intro h64 a H
  try have p64:=dT h64
  have hj2:j < l.length:=by omega
  obtain ⟨b,o,pA,pc,rfl,hrow,hp,hrep⟩:=BZ Ud hj2;refine kP H (Kc kJ (SQ fun _ kK=>SB (SR fun _ jA=>Ri ko iR rfl rfl ?_)));clear H kJ;intro a H;refine aW iR (cs:=[_,_,_,_,_,_]) H wn rfl rfl (fun j v hj=>H.hp.aF (hrow j v hj)) rfl ?_;clear H;intro a H;refine dU iR H wn rfl ?_;clear H;intro b8 a w vN H;refine bN iR 0 (vs:=[_,_,_,_,_,_]) _ H wn rfl rfl rfl rfl rfl rfl rfl rfl ?_;clear H;intro w H;dsimp only [List.set,setRow] at H;refine jA _ _ ?_;clear jA;refine dw (fun _ kT=>?_);refine dU aD H wn rfl ?_;clear H;intro b9 a w rH H;refine bN aD 0 (vs:=[_]) _ H wn rfl rfl rfl rfl rfl rfl rfl rfl ?_;clear H;intro w H;dsimp only [List.set,setRow] at H;refine kT _ _ ?_;clear kT;refine kP H (SR fun _ kU=>Ro nu 3 rfl (bg uK aD 1 rfl rfl ?_));clear H;intro a H;refine gB aeV (Li:=[_,_,_,_]++mV ds) (L:=[]) (St.un (A:=[_,_,_,_]) H) wn rfl (adq (Hp.owns (Li:=[_,_,_,_]++mV ds) (St.un (A:=[_,_,_,_]) H).hp) l l[j].id _ Ud) rfl ?_;clear H;rintro v70 g4 L70 a w ⟨bl,bi,rfl,rfl,hbl⟩ Zb H;have H:=(St.UC (A:=[_,_,_,_,_]) (B:=mV ds) (H.perm vv));dsimp only [lca,aV] at H;have hit:=adp (l:=l) (id:=l[j].id) (bi:=bi) hbl (Ud.mono Zb) (aat hok);refine kU _ _ ?_;clear kU;refine vC ?_;skip;refine acV (B:=[(_,_)]) (ι:=Unit) (κ:=Int) (Lc:=[(_,_),(_,_)]) (fun (k:Nat) (gh:Unit)=>[(b9,.cells #[vi k] 3 (0,0)),(b2,.cells #[vi 0] 41 (0,0))]) (fun (k:Nat) (gh:Unit)=>(mV ds++[])) (fun (k:Nat) (gh:Unit) (g:GH)=>k≤l.length) (fun (gx:Int)=>Code.ret) (fun (gx:Int)=>[(b9,.cells #[vi gx] 3 (0,0)),(b2,.cells #[vi 16] 41 (0,0))]) (fun (gx:Int)=>(mV ds++[])) (fun (gx:Int) (g:GH)=>QT l l[j]=true) (()) (by exact H.dS (Pl:=[_,_,_,_,_]) (dL:=[_,_,_,_,_]) [0,2,4,1,3] (by decide) rfl) rfl Xx (hit) (fun _ _ h=>h) (fun e i g h=>absurd (of_decide_eq_false e) (by rw [bV] at h;omega)) rfl (fun k args g h=>by obtain ⟨_,_,rfl,_⟩:=abn h;rfl) (fun _ _ _ _ _ h=>h) (fun _ _ _ _ h=>h) (iF _) ?_ ?_ ?_
  ·clear H;intro l21 yE vB bk k args gh VP w21 F21 B21 a Y4 Ec hI aiI ajC ajS H;obtain ⟨Y4,aoD,rfl,apr⟩:=abn Y4;dsimp only [uD,List.cons_append,List.nil_append] at H;refine fu ?_;refine aiI _ _ _ _ _ _ (by exact H) ?_;clear H;intro w H;refine kP H (SB (SR fun _ lM=>Ro aD 3 rfl (Rd rfl ?_)));clear H;intro a H;refine bN aD 3 (vs:=[_]) _ H wn rfl rfl rfl rfl rfl rfl rfl rfl ?_;clear H;intro w H;dsimp only [List.set,setRow] at H;refine lM _ _ ?_;clear lM;refine kP H (SR fun _ lN=>Ro aD 3 rfl (Ro nu 2 rfl (Rl ko rfl (Rc rfl (Kz lN (Cd rfl ?_ ?_)))))) <;> clear H lN
   ·intro zw a H
    try have Fz:=dT zw
    refine dw (fun _ lQ=>?_);refine bN iW 4 (vs:=[_]) _ H wn rfl rfl rfl rfl rfl rfl rfl rfl ?_;clear H;intro w H;dsimp only [List.set,setRow] at H;refine lQ _ _ ?_;clear lQ;refine dR ?_;refine (ajS ((k:Int)+1) _ _ _ _ _ (by exact H) ?_).1 rfl;exact gW (by omega)
   intro zw a H
   try have Fz:=dF zw
   refine fu ?_;refine ajC (()) _ _ _ _ _ (by exact H) ?_
   omega
  ·clear H;intro VI gh V3 a w Ec hI H;dsimp only [lca,aV] at H;refine kK _ _ ?_;clear kK;refine kP H (SC (Rd rfl (Rm rfl ?_)));clear H;intro a H;refine aH ?_;refine Im ((j+1,V3,VI :: ds)) (by exact (H.dS (Pl:=[_,_,_,_,_]) (dL:=[_,_,_]) [4,2,0] (by decide) rfl).sub ⟨rfl,rfl,rfl,rfl,rfl,aC⟩) ?_ ?_
   ·(try dsimp only);exact ⟨by omega,KG hj2 hnc (fZ (by rw [bV] at hI;omega)),fun b o h=>Ec b o (Zb b o (rO b o h))⟩
   first|omega|(dsimp only;omega)
  clear H;intro VI gx V3 a w Ec hI H;obtain ⟨x,hgh⟩:∃ x,x=gx:=⟨_,rfl⟩;subst hgh;dsimp only [lca,aV] at H;refine dR ?_;refine (BO H 0 rfl ?_).1;clear H;intro a w H;dsimp only [List.eraseIdx_cons_succ,List.eraseIdx_cons_zero] at H;refine (Ay (Lh:=[_,_,_,_]) _ H ?_).1;clear H;intro a w H;dsimp only [lca,aV] at H;refine (leave1 H results74 (.cons (BR iW H rfl (H.hp.tV 3 rfl rfl)) .nil) ?_).1
  first
   | exact H.rt (aB vi (by rw [gI,av (by omega)]))
   | exact H.rt (aB vi (by rw [ah (by simpa using jI)] at heq;rw [gI,ah (by omega),← heq,av (by simpa using jI)]))
   | exact H.rt (aB vi (by rw [gI,ah (by omega),ah (by rw [hok];decide),av hbad]))
   | exact H.rt (aB vi (by rw [gI,ah (by omega),ah (by rw [hok];decide),ah hbad,av (xJ hj2 hI)]))
   | exact H.rt (aB vi (by rw [gI,ah (by omega),ah (by rw [hok];decide),ah hbad,ah (Cq (by omega) hnc)]))
 intro h64 a H
 try have p64:=dF h64
 refine dW ?_;refine iX _ _ ?_;clear iX;refine dw (fun _ mo=>?_);refine bN iW 0 (vs:=[_]) _ H wn rfl rfl rfl rfl rfl rfl rfl rfl ?_;clear H;intro w H;dsimp only [List.set,setRow] at H;refine mo _ _ ?_;clear mo;refine dR ?_;refine (Ay (Lh:=[_,_]) _ H ?_).1;clear H;intro a w H;dsimp only [lca,aV] at H;refine (leave1 H results74 (.cons (BR iW H rfl (H.hp.tV 0 rfl rfl)) .nil) ?_).1
 first
  | exact H.rt (aB vi (by rw [gI,av (by omega)]))
  | exact H.rt (aB vi (by rw [ah (by simpa using jI)] at heq;rw [gI,ah (by omega),← heq,av (by simpa using jI)]))
  | exact H.rt (aB vi (by rw [gI,ah (by omega),ah (by rw [hok];decide),av hbad]))
  | exact H.rt (aB vi (by rw [gI,ah (by omega),ah (by rw [hok];decide),ah hbad,av (xJ hj2 hI)]))
  | exact H.rt (aB vi (by rw [gI,ah (by omega),ah (by rw [hok];decide),ah hbad,ah (Cq (by omega) hnc)]))
end
section
open Go.RowKit
theorem oO:Ty prog 34 1 24 [.slice none 0 0] false:=⟨by kernel_rfl,by kernel_rfl⟩
theorem mX:prog.underlying 34=some (.slice 99):=by kernel_rfl
theorem oQ:Ty prog 99 2 32 [.string ⟨#[]⟩,.string ⟨#[]⟩] true:=⟨by kernel_rfl,by kernel_rfl⟩
theorem Bg:dV prog 99 0 0:=⟨by kernel_rfl⟩
theorem KT:∀ args w,(callFunc 77 args).run prog w=.ok (.enter 77 args) w:=enters func77 rfl (by kernel_rfl)
theorem RH:dV prog 99 1 1:=⟨by kernel_rfl⟩
theorem vI:dV prog 36 0 0:=⟨by kernel_rfl⟩
theorem XH:∀ args w,(callFunc 74 args).run prog w=.ok (.enter 74 args) w:=enters func74 rfl (by kernel_rfl)
theorem lX:dV prog 36 1 1:=⟨by kernel_rfl⟩
theorem aeJ:∀ args w,(callFunc 120 args).run prog w=.ok (.enter 120 args) w:=enters func120 rfl (by kernel_rfl)
theorem wJ:dV prog 36 2 2:=⟨by kernel_rfl⟩
theorem aeK:∀ args w,(callFunc 121 args).run prog w=.ok (.enter 121 args) w:=enters func121 rfl (by kernel_rfl)
theorem wK:dV prog 36 3 3:=⟨by kernel_rfl⟩
theorem aeL:∀ args w,(callFunc 122 args).run prog w=.ok (.enter 122 args) w:=enters func122 rfl (by kernel_rfl)
theorem afk:∀ args w,(callFunc 165 args).run prog w=.ok (.enter 165 args) w:=enters func165 rfl (by kernel_rfl)
theorem Qf {G:GH} {l:List iE} {A:Option Addr} {n c k:Nat} (hv:au G (.sl 2 (l.map iE.dat)) (.slice A n c)) (hk:k < l.length):∃ b o,A=some ⟨b,o,none⟩∧(∀ j u,l[k].cells[j]?=some u→aF G b (o+k*2+j)=some u):=by
 obtain ⟨A',c',he,_,_,hg⟩:=hv.slice
 injection he with e1 e2 e3
 subst e1;obtain ⟨b,o,cs,h1,h2,h3,h4⟩:=hg k l[k].dat (by simp [hk]);have:=Qg h4;subst this;exact ⟨b,o,h1,h3⟩
def FK (k:Nat) (x:iE) (pn:ByteArray):Int:=bT [bQ (!pO x.name) 13,bQ (decide (0 < (k:Int)) && (x.name.toList == pn.toList)) 7,bQ (decide (0 < (k:Int)) && Op.bytesLess x.name.toList pn.toList) 6,sU x.value]
def xw (l:List iE) (k:Nat):Int:=match l[k]? with|some x=>FK k x ((l[k - 1]?.map iE.name).getD ⟨#[]⟩)|none=>0
set_option maxHeartbeats 2000000 in
theorem anX {G:GH} {bl:Nat} {l:List iE} {A:Option Addr} {n c:Nat} (hb:aF G bl 0=some (.slice A n c)) (hv:au G (.sl 2 (l.map iE.dat)) (.slice A n c)) (hl:l.length≤4294967296) (ht:∀ x∈l,x.name.size < 4611686018427387904∧x.value.size < 4611686018427387904):uY (.func (.func 165) #[] #[(aM bl 0)]) G l.length (xw l):=by
 intro k hk G1 w0 hm hG;refine mF (caps:=[(aM bl 0)]) afk ?_;replace hb:=ay hm hb;replace hv:=hv.mono hm
 obtain rfl:n=l.length:=by have:=hv.len;simpa using this
 obtain ⟨b,o,rfl,hrow⟩:=Qf hv hk
 have hk1:k - 1 < l.length:=by omega
 obtain ⟨b',o',he',hrow'⟩:=Qf hv hk1
 injection he' with he'
 injection he' with e1 e2
 subst e1;subst e2;have hte:=ht _ (jW hk)
 have he:xw l k=FK k l[k] l[k - 1].name:=by unfold xw;rw [fT hk,fT hk1];rfl
 obtain ⟨x,hx⟩:∃ x,x=l[k]:=⟨_,rfl⟩;obtain ⟨y,hy⟩:∃ y,y=l[k - 1]:=⟨_,rfl⟩;rw [← hx] at hrow hte he;rw [← hy] at hrow' he;refine eN [(0,_),(1,_)] func165 rfl ntmps165 rfl rfl hG ?_;intro a H;refine kP H (SR fun _ K1=>aj K1 rfl (SQ fun _ K2=>?_));clear H K1;intro a H;have H:=H.sub (T':=[(0,_),(1,_)]) ⟨rfl,rfl,aC⟩
 by_cases c0:0 < (k:Int)
 ·skip;refine dI hmx [[],[],[0,1],[0,1,2],(ra 0 4),(ra 0 5),(ra 0 6),(ra 0 7),[],[8],(ra 0 10),(ra 0 11),(ra 0 11),(ra 0 13),(ra 0 14),(ra 0 15),(ra 0 11),(ra 0 11),(ra 0 11++[17]),(ra 0 11++[17,18]),(ra 0 11++ra 16 4),(ra 0 11++ra 16 5),(ra 0 11++ra 16 6),(ra 0 23),(ra 0 24),(ra 0 25),[],[26],(ra 0 28),(ra 0 29),(ra 0 29),(ra 0 31),(ra 0 32),(ra 0 33),(ra 0 29),(ra 0 29),(ra 0 29++[35]),(ra 0 29++[35,36]),(ra 0 29++ra 34 4),(ra 0 29++ra 34 5),(ra 0 29++ra 34 6),(ra 0 41),(ra 0 42),(ra 0 43),[],[],[44,45],[44,45,46],(ra 44 4),(ra 0 49),(ra 0 50),(ra 0 51),(ra 0 52)] [50,51,52] (by kernel_rfl) [_,_,_,_,_,.bool (pO x.name),_,vi (bQ (!pO x.name) 13),_,_,_,_,_,_,_,_,_,_,vi ((max k 1:Nat):Int),vi ((k - 1:Nat):Int),_,_,_,.bool (x.name.toList == y.name.toList),.bool (decide (0 < (k:Int)) && (x.name.toList == y.name.toList)),vi (bQ (decide (0 < (k:Int)) && (x.name.toList == y.name.toList)) 7),_,_,_,_,_,_,_,_,_,_,vi ((max k 1:Nat):Int),vi ((k - 1:Nat):Int),_,_,_,.bool (Op.bytesLess x.name.toList y.name.toList),.bool (decide (0 < (k:Int)) && Op.bytesLess x.name.toList y.name.toList),vi (bQ (decide (0 < (k:Int)) && Op.bytesLess x.name.toList y.name.toList) 6),_,_,_,_,_,vi (sU x.value)] H (aG (X0 rfl fun hG=>Rg oO rfl (ay hG hb)) (Z0 rfl (Rm rfl)) (Z2 0 4 1 5 rfl (Ri mX oQ rfl rfl)) (Z1 2 6 rfl (Rf Bg rfl)) (aG (X1 3 7 rfl fun hG=>Rg gD rfl (ay hG (hrow 0 _ rfl))) ?_ (Z1 5 9 rfl (Rn rfl)) ?_ (aG (Z0 rfl (Rm rfl)) (Z1 8 12 rfl (Rc rfl)) (Z1 9 13 rfl (Rm rfl)) (X1 10 14 rfl fun hG=>YR oO (aI c0) rfl (ay hG hb)) (aG (Z1 10 14 rfl (YM (aI c0) rfl)) (Z3 11 15 12 16 10 14 rfl (YI mX oQ (aI c0) rfl rfl)) (Z2 13 17 10 14 rfl (YF Bg (aI c0) rfl)) (X2 14 18 10 14 rfl fun hG=>YR gD (aI c0) rfl (ay hG (hrow 0 _ rfl))) (aG (X1 10 14 rfl fun hG=>YR oO (aI c0) rfl (ay hG hb)) (Z1 10 14 rfl (YM (aI c0) rfl)) ?_ ?_ (aG (Z3 16 20 19 23 10 14 rfl (YI mX oQ (aI c0) rfl rfl)) (Z2 20 24 10 14 rfl (YF Bg (aI c0) rfl)) (X2 21 25 10 14 rfl fun hG=>YR gD (aI c0) rfl (ay hG (hrow' 0 _ rfl))) ?_ (aG ?_ ?_ (Z0 rfl (Rm rfl)) (Z1 26 30 rfl (Rc rfl)) (aG (Z1 27 31 rfl (Rm rfl)) (X1 28 32 rfl fun hG=>YR oO (aI c0) rfl (ay hG hb)) (Z1 28 32 rfl (YM (aI c0) rfl)) (Z3 29 33 30 34 28 32 rfl (YI mX oQ (aI c0) rfl rfl)) (aG (Z2 31 35 28 32 rfl (YF Bg (aI c0) rfl)) (X2 32 36 28 32 rfl fun hG=>YR gD (aI c0) rfl (ay hG (hrow 0 _ rfl))) (X1 28 32 rfl fun hG=>YR oO (aI c0) rfl (ay hG hb)) (Z1 28 32 rfl (YM (aI c0) rfl)) (aG ?_ ?_ (Z3 34 38 37 41 28 32 rfl (YI mX oQ (aI c0) rfl rfl)) (Z2 38 42 28 32 rfl (YF Bg (aI c0) rfl)) (aG (X2 39 43 28 32 rfl fun hG=>YR gD (aI c0) rfl (ay hG (hrow' 0 _ rfl))) ?_ ?_ ?_ (aG (X0 rfl fun hG=>Rg oO rfl (ay hG hb)) (Z0 rfl (Rm rfl)) (Z2 44 48 45 49 rfl (Ri mX oQ rfl rfl)) (Z1 46 50 rfl (Rf RH rfl)) (aG (X1 47 51 rfl fun hG=>Rg gD rfl (ay hG (hrow 1 _ rfl))) ?_ (bY rfl) (bY rfl) (bq (bY rfl) dD)))))))))))))) ?_
  ·refine dN 4 8 rfl rfl fun _ a w G1 hG HT H fin=>?_;refine s_call KT H wn rfl (KL _ _ H.ro x.name hte.1) rfl ?_;clear H;rintro v9 G9 a w ⟨rfl,-⟩ Fa H;exact fin H Fa (rfl)
  ·refine dN 6 10 rfl rfl fun _ a w G1 hG HT H fin=>?_;refine s_call kD H wn rfl (kI _ _ H.ro _ 13) rfl ?_;clear H;rintro v11 wh a w ⟨rfl,-⟩ qQ H;exact fin H qQ (rfl)
  ·refine eu 17 21 10 14 rfl rfl fun _ a w G1 hG HT H fin=>?_;refine FD H (wg H rfl rfl (aI c0)) rfl rfl rfl ?_;clear H;intro a H;exact fin H iJ (by show _=_;first|rfl|exact aB vi (by omega))
  ·refine eu 18 22 10 14 rfl rfl fun _ a w G1 hG HT H fin=>?_;refine nU _ H (wg H rfl rfl (aI c0)) rfl rfl rfl (by omega) (by omega) rfl ?_;clear H;intro a H;exact fin H iJ (by show _=_;first|rfl|exact aB vi (by omega))
  ·refine rC 15 19 22 26 10 14 rfl rfl fun _ a w G1 hG HT H fin=>?_;refine Eo H (wg H rfl rfl (aI c0)) rfl rfl rfl ?_;clear H;intro a H;exact fin H iJ rfl
  ·refine eu 10 14 23 27 rfl rfl fun _ a w G1 hG HT H fin=>?_;refine kH H (Pt (aI c0) rfl ?_);clear H;intro a H;exact fin H iJ (aL (by first|(rw [gW c0,vg];done)|(rw [fZ c0,uw];done)))
  ·refine dN 24 28 rfl rfl fun _ a w G1 hG HT H fin=>?_;refine s_call kD H wn rfl (kI _ _ H.ro _ 7) rfl ?_;clear H;rintro v29 ug a w ⟨rfl,-⟩ Ho H;exact fin H Ho (rfl)
  ·refine eu 35 39 28 32 rfl rfl fun _ a w G1 hG HT H fin=>?_;refine FD H (wg H rfl rfl (aI c0)) rfl rfl rfl ?_;clear H;intro a H;exact fin H iJ (by show _=_;first|rfl|exact aB vi (by omega))
  ·refine eu 36 40 28 32 rfl rfl fun _ a w G1 hG HT H fin=>?_;refine nU _ H (wg H rfl rfl (aI c0)) rfl rfl rfl (by omega) (by omega) rfl ?_;clear H;intro a H;exact fin H iJ (by show _=_;first|rfl|exact aB vi (by omega))
  ·refine rC 33 37 40 44 28 32 rfl rfl fun _ a w G1 hG HT H fin=>?_;refine aaO H (wg H rfl rfl (aI c0)) rfl rfl rfl ?_;clear H;intro a H;exact fin H iJ rfl
  ·refine eu 28 32 41 45 rfl rfl fun _ a w G1 hG HT H fin=>?_;refine kH H (Pt (aI c0) rfl ?_);clear H;intro a H;exact fin H iJ (aL (by first|(rw [gW c0,vg];done)|(rw [fZ c0,uw];done)))
  ·refine dN 42 46 rfl rfl fun _ a w G1 hG HT H fin=>?_;refine s_call kD H wn rfl (kI _ _ H.ro _ 6) rfl ?_;clear H;rintro v47 Qs a w ⟨rfl,-⟩ D5 H;exact fin H D5 (rfl)
  ·refine dN 48 52 rfl rfl fun _ a w G1 hG HT H fin=>?_;refine s_call Q9 H wn rfl (Vp _ _ H.ro x.value hte.2) rfl ?_;clear H;rintro v53 VY a w rfl LB H;exact fin H LB (rfl)
  clear H;intro a w G jY H hv;have H:=H.aZ (hv 7 11 rfl rfl) rfl;have H:=H.aZ (hv 25 29 rfl rfl) rfl;have H:=H.aZ (hv 43 47 rfl rfl) rfl;have H:=H.aZ (hv 49 53 rfl rfl) rfl;clear hv;refine jJ qZ iW [_,_,_,_] [_,_,_,_] H wn rfl rfl rfl rfl rfl (by intro i q h;match i,h with|0,h=>exact h|1,h=>exact h|2,h=>exact h|3,h=>exact h|n+4,h=>simp at h) rfl rfl ?_;clear H;intro b54 a w aiC H;obtain ⟨G54,aju,SY,H⟩:=H.eG;refine s_call sj H wn rfl (sw _ _ H.ro _ _ (Ig [bQ (!pO x.name) 13,bQ (decide (0 < (k:Int)) && (x.name.toList == y.name.toList)) 7,bQ (decide (0 < (k:Int)) && Op.bytesLess x.name.toList y.name.toList) 6,sU x.value] SY (show 4≤maxLen by decide))) rfl ?_;clear H;rintro v55 _ a w ⟨rfl,rfl⟩ - H;refine kH H (Ra rfl ?_);clear H;intro a H;refine aH ⟨rfl,?_⟩;refine K2 _ _ ?_;clear K2;refine lr H results165 rfl ?_;exact H.rt (by rw [he];rfl)
 skip;refine dI hmx [[],[],[0,1],[0,1,2],(ra 0 4),(ra 0 5),(ra 0 6),(ra 0 7),[],[8],(ra 0 10),(ra 0 11),(ra 0 11),(ra 0 13),(ra 0 14),(ra 0 15),(ra 0 11),(ra 0 11),(ra 0 11++[17]),(ra 0 11++[17,18]),(ra 0 11++ra 16 4),(ra 0 11++ra 16 5),(ra 0 11++ra 16 6),(ra 0 23),(ra 0 24),(ra 0 25),[],[26],(ra 0 28),(ra 0 29),(ra 0 29),(ra 0 31),(ra 0 32),(ra 0 33),(ra 0 29),(ra 0 29),(ra 0 29++[35]),(ra 0 29++[35,36]),(ra 0 29++ra 34 4),(ra 0 29++ra 34 5),(ra 0 29++ra 34 6),(ra 0 41),(ra 0 42),(ra 0 43),[],[],[44,45],[44,45,46],(ra 44 4),(ra 0 49),(ra 0 50),(ra 0 51),(ra 0 52)] [50,51,52] (by kernel_rfl) [_,_,_,_,_,.bool (pO x.name),_,vi (bQ (!pO x.name) 13),_,_,_,undef,undef,undef,undef,undef,undef,undef,undef,undef,undef,undef,undef,undef,.bool (decide (0 < (k:Int)) && (x.name.toList == y.name.toList)),vi (bQ (decide (0 < (k:Int)) && (x.name.toList == y.name.toList)) 7),_,_,_,undef,undef,undef,undef,undef,undef,undef,undef,undef,undef,undef,undef,undef,.bool (decide (0 < (k:Int)) && Op.bytesLess x.name.toList y.name.toList),vi (bQ (decide (0 < (k:Int)) && Op.bytesLess x.name.toList y.name.toList) 6),_,_,_,_,_,vi (sU x.value)] H (aG (X0 rfl fun hG=>Rg oO rfl (ay hG hb)) (Z0 rfl (Rm rfl)) (Z2 0 4 1 5 rfl (Ri mX oQ rfl rfl)) (Z1 2 6 rfl (Rf Bg rfl)) (aG (X1 3 7 rfl fun hG=>Rg gD rfl (ay hG (hrow 0 _ rfl))) ?_ (Z1 5 9 rfl (Rn rfl)) ?_ (aG (Z0 rfl (Rm rfl)) (Z1 8 12 rfl (Rc rfl)) (Z1 9 13 rfl (Rm rfl)) (aX (j:=10) (by kernel_rfl) (fun _ _ _ _ _ h=>h) rfl rfl rfl rfl rfl (fun _ _ h=>aY h (aL (aR c0))) rfl (fun _=>rfl)) (aG (aX (j:=10) (by kernel_rfl) (fun _ _ _ _ _ h=>h) rfl rfl rfl rfl rfl (fun _ _ h=>aY h (aL (aR c0))) rfl (fun _=>rfl)) (aX (j:=10) (by kernel_rfl) (fun _ _ _ _ _ h=>h) rfl rfl rfl rfl rfl (fun _ _ h=>aY h (aL (aR c0))) rfl (fun _=>rfl)) (aX (j:=10) (by kernel_rfl) (fun _ _ _ _ _ h=>h) rfl rfl rfl rfl rfl (fun _ _ h=>aY h (aL (aR c0))) rfl (fun _=>rfl)) (aX (j:=10) (by kernel_rfl) (fun _ _ _ _ _ h=>h) rfl rfl rfl rfl rfl (fun _ _ h=>aY h (aL (aR c0))) rfl (fun _=>rfl)) (aG (aX (j:=10) (by kernel_rfl) (fun _ _ _ _ _ h=>h) rfl rfl rfl rfl rfl (fun _ _ h=>aY h (aL (aR c0))) rfl (fun _=>rfl)) (aX (j:=10) (by kernel_rfl) (fun _ _ _ _ _ h=>h) rfl rfl rfl rfl rfl (fun _ _ h=>aY h (aL (aR c0))) rfl (fun _=>rfl)) (aX (j:=10) (by kernel_rfl) (fun _ _ _ _ _ h=>h) rfl rfl rfl rfl rfl (fun _ _ h=>aY h (aL (aR c0))) rfl (fun _=>rfl)) (aX (j:=10) (by kernel_rfl) (fun _ _ _ _ _ h=>h) rfl rfl rfl rfl rfl (fun _ _ h=>aY h (aL (aR c0))) rfl (fun _=>rfl)) (aG (aX (j:=10) (by kernel_rfl) (fun _ _ _ _ _ h=>h) rfl rfl rfl rfl rfl (fun _ _ h=>aY h (aL (aR c0))) rfl (fun _=>rfl)) (aX (j:=10) (by kernel_rfl) (fun _ _ _ _ _ h=>h) rfl rfl rfl rfl rfl (fun _ _ h=>aY h (aL (aR c0))) rfl (fun _=>rfl)) (aX (j:=10) (by kernel_rfl) (fun _ _ _ _ _ h=>h) rfl rfl rfl rfl rfl (fun _ _ h=>aY h (aL (aR c0))) rfl (fun _=>rfl)) (aX (j:=10) (by kernel_rfl) (fun _ _ _ _ _ h=>h) rfl rfl rfl rfl rfl (fun _ _ h=>aY h (aL (aR c0))) rfl (fun _=>rfl)) (aG ?_ ?_ (Z0 rfl (Rm rfl)) (Z1 26 30 rfl (Rc rfl)) (aG (Z1 27 31 rfl (Rm rfl)) (aX (j:=28) (by kernel_rfl) (fun _ _ _ _ _ h=>h) rfl rfl rfl rfl rfl (fun _ _ h=>aY h (aL (aR c0))) rfl (fun _=>rfl)) (aX (j:=28) (by kernel_rfl) (fun _ _ _ _ _ h=>h) rfl rfl rfl rfl rfl (fun _ _ h=>aY h (aL (aR c0))) rfl (fun _=>rfl)) (aX (j:=28) (by kernel_rfl) (fun _ _ _ _ _ h=>h) rfl rfl rfl rfl rfl (fun _ _ h=>aY h (aL (aR c0))) rfl (fun _=>rfl)) (aG (aX (j:=28) (by kernel_rfl) (fun _ _ _ _ _ h=>h) rfl rfl rfl rfl rfl (fun _ _ h=>aY h (aL (aR c0))) rfl (fun _=>rfl)) (aX (j:=28) (by kernel_rfl) (fun _ _ _ _ _ h=>h) rfl rfl rfl rfl rfl (fun _ _ h=>aY h (aL (aR c0))) rfl (fun _=>rfl)) (aX (j:=28) (by kernel_rfl) (fun _ _ _ _ _ h=>h) rfl rfl rfl rfl rfl (fun _ _ h=>aY h (aL (aR c0))) rfl (fun _=>rfl)) (aX (j:=28) (by kernel_rfl) (fun _ _ _ _ _ h=>h) rfl rfl rfl rfl rfl (fun _ _ h=>aY h (aL (aR c0))) rfl (fun _=>rfl)) (aG (aX (j:=28) (by kernel_rfl) (fun _ _ _ _ _ h=>h) rfl rfl rfl rfl rfl (fun _ _ h=>aY h (aL (aR c0))) rfl (fun _=>rfl)) (aX (j:=28) (by kernel_rfl) (fun _ _ _ _ _ h=>h) rfl rfl rfl rfl rfl (fun _ _ h=>aY h (aL (aR c0))) rfl (fun _=>rfl)) (aX (j:=28) (by kernel_rfl) (fun _ _ _ _ _ h=>h) rfl rfl rfl rfl rfl (fun _ _ h=>aY h (aL (aR c0))) rfl (fun _=>rfl)) (aX (j:=28) (by kernel_rfl) (fun _ _ _ _ _ h=>h) rfl rfl rfl rfl rfl (fun _ _ h=>aY h (aL (aR c0))) rfl (fun _=>rfl)) (aG (aX (j:=28) (by kernel_rfl) (fun _ _ _ _ _ h=>h) rfl rfl rfl rfl rfl (fun _ _ h=>aY h (aL (aR c0))) rfl (fun _=>rfl)) (aX (j:=28) (by kernel_rfl) (fun _ _ _ _ _ h=>h) rfl rfl rfl rfl rfl (fun _ _ h=>aY h (aL (aR c0))) rfl (fun _=>rfl)) ?_ ?_ (aG (X0 rfl fun hG=>Rg oO rfl (ay hG hb)) (Z0 rfl (Rm rfl)) (Z2 44 48 45 49 rfl (Ri mX oQ rfl rfl)) (Z1 46 50 rfl (Rf RH rfl)) (aG (X1 47 51 rfl fun hG=>Rg gD rfl (ay hG (hrow 1 _ rfl))) ?_ (bY rfl) (bY rfl) (bq (bY rfl) dD)))))))))))))) ?_
 ·refine dN 4 8 rfl rfl fun _ a w G1 hG HT H fin=>?_;refine s_call KT H wn rfl (KL _ _ H.ro x.name hte.1) rfl ?_;clear H;rintro v9 G9 a w ⟨rfl,-⟩ Fa H;exact fin H Fa (rfl)
 ·refine dN 6 10 rfl rfl fun _ a w G1 hG HT H fin=>?_;refine s_call kD H wn rfl (kI _ _ H.ro _ 13) rfl ?_;clear H;rintro v11 wh a w ⟨rfl,-⟩ qQ H;exact fin H qQ (rfl)
 ·refine eu 10 14 23 27 rfl rfl fun _ a w G1 hG HT H fin=>?_;refine kH H (Pf (aR c0) rfl ?_);clear H;intro a H;exact fin H iJ (aL (by first|(rw [gW c0,vg];done)|(rw [fZ c0,uw];done)))
 ·refine dN 24 28 rfl rfl fun _ a w G1 hG HT H fin=>?_;refine s_call kD H wn rfl (kI _ _ H.ro _ 7) rfl ?_;clear H;rintro v29 ug a w ⟨rfl,-⟩ Ho H;exact fin H Ho (rfl)
 ·refine eu 28 32 41 45 rfl rfl fun _ a w G1 hG HT H fin=>?_;refine kH H (Pf (aR c0) rfl ?_);clear H;intro a H;exact fin H iJ (aL (by first|(rw [gW c0,vg];done)|(rw [fZ c0,uw];done)))
 ·refine dN 42 46 rfl rfl fun _ a w G1 hG HT H fin=>?_;refine s_call kD H wn rfl (kI _ _ H.ro _ 6) rfl ?_;clear H;rintro v47 Qs a w ⟨rfl,-⟩ D5 H;exact fin H D5 (rfl)
 ·refine dN 48 52 rfl rfl fun _ a w G1 hG HT H fin=>?_;refine s_call Q9 H wn rfl (Vp _ _ H.ro x.value hte.2) rfl ?_;clear H;rintro v53 VY a w rfl LB H;exact fin H LB (rfl)
 clear H;intro a w G jY H hv;have H:=H.aZ (hv 7 11 rfl rfl) rfl;have H:=H.aZ (hv 25 29 rfl rfl) rfl;have H:=H.aZ (hv 43 47 rfl rfl) rfl;have H:=H.aZ (hv 49 53 rfl rfl) rfl;clear hv;refine jJ qZ iW [_,_,_,_] [_,_,_,_] H wn rfl rfl rfl rfl rfl (by intro i q h;match i,h with|0,h=>exact h|1,h=>exact h|2,h=>exact h|3,h=>exact h|n+4,h=>simp at h) rfl rfl ?_;clear H;intro b54 a w aiC H;obtain ⟨G54,aju,SY,H⟩:=H.eG;refine s_call sj H wn rfl (sw _ _ H.ro _ _ (Ig [bQ (!pO x.name) 13,bQ (decide (0 < (k:Int)) && (x.name.toList == y.name.toList)) 7,bQ (decide (0 < (k:Int)) && Op.bytesLess x.name.toList y.name.toList) 6,sU x.value] SY (show 4≤maxLen by decide))) rfl ?_;clear H;rintro v55 _ a w ⟨rfl,rfl⟩ - H;refine kH H (Ra rfl ?_);clear H;intro a H;refine aH ⟨rfl,?_⟩;refine K2 _ _ ?_;clear K2;refine lr H results165 rfl ?_;exact H.rt (by rw [he];rfl)
def Aj (l:List iE):Int:=bT [bQ (decide (128 < (l.length:Int))) 9,iI (xw l) (min l.length 128)]
theorem adx (G:GH) (w0:World) (hG:Hold G w0) (l:List iE) (v:ak) (hv:au G (.sl 2 (l.map iE.dat)) v) (hl:l.length≤4294967296) (ht:∀ x∈l,x.name.size < 4611686018427387904∧x.value.size < 4611686018427387904) :
  Calls prog 122 #[v] w0 (bJ w0 G fun u G'=>u=vi (Aj l)):=by
 obtain ⟨A,c,rfl,hc1,hc2,-⟩:=hv.slice;rw [bV] at *;refine eN [(0,_)] func122 rfl ntmps122 rfl rfl hG ?_;intro a H;refine dw (fun _ K1=>?_);refine eD (cs:=[_]) H wn rfl rfl rfl ?_;clear H;intro b1 a w hb1 H;refine kH H (aj K1 rfl (SQ fun _ K2=>?_));clear H K1;intro a H;have H:=H.sub (T':=[(1,_)]) ⟨rfl,aC⟩;obtain ⟨Ga,hma,hb1',H⟩:=H.eG
 have hbl:aF Ga b1 0=some (.slice A l.length c):=by unfold aF;rw [hb1'];rfl
 have hcb:=anX hbl (hv.mono hma) hl ht;refine dI hmx [[],[0],[0,1],[0,1,2],[],[4],[4,5],[],(ra 0 8),(ra 0 9),(ra 0 10),(ra 0 11)] [9,10,11] (by kernel_rfl) [_,_,_,vi (bQ (decide (128 < (l.length:Int))) 9),_,_,vi ((min l.length 128:Nat):Int),.func (.func 165) #[] #[(aM b1 0)],vi (iI (xw l) (min l.length 128))] H (aG (X0 rfl fun hG=>Rg oO rfl (ay hG hbl)) (Z1 0 3 rfl (Rl mX rfl)) (Z1 1 4 rfl (Rc rfl)) ?_ (aG (X0 rfl fun hG=>Rg oO rfl (ay hG hbl)) (Z1 4 7 rfl (Rl mX rfl)) ?_ ?_ (aG ?_ (bY rfl) (bY rfl) (bY rfl) dD))) ?_
 ·refine dN 2 5 rfl rfl fun _ a w G1 hG HT H fin=>?_;refine s_call kD H wn rfl (kI _ _ H.ro _ 9) rfl ?_;clear H;rintro v6 G6 a w ⟨rfl,-⟩ fH H;exact fin H fH (rfl)
 ·refine dN 5 8 rfl rfl fun _ a w G1 hG HT H fin=>?_;refine PZ H wn rfl rfl rfl ?_;clear H;intro a H;exact fin H iJ (aB vi (by omega))
 ·refine yR rfl fun _ a w G1 hG HT H fin=>?_;refine qX H wn rfl rfl ?_;clear H;intro a H;exact fin H iJ rfl
 ·refine eu 6 9 7 10 rfl rfl fun _ a w G1 hG HT H fin=>?_;refine s_call Jj H wn rfl (KF _ _ H.ro (min l.length 128) (xw l) _ (by omega) ((hcb.mono hG).le (Nat.min_le_left _ _))) rfl ?_;clear H;rintro v11 wh a w rfl qQ H;exact fin H qQ (rfl)
 clear H;intro a w G jY H hv;have H:=H.aZ (hv 3 6 rfl rfl) rfl;have H:=H.aZ (hv 8 11 rfl rfl) rfl;clear hv;refine jJ qZ iW [_,_] [_,_] H wn rfl rfl rfl rfl rfl (by intro i q h;match i,h with|0,h=>exact h|1,h=>exact h|n+2,h=>simp at h) rfl rfl ?_;clear H;intro b12 a w Fg H;obtain ⟨Dp,BA,Ht,H⟩:=H.eG;refine s_call sj H wn rfl (sw _ _ H.ro _ _ (AQ Ht)) rfl ?_;clear H;rintro v13 _ a w ⟨rfl,rfl⟩ - H;refine kH H (Ra rfl ?_);clear H;intro a H;refine aH ⟨rfl,?_⟩;refine K2 _ _ ?_;clear K2;refine lr H results122 rfl ?_;exact H.rt rfl
structure rD where
 styles:List bL
 lists:List dH
 comments:List fq
 vars:List iE
structure tq (G:GH) (s:rD) (a b c d:ak):Prop where
 st:au G (.sl 6 (s.styles.map bL.dat)) a
 li:au G (.sl 2 (s.lists.map dH.dat)) b
 cm:au G (.sl 6 (s.comments.map fq.dat)) c
 va:au G (.sl 2 (s.vars.map iE.dat)) d
structure KE (s:rD):Prop where
 sn:∀ x∈s.styles,x.name.size≤4611686018427387904
 ln:s.lists.length≤4294967296
 lt:∀ x∈s.lists,∀ y∈x.levels,y.zU.size < 4611686018427387904
 cn:s.comments.length≤4294967296
 ct:∀ x∈s.comments,x.author.size < 4611686018427387904∧x.text.size < 4611686018427387904
 vn:s.vars.length≤4294967296
 vt:∀ x∈s.vars,x.name.size < 4611686018427387904∧x.value.size < 4611686018427387904
 pl:∀ x∈s.styles,x.props.length≤4294967296
 ll:∀ x∈s.lists,x.levels.length≤4294967296
def lF (s:rD):Int:=bT [gI s.styles,wF s.lists,uE s.comments,Aj s.vars]
theorem adw (G:GH) (w0:World) (hG:Hold G w0) (s:rD) (a b c d:ak) (hR:tq G s a b c d) (hz:KE s) :
  Calls prog 66 #[.agg #[a,b,c,d]] w0 (bJ w0 G fun u G'=>u=vi (lF s)):=by
 obtain ⟨sA,sn,sc,rfl⟩:=hR.st.form;obtain ⟨lA,ln,lc,rfl⟩:=hR.li.form;obtain ⟨cA,cn,cc,rfl⟩:=hR.cm.form;obtain ⟨vA,vn,vc,rfl⟩:=hR.va.form;refine eN [(0,_)] func66 rfl ntmps66 rfl rfl hG ?_;intro a H;refine dw (fun _ K1=>?_);refine eD (cs:=[_,_,_,_]) H wn rfl rfl rfl ?_;clear H;intro b1 a w hb1 H;refine kH H (aj K1 rfl (SQ fun _ K2=>?_));clear H K1;intro a H;have H:=H.sub (T':=[(1,_)]) ⟨rfl,aC⟩;obtain ⟨Ga,hma,hb1',H⟩:=H.eG
 have hc0:aF Ga b1 0=some (.slice sA sn sc):=by unfold aF;rw [hb1'];rfl
 have hc1:aF Ga b1 1=some (.slice lA ln lc):=by unfold aF;rw [hb1'];rfl
 have hc2:aF Ga b1 2=some (.slice cA cn cc):=by unfold aF;rw [hb1'];rfl
 have hc3:aF Ga b1 3=some (.slice vA vn vc):=by unfold aF;rw [hb1'];rfl
 refine dI hmx [[],[0],[0,1],[],[3],(ra 0 5),[],[6],(ra 0 8),[],[9],(ra 0 11),(ra 0 12),(ra 0 13),(ra 0 14)] [12,13,14] (by kernel_rfl) [_,_,vi (gI s.styles),_,_,vi (wF s.lists),_,_,vi (uE s.comments),_,_,vi (Aj s.vars)] H (aG (Z0 rfl (Rf vI rfl)) (X1 0 3 rfl fun hG=>Rg nu rfl (ay hG hc0)) ?_ (Z0 rfl (Rf lX rfl)) (aG (X1 3 6 rfl fun hG=>Rg kR rfl (ay hG hc1)) ?_ (Z0 rfl (Rf wJ rfl)) (X1 6 9 rfl fun hG=>Rg rV rfl (ay hG hc2)) (aG ?_ (Z0 rfl (Rf wK rfl)) (X1 9 12 rfl fun hG=>Rg oO rfl (ay hG hc3)) ?_ (bq (bY rfl) (bq (bY rfl) (bq (bY rfl) dD)))))) ?_
 ·refine dN 1 4 rfl rfl fun _ a w G1 hG HT H fin=>?_;refine s_call XH H wn rfl (W9 _ _ H.ro s.styles _ ((hR.st.mono hma).mono hG) hz.sn) rfl ?_;clear H;rintro v5 G5 a w rfl zy H;exact fin H zy (rfl)
 ·refine dN 4 7 rfl rfl fun _ a w G1 hG HT H fin=>?_;refine s_call aeJ H wn rfl (adt _ _ H.ro s.lists _ ((hR.li.mono hma).mono hG) hz.ln hz.lt) rfl ?_;clear H;rintro v8 G8 a w rfl rG H;exact fin H rG (rfl)
 ·refine dN 7 10 rfl rfl fun _ a w G1 hG HT H fin=>?_;refine s_call aeK H wn rfl (ads _ _ H.ro s.comments _ ((hR.cm.mono hma).mono hG) hz.cn hz.ct) rfl ?_;clear H;rintro v11 wh a w rfl qQ H;exact fin H qQ (rfl)
 ·refine dN 10 13 rfl rfl fun _ a w G1 hG HT H fin=>?_;refine s_call aeL H wn rfl (adx _ _ H.ro s.vars _ ((hR.va.mono hma).mono hG) hz.vn hz.vt) rfl ?_;clear H;rintro v14 IU a w rfl DY H;exact fin H DY (rfl)
 clear H;intro a w G jY H hv;have H:=H.aZ (hv 2 5 rfl rfl) rfl;have H:=H.aZ (hv 5 8 rfl rfl) rfl;have H:=H.aZ (hv 8 11 rfl rfl) rfl;have H:=H.aZ (hv 11 14 rfl rfl) rfl;clear hv;refine jJ qZ iW [_,_,_,_] [_,_,_,_] H wn rfl rfl rfl rfl rfl (by intro i q h;match i,h with|0,h=>exact h|1,h=>exact h|2,h=>exact h|3,h=>exact h|n+4,h=>simp at h) rfl rfl ?_;clear H;intro b15 a w SX H;obtain ⟨Ez,yg,aiu,H⟩:=H.eG;refine s_call sj H wn rfl (sw _ _ H.ro _ _ (Ig [gI s.styles,wF s.lists,uE s.comments,Aj s.vars] aiu (show 4≤maxLen by decide))) rfl ?_;clear H;rintro v16 _ a w ⟨rfl,rfl⟩ - H;refine kH H (Ra rfl ?_);clear H;intro a H;refine aH ⟨rfl,?_⟩;refine K2 _ _ ?_;clear K2;refine lr H results66 rfl ?_;exact H.rt rfl
end
section
open Go.RowKit
def yC:Nat→List (Int × ak)→List MapEntry
 | _,[]=>[]
 | i,(k,v) :: r=>⟨.int .i64 k,v,i⟩ :: yC (i+1) r
theorem aaj (x:Int × ak):∀ (i:Nat) (l:List (Int × ak)),yC i (l++[x])=yC i l++[⟨.int .i64 x.1,x.2,i+l.length⟩]
 | _,[]=>rfl
 | i,k :: r=>by
  rw [oG,yC,aaj x (i+1) r,yC,oG,qH,show i+1+r.length=i+(r.length+1) by omega]
def uS (x:Int):List (Int × ak)→Option ak
 | []=>none
 | (k,v) :: r=>if k=x then some v else uS x r
theorem Pm {x:Int}:∀ {l:List (Int × ak)},x∉l.map (·.1)→uS x l=none
 | [],_=>rfl
 | (k,v) :: r,h=>by
  rw [uS,ah (fun e=>h (by simp [e])),Pm (fun hm=>h (nE _ hm))]
theorem RJ (x:Int):∀ (i j:Nat) (l:List (Int × ak)),∃ an,Instr.findNow (.int .i64) (.int .i64 x) (yC i l) j=some an∧an.map (·.2)=uS x l
 | _,_,[]=>⟨none,rfl,rfl⟩
 | i,j,(k,v) :: r=>by
  obtain ⟨an,h1,h2⟩:=RJ x (i+1) (j+1) r
  by_cases e:k=x
  ·subst e
   exact ⟨some (j,v),by simp only [yC,Instr.findNow,Instr.sameNow,av,beq_self_eq_true],by rw [uS,av rfl];rfl⟩
  ·have hb:(x == k)=false:=by simp;exact fun h=>e h.symm
   exact ⟨an,by simpa only [yC,Instr.findNow,Instr.sameNow,av,hb] using h1,by rw [uS,ah e];exact h2⟩
abbrev gL (l:List (Int × ak)):Obj:=.map (yC 0 l).toArray l.length
section
variable {N:Nat} {D:List Deferred} {w0:World} {F:Nat→Prop} {G0 G:GH} {L:OL} {T:List (Nat × ak)}
variable {r:Option Nat} {P:Program} {ops:Array Oper} {Q:Exit→Act→World→Prop} {rest:List Oper} {a:Act} {w:World}
variable {d:Nat} {ty:TypeId} {pos:String} {aU:Array Edge} {g:Option (Nat × Bool)}
theorem BX {t kt et:TypeId} {x y:Operand} {b:Nat} {l:List (Int × ak)} {ky:Int} {zv:ak} (hm:P.underlying t=some (.map kt et)) (hk:P.underlying kt=some (.int .i64)) (hz:(P.info? et).map (fun i=>i.zero)=some (some zv)) (H:St N D w0 F G0 G L T a w)
  (hw:Region.wanted ⟨some d,.lookup t x y false,ty,pos,aU,g⟩ (yielded ops a.tmps)=true) (hx:ev T x=some (.map (some b))) (hy:ev T y=some (.int .i64 ky)) (hb:w.heap[b]?=some (gL l)) (hd:Nat.blt d N=true)
  (k:∀ a',St N D w0 F G0 G L ((d,(uS ky l).getD zv) :: T) a' w→WL r P ops Q rest a' w):WL r P ops Q (⟨some d,.lookup t x y false,ty,pos,aU,g⟩ :: rest) a w:=by
 obtain ⟨an,hf,han⟩:=RJ ky 0 0 l
 obtain ⟨inf,hi1,hi2⟩:=ql.1 hz
 refine gZ (v:=(uS ky l).getD zv) (w':=w) hw rfl ?_ (k _ (H.put hd _ H.hp))
 have hkey:MapKept.IsKey (.int .i64) (.int .i64 ky):=by trivial
 have hf2:Instr.findNow (.int .i64) (.int .i64 ky) (yC 0 l).toArray.toList 0=some an:=by simpa using hf
 replace hb:w.heap[b]?=some (.map (yC 0 l).toArray l.length):=hb
 generalize (yC 0 l).toArray=es at hb hf2
 have h1:=MapKept.run_checkKey (P:=P) (w:=w) hk hkey es.isEmpty 9999
 have h2:=MapKept.run_findKey (P:=P) (w:=w) hk hf2
 rw [← han]
 cases an with
 | none=>simp [execOp,Instr.lookup,H.ev hx,H.ev hy,eT,rT hm,MapKept.run_getObj_map hb,h1,h2,Result.andThen,zeroValue,Iw hi1,hi2]
 | some q=>simp [execOp,Instr.lookup,H.ev hx,H.ev hy,eT,rT hm,MapKept.run_getObj_map hb,h1,h2,Result.andThen]
theorem P6 {t kt et:TypeId} {x y z:Operand} {b i:Nat} {l:List (Int × ak)} {ky:Int} {v:ak} (hm:P.underlying t=some (.map kt et)) (hk:P.underlying kt=some (.int .i64)) (H:St N D w0 F G0 G L T a w)
  (hw:Region.wanted ⟨none,.mapUpdate t x y z,ty,pos,aU,g⟩ (yielded ops a.tmps)=true) (hx:ev T x=some (.map (some b))) (hy:ev T y=some (.int .i64 ky)) (hzv:ev T z=some v) (hi:L[i]?=some (b,gL l)) (hn:uS ky l=none)
  (k:∀ w',St N D w0 F G0 G (L.set i (b,gL (l++[(ky,v)]))) T a w'→WL r P ops Q rest a w'):WL r P ops Q (⟨none,.mapUpdate t x y z,ty,pos,aU,g⟩ :: rest) a w:=by
 obtain ⟨an,hf,han⟩:=RJ ky 0 0 l
 have hnone:an=none:=by
  rw [hn] at han
  cases an with
  | none=>rfl
  | some q=>cases han
 subst hnone
 refine aaP (i:=i) hm hk H hw hx hy hzv hi (by trivial) (by simpa using hf) ?_
 intro w' H'
 have e:(yC 0 l).toArray.push ⟨.int .i64 ky,v,l.length⟩=(yC 0 (l++[(ky,v)])).toArray:=by
  rw [aaj,List.push_toArray,lD]
 refine k w' ?_
 rw [e] at H'
 rw [gL,wE]
 exact H'
end
end
section
open Go.RowKit
theorem Dm:prog.underlying 150=some (.map 3 4):=by kernel_rfl
theorem nV:Ty prog 49 3 32 [.int .i64 0,.string ⟨#[]⟩,.int .i64 0] true:=⟨by kernel_rfl,by kernel_rfl⟩
theorem ank:uj prog 152 [(0,1),(1,1),(2,1),(3,1),(4,1),(5,1)] [.map none,.map none,.map none,.map none,.map none,.int .i64 0]:=⟨by kernel_rfl,by kernel_rfl⟩
theorem xQ:dV prog 38 3 7:=⟨by kernel_rfl⟩
theorem KZ:dV prog 152 0 0:=⟨by kernel_rfl⟩
theorem M0:Ty prog 149 1 8 [.map none] false:=⟨by kernel_rfl,by kernel_rfl⟩
theorem X4:dV prog 152 1 1:=⟨by kernel_rfl⟩
theorem Dl:Ty prog 150 1 8 [.map none] false:=⟨by kernel_rfl,by kernel_rfl⟩
theorem qM:dV prog 38 2 6:=⟨by kernel_rfl⟩
theorem ow:Ty prog 30 1 24 [.slice none 0 0] false:=⟨by kernel_rfl,by kernel_rfl⟩
theorem mH:prog.underlying 30=some (.slice 49):=by kernel_rfl
theorem La:dV prog 152 2 2:=⟨by kernel_rfl⟩
theorem Lg:dV prog 49 0 0:=⟨by kernel_rfl⟩
structure dh where
 id:Int
 author:ByteArray
 time:Int
def dh.dat (x:dh):List Dat:=[li x.id,.lf (.string x.author),li x.time]
abbrev dh.cells (x:dh):List ak:=[vi x.id,.string x.author,vi x.time]
theorem PV {G:GH} {x:dh} {cs:List ak} (h:bH G x.dat cs):cs=x.cells:=by
 simp only [dh.dat,bH,au] at h
 obtain ⟨_,_,rfl,⟨rfl,_⟩,_,_,rfl,⟨rfl,_⟩,_,_,rfl,⟨rfl,_⟩,rfl⟩:=h
 rfl
theorem JY {G:GH} {l:List dh} {A:Option Addr} {n c k:Nat} (hv:au G (.sl 3 (l.map dh.dat)) (.slice A n c)) (hk:k < l.length):∃ b o,A=some ⟨b,o,none⟩∧(∀ j u,l[k].cells[j]?=some u→aF G b (o+k*3+j)=some u):=by
 obtain ⟨A',c',he,_,_,hg⟩:=hv.slice
 injection he with e1 e2 e3
 subst e1;obtain ⟨b,o,cs,h1,h2,h3,h4⟩:=hg k l[k].dat (by simp [hk]);have:=PV h4;subst this;exact ⟨b,o,h1,h3⟩
abbrev gN (b ms ml mr mb mu:Nat) (n:Int):Nat × Obj:=(b,.cells #[.map (some ms),.map (some ml),.map (some mr),.map (some mb),.map (some mu),vi n] 152 (0,0))
def C9 (l:List bL):List (Int × ak):=l.map fun s=>(s.id,vi s.kind)
def gT (l:List Int):List (Int × ak):=l.map fun k=>(k,.bool true)
structure xC (G:GH) (st:List bL) (li:List dH) (rv:List dh) (ms ml mr mu:Nat):Prop where
 sty:G ms=some (gL (C9 st))
 yw:G ml=some (gL (gT (li.map dH.id)))
 rev:G mr=some (gL (gT (rv.map dh.id)))
 use:G mu=some (gL [])
theorem xC.mono {G G':GH} {st:List bL} {li:List dH} {rv:List dh} {ms ml mr mu:Nat} (h:xC G st li rv ms ml mr mu) (hm:∀ b o,G b=some o→G' b=some o):xC G' st li rv ms ml mr mu:=⟨hm _ _ h.sty,hm _ _ h.yw,hm _ _ h.rev,hm _ _ h.use⟩
def Ab (l:List Int):Prop:=∀ (k:Nat) (h:k < l.length),l[k]∉l.take k
theorem ala {l:List bL} {k:Nat} (h:k < l.length):C9 (l.take (k+1))=C9 (l.take k)++[(l[k].id,vi l[k].kind)]:=by rw [C9,iG h,List.map_append];rfl
theorem aah {l:List Int} {k:Nat} (h:k < l.length):gT (l.take (k+1))=gT (l.take k)++[(l[k],.bool true)]:=by rw [gT,iG h,List.map_append];rfl
theorem akZ {l:List bL} {k:Nat} (f:Ab (l.map bL.id)) (h:k < l.length):uS l[k].id (C9 (l.take k))=none:=by
 refine Pm ?_;have:=f k (by simpa using h)
 simpa [C9,List.map_take,List.map_map,Function.comp_def] using this
theorem aag {l:List Int} {k:Nat} (f:Ab l) (h:k < l.length):uS l[k] (gT (l.take k))=none:=by
 refine Pm ?_;have:=f k h
 simpa [gT,List.map_map,Function.comp_def] using this
theorem ali (G:GH) (w0:World) (hO:ig G [] w0) (D:jS) (st:List bL) (li:List dH) (rv:List dh) (hst:au G (.sl 6 (st.map bL.dat)) (aK D.s1)) (wS:au G (.sl 2 (li.map dH.dat)) (aK D.s2)) (mU:au G (.sl 3 (rv.map dh.dat)) (aK D.r))
  (f1:Ab (st.map bL.id)) (f2:Ab (li.map dH.id)) (f3:Ab (rv.map dh.id)) (z1:st.length≤4294967296) (z2:li.length≤4294967296) (z3:rv.length≤4294967296) :
  Calls prog 68 #[D.val] w0 (gy w0 G [] fun u G' L'=>∃ b ms ml mr mb mu,u=(aM b 0)∧L'=[gN b ms ml mr mb mu 0,(mb,gL [])]∧xC G' st li rv ms ml mr mu):=by
 obtain ⟨df,dp,dd,dy,⟨rA,rn,rc⟩,⟨sA,sn,sc⟩,⟨lA,ln,lc⟩,d3,d4,ins,mv⟩:=D;dsimp only at hst wS mU
 obtain rfl:sn=st.length:=by have:=hst.len;simpa using this
 obtain rfl:ln=li.length:=by have:=wS.len;simpa using this
 obtain rfl:rn=rv.length:=by have:=mU.len;simpa using this
 have hml:maxLen=9223372036854775807:=rfl;refine jB (N:=64) (T:=[(0,_)]) func68 rfl ntmps68 rfl rfl hO ?_;intro a H;refine dw (fun _ K1=>?_);refine eD (cs:=[_,_,_,_,_,_,_,_,_,_,_]) H wn rfl rfl rfl ?_;clear H;intro b1 a w hb1 H;refine kH H (aj K1 rfl (SQ fun _ K2=>?_));clear H K1;intro a H;obtain ⟨Ga,hma,hb1',H⟩:=H.eG
 have Ou:aF Ga b1 7=some (.slice sA st.length sc):=by unfold aF;rw [hb1'];rfl
 have hc8:aF Ga b1 8=some (.slice lA li.length lc):=by unfold aF;rw [hb1'];rfl
 have hc6:aF Ga b1 6=some (.slice rA rv.length rc):=by unfold aF;rw [hb1'];rfl
 replace hst:=hst.mono hma;replace wS:=wS.mono hma;replace mU:=mU.mono hma;refine nG ?_;refine J3 H wn rfl ?_;clear H;intro b10 a w Hq H;refine J3 H wn rfl ?_;clear H;intro b11 a w Hr H;refine J3 H wn rfl ?_;clear H;intro b12 a w Fg H;refine J3 H wn rfl ?_;clear H;intro b13 a w Jw H;refine J3 H wn rfl ?_;clear H;intro b14 a w Yz H;refine nk ank [_,_,_,_,_,_] H wn rfl rfl rfl rfl ?_;clear H;intro a H;refine eD (cs:=[_,_,_,_,_,_]) H wn rfl rfl rfl ?_;clear H;intro b16 a w aiv H;refine kH H (aO K2 rfl (SQ fun _ K3=>SR fun _ K4=>Rf xQ rfl (Rf vI rfl (Rg nu rfl (by assumption) ?_))));clear H K2;intro a H;refine kH H (Rl ko rfl (Rm rfl (Kz K4 (SB ?_))));clear H K4;intro a H;skip;refine eH (ι:=Nat × GH) (Tc:=[(1,_),(3,_),(19,_),(20,_)]) (Lc:=[(_,_),(_,_),(_,_),(_,_),(_,_)]) (fun gh=>[(21,vi gh.1)]) (fun gh=>[(b10,gL (C9 (st.take gh.1)))]) (fun gh=>gh.2) (fun gh=>gh.1≤st.length∧(∀ b o,Ga b=some o→gh.2 b=some o)) (fun gh=>st.length - gh.1) ((0,Ga)) (by exact (H).sub ⟨rfl,rfl,rfl,rfl,rfl,aC⟩) ?_ ?_
 ·exact ⟨iF _,fun _ _ h=>h⟩
 clear H;intro gh a w hI H;obtain ⟨k,g1⟩:=gh;dsimp only at hI H;obtain ⟨hk,JG⟩:=hI;dsimp only [lca,aV] at H;refine kP H (SR fun _ K5=>Rc rfl (Kz K5 (SQ fun _ K6=>Cd rfl ?_ ?_))) <;> clear H K5
 ·intro h22 a H
  try have jI:=dT h22
  have hk2:k < st.length:=by omega
  obtain ⟨xb,xo,pA,pc,rfl,hrow,-,-⟩:=BZ (hst.mono JG) hk2;have hnew:=akZ f1 hk2;refine kP H (Kc K6 (SQ fun _ K7=>SB (SR fun _ K8=>Ri ko iR rfl rfl ?_)));clear H K6;intro a H;refine aW iR (cs:=_) H wn rfl rfl (fun j v hj=>H.hp.aF (hrow j v hj)) rfl ?_;clear H;intro a H;refine dU iR H wn rfl ?_;clear H;intro b5 a w hb5 H;refine bN iR 0 (vs:=[_,_,_,_,_,_]) _ H wn rfl rfl rfl rfl rfl rfl rfl rfl ?_;clear H;intro w H;dsimp only [List.set,setRow] at H;refine K8 _ _ ?_;clear K8;refine dI hmx [[],[0],[0,1],[0,1,2],[],[4],[],[6],(ra 0 8)] [8] (by kernel_rfl) [_,_,_,.map (some b10),_,vi st[k].id,_,vi st[k].kind] H (aG (Z0 rfl (Rm rfl)) (Z1 0 25 rfl (Rk rfl)) (Z1 1 26 rfl (Rf KZ rfl)) (Z1 2 27 rfl (Ro M0 1 rfl)) (aG (Z0 rfl (Rf uK rfl)) (Z1 4 29 rfl (Ro aD 0 rfl)) (Z0 rfl (Rf wH rfl)) (Z1 6 31 rfl (Ro aD 0 rfl)) (bq (bY rfl) dD))) ?_
  clear H;intro a w G zy H hv;have H:=H.aZ (hv 3 28 rfl rfl) rfl;have H:=H.aZ (hv 5 30 rfl rfl) rfl;have H:=H.aZ (hv 7 32 rfl rfl) rfl;clear hv;refine P6 (i:=6) IB qh H wn rfl rfl rfl rfl hnew ?_;clear H;intro w H;dsimp only [List.set,List.append,lca,aV] at H;rw [← ala hk2] at H;refine aH ⟨rfl,?_⟩;refine K7 _ _ ?_;clear K7;refine kP H (SC (Rd rfl (Rm rfl ?_)));clear H;intro a H;refine aH ?_;refine dK ((k+1,G)) (by exact (H.dS (Pl:=[_,_,_,_,_,_,_]) (dL:=[_,_,_,_,_,_]) [1,2,3,4,5,6] (by decide) rfl).sub ⟨rfl,rfl,rfl,rfl,rfl,aC⟩) ?_ ?_
  ·(try dsimp only);exact ⟨by omega,fun b o h=>zy b o (JG b o h)⟩
  first|omega|(dsimp only;omega)
 intro h22 a H
 try have jI:=dF h22
 obtain rfl:k=st.length:=by omega
 rw [List.take_length] at H;have aoX:=ay JG hc8;refine dW ?_;refine K3 _ _ ?_;clear K3;refine kP H (SQ fun _ K9=>SR fun _ aT=>Rf xQ rfl (Rf lX rfl (Rg kR rfl (by assumption) ?_)));clear H;intro a H;refine kH H (Rl jE rfl (Rm rfl (Kz aT (SB ?_))));clear H aT;intro a H;skip;refine eH (ι:=Nat × GH) (Tc:=[(1,_),(3,_),(36,_),(37,_)]) (Lc:=[(_,_),(_,_),(_,_),(_,_),(_,_)]) (fun gh=>[(38,vi gh.1)]) (fun gh=>[(b11,gL (gT ((li.map dH.id).take gh.1)))]) (fun gh=>gh.2) (fun gh=>gh.1≤li.length∧(∀ b o,g1 b=some o→gh.2 b=some o)) (fun gh=>li.length - gh.1) ((0,g1)) (by exact (H.dS (Pl:=[_,_,_,_,_,_]) (dL:=[_,_,_,_,_,_]) [0,1,2,3,5,4] (by decide) rfl).sub ⟨rfl,rfl,rfl,rfl,rfl,aC⟩) ?_ ?_
 ·exact ⟨iF _,fun _ _ h=>h⟩
 clear H;intro gh a w hI H;obtain ⟨k,g2⟩:=gh;dsimp only at hI H;obtain ⟨hk,OG⟩:=hI;dsimp only [lca,aV] at H;refine kP H (SR fun _ bB=>Rc rfl (Kz bB (SQ fun _ bC=>Cd rfl ?_ ?_))) <;> clear H bB
 ·intro lT a H
  try have p39:=dT lT
  have hk2:k < li.length:=by omega
  obtain ⟨xb,xo,B,d,rfl,hrow,-⟩:=Ik ((wS.mono JG).mono OG) hk2
  have hk3:k < (li.map dH.id).length:=by simpa using hk2
  have hnew:=aag f2 hk3
  have Ap:(li.map dH.id)[k]=li[k].id:=by simp
  rw [Ap] at hnew;refine kP H (Kc bC (SQ fun _ bK=>SB (SR fun _ bP=>Ri jE jR rfl rfl ?_)));clear H bC;intro a H;refine aW jR (cs:=_) H wn rfl rfl (fun j v hj=>H.hp.aF (hrow j v hj)) rfl ?_;clear H;intro a H;refine dU jR H wn rfl ?_;clear H;intro b7 a w vM H;refine bN jR 0 (vs:=[_,_]) _ H wn rfl rfl rfl rfl rfl rfl rfl rfl ?_;clear H;intro w H;dsimp only [List.set,setRow] at H;refine bP _ _ ?_;clear bP;refine dI hmx [[],[0],[0,1],[0,1,2],[],[4],(ra 0 6)] [6] (by kernel_rfl) [_,_,_,.map (some b11),_,vi li[k].id] H (aG (Z0 rfl (Rm rfl)) (Z1 0 42 rfl (Rk rfl)) (Z1 1 43 rfl (Rf X4 rfl)) (Z1 2 44 rfl (Ro Dl 1 rfl)) (bq (Z0 rfl (Rf zl rfl)) (bq (Z1 4 46 rfl (Ro aD 0 rfl)) (bq (bY rfl) dD)))) ?_
  clear H;intro a w G pW H hv;have H:=H.aZ (hv 3 45 rfl rfl) rfl;have H:=H.aZ (hv 5 47 rfl rfl) rfl;clear hv;refine P6 (i:=6) Dm qh H wn rfl rfl rfl rfl hnew ?_;clear H;intro w H;dsimp only [List.set,List.append,lca,aV] at H;rw [← Ap,← aah hk3] at H;refine aH ⟨rfl,?_⟩;refine bK _ _ ?_;clear bK;refine kP H (SC (Rd rfl (Rm rfl ?_)));clear H;intro a H;refine aH ?_;refine dK ((k+1,G)) (by exact (H.dS (Pl:=[_,_,_,_,_,_,_]) (dL:=[_,_,_,_,_,_]) [1,2,3,4,5,6] (by decide) rfl).sub ⟨rfl,rfl,rfl,rfl,rfl,aC⟩) ?_ ?_
  ·(try dsimp only);exact ⟨by omega,fun b o h=>pW b o (OG b o h)⟩
  first|omega|(dsimp only;omega)
 intro lT a H
 try have p39:=dF lT
 obtain rfl:k=li.length:=by omega
 rw [iH (by simp)] at H;have aoW:=ay OG (ay JG hc6);refine dW ?_;refine K9 _ _ ?_;clear K9;refine kP H (SQ fun _ dx=>SR fun _ dP=>Rf qM rfl (Rg ow rfl (by assumption) ?_));clear H;intro a H;refine kH H (Rl mH rfl (Rm rfl (Kz dP (SB ?_))));clear H dP;intro a H;skip;refine eH (ι:=Nat × GH) (Tc:=[(3,_),(50,_),(51,_)]) (Lc:=[(_,_),(_,_),(_,_),(_,_),(_,_)]) (fun gh=>[(52,vi gh.1)]) (fun gh=>[(b12,gL (gT ((rv.map dh.id).take gh.1)))]) (fun gh=>gh.2) (fun gh=>gh.1≤rv.length∧(∀ b o,g2 b=some o→gh.2 b=some o)) (fun gh=>rv.length - gh.1) ((0,g2)) (by exact (H.dS (Pl:=[_,_,_,_,_,_]) (dL:=[_,_,_,_,_,_]) [0,1,2,4,5,3] (by decide) rfl).sub ⟨rfl,rfl,rfl,rfl,aC⟩) ?_ ?_
 ·exact ⟨iF _,fun _ _ h=>h⟩
 clear H;intro gh a w hI H;obtain ⟨k,g3⟩:=gh;dsimp only at hI H;obtain ⟨hk,Ze⟩:=hI;dsimp only [lca,aV] at H;refine kP H (SR fun _ dB=>Rc rfl (Kz dB (SQ fun _ dY=>Cd rfl ?_ ?_))) <;> clear H dB
 ·intro fC a H
  try have p53:=dT fC
  have hk2:k < rv.length:=by omega
  obtain ⟨xb,xo,rfl,hrow⟩:=JY (((mU.mono JG).mono OG).mono Ze) hk2
  have hk3:k < (rv.map dh.id).length:=by simpa using hk2
  have hnew:=aag f3 hk3
  have Ap:(rv.map dh.id)[k]=rv[k].id:=by simp
  rw [Ap] at hnew;refine kP H (Kc dY (SQ fun _ eP=>SB (SR fun _ dZ=>Ri mH nV rfl rfl ?_)));clear H dY;intro a H;refine aW nV (cs:=_) H wn rfl rfl (fun j v hj=>H.hp.aF (hrow j v hj)) rfl ?_;clear H;intro a H;refine dU nV H wn rfl ?_;clear H;intro b9 a w rH H;refine bN nV 0 (vs:=[_,_,_]) _ H wn rfl rfl rfl rfl rfl rfl rfl rfl ?_;clear H;intro w H;dsimp only [List.set,setRow] at H;refine dZ _ _ ?_;clear dZ;refine dI hmx [[],[0],[0,1],[0,1,2],[],[4],(ra 0 6)] [6] (by kernel_rfl) [_,_,_,.map (some b12),_,vi rv[k].id] H (aG (Z0 rfl (Rm rfl)) (Z1 0 56 rfl (Rk rfl)) (Z1 1 57 rfl (Rf La rfl)) (Z1 2 58 rfl (Ro Dl 1 rfl)) (bq (Z0 rfl (Rf Lg rfl)) (bq (Z1 4 60 rfl (Ro aD 0 rfl)) (bq (bY rfl) dD)))) ?_
  clear H;intro a w G Hl H hv;have H:=H.aZ (hv 3 59 rfl rfl) rfl;have H:=H.aZ (hv 5 61 rfl rfl) rfl;clear hv;refine P6 (i:=6) Dm qh H wn rfl rfl rfl rfl hnew ?_;clear H;intro w H;dsimp only [List.set,List.append,lca,aV] at H;rw [← Ap,← aah hk3] at H;refine aH ⟨rfl,?_⟩;refine eP _ _ ?_;clear eP;refine kP H (SC (Rd rfl (Rm rfl ?_)));clear H;intro a H;refine aH ?_;refine dK ((k+1,G)) (by exact (H.dS (Pl:=[_,_,_,_,_,_,_]) (dL:=[_,_,_,_,_,_]) [1,2,3,4,5,6] (by decide) rfl).sub ⟨rfl,rfl,rfl,rfl,aC⟩) ?_ ?_
  ·(try dsimp only);exact ⟨by omega,fun b o h=>Hl b o (Ze b o h)⟩
  first|omega|(dsimp only;omega)
 intro fC a H
 try have p53:=dF fC
 obtain rfl:k=rv.length:=by omega
 rw [iH (by simp)] at H;refine dW ?_;refine dx _ _ ?_;clear dx;refine kP H (SR fun _ eU=>Rm rfl (aj eU rfl ?_));clear H eU;intro a H;refine dR ?_;have H:=H.dS (Pl:=[_,_,_,_,_,_]) (dL:=[_,_,_,_,_,_]) [3,4,5,1,0,2] (by decide) rfl;obtain ⟨Gs,hms,hs,H⟩:=H.eG;obtain ⟨Gl,Md,hl,H⟩:=H.eG;obtain ⟨Gr,hmr,hr,H⟩:=H.eG;obtain ⟨Gu,hmu,hu,H⟩:=H.eG;refine lv H results68 rfl ?_;exact H.hp.eB ⟨b16,b10,b11,b12,b13,b14,rfl,rfl,⟨hmu _ _ (hmr _ _ (Md _ _ hs)),hmu _ _ (hmr _ _ hl),hmu _ _ hr,hu⟩⟩
end
section
open Go.RowKit
theorem aga:∀ args w,(callFunc 36 args).run prog w=.ok (.enter 36 args) w:=enters func36 rfl (by kernel_rfl)
theorem aeC:∀ args w,(callFunc 106 args).run prog w=.ok (.enter 106 args) w:=enters func106 rfl (by kernel_rfl)
theorem aeA:∀ args w,(callFunc 104 args).run prog w=.ok (.enter 104 args) w:=enters func104 rfl (by kernel_rfl)
theorem afZ:∀ args w,(callFunc 35 args).run prog w=.ok (.enter 35 args) w:=enters func35 rfl (by kernel_rfl)
theorem aeB:∀ args w,(callFunc 105 args).run prog w=.ok (.enter 105 args) w:=enters func105 rfl (by kernel_rfl)
theorem Nv (p q:ByteArray):p.toList=q.toList↔p=q:=by
 rw [← bytes_beq,beq_iff_eq]
theorem dh.eq_iff (a b:dh):(a.id=b.id∧a.author=b.author∧a.time=b.time)↔a=b:=by cases a;cases b;simp
theorem iY.eq_iff (a b:iY):(a.fmt=b.fmt∧a.start=b.start∧a.zU=b.zU∧a.restart=b.restart)↔a=b:=by cases a;cases b;simp
theorem fq.eq_iff (a b:fq):(a.id=b.id∧a.parent=b.parent∧a.author=b.author∧a.time=b.time∧a.text=b.text∧a.done=b.done)↔a=b:=by cases a;cases b;simp
theorem iE.eq_iff (a b:iE):(a.name=b.name∧a.value=b.value)↔a=b:=by cases a;cases b;simp
theorem dH.eq_iff (a b:dH):(a.id=b.id∧a.levels=b.levels)↔a=b:=by cases a;cases b;simp
theorem bL.eq_iff (a b:bL):(((((a.id=b.id∧a.kind=b.kind)∧a.name=b.name)∧a.base=b.base)∧a.next=b.next)∧a.props=b.props)↔a=b:=by cases a;cases b;simp [and_assoc]
instance:DecidableEq dh:=fun a b=>decidable_of_iff _ (dh.eq_iff a b)
instance:DecidableEq iY:=fun a b=>decidable_of_iff _ (iY.eq_iff a b)
instance:DecidableEq fq:=fun a b=>decidable_of_iff _ (fq.eq_iff a b)
instance:DecidableEq iE:=fun a b=>decidable_of_iff _ (iE.eq_iff a b)
theorem XV:Kj prog 49 [(0,0),(1,1),(2,0)]:=⟨by kernel_rfl,by kernel_rfl,by kernel_rfl,by kernel_rfl,by kernel_rfl⟩
theorem XU:Kj prog 87 [(0,0),(1,0),(2,1),(3,0)]:=⟨by kernel_rfl,by kernel_rfl,by kernel_rfl,by kernel_rfl,by kernel_rfl⟩
theorem XT:Kj prog 96 [(0,0),(1,0),(2,1),(3,0),(4,1),(5,3)]:=⟨by kernel_rfl,by kernel_rfl,by kernel_rfl,by kernel_rfl,by kernel_rfl⟩
theorem XW:Kj prog 99 [(0,1),(1,1)]:=⟨by kernel_rfl,by kernel_rfl,by kernel_rfl,by kernel_rfl,by kernel_rfl⟩
theorem aaX (a b:dh):([(0,0),(1,1),(2,0)].all fun o=>kF (dh.cells a).toArray o == kF (dh.cells b).toArray o)=decide (a=b):=by
 rw [mE,decide_eq_true_iff,← dh.eq_iff]
 simp [kF,kE,Nv]
theorem aaW (a b:iY):([(0,0),(1,0),(2,1),(3,0)].all fun o=>kF (iY.cells a).toArray o == kF (iY.cells b).toArray o)=decide (a=b):=by
 rw [mE,decide_eq_true_iff,← iY.eq_iff]
 simp [kF,kE,Nv]
theorem aaV (a b:fq):([(0,0),(1,0),(2,1),(3,0),(4,1),(5,3)].all fun o=>kF (fq.cells a).toArray o == kF (fq.cells b).toArray o)=decide (a=b):=by
 rw [mE,decide_eq_true_iff,← fq.eq_iff]
 cases ha:a.done <;> cases hb:b.done <;> simp [kF,kE,Nv,ha,hb]
theorem aaY (a b:iE):([(0,1),(1,1)].all fun o=>kF (iE.cells a).toArray o == kF (iE.cells b).toArray o)=decide (a=b):=by
 rw [mE,decide_eq_true_iff,← iE.eq_iff]
 simp [kF,kE,Nv]
theorem ahd (G:GH) (w0:World) (hG:Hold G w0) (A B:List dh) (v u:ak) (hv:au G (.sl 3 (A.map dh.dat)) v) (hu:au G (.sl 3 (B.map dh.dat)) u) :
  Calls prog 39 #[v,u] w0 (bJ w0 G fun r G'=>r=.bool (decide (A=B))):=by
 obtain ⟨vA,vc,rfl,hc1,hc2,hg⟩:=hv.slice;obtain ⟨uA,uc,rfl,hd1,hd2,hh⟩:=hu.slice;have hml:maxLen=9223372036854775807:=rfl;(iterate 2 rw [bV] at *);refine eN [(0,_),(1,_)] func39 rfl ntmps39 rfl rfl hG ?_;intro a H;refine kP H (SR fun _ K1=>aj K1 rfl (SQ fun _ K2=>SR fun _ K3=>Rm rfl (Rl mH rfl (Rm rfl (Rl mH rfl (Rc rfl (Kz K3 (Cd rfl ?_ ?_)))))))) <;> clear H K1 K3
 ·intro h10 a H
  try have jw:=dT h10
  exact kP H (SR fun _ K4=>aj K4 rfl (LR results39 rfl fun H=>H.rt (aL (fZ fun e=>absurd (aB List.length e) (by omega)).symm)))
 intro h10 a H
 try have jw:=dF h10
 refine kP H (Kc K2 (SQ fun _ K5=>SR fun _ K6=>Rm rfl (Rl mH rfl (Rm rfl (Kz K6 (SB ?_))))));clear H K2 K6;intro a H;skip;refine eH (ι:=Nat × GH) (Tc:=[(0,_),(1,_),(12,_)]) (Lc:=[]) (fun gh=>[(13,vi gh.1)]) (fun gh=>[]) (fun gh=>gh.2) (fun gh=>gh.1≤A.length∧A.take gh.1=B.take gh.1∧(∀ b o,G b=some o→gh.2 b=some o)) (fun gh=>A.length - gh.1) ((0,G)) (by exact (H).sub ⟨rfl,rfl,rfl,rfl,aC⟩) ?_ ?_
 ·exact ⟨by omega,rfl,fun _ _ h=>h⟩
 clear H;intro gh a w hI H;obtain ⟨k,g⟩:=gh;dsimp only at hI H;obtain ⟨hk,hsame,hgm⟩:=hI;dsimp only [lca,aV] at H;refine kP H (SR fun _ K7=>Rc rfl (Kz K7 (SQ fun _ K8=>Cd rfl ?_ ?_))) <;> clear H K7
 ·intro dM a H
  try have jH:=dT dM
  have hk2:k < A.length:=by omega
  have hk3:k < B.length:=by omega
  obtain ⟨b1,o1,cs1,rfl,Bw,oJ,hr1⟩:=hg k A[k].dat (by simp [hk2]);obtain rfl:=PV hr1;obtain ⟨b2,o2,cs2,rfl,Bz,hrow2,hr2⟩:=hh k B[k].dat (by simp [hk3]);obtain rfl:=PV hr2;refine kP H (Kc K8 (SQ fun _ K9=>SB (SR fun _ aT=>Rm rfl (aj aT rfl (SQ fun _ bB=>?_)))));clear H K8 aT;intro a H;refine dI hmx [[],[],[0,1],[0,1,2],[],[],[4,5],[4,5,6],(ra 0 8)] [] (by kernel_rfl) [_,_,_,.agg (dh.cells A[k]).toArray,_,_,_,.agg (dh.cells B[k]).toArray,.bool (!decide (A[k]=B[k]))] H (aG (Z0 rfl (Rm rfl)) (Z0 rfl (Rm rfl)) (Z2 0 16 1 17 rfl (Ri mH nV rfl rfl)) ?_ (aG (Z0 rfl (Rm rfl)) (Z0 rfl (Rm rfl)) (Z2 4 20 5 21 rfl (Ri mH nV rfl rfl)) ?_ (bq ?_ dD))) ?_
  ·refine dN 2 18 rfl rfl fun _ a w G1 hG HT H fin=>?_;refine aW nV (cs:=dh.cells A[k]) H wn rfl rfl (fun j v hj=>H.hp.aF (ay hG (ay hgm (oJ j v hj)))) rfl ?_;clear H;intro a H;exact fin H iJ rfl
  ·refine dN 6 22 rfl rfl fun _ a w G1 hG HT H fin=>?_;refine aW nV (cs:=dh.cells B[k]) H wn rfl rfl (fun j v hj=>H.hp.aF (ay hG (ay hgm (hrow2 j v hj)))) rfl ?_;clear H;intro a H;exact fin H iJ rfl
  ·refine eu 3 19 7 23 rfl rfl fun _ a w G1 hG HT H fin=>?_;refine FE XV H wn rfl rfl rfl rfl ?_;clear H;intro a H;exact fin H iJ (aB (fun b=>Value.bool !b) (aaX A[k] B[k]))
  clear H;intro a w G fH H hv;have H:=H.aZ (hv 8 24 rfl rfl) rfl;clear hv;refine aH ⟨rfl,?_⟩;refine bB _ _ ?_;clear bB;refine jX H rfl ?_ ?_
  ·intro bE
   exact kP H (SR fun _ bC=>aj bC rfl (LR results39 rfl fun H=>H.rt (aL (fZ fun e=>absurd bE (by subst e;simp)).symm)))
  intro bE
  try have jP:=dF bE
  have hsm:A[k]=B[k]:=by simpa using bE
  refine kP H (Kc K9 (SC (Rd rfl (Rm rfl ?_))));clear H K9;intro a H;refine aH ?_;refine dK ((k+1,G)) (by exact (H).sub ⟨rfl,rfl,rfl,rfl,aC⟩) ?_ ?_
  ·(try dsimp only);exact ⟨by omega,by rw [iG hk2,iG hk3,hsame,hsm],fun b o h=>fH b o (hgm b o h)⟩
  first|omega|(dsimp only;omega)
 intro dM a H
 try have jH:=dF dM
 refine dW ?_;refine K5 _ _ ?_;clear K5;exact kP H (SR fun _ bK=>aj bK rfl (LR results39 rfl fun H=>H.rt (aL (gW (by rw [iH (by omega),iH (by omega)] at hsame;exact hsame)).symm)))
theorem ahc (G:GH) (w0:World) (hG:Hold G w0) (A B:List iY) (v u:ak) (hv:au G (.sl 4 (A.map iY.dat)) v) (hu:au G (.sl 4 (B.map iY.dat)) u) :
  Calls prog 36 #[v,u] w0 (bJ w0 G fun r G'=>r=.bool (decide (A=B))):=by
 obtain ⟨vA,vc,rfl,hc1,hc2,hg⟩:=hv.slice;obtain ⟨uA,uc,rfl,hd1,hd2,hh⟩:=hu.slice;have hml:maxLen=9223372036854775807:=rfl;(iterate 2 rw [bV] at *);refine eN [(0,_),(1,_)] func36 rfl ntmps36 rfl rfl hG ?_;intro a H;refine kP H (SR fun _ K1=>aj K1 rfl (SQ fun _ K2=>SR fun _ K3=>Rm rfl (Rl ru rfl (Rm rfl (Rl ru rfl (Rc rfl (Kz K3 (Cd rfl ?_ ?_)))))))) <;> clear H K1 K3
 ·intro h10 a H
  try have jw:=dT h10
  exact kP H (SR fun _ K4=>aj K4 rfl (LR results36 rfl fun H=>H.rt (aL (fZ fun e=>absurd (aB List.length e) (by omega)).symm)))
 intro h10 a H
 try have jw:=dF h10
 refine kP H (Kc K2 (SQ fun _ K5=>SR fun _ K6=>Rm rfl (Rl ru rfl (Rm rfl (Kz K6 (SB ?_))))));clear H K2 K6;intro a H;skip;refine eH (ι:=Nat × GH) (Tc:=[(0,_),(1,_),(12,_)]) (Lc:=[]) (fun gh=>[(13,vi gh.1)]) (fun gh=>[]) (fun gh=>gh.2) (fun gh=>gh.1≤A.length∧A.take gh.1=B.take gh.1∧(∀ b o,G b=some o→gh.2 b=some o)) (fun gh=>A.length - gh.1) ((0,G)) (by exact (H).sub ⟨rfl,rfl,rfl,rfl,aC⟩) ?_ ?_
 ·exact ⟨by omega,rfl,fun _ _ h=>h⟩
 clear H;intro gh a w hI H;obtain ⟨k,g⟩:=gh;dsimp only at hI H;obtain ⟨hk,hsame,hgm⟩:=hI;dsimp only [lca,aV] at H;refine kP H (SR fun _ K7=>Rc rfl (Kz K7 (SQ fun _ K8=>Cd rfl ?_ ?_))) <;> clear H K7
 ·intro dM a H
  try have jH:=dT dM
  have hk2:k < A.length:=by omega
  have hk3:k < B.length:=by omega
  obtain ⟨b1,o1,cs1,rfl,Bw,oJ,hr1⟩:=hg k A[k].dat (by simp [hk2]);obtain rfl:=Pq hr1;obtain ⟨b2,o2,cs2,rfl,Bz,hrow2,hr2⟩:=hh k B[k].dat (by simp [hk3]);obtain rfl:=Pq hr2;refine kP H (Kc K8 (SQ fun _ K9=>SB (SR fun _ aT=>Rm rfl (aj aT rfl (SQ fun _ bB=>?_)))));clear H K8 aT;intro a H;refine dI hmx [[],[],[0,1],[0,1,2],[],[],[4,5],[4,5,6],(ra 0 8)] [] (by kernel_rfl) [_,_,_,.agg (iY.cells A[k]).toArray,_,_,_,.agg (iY.cells B[k]).toArray,.bool (!decide (A[k]=B[k]))] H (aG (Z0 rfl (Rm rfl)) (Z0 rfl (Rm rfl)) (Z2 0 16 1 17 rfl (Ri ru xu rfl rfl)) ?_ (aG (Z0 rfl (Rm rfl)) (Z0 rfl (Rm rfl)) (Z2 4 20 5 21 rfl (Ri ru xu rfl rfl)) ?_ (bq ?_ dD))) ?_
  ·refine dN 2 18 rfl rfl fun _ a w G1 hG HT H fin=>?_;refine aW xu (cs:=iY.cells A[k]) H wn rfl rfl (fun j v hj=>H.hp.aF (ay hG (ay hgm (oJ j v hj)))) rfl ?_;clear H;intro a H;exact fin H iJ rfl
  ·refine dN 6 22 rfl rfl fun _ a w G1 hG HT H fin=>?_;refine aW xu (cs:=iY.cells B[k]) H wn rfl rfl (fun j v hj=>H.hp.aF (ay hG (ay hgm (hrow2 j v hj)))) rfl ?_;clear H;intro a H;exact fin H iJ rfl
  ·refine eu 3 19 7 23 rfl rfl fun _ a w G1 hG HT H fin=>?_;refine FE XU H wn rfl rfl rfl rfl ?_;clear H;intro a H;exact fin H iJ (aB (fun b=>Value.bool !b) (aaW A[k] B[k]))
  clear H;intro a w G fH H hv;have H:=H.aZ (hv 8 24 rfl rfl) rfl;clear hv;refine aH ⟨rfl,?_⟩;refine bB _ _ ?_;clear bB;refine jX H rfl ?_ ?_
  ·intro bE
   exact kP H (SR fun _ bC=>aj bC rfl (LR results36 rfl fun H=>H.rt (aL (fZ fun e=>absurd bE (by subst e;simp)).symm)))
  intro bE
  try have jP:=dF bE
  have hsm:A[k]=B[k]:=by simpa using bE
  refine kP H (Kc K9 (SC (Rd rfl (Rm rfl ?_))));clear H K9;intro a H;refine aH ?_;refine dK ((k+1,G)) (by exact (H).sub ⟨rfl,rfl,rfl,rfl,aC⟩) ?_ ?_
  ·(try dsimp only);exact ⟨by omega,by rw [iG hk2,iG hk3,hsame,hsm],fun b o h=>fH b o (hgm b o h)⟩
  first|omega|(dsimp only;omega)
 intro dM a H
 try have jH:=dF dM
 refine dW ?_;refine K5 _ _ ?_;clear K5;exact kP H (SR fun _ bK=>aj bK rfl (LR results36 rfl fun H=>H.rt (aL (gW (by rw [iH (by omega),iH (by omega)] at hsame;exact hsame)).symm)))
theorem ahb (G:GH) (w0:World) (hG:Hold G w0) (A B:List fq) (v u:ak) (hv:au G (.sl 6 (A.map fq.dat)) v) (hu:au G (.sl 6 (B.map fq.dat)) u) :
  Calls prog 42 #[v,u] w0 (bJ w0 G fun r G'=>r=.bool (decide (A=B))):=by
 obtain ⟨vA,vc,rfl,hc1,hc2,hg⟩:=hv.slice;obtain ⟨uA,uc,rfl,hd1,hd2,hh⟩:=hu.slice;have hml:maxLen=9223372036854775807:=rfl;(iterate 2 rw [bV] at *);refine eN [(0,_),(1,_)] func42 rfl ntmps42 rfl rfl hG ?_;intro a H;refine kP H (SR fun _ K1=>aj K1 rfl (SQ fun _ K2=>SR fun _ K3=>Rm rfl (Rl nX rfl (Rm rfl (Rl nX rfl (Rc rfl (Kz K3 (Cd rfl ?_ ?_)))))))) <;> clear H K1 K3
 ·intro h10 a H
  try have jw:=dT h10
  exact kP H (SR fun _ K4=>aj K4 rfl (LR results42 rfl fun H=>H.rt (aL (fZ fun e=>absurd (aB List.length e) (by omega)).symm)))
 intro h10 a H
 try have jw:=dF h10
 refine kP H (Kc K2 (SQ fun _ K5=>SR fun _ K6=>Rm rfl (Rl nX rfl (Rm rfl (Kz K6 (SB ?_))))));clear H K2 K6;intro a H;skip;refine eH (ι:=Nat × GH) (Tc:=[(0,_),(1,_),(12,_)]) (Lc:=[]) (fun gh=>[(13,vi gh.1)]) (fun gh=>[]) (fun gh=>gh.2) (fun gh=>gh.1≤A.length∧A.take gh.1=B.take gh.1∧(∀ b o,G b=some o→gh.2 b=some o)) (fun gh=>A.length - gh.1) ((0,G)) (by exact (H).sub ⟨rfl,rfl,rfl,rfl,aC⟩) ?_ ?_
 ·exact ⟨by omega,rfl,fun _ _ h=>h⟩
 clear H;intro gh a w hI H;obtain ⟨k,g⟩:=gh;dsimp only at hI H;obtain ⟨hk,hsame,hgm⟩:=hI;dsimp only [lca,aV] at H;refine kP H (SR fun _ K7=>Rc rfl (Kz K7 (SQ fun _ K8=>Cd rfl ?_ ?_))) <;> clear H K7
 ·intro dM a H
  try have jH:=dT dM
  have hk2:k < A.length:=by omega
  have hk3:k < B.length:=by omega
  obtain ⟨b1,o1,cs1,rfl,Bw,oJ,hr1⟩:=hg k A[k].dat (by simp [hk2]);obtain rfl:=KI hr1;obtain ⟨b2,o2,cs2,rfl,Bz,hrow2,hr2⟩:=hh k B[k].dat (by simp [hk3]);obtain rfl:=KI hr2;refine kP H (Kc K8 (SQ fun _ K9=>SB (SR fun _ aT=>Rm rfl (aj aT rfl (SQ fun _ bB=>?_)))));clear H K8 aT;intro a H;refine dI hmx [[],[],[0,1],[0,1,2],[],[],[4,5],[4,5,6],(ra 0 8)] [] (by kernel_rfl) [_,_,_,.agg (fq.cells A[k]).toArray,_,_,_,.agg (fq.cells B[k]).toArray,.bool (!decide (A[k]=B[k]))] H (aG (Z0 rfl (Rm rfl)) (Z0 rfl (Rm rfl)) (Z2 0 16 1 17 rfl (Ri nX oP rfl rfl)) ?_ (aG (Z0 rfl (Rm rfl)) (Z0 rfl (Rm rfl)) (Z2 4 20 5 21 rfl (Ri nX oP rfl rfl)) ?_ (bq ?_ dD))) ?_
  ·refine dN 2 18 rfl rfl fun _ a w G1 hG HT H fin=>?_;refine aW oP (cs:=fq.cells A[k]) H wn rfl rfl (fun j v hj=>H.hp.aF (ay hG (ay hgm (oJ j v hj)))) rfl ?_;clear H;intro a H;exact fin H iJ rfl
  ·refine dN 6 22 rfl rfl fun _ a w G1 hG HT H fin=>?_;refine aW oP (cs:=fq.cells B[k]) H wn rfl rfl (fun j v hj=>H.hp.aF (ay hG (ay hgm (hrow2 j v hj)))) rfl ?_;clear H;intro a H;exact fin H iJ rfl
  ·refine eu 3 19 7 23 rfl rfl fun _ a w G1 hG HT H fin=>?_;refine FE XT H wn rfl rfl rfl rfl ?_;clear H;intro a H;exact fin H iJ (aB (fun b=>Value.bool !b) (aaV A[k] B[k]))
  clear H;intro a w G fH H hv;have H:=H.aZ (hv 8 24 rfl rfl) rfl;clear hv;refine aH ⟨rfl,?_⟩;refine bB _ _ ?_;clear bB;refine jX H rfl ?_ ?_
  ·intro bE
   exact kP H (SR fun _ bC=>aj bC rfl (LR results42 rfl fun H=>H.rt (aL (fZ fun e=>absurd bE (by subst e;simp)).symm)))
  intro bE
  try have jP:=dF bE
  have hsm:A[k]=B[k]:=by simpa using bE
  refine kP H (Kc K9 (SC (Rd rfl (Rm rfl ?_))));clear H K9;intro a H;refine aH ?_;refine dK ((k+1,G)) (by exact (H).sub ⟨rfl,rfl,rfl,rfl,aC⟩) ?_ ?_
  ·(try dsimp only);exact ⟨by omega,by rw [iG hk2,iG hk3,hsame,hsm],fun b o h=>fH b o (hgm b o h)⟩
  first|omega|(dsimp only;omega)
 intro dM a H
 try have jH:=dF dM
 refine dW ?_;refine K5 _ _ ?_;clear K5;exact kP H (SR fun _ bK=>aj bK rfl (LR results42 rfl fun H=>H.rt (aL (gW (by rw [iH (by omega),iH (by omega)] at hsame;exact hsame)).symm)))
theorem ahe (G:GH) (w0:World) (hG:Hold G w0) (A B:List iE) (v u:ak) (hv:au G (.sl 2 (A.map iE.dat)) v) (hu:au G (.sl 2 (B.map iE.dat)) u) :
  Calls prog 43 #[v,u] w0 (bJ w0 G fun r G'=>r=.bool (decide (A=B))):=by
 obtain ⟨vA,vc,rfl,hc1,hc2,hg⟩:=hv.slice;obtain ⟨uA,uc,rfl,hd1,hd2,hh⟩:=hu.slice;have hml:maxLen=9223372036854775807:=rfl;(iterate 2 rw [bV] at *);refine eN [(0,_),(1,_)] func43 rfl ntmps43 rfl rfl hG ?_;intro a H;refine kP H (SR fun _ K1=>aj K1 rfl (SQ fun _ K2=>SR fun _ K3=>Rm rfl (Rl mX rfl (Rm rfl (Rl mX rfl (Rc rfl (Kz K3 (Cd rfl ?_ ?_)))))))) <;> clear H K1 K3
 ·intro h10 a H
  try have jw:=dT h10
  exact kP H (SR fun _ K4=>aj K4 rfl (LR results43 rfl fun H=>H.rt (aL (fZ fun e=>absurd (aB List.length e) (by omega)).symm)))
 intro h10 a H
 try have jw:=dF h10
 refine kP H (Kc K2 (SQ fun _ K5=>SR fun _ K6=>Rm rfl (Rl mX rfl (Rm rfl (Kz K6 (SB ?_))))));clear H K2 K6;intro a H;skip;refine eH (ι:=Nat × GH) (Tc:=[(0,_),(1,_),(12,_)]) (Lc:=[]) (fun gh=>[(13,vi gh.1)]) (fun gh=>[]) (fun gh=>gh.2) (fun gh=>gh.1≤A.length∧A.take gh.1=B.take gh.1∧(∀ b o,G b=some o→gh.2 b=some o)) (fun gh=>A.length - gh.1) ((0,G)) (by exact (H).sub ⟨rfl,rfl,rfl,rfl,aC⟩) ?_ ?_
 ·exact ⟨by omega,rfl,fun _ _ h=>h⟩
 clear H;intro gh a w hI H;obtain ⟨k,g⟩:=gh;dsimp only at hI H;obtain ⟨hk,hsame,hgm⟩:=hI;dsimp only [lca,aV] at H;refine kP H (SR fun _ K7=>Rc rfl (Kz K7 (SQ fun _ K8=>Cd rfl ?_ ?_))) <;> clear H K7
 ·intro dM a H
  try have jH:=dT dM
  have hk2:k < A.length:=by omega
  have hk3:k < B.length:=by omega
  obtain ⟨b1,o1,cs1,rfl,Bw,oJ,hr1⟩:=hg k A[k].dat (by simp [hk2]);obtain rfl:=Qg hr1;obtain ⟨b2,o2,cs2,rfl,Bz,hrow2,hr2⟩:=hh k B[k].dat (by simp [hk3]);obtain rfl:=Qg hr2;refine kP H (Kc K8 (SQ fun _ K9=>SB (SR fun _ aT=>Rm rfl (aj aT rfl (SQ fun _ bB=>?_)))));clear H K8 aT;intro a H;refine dI hmx [[],[],[0,1],[0,1,2],[],[],[4,5],[4,5,6],(ra 0 8)] [] (by kernel_rfl) [_,_,_,.agg (iE.cells A[k]).toArray,_,_,_,.agg (iE.cells B[k]).toArray,.bool (!decide (A[k]=B[k]))] H (aG (Z0 rfl (Rm rfl)) (Z0 rfl (Rm rfl)) (Z2 0 16 1 17 rfl (Ri mX oQ rfl rfl)) ?_ (aG (Z0 rfl (Rm rfl)) (Z0 rfl (Rm rfl)) (Z2 4 20 5 21 rfl (Ri mX oQ rfl rfl)) ?_ (bq ?_ dD))) ?_
  ·refine dN 2 18 rfl rfl fun _ a w G1 hG HT H fin=>?_;refine aW oQ (cs:=iE.cells A[k]) H wn rfl rfl (fun j v hj=>H.hp.aF (ay hG (ay hgm (oJ j v hj)))) rfl ?_;clear H;intro a H;exact fin H iJ rfl
  ·refine dN 6 22 rfl rfl fun _ a w G1 hG HT H fin=>?_;refine aW oQ (cs:=iE.cells B[k]) H wn rfl rfl (fun j v hj=>H.hp.aF (ay hG (ay hgm (hrow2 j v hj)))) rfl ?_;clear H;intro a H;exact fin H iJ rfl
  ·refine eu 3 19 7 23 rfl rfl fun _ a w G1 hG HT H fin=>?_;refine FE XW H wn rfl rfl rfl rfl ?_;clear H;intro a H;exact fin H iJ (aB (fun b=>Value.bool !b) (aaY A[k] B[k]))
  clear H;intro a w G fH H hv;have H:=H.aZ (hv 8 24 rfl rfl) rfl;clear hv;refine aH ⟨rfl,?_⟩;refine bB _ _ ?_;clear bB;refine jX H rfl ?_ ?_
  ·intro bE
   exact kP H (SR fun _ bC=>aj bC rfl (LR results43 rfl fun H=>H.rt (aL (fZ fun e=>absurd bE (by subst e;simp)).symm)))
  intro bE
  try have jP:=dF bE
  have hsm:A[k]=B[k]:=by simpa using bE
  refine kP H (Kc K9 (SC (Rd rfl (Rm rfl ?_))));clear H K9;intro a H;refine aH ?_;refine dK ((k+1,G)) (by exact (H).sub ⟨rfl,rfl,rfl,rfl,aC⟩) ?_ ?_
  ·(try dsimp only);exact ⟨by omega,by rw [iG hk2,iG hk3,hsame,hsm],fun b o h=>fH b o (hgm b o h)⟩
  first|omega|(dsimp only;omega)
 intro dM a H
 try have jH:=dF dM
 refine dW ?_;refine K5 _ _ ?_;clear K5;exact kP H (SR fun _ bK=>aj bK rfl (LR results43 rfl fun H=>H.rt (aL (gW (by rw [iH (by omega),iH (by omega)] at hsame;exact hsame)).symm)))
instance:DecidableEq dH:=fun a b=>decidable_of_iff _ (dH.eq_iff a b)
instance:DecidableEq bL:=fun a b=>decidable_of_iff _ (bL.eq_iff a b)
theorem Mr {G:GH} {x:dH} {cs:List ak} (h:bH G x.dat cs):∃ A n c,cs=[vi x.id,.slice A n c]∧au G (.sl 4 (x.levels.map iY.dat)) (.slice A n c):=by
 obtain ⟨v1,vs,rfl,⟨rfl,-⟩,v2,vs2,rfl,h2,rfl⟩:=h;obtain ⟨A,n,c,rfl⟩:=au.form h2;exact ⟨A,n,c,rfl,h2⟩
theorem P7 {G:GH} {x:bL} {cs:List ak} (h:bH G x.dat cs):∃ A n c,cs=[vi x.id,vi x.kind,.string x.name,vi x.base,vi x.next,.slice A n c]∧au G (.sl 2 (x.props.map gV.dat)) (.slice A n c):=by
 obtain ⟨A,c,h1,h2⟩:=MV h;exact ⟨A,_,c,h1,h2⟩
theorem agV (G:GH) (w0:World) (hG:Hold G w0) (A B:List dH) (v u fv:ak) (hv:au G (.sl 2 (A.map dH.dat)) v) (hu:au G (.sl 2 (B.map dH.dat)) u) (hf:∀ (i:Nat) (h1:i < A.length) (h2:i < B.length),Ce fv G A[i].dat B[i].dat (A[i]=B[i])) :
  Calls prog 41 #[v,u,fv] w0 (bJ w0 G fun r G'=>∃ b,r=.bool b∧(b=true↔A=B)):=by
 obtain ⟨vA,vc,rfl,hc1,hc2,hg⟩:=hv.slice;obtain ⟨uA,uc,rfl,hd1,hd2,hh⟩:=hu.slice;have hml:maxLen=9223372036854775807:=rfl;(iterate 2 rw [bV] at *);refine eN [(0,_),(1,_),(2,_)] func41 rfl ntmps41 rfl rfl hG ?_;intro a H;refine kP H (SR fun _ K1=>aj K1 rfl (SQ fun _ K2=>SR fun _ K3=>Rm rfl (Rl jE rfl (Rm rfl (Rl jE rfl (Rc rfl (Kz K3 (Cd rfl ?_ ?_)))))))) <;> clear H K1 K3
 ·intro dM a H
  try have jH:=dT dM
  exact kP H (SR fun _ K4=>aj K4 rfl (LR results41 rfl fun H=>H.rt ⟨false,rfl,by simp only [mD,false_iff];exact fun e=>absurd (aB List.length e) (by omega)⟩))
 intro dM a H
 try have jH:=dF dM
 refine kP H (Kc K2 (SQ fun _ K5=>SR fun _ K6=>Rm rfl (Rl jE rfl (Rm rfl (Kz K6 (SB ?_))))));clear H K2 K6;intro a H;skip;refine eH (ι:=Nat × GH) (Tc:=[(1,_),(2,_),(15,_),(16,_)]) (Lc:=[]) (fun gh=>[(17,vi gh.1)]) (fun gh=>[]) (fun gh=>gh.2) (fun gh=>gh.1≤A.length∧A.take gh.1=B.take gh.1∧(∀ b o,G b=some o→gh.2 b=some o)) (fun gh=>A.length - gh.1) ((0,G)) (by exact (H).sub ⟨rfl,rfl,rfl,rfl,rfl,aC⟩) ?_ ?_
 ·exact ⟨by omega,rfl,fun _ _ h=>h⟩
 clear H;intro gh a w hI H;obtain ⟨k,g⟩:=gh;dsimp only at hI H;obtain ⟨hk,hsame,hgm⟩:=hI;dsimp only [lca,aV] at H;refine kP H (SR fun _ K7=>Rc rfl (Kz K7 (SQ fun _ K8=>Cd rfl ?_ ?_))) <;> clear H K7
 ·intro h18 a H
  try have pG:=dT h18
  have hk2:k < A.length:=by omega
  have hk3:k < B.length:=by omega
  obtain ⟨b1,o1,cs1,rfl,Bw,oJ,hr1⟩:=hg k A[k].dat (by simp [hk2]);obtain ⟨pA,pn,pc,rfl,-⟩:=Mr hr1;obtain ⟨b2,o2,cs2,rfl,Bz,hrow2,hr2⟩:=hh k B[k].dat (by simp [hk3]);obtain ⟨qA,qn,qc,rfl,-⟩:=Mr hr2;refine kP H (Kc K8 (SQ fun _ K9=>SB (SR fun _ aT=>Rm rfl (Ri jE jR rfl rfl ?_))));clear H K8;intro a H;refine aW jR (cs:=_) H wn rfl rfl (fun j v hj=>H.hp.aF (ay hgm (oJ j v hj))) rfl ?_;clear H;intro a H;refine dU jR H wn rfl ?_;clear H;intro b8 a w vN H;refine kH H (Ra rfl ?_);clear H;intro a H;refine bN jR 0 (vs:=[_,_]) _ H wn rfl rfl rfl rfl rfl rfl rfl rfl ?_;clear H;intro w H;dsimp only [List.set,setRow] at H;refine aT _ _ ?_;clear aT;refine kP H (SR fun _ bB=>Rm rfl (Rm rfl (Ri jE jR rfl rfl ?_)));clear H;intro a H;refine aW jR (cs:=_) H wn rfl rfl (fun j v hj=>H.hp.aF (ay hgm (hrow2 j v hj))) rfl ?_;clear H;intro a H;refine dU jR H wn rfl ?_;clear H;intro b9 a w rH H;refine bN jR 0 (vs:=[_,_]) _ H wn rfl rfl rfl rfl rfl rfl rfl rfl ?_;clear H;intro w H;dsimp only [List.set,setRow] at H;refine bB _ _ ?_;clear bB;refine kP H (SR fun _ bC=>Rm rfl ?_);clear H;intro a H;refine aW jR (cs:=[_,_]) H wn rfl rfl (H.hp.dX 1 rfl rfl) rfl ?_;clear H;intro a H;refine aW jR (cs:=[_,_]) H wn rfl rfl (H.hp.dX 0 rfl rfl) rfl ?_;clear H;intro a H;refine pI H wn rfl rfl (hf k hk2 hk3 _ _ _ _ hgm H.ro (hr1.mono hgm) (hr2.mono hgm)) rfl ?_;clear H;rintro v29 ug a w ⟨I8,rfl,xX⟩ vQ H;refine kH H (Rn rfl (Kz bC (Cd rfl ?_ ?_))) <;> clear H bC
  ·intro jF a H
   exact kP H (SR fun _ bK=>aj bK rfl (LR results41 rfl fun H=>H.rt ⟨false,rfl,by simp only [mD,false_iff];rintro rfl;exact absurd (xX.2 rfl) (by simpa using jF)⟩))
  intro jF a H
  try have p30:=dF jF
  refine kP H (Kc K9 (SC (Rd rfl (Rm rfl ?_))));clear H K9;intro a H;refine aH ?_;refine dK ((k+1,ug)) (by exact (H.dS (Pl:=[_,_]) (dL:=[]) [] (by decide) rfl).sub ⟨rfl,rfl,rfl,rfl,rfl,aC⟩) ?_ ?_
  ·(try dsimp only);exact ⟨by omega,by rw [iG hk2,iG hk3,hsame,xX.1 (by simpa using jF)],fun b o h=>vQ b o (hgm b o h)⟩
  first|omega|(dsimp only;omega)
 intro h18 a H
 try have pG:=dF h18
 refine dW ?_;refine K5 _ _ ?_;clear K5;exact kP H (SR fun _ bP=>aj bP rfl (LR results41 rfl fun H=>H.rt ⟨true,rfl,by rw [iH (by omega),iH (by omega)] at hsame;simpa using hsame⟩))
theorem agW (G:GH) (w0:World) (hG:Hold G w0) (A B:List bL) (v u fv:ak) (hv:au G (.sl 6 (A.map bL.dat)) v) (hu:au G (.sl 6 (B.map bL.dat)) u) (hf:∀ (i:Nat) (h1:i < A.length) (h2:i < B.length),Ce fv G A[i].dat B[i].dat (A[i]=B[i])) :
  Calls prog 104 #[v,u,fv] w0 (bJ w0 G fun r G'=>∃ b,r=.bool b∧(b=true↔A=B)):=by
 obtain ⟨vA,vc,rfl,hc1,hc2,hg⟩:=hv.slice;obtain ⟨uA,uc,rfl,hd1,hd2,hh⟩:=hu.slice;have hml:maxLen=9223372036854775807:=rfl;(iterate 2 rw [bV] at *);refine eN [(0,_),(1,_),(2,_)] func104 rfl ntmps104 rfl rfl hG ?_;intro a H;refine kP H (SR fun _ K1=>aj K1 rfl (SQ fun _ K2=>SR fun _ K3=>Rm rfl (Rl ko rfl (Rm rfl (Rl ko rfl (Rc rfl (Kz K3 (Cd rfl ?_ ?_)))))))) <;> clear H K1 K3
 ·intro dM a H
  try have jH:=dT dM
  exact kP H (SR fun _ K4=>aj K4 rfl (LR results104 rfl fun H=>H.rt ⟨false,rfl,by simp only [mD,false_iff];exact fun e=>absurd (aB List.length e) (by omega)⟩))
 intro dM a H
 try have jH:=dF dM
 refine kP H (Kc K2 (SQ fun _ K5=>SR fun _ K6=>Rm rfl (Rl ko rfl (Rm rfl (Kz K6 (SB ?_))))));clear H K2 K6;intro a H;skip;refine eH (ι:=Nat × GH) (Tc:=[(1,_),(2,_),(15,_),(16,_)]) (Lc:=[]) (fun gh=>[(17,vi gh.1)]) (fun gh=>[]) (fun gh=>gh.2) (fun gh=>gh.1≤A.length∧A.take gh.1=B.take gh.1∧(∀ b o,G b=some o→gh.2 b=some o)) (fun gh=>A.length - gh.1) ((0,G)) (by exact (H).sub ⟨rfl,rfl,rfl,rfl,rfl,aC⟩) ?_ ?_
 ·exact ⟨by omega,rfl,fun _ _ h=>h⟩
 clear H;intro gh a w hI H;obtain ⟨k,g⟩:=gh;dsimp only at hI H;obtain ⟨hk,hsame,hgm⟩:=hI;dsimp only [lca,aV] at H;refine kP H (SR fun _ K7=>Rc rfl (Kz K7 (SQ fun _ K8=>Cd rfl ?_ ?_))) <;> clear H K7
 ·intro h18 a H
  try have pG:=dT h18
  have hk2:k < A.length:=by omega
  have hk3:k < B.length:=by omega
  obtain ⟨b1,o1,cs1,rfl,Bw,oJ,hr1⟩:=hg k A[k].dat (by simp [hk2]);obtain ⟨pA,pn,pc,rfl,-⟩:=P7 hr1;obtain ⟨b2,o2,cs2,rfl,Bz,hrow2,hr2⟩:=hh k B[k].dat (by simp [hk3]);obtain ⟨qA,qn,qc,rfl,-⟩:=P7 hr2;refine kP H (Kc K8 (SQ fun _ K9=>SB (SR fun _ aT=>Rm rfl (Ri ko iR rfl rfl ?_))));clear H K8;intro a H;refine aW iR (cs:=_) H wn rfl rfl (fun j v hj=>H.hp.aF (ay hgm (oJ j v hj))) rfl ?_;clear H;intro a H;refine dU iR H wn rfl ?_;clear H;intro b8 a w vN H;refine kH H (Ra rfl ?_);clear H;intro a H;refine bN iR 0 (vs:=[_,_,_,_,_,_]) _ H wn rfl rfl rfl rfl rfl rfl rfl rfl ?_;clear H;intro w H;dsimp only [List.set,setRow] at H;refine aT _ _ ?_;clear aT;refine kP H (SR fun _ bB=>Rm rfl (Rm rfl (Ri ko iR rfl rfl ?_)));clear H;intro a H;refine aW iR (cs:=_) H wn rfl rfl (fun j v hj=>H.hp.aF (ay hgm (hrow2 j v hj))) rfl ?_;clear H;intro a H;refine dU iR H wn rfl ?_;clear H;intro b9 a w rH H;refine bN iR 0 (vs:=[_,_,_,_,_,_]) _ H wn rfl rfl rfl rfl rfl rfl rfl rfl ?_;clear H;intro w H;dsimp only [List.set,setRow] at H;refine bB _ _ ?_;clear bB;refine kP H (SR fun _ bC=>Rm rfl ?_);clear H;intro a H;refine aW iR (cs:=[_,_,_,_,_,_]) H wn rfl rfl (H.hp.dX 1 rfl rfl) rfl ?_;clear H;intro a H;refine aW iR (cs:=[_,_,_,_,_,_]) H wn rfl rfl (H.hp.dX 0 rfl rfl) rfl ?_;clear H;intro a H;refine pI H wn rfl rfl (hf k hk2 hk3 _ _ _ _ hgm H.ro (hr1.mono hgm) (hr2.mono hgm)) rfl ?_;clear H;rintro v29 ug a w ⟨I8,rfl,xX⟩ vQ H;refine kH H (Rn rfl (Kz bC (Cd rfl ?_ ?_))) <;> clear H bC
  ·intro jF a H
   exact kP H (SR fun _ bK=>aj bK rfl (LR results104 rfl fun H=>H.rt ⟨false,rfl,by simp only [mD,false_iff];rintro rfl;exact absurd (xX.2 rfl) (by simpa using jF)⟩))
  intro jF a H
  try have p30:=dF jF
  refine kP H (Kc K9 (SC (Rd rfl (Rm rfl ?_))));clear H K9;intro a H;refine aH ?_;refine dK ((k+1,ug)) (by exact (H.dS (Pl:=[_,_]) (dL:=[]) [] (by decide) rfl).sub ⟨rfl,rfl,rfl,rfl,rfl,aC⟩) ?_ ?_
  ·(try dsimp only);exact ⟨by omega,by rw [iG hk2,iG hk3,hsame,xX.1 (by simpa using jF)],fun b o h=>vQ b o (hgm b o h)⟩
  first|omega|(dsimp only;omega)
 intro h18 a H
 try have pG:=dF h18
 refine dW ?_;refine K5 _ _ ?_;clear K5;exact kP H (SR fun _ bP=>aj bP rfl (LR results104 rfl fun H=>H.rt ⟨true,rfl,by rw [iH (by omega),iH (by omega)] at hsame;simpa using hsame⟩))
theorem agP (G:GH) (x y:dH):Ce (.func (.func 35) #[] #[]) G x.dat y.dat (x=y):=by
 intro G1 w0 cs cs' hm hG h1 h2;refine mF (caps:=[]) afZ ?_;obtain ⟨pA,pn,pc,rfl,hp1⟩:=Mr h1;obtain ⟨qA,qn,qc,rfl,hp2⟩:=Mr h2;have he:=dH.eq_iff x y;refine eN [(0,_),(1,_)] func35 rfl ntmps35 rfl rfl hG ?_;intro a H;refine dw (fun _ K1=>?_);refine eD (cs:=[_,_]) H wn rfl rfl rfl ?_;clear H;intro b2 a w hb2 H;refine eD (cs:=[_,_]) H wn rfl rfl rfl ?_;clear H;intro b3 a w hb3 H;refine kH H (aj K1 rfl (SR fun _ K2=>bg zl aD 1 rfl rfl (bg zl aD 0 rfl rfl (Rc rfl (Rm rfl (Sp 10 rfl ?_ ?_)))))) <;> clear H K1
 ·intro h10 a H
  try have jw:=dT h10
  refine kH H (YF xR h10 rfl (YO yI 1 h10 rfl (YF xR h10 rfl (YO yI 0 h10 rfl ?_))));clear H;intro a H;refine s_call aga H (wg H rfl rfl h10) rfl (ahc _ _ H.ro x.levels y.levels _ _ hp1 hp2) rfl ?_;clear H;rintro v15 Ez a w rfl yg H;exact kH H (Pt h10 rfl (aj K2 rfl (LR results35 rfl fun H=>H.rt ⟨_,rfl,by rw [← he];simp_all⟩)))
 intro h10 a H
 try have jw:=dF h10
 exact kH H (aQ h10 rfl (aN h10 rfl (Pf h10 rfl (aj K2 rfl (LR results35 rfl fun H=>H.rt ⟨_,rfl,by rw [← he];simp_all⟩)))))
theorem agQ (G:GH) (w0:World) (hG:Hold G w0) (A B:List gV) (v u:ak) (hv:au G (.sl 2 (A.map gV.dat)) v) (hu:au G (.sl 2 (B.map gV.dat)) u) :
  Calls prog 106 #[v,u] w0 (bJ w0 G fun r G'=>r=.bool (decide (A=B))):=by
 refine eN [(0,_),(1,_)] func106 rfl ntmps106 rfl rfl hG ?_;intro a H;refine kP H (SR fun _ K1=>aj K1 rfl (SR fun _ K2=>Rm rfl (Rm rfl ?_)));clear H K1;intro a H;refine s_call Xq H wn rfl (XP _ _ H.ro A B _ _ hv hu) rfl ?_;clear H;rintro v7 G7 a w rfl wU H;exact kH H (aj K2 rfl (LR results106 rfl fun H=>H.rt rfl))
theorem agT (G:GH) (x y:bL):Ce (.func (.func 105) #[] #[]) G x.dat y.dat (x=y):=by
 intro G1 w0 cs cs' hm hG h1 h2;refine mF (caps:=[]) aeB ?_;obtain ⟨pA,pn,pc,rfl,hp1⟩:=P7 h1;obtain ⟨qA,qn,qc,rfl,hp2⟩:=P7 h2;have he:=bL.eq_iff x y;refine eN [(0,_),(1,_)] func105 rfl ntmps105 rfl rfl hG ?_;intro a H;refine dw (fun _ K1=>?_);refine eD (cs:=[_,_,_,_,_,_]) H wn rfl rfl rfl ?_;clear H;intro b2 a w hb2 H;refine eD (cs:=[_,_,_,_,_,_]) H wn rfl rfl rfl ?_;clear H;intro b3 a w hb3 H;refine kH H (aj K1 rfl (SR fun _ K2=>bg uK aD 1 rfl rfl (bg uK aD 0 rfl rfl (Rc rfl (Rm rfl (Sp 10 rfl ?_ ?_)))))) <;> clear H K1
 ·intro h10 a H
  try have jw:=dT h10
  refine kH H (YF wH h10 rfl (YO aD 1 h10 rfl (YF wH h10 rfl (YO aD 0 h10 rfl (YC h10 rfl (Pt h10 rfl (Rm rfl (Sp 17 rfl ?_ ?_)))))))) <;> clear H
  ·intro bX a H
   try have kQ:=dT bX
   refine kH H (YF EX bX rfl (YO gD 1 bX rfl (YF EX bX rfl (YO gD 0 bX rfl ?_))));clear H;intro a H;refine Eo H (wg H rfl rfl bX) rfl rfl rfl ?_;clear H;intro a H;rw [show (x.name.toList == y.name.toList)=decide (x.name=y.name) by rw [mE,bytes_beq,decide_eq_true_iff]] at H;refine kH H (Pt bX rfl (Rm rfl (Sp 24 rfl ?_ ?_))) <;> clear H
   ·intro bE a H
    try have jP:=dT bE
    refine kH H (YF Lb bE rfl (YO aD 1 bE rfl (YF Lb bE rfl (YO aD 0 bE rfl (YC bE rfl (Pt bE rfl (Rm rfl (Sp 31 rfl ?_ ?_)))))))) <;> clear H
    ·intro h31 a H
     try have p31:=dT h31
     refine kH H (YF Jo h31 rfl (YO aD 1 h31 rfl (YF Jo h31 rfl (YO aD 0 h31 rfl (YC h31 rfl (Pt h31 rfl (Rm rfl (Sp 38 rfl ?_ ?_)))))))) <;> clear H
     ·intro jC a H
      try have p38:=dT jC
      refine kH H (YF GV jC rfl (YO qY 1 jC rfl (YF GV jC rfl (YO qY 0 jC rfl ?_))));clear H;intro a H;refine s_call aeC H (wg H rfl rfl jC) rfl (agQ _ _ H.ro x.props y.props _ _ hp1 hp2) rfl ?_;clear H;rintro v43 Dr a w rfl qb H;exact kH H (Pt jC rfl (aj K2 rfl (LR results105 rfl fun H=>H.rt ⟨_,rfl,by rw [← he];simp_all⟩)))
     intro jC a H
     try have p38:=dF jC
     exact kH H (aQ jC rfl (aN jC rfl (Pf jC rfl (aj K2 rfl (LR results105 rfl fun H=>H.rt ⟨_,rfl,by rw [← he];simp_all⟩)))))
    intro h31 a H
    try have p31:=dF h31
    exact kH H (aQ h31 rfl (aN h31 rfl (Pf h31 rfl (Rm rfl (aQ rfl rfl (aN rfl rfl (Pf rfl rfl (aj K2 rfl (LR results105 rfl fun H=>H.rt ⟨_,rfl,by rw [← he];simp_all⟩)))))))))
   intro bE a H
   try have jP:=dF bE
   exact kH H (aQ bE rfl (aN bE rfl (Pf bE rfl (Rm rfl (aQ rfl rfl (aN rfl rfl (Pf rfl rfl (Rm rfl (aQ rfl rfl (aN rfl rfl (Pf rfl rfl (aj K2 rfl (LR results105 rfl fun H=>H.rt ⟨_,rfl,by rw [← he];simp_all⟩)))))))))))))
  intro bX a H
  try have kQ:=dF bX
  exact kH H (aQ bX rfl (aN bX rfl (Pf bX rfl (Rm rfl (aQ rfl rfl (aN rfl rfl (Pf rfl rfl (Rm rfl (aQ rfl rfl (aN rfl rfl (Pf rfl rfl (Rm rfl (aQ rfl rfl (aN rfl rfl (Pf rfl rfl (aj K2 rfl (LR results105 rfl fun H=>H.rt ⟨_,rfl,by rw [← he];simp_all⟩)))))))))))))))))
 intro h10 a H
 try have jw:=dF h10
 exact kH H (aQ h10 rfl (aN h10 rfl (Pf h10 rfl (Rm rfl (aQ rfl rfl (aN rfl rfl (Pf rfl rfl (Rm rfl (aQ rfl rfl (aN rfl rfl (Pf rfl rfl (Rm rfl (aQ rfl rfl (aN rfl rfl (Pf rfl rfl (Rm rfl (aQ rfl rfl (aN rfl rfl (Pf rfl rfl (aj K2 rfl (LR results105 rfl fun H=>H.rt ⟨_,rfl,by rw [← he];simp_all⟩)))))))))))))))))))))
theorem XQ (G:GH) (w0:World) (hG:Hold G w0) (A B:List bL) (v u:ak) (hv:au G (.sl 6 (A.map bL.dat)) v) (hu:au G (.sl 6 (B.map bL.dat)) u) :
  Calls prog 40 #[v,u] w0 (bJ w0 G fun r G'=>∃ b,r=.bool b∧(b=true↔A=B)):=by
 refine eN [(0,_),(1,_)] func40 rfl ntmps40 rfl rfl hG ?_;intro a H;refine kP H (SR fun _ K1=>aj K1 rfl (SR fun _ K2=>Rm rfl (Rm rfl ?_)));clear H K1;intro a H;refine s_call aeA H wn rfl (agW _ _ H.ro A B _ _ _ hv hu (fun i h1 h2=>agT _ _ _)) rfl ?_;clear H;rintro v7 G7 a w ⟨b7,rfl,vM⟩ wU H;exact kH H (aj K2 rfl (LR results40 rfl fun H=>H.rt ⟨_,rfl,vM⟩))
end
section
open Go.RowKit
theorem ahm:dV prog 152 4 4:=⟨by kernel_rfl⟩
theorem X5:dV prog 152 3 3:=⟨by kernel_rfl⟩
theorem Il (x:Int):∀ l:List Int,(uS x (gT l)).getD (.bool false)=.bool (decide (x∈l))
 | []=>rfl
 | k :: r=>by
  have ih:=Il x r;rw [gT,iq,uS]
  by_cases e:k=x
  ·subst e;simp
  rw [ah e,show (r.map fun k=>(k,Value.bool true))=gT r from rfl,ih]
  simp [show x≠k from fun h=>e h.symm]
def Et (st:List bL) (v:Int):Int:=((st.find? fun s=>decide (s.id=v)).map bL.kind).getD 0
theorem Ms (x:Int):∀ l:List bL,(uS x (C9 l)).getD (vi 0)=vi (Et l x)
 | []=>rfl
 | s :: r=>by
  have ih:=Ms x r;rw [C9,iq,uS]
  by_cases e:s.id=x
  ·subst e;simp [Et]
  rw [ah e,show (r.map fun s=>(s.id,vi s.kind))=C9 r from rfl,ih]
  simp [Et,e]
def oK (bG:List Int) (x:Int):Int:=if ¬ (1≤x∧x≤1073741824) then 18 else if x∈bG then 7 else 0
def jU (bG:List Int) (x:Int):List Int:=if oK bG x=0 then bG++[x] else bG
theorem akY (l:List Int) (x:Int):gT (l++[x])=gT l++[(x,.bool true)]:=by simp [gT]
theorem QM (G:GH) (L:OL) (w0:World) (st:List bL) (li:List dH) (rv:List dh) (b ms ml mr mb mu:Nat) (n:Int) (bG:List Int) (x:Int) (hck:xC G st li rv ms ml mr mu) (hO:ig G (gN b ms ml mr mb mu n :: (mb,gL (gT bG)) :: L) w0) :
  Calls prog 167 #[(aM b 0),vi x] w0 (gy w0 G (gN b ms ml mr mb mu n :: (mb,gL (gT bG)) :: L) fun u G' L'=>u=vi (oK bG x)∧L'=gN b ms ml mr mb mu n :: (mb,gL (gT (jU bG x))) :: L∧G=G'):=by
 refine jB (N:=29) (T:=[(0,_),(1,_)]) func167 rfl ntmps167 rfl rfl hO ?_;intro a H;refine kP H (SR fun _ K1=>aj K1 rfl (SQ fun _ K2=>SB (SR fun _ K3=>Rm rfl ?_)));clear H K1;intro a H;refine s_call ze H wn rfl (zL _ _ H.ro x 1 1073741824) rfl ?_;clear H;rintro v7 _ a w ⟨rfl,rfl⟩ - H;refine kH H (Rn rfl (Rm rfl (Sp 9 rfl ?_ ?_))) <;> clear H
 ·intro h9 a H
  try have p9:=dT h9
  refine kH H (aQ h9 rfl (aQ h9 rfl (Pt h9 rfl (aj K3 rfl (Ct rfl rfl (SQ fun _ K4=>?_))))));clear H K3;intro a H
  have e:oK bG x=18:=by rw [oK,av (by first|(simp_all;done)|(simp_all;omega))]
  refine kP H (SC (aO K4 rfl ?_));clear H K4;intro a H;refine lr H results167 rfl ?_
  first
   | exact H.hp.eB ⟨by rw [e],by rw [jU,av e],rfl⟩
   | exact H.hp.eB ⟨by rw [e],by rw [jU,ah (by rw [e];decide)],rfl⟩
 intro h9 a H
 try have p9:=dF h9
 refine kH H (YM h9 rfl ?_);clear H;intro a H;refine uU H (wg H rfl rfl h9) rfl rfl ?_;clear H;intro a H;refine kH H (YF ahm h9 rfl (YO Dl 0 h9 rfl (YM h9 rfl ?_)));clear H;intro a H;refine BX (zv:=.bool false) Dm qh (by kernel_rfl) H (wg H rfl rfl h9) rfl rfl (H.ro _ _ hck.use) rfl ?_;clear H;intro a H;rw [show (uS x []).getD (Value.bool false)=.bool false from rfl] at H;refine kH H (Pf h9 rfl (aj K3 rfl (Cd rfl ?_ ?_))) <;> clear H K3
 ·intro h5 a H
  try have p5:=dT h5
  refine aS (fun _ K5=>?_)
  have e:oK bG x=18:=by rw [oK,av (by first|(simp_all;done)|(simp_all;omega))]
  refine kP H (SC (aO K5 rfl ?_));clear H K5;intro a H;refine lr H results167 rfl ?_
  first
   | exact H.hp.eB ⟨by rw [e],by rw [jU,av e],rfl⟩
   | exact H.hp.eB ⟨by rw [e],by rw [jU,ah (by rw [e];decide)],rfl⟩
 intro h5 a H
 try have p5:=dF h5
 have hin:decide (1≤x∧x≤1073741824)=true:=by simp_all
 refine kP H (SR fun _ K6=>Rm rfl (Rk rfl (bg X5 Dl 0 rfl rfl (Rm rfl ?_))));clear H;intro a H;refine BX (zv:=.bool false) Dm qh (by kernel_rfl) H wn rfl rfl (H.hp.own _ (nE _ lW)) rfl ?_;clear H;intro a H;rw [Il] at H;refine kH H (aj K6 rfl (Cd rfl ?_ ?_)) <;> clear H K6
 ·intro bX a H
  refine aS (fun _ K7=>?_)
  have e:oK bG x=7:=by rw [oK,ah (by simpa using hin),av (tC bX)]
  refine kP H (SC (aO K7 rfl ?_));clear H K7;intro a H;refine lr H results167 rfl ?_
  first
   | exact H.hp.eB ⟨by rw [e],by rw [jU,av e],rfl⟩
   | exact H.hp.eB ⟨by rw [e],by rw [jU,ah (by rw [e];decide)],rfl⟩
 intro bX a H
 have hx:x∉bG:=of_decide_eq_false bX;have hnew:uS x (gT bG)=none:=Pm (by simpa [gT,List.map_map,Function.comp_def] using hx)
 have e:oK bG x=0:=by rw [oK,ah (by simpa using hin),ah hx]
 refine kP H (Kc K2 (SR fun _ K8=>Rm rfl (Rk rfl (bg X5 Dl 0 rfl rfl (Rm rfl ?_)))));clear H K2;intro a H;refine P6 (i:=1) Dm qh H wn rfl rfl rfl rfl hnew ?_;clear H;intro w H;dsimp only [List.set] at H;rw [← akY] at H;refine K8 _ _ ?_;clear K8;refine kP H (SR fun _ K9=>aj K9 rfl ?_);clear H K9;intro a H;refine lr H results167 rfl ?_
 first
  | exact H.hp.eB ⟨by rw [e],by rw [jU,av e],rfl⟩
  | exact H.hp.eB ⟨by rw [e],by rw [jU,ah (by rw [e];decide)],rfl⟩
def lq (st:List bL) (yw:List Int) (key v:Int):Int :=
 if key=20∨key=1 then bQ (decide (v≠0∧Et st v≠(if key=1 then 2 else 1))) 25 else if key=33 then bQ (decide (v≠0∧v∉yw)) 26 else 0
theorem QN (G:GH) (w0:World) (hG:Hold G w0) (st:List bL) (li:List dH) (rv:List dh) (b ms ml mr mb mu:Nat) (n:Int) (key v:Int) (hck:xC G st li rv ms ml mr mu) (hb:G b=some (gN b ms ml mr mb mu n).2) :
  Calls prog 129 #[(aM b 0),vi key,vi v] w0 (bJ w0 G fun u G'=>u=vi (lq st (li.map dH.id) key v)∧G=G'):=by
 have hc0:aF G b 0=some (.map (some ms)):=by unfold aF;rw [hb];rfl
 have hc1:aF G b 1=some (.map (some ml)):=by unfold aF;rw [hb];rfl
 refine eN [(0,_),(1,_),(2,_)] func129 rfl ntmps129 rfl rfl hG ?_;intro a H;refine kP H (SR fun _ K1=>aj K1 rfl (SQ fun _ K2=>SR fun _ K3=>Rm rfl (Kz K3 (SB (SQ fun _ K4=>SR fun _ K5=>Rc rfl (aj K5 rfl (Cd rfl ?_ ?_))))))) <;> clear H K1 K3 K5
 ·intro h9 a H
  try have p9:=dT h9
  refine kP H (Kc K4 (Ct rfl h9 (SR fun _ K6=>aj K6 rfl (SQ fun _ K7=>SR fun _ K8=>Rm rfl (Rc rfl (Kz K8 (Cd rfl ?_ ?_))))))) <;> clear H K4 K6 K8
  ·intro gG a H
   try have rR:=dT gG
   refine kP H (SC (aO K7 rfl (SR fun _ K9=>Rm rfl (Rc rfl (Rm rfl (Sp 16 rfl ?_ ?_)))))) <;> clear H K7
   ·intro h16 a H
    try have p16:=dT h16
    refine kH H (YM h16 rfl ?_);clear H;intro a H;refine uU H (wg H rfl rfl h16) rfl rfl ?_;clear H;intro a H;refine kH H (YF KZ h16 rfl (YR M0 h16 rfl (by assumption) ?_));clear H;intro a H;refine kH H (YM h16 rfl ?_);clear H;intro a H;refine BX (zv:=vi 0) IB qh (by kernel_rfl) H (wg H rfl rfl h16) rfl rfl (H.ro _ _ hck.sty) rfl ?_;clear H;intro a H;rw [Ms] at H;refine kH H (YM h16 rfl (YC h16 rfl (Pt h16 rfl ?_)));clear H;intro a H;refine s_call kD H wn rfl (kI _ _ H.ro _ 25) rfl ?_;clear H;rintro v26 _ a w ⟨rfl,rfl⟩ - H;refine kH H (aj K9 rfl ?_);clear H K9;intro a H;refine lr H results129 rfl ?_
    exact H.rt ⟨aB vi (by unfold lq;(repeat' split) <;> first|rfl|(simp_all;done)|(exfalso;simp_all;done)|(congr 1;rw [mE];simp only [uy,vk,qI];exact ⟨fun h=>⟨p31,h⟩,fun h=>h.2⟩)),rfl⟩
   intro h16 a H
   try have p16:=dF h16
   refine kH H (aQ h16 rfl (aQ h16 rfl (aN h16 rfl (Pf h16 rfl ?_))));clear H;intro a H;refine s_call kD H wn rfl (kI _ _ H.ro _ 25) rfl ?_;clear H;rintro v26 _ a w ⟨rfl,rfl⟩ - H;refine kH H (aj K9 rfl ?_);clear H K9;intro a H;refine lr H results129 rfl ?_
   exact H.rt ⟨aB vi (by unfold lq;(repeat' split) <;> first|rfl|(simp_all;done)|(exfalso;simp_all;done)|(congr 1;rw [mE];simp only [uy,vk,qI];exact ⟨fun h=>⟨p31,h⟩,fun h=>h.2⟩)),rfl⟩
  intro gG a H
  try have rR:=dF gG
  refine kP H (Kc K7 (SR fun _ aT=>Rm rfl (Rc rfl (Rm rfl (Sp 16 rfl ?_ ?_))))) <;> clear H K7
  ·intro h16 a H
   try have p16:=dT h16
   refine kH H (YM h16 rfl ?_);clear H;intro a H;refine uU H (wg H rfl rfl h16) rfl rfl ?_;clear H;intro a H;refine kH H (YF KZ h16 rfl (YR M0 h16 rfl (by assumption) ?_));clear H;intro a H;refine kH H (YM h16 rfl ?_);clear H;intro a H;refine BX (zv:=vi 0) IB qh (by kernel_rfl) H (wg H rfl rfl h16) rfl rfl (H.ro _ _ hck.sty) rfl ?_;clear H;intro a H;rw [Ms] at H;refine kH H (YM h16 rfl (YC h16 rfl (Pt h16 rfl ?_)));clear H;intro a H;refine s_call kD H wn rfl (kI _ _ H.ro _ 25) rfl ?_;clear H;rintro v26 _ a w ⟨rfl,rfl⟩ - H;refine kH H (aj aT rfl ?_);clear H aT;intro a H;refine lr H results129 rfl ?_
   exact H.rt ⟨aB vi (by unfold lq;(repeat' split) <;> first|rfl|(simp_all;done)|(exfalso;simp_all;done)|(congr 1;rw [mE];simp only [uy,vk,qI];exact ⟨fun h=>⟨p31,h⟩,fun h=>h.2⟩)),rfl⟩
  intro h16 a H
  try have p16:=dF h16
  refine kH H (aQ h16 rfl (aQ h16 rfl (aN h16 rfl (Pf h16 rfl ?_))));clear H;intro a H;refine s_call kD H wn rfl (kI _ _ H.ro _ 25) rfl ?_;clear H;rintro v26 _ a w ⟨rfl,rfl⟩ - H;refine kH H (aj aT rfl ?_);clear H aT;intro a H;refine lr H results129 rfl ?_
  exact H.rt ⟨aB vi (by unfold lq;(repeat' split) <;> first|rfl|(simp_all;done)|(exfalso;simp_all;done)|(congr 1;rw [mE];simp only [uy,vk,qI];exact ⟨fun h=>⟨p31,h⟩,fun h=>h.2⟩)),rfl⟩
 intro h9 a H
 try have p9:=dF h9
 refine kP H (SC (Rc rfl (aO K4 rfl (Cd rfl ?_ ?_)))) <;> clear H K4
 ·intro h9 a H
  try have p9:=dT h9
  refine kP H (SR fun _ bB=>aj bB rfl (SQ fun _ bC=>SR fun _ bK=>Rm rfl (Rc rfl (Kz bK (Cd rfl ?_ ?_))))) <;> clear H bB bK
  ·intro gG a H
   try have rR:=dT gG
   refine kP H (SC (aO bC rfl (SR fun _ bP=>Rm rfl (Rc rfl (Rm rfl (Sp 16 rfl ?_ ?_)))))) <;> clear H bC
   ·intro h16 a H
    try have p16:=dT h16
    refine kH H (YM h16 rfl ?_);clear H;intro a H;refine uU H (wg H rfl rfl h16) rfl rfl ?_;clear H;intro a H;refine kH H (YF KZ h16 rfl (YR M0 h16 rfl (by assumption) ?_));clear H;intro a H;refine kH H (YM h16 rfl ?_);clear H;intro a H;refine BX (zv:=vi 0) IB qh (by kernel_rfl) H (wg H rfl rfl h16) rfl rfl (H.ro _ _ hck.sty) rfl ?_;clear H;intro a H;rw [Ms] at H;refine kH H (YM h16 rfl (YC h16 rfl (Pt h16 rfl ?_)));clear H;intro a H;refine s_call kD H wn rfl (kI _ _ H.ro _ 25) rfl ?_;clear H;rintro v26 _ a w ⟨rfl,rfl⟩ - H;refine kH H (aj bP rfl ?_);clear H bP;intro a H;refine lr H results129 rfl ?_
    exact H.rt ⟨aB vi (by unfold lq;(repeat' split) <;> first|rfl|(simp_all;done)|(exfalso;simp_all;done)|(congr 1;rw [mE];simp only [uy,vk,qI];exact ⟨fun h=>⟨p31,h⟩,fun h=>h.2⟩)),rfl⟩
   intro h16 a H
   try have p16:=dF h16
   refine kH H (aQ h16 rfl (aQ h16 rfl (aN h16 rfl (Pf h16 rfl ?_))));clear H;intro a H;refine s_call kD H wn rfl (kI _ _ H.ro _ 25) rfl ?_;clear H;rintro v26 _ a w ⟨rfl,rfl⟩ - H;refine kH H (aj bP rfl ?_);clear H bP;intro a H;refine lr H results129 rfl ?_
   exact H.rt ⟨aB vi (by unfold lq;(repeat' split) <;> first|rfl|(simp_all;done)|(exfalso;simp_all;done)|(congr 1;rw [mE];simp only [uy,vk,qI];exact ⟨fun h=>⟨p31,h⟩,fun h=>h.2⟩)),rfl⟩
  intro gG a H
  try have rR:=dF gG
  refine kP H (Kc bC (SR fun _ dx=>Rm rfl (Rc rfl (Rm rfl (Sp 16 rfl ?_ ?_))))) <;> clear H bC
  ·intro h16 a H
   try have p16:=dT h16
   refine kH H (YM h16 rfl ?_);clear H;intro a H;refine uU H (wg H rfl rfl h16) rfl rfl ?_;clear H;intro a H;refine kH H (YF KZ h16 rfl (YR M0 h16 rfl (by assumption) ?_));clear H;intro a H;refine kH H (YM h16 rfl ?_);clear H;intro a H;refine BX (zv:=vi 0) IB qh (by kernel_rfl) H (wg H rfl rfl h16) rfl rfl (H.ro _ _ hck.sty) rfl ?_;clear H;intro a H;rw [Ms] at H;refine kH H (YM h16 rfl (YC h16 rfl (Pt h16 rfl ?_)));clear H;intro a H;refine s_call kD H wn rfl (kI _ _ H.ro _ 25) rfl ?_;clear H;rintro v26 _ a w ⟨rfl,rfl⟩ - H;refine kH H (aj dx rfl ?_);clear H dx;intro a H;refine lr H results129 rfl ?_
   exact H.rt ⟨aB vi (by unfold lq;(repeat' split) <;> first|rfl|(simp_all;done)|(exfalso;simp_all;done)|(congr 1;rw [mE];simp only [uy,vk,qI];exact ⟨fun h=>⟨p31,h⟩,fun h=>h.2⟩)),rfl⟩
  intro h16 a H
  try have p16:=dF h16
  refine kH H (aQ h16 rfl (aQ h16 rfl (aN h16 rfl (Pf h16 rfl ?_))));clear H;intro a H;refine s_call kD H wn rfl (kI _ _ H.ro _ 25) rfl ?_;clear H;rintro v26 _ a w ⟨rfl,rfl⟩ - H;refine kH H (aj dx rfl ?_);clear H dx;intro a H;refine lr H results129 rfl ?_
  exact H.rt ⟨aB vi (by unfold lq;(repeat' split) <;> first|rfl|(simp_all;done)|(exfalso;simp_all;done)|(congr 1;rw [mE];simp only [uy,vk,qI];exact ⟨fun h=>⟨p31,h⟩,fun h=>h.2⟩)),rfl⟩
 intro h9 a H
 try have p9:=dF h9
 refine kP H (SR fun _ dP=>Rc rfl (aj dP rfl (Cd rfl ?_ ?_))) <;> clear H dP
 ·intro h27 a H
  try have p27:=dT h27
  refine kP H (SR fun _ dB=>Rm rfl (Rc rfl (Rm rfl (Sp 31 rfl ?_ ?_)))) <;> clear H
  ·intro h31 a H
   try have p31:=dT h31
   refine kH H (YM h31 rfl ?_);clear H;intro a H;refine uU H (wg H rfl rfl h31) rfl rfl ?_;clear H;intro a H;refine kH H (YF X4 h31 rfl (YR Dl h31 rfl (by assumption) ?_));clear H;intro a H;refine kH H (YM h31 rfl ?_);clear H;intro a H;refine BX (zv:=.bool false) Dm qh (by kernel_rfl) H (wg H rfl rfl h31) rfl rfl (H.ro _ _ hck.yw) rfl ?_;clear H;intro a H;rw [Il] at H;refine kH H (YN h31 rfl (Pt h31 rfl ?_));clear H;intro a H;refine s_call kD H wn rfl (kI _ _ H.ro _ 26) rfl ?_;clear H;rintro v40 _ a w ⟨rfl,rfl⟩ - H;refine kH H (aj dB rfl ?_);clear H dB;intro a H;refine lr H results129 rfl ?_
   exact H.rt ⟨aB vi (by unfold lq;(repeat' split) <;> first|rfl|(simp_all;done)|(exfalso;simp_all;done)|(congr 1;rw [mE];simp only [uy,vk,qI];exact ⟨fun h=>⟨p31,h⟩,fun h=>h.2⟩)),rfl⟩
  intro h31 a H
  try have p31:=dF h31
  refine kH H (aQ h31 rfl (aN h31 rfl (aN h31 rfl (Pf h31 rfl ?_))));clear H;intro a H;refine s_call kD H wn rfl (kI _ _ H.ro _ 26) rfl ?_;clear H;rintro v40 _ a w ⟨rfl,rfl⟩ - H;refine kH H (aj dB rfl ?_);clear H dB;intro a H;refine lr H results129 rfl ?_
  exact H.rt ⟨aB vi (by unfold lq;(repeat' split) <;> first|rfl|(simp_all;done)|(exfalso;simp_all;done)|(congr 1;rw [mE];simp only [uy,vk,qI];exact ⟨fun h=>⟨p31,h⟩,fun h=>h.2⟩)),rfl⟩
 intro h27 a H
 try have p27:=dF h27
 refine kP H (Kc K2 (SR fun _ dY=>aj dY rfl ?_));clear H K2 dY;intro a H;refine lr H results129 rfl ?_
 exact H.rt ⟨aB vi (by unfold lq;(repeat' split) <;> first|rfl|(simp_all;done)|(exfalso;simp_all;done)|(congr 1;rw [mE];simp only [uy,vk,qI];exact ⟨fun h=>⟨p31,h⟩,fun h=>h.2⟩)),rfl⟩
end
section
open Go.RowKit
section
variable {N:Nat} {D:List Deferred} {w0:World} {F:Nat→Prop} {G0 G G':GH} {L L':OL} {T:List (Nat × ak)}
variable {r:Option Nat} {P:Program} {ops:Array Oper} {Q:Exit→Act→World→Prop} {rest:List Oper} {a:Act} {w w':World}
theorem oz {ι:Type} {Tc:List (Nat × ak)} {l:List Oper} (k:Nat) (Tv:ι→List (Nat × ak)) (Pr:ι→Prop) (_:St N D w0 F G0 G L Tc a w)
  (h1:(∀ i a w,Pr i→St N D w0 F G0 G L (Tv i++Tc) a w→WL r P ops Q (l.drop k) a w)→WL r P ops Q l a w)
  (h2:∀ i a w,Pr i→St N D w0 F G0 G L (Tv i++Tc) a w→WL r P ops Q (l.drop k) a w):WL r P ops Q l a w:=h1 h2
theorem Change.back (h:Change w w' G G' L L'):Change w w' G G L L' :=
 ⟨h.os,h.tape,h.output,h.size,h.fr,fun _ _ h=>h,fun _ _ h=>.inl h,⟨fun k o hk=>h.owns.ro k o (h.gm k o hk),h.owns.own,fun p hp=>(by
  have hs:=h.owns.sep p hp
  cases hg:G p.1 with
  | none=>rfl
  | some o=>have:=h.gm _ _ hg;rw [hs] at this;cases this),h.owns.nd⟩,h.lx⟩
theorem gy.back {R:ak→GH→OL→Prop} {R':ak→OL→Prop} (hR:∀ v G' L',R v G' L'→R' v L') {e:Ending} (h:gy w G L R e w'):gy w G L (fun v G' L'=>G=G'∧R' v L') e w':=by
 obtain ⟨v,G',L',rfl,hc,hr⟩:=h
 exact ⟨v,G,L',rfl,hc.back,rfl,hR _ _ _ hr⟩
theorem Calls.acL {f:FuncId} {args:Array ak} {R:ak→GH→OL→Prop} {R':ak→OL→Prop} (h:Calls P f args w (gy w G L R)) (hR:∀ v G' L',R v G' L'→R' v L'):Calls P f args w (gy w G L fun v G' L'=>G=G'∧R' v L') :=
 h.mono fun _ _=>gy.back hR
theorem bJ.back {R:ak→GH→Prop} {e:Ending} (h:bJ w G R e w'):bJ w G (fun v G'=>(∃ g,R v g)∧G=G') e w':=by
 obtain ⟨v,G',rfl,hb,hX,hr⟩:=h
 exact ⟨v,G,rfl,hb,⟨fun _ _ h=>h,fun _ _ h=>.inl h,fun k o hk=>hX.2.2 k o (hX.1 k o hk)⟩,⟨G',hr⟩,rfl⟩
theorem EO {f:FuncId} {args:Array ak} {R:ak→GH→Prop} (h:Calls P f args w (bJ w G R)):Calls P f args w (bJ w G fun v G'=>(∃ g,R v g)∧G=G'):=h.mono fun _ _=>bJ.back
theorem ig.add {b:Nat} {o:Obj} (h:ig G ((b,o) :: L) w):Hold (G.add b o) w:=fun k o' hk=>by
 unfold GH.add at hk
 split at hk
 ·next e=>cases hk;subst e;exact h.own _ lW
 ·exact h.ro k o' hk
theorem U5 {b:Nat} {o:Obj} {R:ak→GH→Prop} {R':ak→Prop} (hO:ig G ((b,o) :: L) w) (hR:∀ v G',R v G'→R' v) {e:Ending} (h:bJ w (G.add b o) R e w'):gy w G ((b,o) :: L) (fun v G' L'=>G=G'∧L'=(b,o) :: L∧R' v) e w':=by
 obtain ⟨v,G',rfl,hb,hX,hr⟩:=h
 exact ⟨v,G,_,rfl,(hO.hp.below hb).abu,rfl,rfl,hR _ _ hr⟩
end
end
section
open Go.RowKit
theorem X6:dV prog 171 0 0:=⟨by kernel_rfl⟩
theorem qp:dV prog 171 1 1:=⟨by kernel_rfl⟩
theorem EY:dV prog 171 3 3:=⟨by kernel_rfl⟩
theorem vE:dV prog 171 2 2:=⟨by kernel_rfl⟩
theorem QZ:∀ args w,(callFunc 129 args).run prog w=.ok (.enter 129 args) w:=enters func129 rfl (by kernel_rfl)
structure iT where
 st:List bL
 yw:List Int
 Dg:List Int
abbrev aP (st:List bL) (li:List dH) (rv:List dh):iT:=⟨st,li.map dH.id,rv.map dh.id⟩
theorem Pg {G:GH} {l:List jK} {A:Option Addr} {n c k:Nat} (hv:au G (.sl 4 (l.map jK.dat)) (.slice A n c)) (hk:k < l.length):∃ b o,A=some ⟨b,o,none⟩∧(∀ j u,l[k].cells[j]?=some u→aF G b (o+k*4+j)=some u):=by
 obtain ⟨A',c',he,_,_,hg⟩:=hv.slice
 injection he with e1 e2 e3
 subst e1;obtain ⟨b,o,cs,h1,h2,h3,h4⟩:=hg k l[k].dat (by simp [hk]);have:=Ut h4;subst this;exact ⟨b,o,h1,h3⟩
theorem NI {G:GH} {l:List jV} {A:Option Addr} {n c k:Nat} (hv:au G (.sl 2 (l.map jV.dat)) (.slice A n c)) (hk:k < l.length):∃ b o,A=some ⟨b,o,none⟩∧(∀ j u,l[k].cells[j]?=some u→aF G b (o+k*2+j)=some u):=by
 obtain ⟨A',c',he,_,_,hg⟩:=hv.slice
 injection he with e1 e2 e3
 subst e1;obtain ⟨b,o,cs,h1,h2,h3,h4⟩:=hg k l[k].dat (by simp [hk]);have:=QV h4;subst this;exact ⟨b,o,h1,h3⟩
def mG (C:iT) (e:Int) (k:Nat) (x:jK) (pk:Int):Int :=
 if x.rev∉C.Dg then 22 else if Bh e x.key=false then 4 else if 0 < k∧x.key < pk then 6 else if x.had=false then bQ (decide (x.before≠0)) 21 else bT [tH x.key x.before,lq C.st C.yw x.key x.before]
def BN (C:iT) (e:Int) (l:List jK) (k:Nat):Int:=match l[k]? with|some x=>mG C e k x ((l[k - 1]?.map jK.key).getD 0)|none=>0
theorem akJ (G:GH) (w0:World) (hG:Hold G w0) (st:List bL) (li:List dH) (rv:List dh) (b ms ml mr mb mu:Nat) (n:Int) (hck:xC G st li rv ms ml mr mu) (hb:G b=some (gN b ms ml mr mb mu n).2)
  (e:Int) (l:List jK) (v:ak) (hv:au G (.sl 4 (l.map jK.dat)) v) (k:Nat) (hk:k < l.length) :
  Calls prog 131 #[(aM b 0),vi e,v,vi k] w0 (bJ w0 G fun u G'=>u=vi (BN (aP st li rv) e l k)):=by
 have hc2:aF G b 2=some (.map (some mr)):=by unfold aF;rw [hb];rfl
 obtain ⟨A,c,rfl,hl1,hl2,-⟩:=hv.slice;have hml:maxLen=9223372036854775807:=rfl;rw [bV] at *;obtain ⟨xb,xo,rfl,hrow⟩:=Pg hv hk
 have hk1:k - 1 < l.length:=by omega
 obtain ⟨b',o',he',hrow'⟩:=Pg hv hk1
 injection he' with he'
 injection he' with e1 e2
 subst e1;subst e2
 have he:BN (aP st li rv) e l k=mG (aP st li rv) e k l[k] l[k - 1].key:=by unfold BN;rw [fT hk,fT hk1];rfl
 obtain ⟨x,hx⟩:∃ x,x=l[k]:=⟨_,rfl⟩;obtain ⟨y,hy⟩:∃ y,y=l[k - 1]:=⟨_,rfl⟩;rw [← hx] at hrow he;rw [← hy] at hrow' he;have hq:=hrow' 1 _ rfl;refine eN [(0,_),(1,_),(2,_),(3,_)] func131 rfl ntmps131 rfl rfl hG ?_;intro a H;refine kP H (SR fun _ K1=>aj K1 rfl (SR fun _ K2=>Rm rfl (Rm rfl (Ri qg sV rfl rfl ?_))));clear H K1;intro a H;refine aW sV (cs:=x.cells) H wn rfl rfl (fun j v hj=>H.hp.aF (hrow j v hj)) rfl ?_;clear H;intro a H;refine dU sV H wn rfl ?_;clear H;intro b9 a w rH H;refine bN sV 0 (vs:=[_,_,_,_]) _ H wn rfl rfl rfl rfl rfl rfl rfl rfl ?_;clear H;intro w H;dsimp only [List.set,setRow] at H;refine K2 _ _ ?_;clear K2;refine kP H (SQ fun _ K3=>SB (SQ fun _ K4=>?_));clear H;intro a H;refine dI hmx [[],[0],[0,1],[0,1,2],[],[4],(ra 0 6),(ra 0 7),(ra 0 8)] [8] (by kernel_rfl) [_,_,_,_,_,vi x.rev,.bool (decide (x.rev∈rv.map dh.id)),_] H (aG (Z0 rfl (Rm rfl)) (Z1 0 15 rfl (Rk rfl)) (Z1 1 16 rfl (Rf La rfl)) (X1 2 17 rfl fun hG=>Rg Dl rfl (ay hG hc2)) (aG (Z0 rfl (Rf X6 rfl)) (Z1 4 19 rfl (Ro aD 0 rfl)) ?_ (Z1 6 21 rfl (Rn rfl)) (bq (bY rfl) dD))) ?_
 ·refine eu 3 18 5 20 rfl rfl fun _ a w G1 hG HT H fin=>?_;refine BX (zv:=.bool false) Dm qh (by kernel_rfl) H wn rfl rfl (H.ro _ _ (hG _ _ hck.rev)) rfl ?_;clear H;intro a H;rw [Il] at H;exact fin H iJ rfl
 clear H;intro a w G DZ H hv;have H:=H.aZ (hv 7 22 rfl rfl) rfl;clear hv;refine kH H (Ra rfl ?_);clear H;intro a H;refine aH ⟨rfl,?_⟩;refine K4 _ _ ?_;clear K4;refine jX H rfl ?_ ?_
 ·intro dM
  try have jH:=dT dM
  refine kP H (SR fun _ K5=>aj K5 rfl ?_);clear H K5;intro a H;refine lr H results131 rfl ?_
  exact H.rt (by rw [he];refine aB vi ?_;clear he hrow hrow' hq hx hy;unfold mG;(repeat' split) <;> first|rfl|(simp_all;done)|(exfalso;simp_all;done))
 intro dM
 try have jH:=dF dM
 refine kP H (SR fun _ K6=>Rm rfl (bg qp aD 0 rfl rfl ?_));clear H;intro a H;refine s_call Rz H wn rfl (EO (RL _ _ H.ro e x.key)) rfl ?_;clear H;rintro v27 _ a w ⟨⟨_,rfl⟩,rfl⟩ - H;refine kH H (Rn rfl (aj K6 rfl (Cd rfl ?_ ?_))) <;> clear H K6
 ·intro h23 a H
  try have AA:=dT h23
  refine kP H (SR fun _ K7=>aj K7 rfl ?_);clear H K7;intro a H;refine lr H results131 rfl ?_
  exact H.rt (by rw [he];refine aB vi ?_;clear he hrow hrow' hq hx hy;unfold mG;(repeat' split) <;> first|rfl|(simp_all;done)|(exfalso;simp_all;done))
 intro h23 a H
 try have AA:=dF h23
 refine aS (fun _ K8=>?_);replace hq:=ay DZ hq
 by_cases c0:0 < (k:Int)
 ·skip
  by_cases c1:x.key < y.key
  ·skip;refine dI hmx [[],[0],[0,1],[0,1,2],(ra 0 4),[0,1,2],[0,1,2],[0,1,2,6],[0,1,2,5,6,7],[0,1,2,5,6,7,8],[0,1,2,5,6,7,8,9],(ra 0 11),(ra 0 12),(ra 0 13)] [13] (by kernel_rfl) [_,_,_,_,vi x.key,_,_,vi ((k - 1:Nat):Int),_,_,_,_,_] H (aG (Z0 rfl (Rm rfl)) (Z1 0 30 rfl (Rc rfl)) (Z1 1 31 rfl (Rm rfl)) (Z1 2 32 rfl (YF qp (aI c0) rfl)) (aG (Z2 3 33 2 32 rfl (YO aD 0 (aI c0) rfl)) (Z1 2 32 rfl (YM (aI c0) rfl)) (Z1 2 32 rfl (YM (aI c0) rfl)) ?_ (aG (Z3 5 35 7 37 2 32 rfl (YI qg sV (aI c0) rfl rfl)) (Z2 8 38 2 32 rfl (YF qp (aI c0) rfl)) (X2 9 39 2 32 rfl fun hG=>YR aD (aI c0) rfl (ay hG hq)) (Z3 4 34 10 40 2 32 rfl (YC (aI c0) rfl)) (bq (Z2 2 32 11 41 rfl (Pt (aI c0) rfl)) (bq (bY rfl) dD))))) ?_
   ·refine eu 6 36 2 32 rfl rfl fun _ a w G1 hG HT H fin=>?_;refine nU _ H (wg H rfl rfl (aI c0)) rfl rfl rfl (by omega) (by omega) rfl ?_;clear H;intro a H;exact fin H iJ (by show _=_;first|rfl|exact aB vi (by omega))
   clear H;intro a w G fH H hv;have H:=H.aZ (hv 12 42 rfl rfl) rfl;clear hv;refine kH H (Ra rfl ?_);clear H;intro a H;refine aH ⟨rfl,?_⟩;refine K8 _ _ ?_;clear K8;refine yV H rfl (aI c1) ?_;refine aS (fun _ K9=>?_);have hz:0 < k∧x.key < y.key:=⟨by omega,c1⟩;refine kP H (SC (aO K9 rfl ?_));clear H K9;intro a H;refine lr H results131 rfl ?_
   exact H.rt (by rw [he];refine aB vi ?_;clear he hrow hrow' hq hx hy;unfold mG;(repeat' split) <;> first|rfl|(simp_all;done)|(exfalso;simp_all;done))
  skip;refine dI hmx [[],[0],[0,1],[0,1,2],(ra 0 4),[0,1,2],[0,1,2],[0,1,2,6],[0,1,2,5,6,7],[0,1,2,5,6,7,8],[0,1,2,5,6,7,8,9],(ra 0 11),(ra 0 12),(ra 0 13)] [13] (by kernel_rfl) [_,_,_,_,vi x.key,_,_,vi ((k - 1:Nat):Int),_,_,_,_,_] H (aG (Z0 rfl (Rm rfl)) (Z1 0 30 rfl (Rc rfl)) (Z1 1 31 rfl (Rm rfl)) (Z1 2 32 rfl (YF qp (aI c0) rfl)) (aG (Z2 3 33 2 32 rfl (YO aD 0 (aI c0) rfl)) (Z1 2 32 rfl (YM (aI c0) rfl)) (Z1 2 32 rfl (YM (aI c0) rfl)) ?_ (aG (Z3 5 35 7 37 2 32 rfl (YI qg sV (aI c0) rfl rfl)) (Z2 8 38 2 32 rfl (YF qp (aI c0) rfl)) (X2 9 39 2 32 rfl fun hG=>YR aD (aI c0) rfl (ay hG hq)) (Z3 4 34 10 40 2 32 rfl (YC (aI c0) rfl)) (bq (Z2 2 32 11 41 rfl (Pt (aI c0) rfl)) (bq (bY rfl) dD))))) ?_
  ·refine eu 6 36 2 32 rfl rfl fun _ a w G1 hG HT H fin=>?_;refine nU _ H (wg H rfl rfl (aI c0)) rfl rfl rfl (by omega) (by omega) rfl ?_;clear H;intro a H;exact fin H iJ (by show _=_;first|rfl|exact aB vi (by omega))
  clear H;intro a w G fH H hv;have H:=H.aZ (hv 12 42 rfl rfl) rfl;clear hv;refine kH H (Ra rfl ?_);clear H;intro a H;refine aH ⟨rfl,?_⟩;refine K8 _ _ ?_;clear K8;refine om H rfl (aR c1) ?_;refine aS (fun _ aT=>?_)
  have hz:¬ (0 < k∧x.key < y.key):=by first|exact fun h=>c1 h.2|exact fun h=>c0 (by omega)
  refine kP H (SC (bg EY uf 0 rfl rfl (Rn rfl (aO aT rfl (Cd rfl ?_ ?_))))) <;> clear H aT
  ·intro h43 a H
   try have p43:=dT h43
   refine kP H (SR fun _ bB=>bg vE aD 0 rfl rfl (Rc rfl ?_));clear H;intro a H;refine s_call kD H wn rfl (kI _ _ H.ro _ 21) rfl ?_;clear H;rintro v50 _ a w ⟨rfl,rfl⟩ - H;refine kH H (aj bB rfl ?_);clear H bB;intro a H;refine lr H results131 rfl ?_
   exact H.rt (by rw [he];refine aB vi ?_;clear he hrow hrow' hq hx hy;unfold mG;(repeat' split) <;> first|rfl|(simp_all;done)|(exfalso;simp_all;done))
  intro h43 a H
  try have p43:=dF h43
  refine fu ?_;refine K3 _ _ ?_;clear K3;refine aS (fun _ bC=>?_);replace hck:=(hck.mono DZ).mono fH;replace hb:=fH _ _ (DZ _ _ hb);refine dI hmx [[],[0],[],[2],(ra 0 4),[],[],[6],[],[8],(ra 0 10),(ra 0 11),(ra 0 12),(ra 0 13)] [11,12,13] (by kernel_rfl) [_,vi x.key,_,vi x.before,vi (tH x.key x.before),_,_,vi x.key,_,vi x.before,vi (lq st (li.map dH.id) x.key x.before)] H (aG (Z0 rfl (Rf qp rfl)) (Z1 0 51 rfl (Ro aD 0 rfl)) (Z0 rfl (Rf vE rfl)) (Z1 2 53 rfl (Ro aD 0 rfl)) (aG ?_ (Z0 rfl (Rm rfl)) (Z0 rfl (Rf qp rfl)) (Z1 6 57 rfl (Ro aD 0 rfl)) (aG (Z0 rfl (Rf vE rfl)) (Z1 8 59 rfl (Ro aD 0 rfl)) ?_ (bY rfl) (bq (bY rfl) (bq (bY rfl) dD))))) ?_
  ·refine eu 1 52 3 54 rfl rfl fun _ a w G1 hG HT H fin=>?_;refine s_call GN H wn rfl (GK _ _ H.ro x.key x.before) rfl ?_;clear H;rintro v55 Qu a w rfl Sr H;exact fin H Sr (rfl)
  ·refine rC 5 56 7 58 9 60 rfl rfl fun _ a w G1 hG HT H fin=>?_;refine s_call QZ H wn rfl (QN _ _ H.ro st li rv b ms ml mr mb mu n x.key x.before (hck.mono hG) (hG _ _ hb)) rfl ?_;clear H;rintro v61 G61 a w ⟨rfl,-⟩ Sv H;exact fin H Sv (rfl)
  clear H;intro a w G pW H hv;have H:=H.aZ (hv 4 55 rfl rfl) rfl;have H:=H.aZ (hv 10 61 rfl rfl) rfl;clear hv;refine jJ qZ iW [_,_] [_,_] H wn rfl rfl rfl rfl rfl (by intro i q h;match i,h with|0,h=>exact h|1,h=>exact h|n+2,h=>simp at h) rfl rfl ?_;clear H;intro WM a w aiF H;obtain ⟨VZ,LZ,S9,H⟩:=H.eG;refine s_call sj H wn rfl (sw _ _ H.ro _ _ (AQ S9)) rfl ?_;clear H;rintro v63 _ a w ⟨rfl,rfl⟩ - H;refine kH H (Ra rfl ?_);clear H;intro a H;refine aH ⟨rfl,?_⟩;refine bC _ _ ?_;clear bC;refine lr H results131 rfl ?_
  exact H.rt (by rw [he];refine aB vi ?_;clear he hrow hrow' hq hx hy;unfold mG;(repeat' split) <;> first|rfl|(simp_all;done)|(exfalso;simp_all;done))
 skip;refine dI hmx [[],[0],[0,1],[0,1,2],(ra 0 4),[0,1,2],[0,1,2],[0,1,2,6],[0,1,2,5,6,7],[0,1,2,5,6,7,8],[0,1,2,5,6,7,8,9],(ra 0 11),(ra 0 12),(ra 0 13)] [13] (by kernel_rfl) [_,_,_,undef,undef,undef,undef,undef,undef,undef,undef,undef,_] H (aG (Z0 rfl (Rm rfl)) (Z1 0 30 rfl (Rc rfl)) (Z1 1 31 rfl (Rm rfl)) (aX (j:=2) (by kernel_rfl) (fun _ _ _ _ _ h=>h) rfl rfl rfl rfl rfl (fun _ _ h=>aY h (aL (aR c0))) rfl (fun _=>rfl)) (aG (aX (j:=2) (by kernel_rfl) (fun _ _ _ _ _ h=>h) rfl rfl rfl rfl rfl (fun _ _ h=>aY h (aL (aR c0))) rfl (fun _=>rfl)) (aX (j:=2) (by kernel_rfl) (fun _ _ _ _ _ h=>h) rfl rfl rfl rfl rfl (fun _ _ h=>aY h (aL (aR c0))) rfl (fun _=>rfl)) (aX (j:=2) (by kernel_rfl) (fun _ _ _ _ _ h=>h) rfl rfl rfl rfl rfl (fun _ _ h=>aY h (aL (aR c0))) rfl (fun _=>rfl)) (aX (j:=2) (by kernel_rfl) (fun _ _ _ _ _ h=>h) rfl rfl rfl rfl rfl (fun _ _ h=>aY h (aL (aR c0))) rfl (fun _=>rfl)) (aG (aX (j:=2) (by kernel_rfl) (fun _ _ _ _ _ h=>h) rfl rfl rfl rfl rfl (fun _ _ h=>aY h (aL (aR c0))) rfl (fun _=>rfl)) (aX (j:=2) (by kernel_rfl) (fun _ _ _ _ _ h=>h) rfl rfl rfl rfl rfl (fun _ _ h=>aY h (aL (aR c0))) rfl (fun _=>rfl)) (aX (j:=2) (by kernel_rfl) (fun _ _ _ _ _ h=>h) rfl rfl rfl rfl rfl (fun _ _ h=>aY h (aL (aR c0))) rfl (fun _=>rfl)) (aX (j:=2) (by kernel_rfl) (fun _ _ _ _ _ h=>h) rfl rfl rfl rfl rfl (fun _ _ h=>aY h (aL (aR c0))) rfl (fun _=>rfl)) (bq (Z2 2 32 11 41 rfl (Pf (aR c0) rfl)) (bq (bY rfl) dD))))) ?_
 clear H;intro a w G fH H hv;have H:=H.aZ (hv 12 42 rfl rfl) rfl;clear hv;refine kH H (Ra rfl ?_);clear H;intro a H;refine aH ⟨rfl,?_⟩;refine K8 _ _ ?_;clear K8;refine om H rfl rfl ?_;refine aS (fun _ bK=>?_)
 have hz:¬ (0 < k∧x.key < y.key):=by first|exact fun h=>c1 h.2|exact fun h=>c0 (by omega)
 refine kP H (SC (bg EY uf 0 rfl rfl (Rn rfl (aO bK rfl (Cd rfl ?_ ?_))))) <;> clear H bK
 ·intro h43 a H
  try have p43:=dT h43
  refine kP H (SR fun _ bP=>bg vE aD 0 rfl rfl (Rc rfl ?_));clear H;intro a H;refine s_call kD H wn rfl (kI _ _ H.ro _ 21) rfl ?_;clear H;rintro v50 _ a w ⟨rfl,rfl⟩ - H;refine kH H (aj bP rfl ?_);clear H bP;intro a H;refine lr H results131 rfl ?_
  exact H.rt (by rw [he];refine aB vi ?_;clear he hrow hrow' hq hx hy;unfold mG;(repeat' split) <;> first|rfl|(simp_all;done)|(exfalso;simp_all;done))
 intro h43 a H
 try have p43:=dF h43
 refine fu ?_;refine K3 _ _ ?_;clear K3;refine aS (fun _ dx=>?_);replace hck:=(hck.mono DZ).mono fH;replace hb:=fH _ _ (DZ _ _ hb);refine dI hmx [[],[0],[],[2],(ra 0 4),[],[],[6],[],[8],(ra 0 10),(ra 0 11),(ra 0 12),(ra 0 13)] [11,12,13] (by kernel_rfl) [_,vi x.key,_,vi x.before,vi (tH x.key x.before),_,_,vi x.key,_,vi x.before,vi (lq st (li.map dH.id) x.key x.before)] H (aG (Z0 rfl (Rf qp rfl)) (Z1 0 51 rfl (Ro aD 0 rfl)) (Z0 rfl (Rf vE rfl)) (Z1 2 53 rfl (Ro aD 0 rfl)) (aG ?_ (Z0 rfl (Rm rfl)) (Z0 rfl (Rf qp rfl)) (Z1 6 57 rfl (Ro aD 0 rfl)) (aG (Z0 rfl (Rf vE rfl)) (Z1 8 59 rfl (Ro aD 0 rfl)) ?_ (bY rfl) (bq (bY rfl) (bq (bY rfl) dD))))) ?_
 ·refine eu 1 52 3 54 rfl rfl fun _ a w G1 hG HT H fin=>?_;refine s_call GN H wn rfl (GK _ _ H.ro x.key x.before) rfl ?_;clear H;rintro v55 Qu a w rfl Sr H;exact fin H Sr (rfl)
 ·refine rC 5 56 7 58 9 60 rfl rfl fun _ a w G1 hG HT H fin=>?_;refine s_call QZ H wn rfl (QN _ _ H.ro st li rv b ms ml mr mb mu n x.key x.before (hck.mono hG) (hG _ _ hb)) rfl ?_;clear H;rintro v61 G61 a w ⟨rfl,-⟩ Sv H;exact fin H Sv (rfl)
 clear H;intro a w G pW H hv;have H:=H.aZ (hv 4 55 rfl rfl) rfl;have H:=H.aZ (hv 10 61 rfl rfl) rfl;clear hv;refine jJ qZ iW [_,_] [_,_] H wn rfl rfl rfl rfl rfl (by intro i q h;match i,h with|0,h=>exact h|1,h=>exact h|n+2,h=>simp at h) rfl rfl ?_;clear H;intro WM a w aiF H;obtain ⟨VZ,LZ,S9,H⟩:=H.eG;refine s_call sj H wn rfl (sw _ _ H.ro _ _ (AQ S9)) rfl ?_;clear H;rintro v63 _ a w ⟨rfl,rfl⟩ - H;refine kH H (Ra rfl ?_);clear H;intro a H;refine aH ⟨rfl,?_⟩;refine dx _ _ ?_;clear dx;refine lr H results131 rfl ?_
 exact H.rt (by rw [he];refine aB vi ?_;clear he hrow hrow' hq hx hy;unfold mG;(repeat' split) <;> first|rfl|(simp_all;done)|(exfalso;simp_all;done))
end
section
open Go.RowKit
theorem J7:Ty prog 145 1 8 [.pointer none] false:=⟨by kernel_rfl,by kernel_rfl⟩
theorem aeP:∀ args w,(callFunc 131 args).run prog w=.ok (.enter 131 args) w:=enters func131 rfl (by kernel_rfl)
theorem AU:Ty prog 27 4 64 [.int .i64 0,.int .i64 0,.slice none 0 0,.slice none 0 0] true:=⟨by kernel_rfl,by kernel_rfl⟩
theorem Cy:dV prog 169 0 0:=⟨by kernel_rfl⟩
theorem Jp:dV prog 169 1 1:=⟨by kernel_rfl⟩
theorem aeO:∀ args w,(callFunc 130 args).run prog w=.ok (.enter 130 args) w:=enters func130 rfl (by kernel_rfl)
theorem akI {G:GH} {st:List bL} {li:List dH} {rv:List dh} {b ms ml mr mb mu:Nat} {n:Int} (hck:xC G st li rv ms ml mr mu) (hb:G b=some (gN b ms ml mr mb mu n).2)
  {x3 x4 Vz:Nat} {e:Int} {l:List jK} {v:ak} (h3:aF G x3 0=some (aM b 0)) (h4:aF G x4 0=some (vi e)) (h11:aF G Vz 3=some v) (hv:au G (.sl 4 (l.map jK.dat)) v) :
  uY (.func (.func 130) #[] #[(aM x3 0),(aM x4 0),(aM Vz 0)]) G l.length (BN (aP st li rv) e l):=by
 intro k hk G1 w0 hm hG;refine mF (caps:=[(aM x3 0),(aM x4 0),(aM Vz 0)]) aeO ?_;replace h3:=ay hm h3;replace h4:=ay hm h4;replace h11:=ay hm h11;replace hv:=hv.mono hm;obtain ⟨vA,vn,vc,rfl⟩:=hv.form;refine eN [(0,_),(1,_),(2,_),(3,_)] func130 rfl ntmps130 rfl rfl hG ?_;intro a H;refine kP H (SR fun _ K1=>aj K1 rfl (SR fun _ K2=>Rg J7 rfl (by assumption) ?_));clear H K1;intro a H;refine kH H (Rg aD rfl (by assumption) ?_);clear H;intro a H;refine kH H (Rf vG rfl (Rg vZ rfl (by assumption) ?_));clear H;intro a H;refine kH H (Rm rfl ?_);clear H;intro a H;refine s_call aeP H wn rfl (akJ _ _ H.ro st li rv b ms ml mr mb mu n (hck.mono hm) (hm _ _ hb) e l _ hv k hk) rfl ?_;clear H;rintro v11 wh a w rfl HY H;exact kH H (aj K2 rfl (LR results130 rfl fun H=>H.rt rfl))
def yF (C:iT) (l:List gV):Int:=bT (l.map fun p=>lq C.st C.yw p.key p.value)
def fV (C:iT) (m:Ad):Int:=if m.ins≠0∧m.ins∉C.Dg then 22 else if ¬ (0≤m.move∧m.move≤1073741824)∨(m.move≠0∧m.ins=0) then 21 else if 16 < (m.bR.length:Int) then 9 else 0
def pR (C:iT) (k:Nat) (x:jV) (pr:Int):Int:=if x.rev∉C.Dg then 22 else if 0 < k∧x.rev≤pr then 6 else if ¬ (0≤x.move∧x.move≤1073741824) then 21 else 0
def uG (C:iT) (l:List jV) (k:Nat):Int:=match l[k]? with|some x=>pR C k x ((l[k - 1]?.map jV.rev).getD 0)|none=>0
def fP (C:iT) (e:Int) (h:jm):Int:=bT [iU e h.props,yF C h.props,fV C h.marks,iI (uG C h.marks.bR) h.marks.bR.length,bQ (decide (64 < (h.marks.layers.length:Int))) 9,iI (BN C e h.marks.layers) h.marks.layers.length]
theorem YW {C:iT} {e:Int} {h:jm} (h1:iU e h.props≠0):fP C e h=iU e h.props:=by simp [fP,bT,h1]
theorem YX {C:iT} {e:Int} {h:jm} (h1:iU e h.props=0) (h2:yF C h.props≠0):fP C e h=yF C h.props:=by simp [fP,bT,h1,h2]
theorem rJ {C:iT} {e:Int} {h:jm} (h1:iU e h.props=0) (h2:yF C h.props=0) (h3:fV C h.marks≠0):fP C e h=fV C h.marks:=by simp [fP,bT,h1,h2,h3]
theorem YZ {C:iT} {e:Int} {h:jm} (h1:iU e h.props=0) (h2:yF C h.props=0) (h3:fV C h.marks=0) (h4:iI (uG C h.marks.bR) h.marks.bR.length≠0):fP C e h=iI (uG C h.marks.bR) h.marks.bR.length:=by simp [fP,bT,h1,h2,h3,h4]
theorem Y0 {C:iT} {e:Int} {h:jm} (h1:iU e h.props=0) (h2:yF C h.props=0) (h3:fV C h.marks=0) (h4:iI (uG C h.marks.bR) h.marks.bR.length=0) (h5:64 < (h.marks.layers.length:Int)):fP C e h=9:=by simp [fP,bT,h1,h2,h3,h4,bQ,h5]
theorem Y1 {C:iT} {e:Int} {h:jm} (h1:iU e h.props=0) (h2:yF C h.props=0) (h3:fV C h.marks=0) (h4:iI (uG C h.marks.bR) h.marks.bR.length=0) (h5:¬ 64 < (h.marks.layers.length:Int)):fP C e h=iI (BN C e h.marks.layers) h.marks.layers.length:=by simp [fP,bT,h1,h2,h3,h4,bQ,h5];exact Eq.symm
theorem PS {C:iT} {l:List gV} {k:Nat} (h:k < l.length):bT ((l.map fun p=>lq C.st C.yw p.key p.value).drop k)=if lq C.st C.yw l[k].key l[k].value≠0 then lq C.st C.yw l[k].key l[k].value else bT ((l.map fun p=>lq C.st C.yw p.key p.value).drop (k+1)):=by
 rw [Oa (by simpa using h)];simp
theorem ajf (G:GH) (w0:World) (hG:Hold G w0) (st:List bL) (li:List dH) (rv:List dh) (b ms ml mr mb mu:Nat) (n:Int) (hck:xC G st li rv ms ml mr mu) (hb:G b=some (gN b ms ml mr mb mu n).2)
  (e:Int) (h:jm) (p d l:ak) (hh:ku G h p d l) (hz:pJ h≤4294967296) :
  Calls prog 69 #[(aM b 0),vi e,zD h p d l] w0 (bJ w0 G fun u G'=>u=vi (fP (aP st li rv) e h)):=by
 obtain ⟨pA,pc,rfl,-,-,-⟩:=hh.props.slice;obtain ⟨dA,dc,rfl,-,-,-⟩:=hh.bR.slice;obtain ⟨lA,lc,rfl,-,-,-⟩:=hh.layers.slice;have hml:maxLen=9223372036854775807:=rfl;have hzz:=Cc h;have hz1:=mO (h.props.map gV.dat);have hz2:=mO (h.marks.bR.map jV.dat);have hz3:=mO (h.marks.layers.map jK.dat)
 simp only [bV] at hh hz1 hz2 hz3 ⊢
 generalize pJ h=zz at hz hzz
 refine eN [(0,_),(1,_),(2,_)] func69 rfl ntmps69 rfl rfl hG ?_;intro a H;refine dw (fun _ K1=>?_);refine eD (cs:=[_]) H wn rfl rfl rfl ?_;clear H;intro b3 a w hb3 H;refine eD (cs:=[_]) H wn rfl rfl rfl ?_;clear H;intro b4 a w hb4 H;refine eD (cs:=[_,_,_,_,_]) H wn rfl rfl rfl ?_;clear H;intro b5 a w hb5 H;refine kH H (aj K1 rfl (SQ fun _ K2=>SQ fun _ K3=>?_));clear H K1;intro a H;obtain ⟨Ga5,OE,zC,H⟩:=H.eG;obtain ⟨Ga4,JF,Bv,H⟩:=H.eG;obtain ⟨Ga,Fj,sM,H⟩:=H.eG;replace zC:=Fj _ _ (JF _ _ zC);replace Bv:=Fj _ _ Bv;have hma:∀ b o,G b=some o→Ga b=some o:=fun b o h=>Fj _ _ (JF _ _ (OE _ _ h));clear Fj JF OE;replace hck:=hck.mono hma;replace hb:=hma _ _ hb;replace hh:=hh.mono hma
 have g3:aF Ga b3 0=some (aM b 0):=by unfold aF;rw [sM];rfl
 have g4:aF Ga b4 0=some (vi e):=by unfold aF;rw [Bv];rfl
 have RQ:aF Ga b5 0=some (.slice pA h.props.length pc):=by unfold aF;rw [zC];rfl
 have RU:∀ (j:Nat) (u:ak),[vi h.marks.ins,vi h.marks.move,.slice dA h.marks.bR.length dc,.slice lA h.marks.layers.length lc][j]?=some u→aF Ga b5 (1+j)=some u:=by
  intro j u hj
  unfold aF;rw [zC]
  match j,hj with
  | 0,hj=>exact hj
  | 1,hj=>exact hj
  | 2,hj=>exact hj
  | 3,hj=>exact hj
  | n+4,hj=>simp at hj
 have hc2:aF Ga b 2=some (.map (some mr)):=by unfold aF;rw [hb];rfl
 refine kP H (SC (Rg aD rfl (by assumption) ?_));clear H;intro a H;refine kH H (Rf xP rfl (Rg qY rfl (by assumption) ?_));clear H;intro a H;refine s_call Rx H wn rfl (EO (U2 _ _ H.ro e h.props _ hh.props)) rfl ?_;clear H;rintro v17 _ a w ⟨⟨_,rfl⟩,rfl⟩ - H;refine kH H (aO K3 rfl (SR fun _ K4=>Rm rfl (Rc rfl (Kz K4 (Cd rfl ?_ ?_))))) <;> clear H K3 K4
 ·intro h19 a H
  try have yD:=dT h19
  refine aS (fun _ K5=>?_);have hE:=YW (C:=aP st li rv) (e:=e) (h:=h) yD;exact kP H (SC (Rm rfl (aO K5 rfl (LR results69 rfl fun H=>H.rt (by rw [hE])))))
 intro h19 a H
 try have yD:=dF h19
 have e1:iU e h.props=0:=by simpa using yD
 refine kP H (Kc K2 (SQ fun _ K6=>SR fun _ K7=>Rf xP rfl (Rg qY rfl (by assumption) ?_)));clear H K2;intro a H;refine kH H (Rl nW rfl (Rm rfl (Kz K7 (SB ?_))));clear H K7;intro a H;skip;refine eH (ι:=Nat) (Tc:=[(3,_),(4,_),(5,_),(22,_),(23,_)]) (Lc:=[]) (fun gh=>[(24,vi gh)]) (fun gh=>[]) (fun gh=>Ga) (fun gh=>gh≤h.props.length∧bT ((h.props.map fun p=>lq st (li.map dH.id) p.key p.value).drop gh)=yF (aP st li rv) h.props) (fun gh=>h.props.length - gh) (0) (by exact (H).sub ⟨rfl,rfl,rfl,rfl,rfl,rfl,aC⟩) ?_ ?_
 ·exact ⟨iF _,rfl⟩
 clear H;intro gh a w hI H;obtain ⟨k,hgh⟩:∃ x,x=gh:=⟨_,rfl⟩;subst hgh;obtain ⟨hk,heq⟩:=hI;dsimp only [lca,aV] at H;refine kP H (SR fun _ K8=>Rc rfl (Kz K8 (SQ fun _ K9=>Cd rfl ?_ ?_))) <;> clear H K8
 ·intro gP a H
  try have p25:=dT gP
  have hk2:k < h.props.length:=by omega
  obtain ⟨xb,xo,rfl,hrow⟩:=MN hh.props hk2;refine kP H (Kc K9 (SQ fun _ aT=>SB (SR fun _ bB=>Ri nW oN rfl rfl ?_)));clear H K9;intro a H;refine aW oN (cs:=[_,_]) H wn rfl rfl (fun j v hj=>H.hp.aF (hrow j v hj)) rfl ?_;clear H;intro a H;refine dU oN H wn rfl ?_;clear H;intro b9 a w rH H;refine bN oN 0 (vs:=[_,_]) _ H wn rfl rfl rfl rfl rfl rfl rfl rfl ?_;clear H;intro w H;dsimp only [List.set,setRow] at H;refine bB _ _ ?_;clear bB;refine kP H (SR fun _ bC=>Rg J7 rfl (by assumption) ?_);clear H;intro a H;refine kH H (bg xO aD 0 rfl rfl (bg RB aD 0 rfl rfl ?_));clear H;intro a H;refine s_call QZ H wn rfl (QN _ _ H.ro st li rv b ms ml mr mb mu n h.props[k].key h.props[k].value hck hb) rfl ?_;clear H;rintro v33 _ a w ⟨rfl,rfl⟩ - H;refine kH H (aj bC rfl (SR fun _ bK=>Rm rfl (Rc rfl (Kz bK (Cd rfl ?_ ?_))))) <;> clear H bC bK
  ·intro zu a H
   try have p35:=dT zu
   refine aS (fun _ bP=>?_)
   have hr:yF (aP st li rv) h.props=lq st (li.map dH.id) h.props[k].key h.props[k].value:=by rw [← heq];exact (PS (C:=aP st li rv) hk2).trans (av p35)
   have hE:=(YX (C:=aP st li rv) (e:=e) (h:=h) e1 (by rw [hr];exact p35)).trans hr;exact kP H (SC (Rm rfl (aO bP rfl (LR results69 rfl fun H=>H.rt (by rw [hE])))))
  intro zu a H
  try have p35:=dF zu
  refine kP H (Kc aT (SC (Rd rfl (Rm rfl ?_))));clear H aT;intro a H;refine aH ?_;refine dK ((k+1)) (by exact (H.dS (Pl:=[_]) (dL:=[]) [] (by decide) rfl).sub ⟨rfl,rfl,rfl,rfl,rfl,rfl,aC⟩) ?_ ?_
  ·exact ⟨by omega,by rw [PS (C:=aP st li rv) hk2,ah (by simpa using p35)] at heq;exact heq⟩
  first|omega|(dsimp only;omega)
 intro gP a H
 try have p25:=dF gP
 refine dW ?_;refine K6 _ _ ?_;clear K6;refine aS (fun _ dx=>?_)
 have e2:yF (aP st li rv) h.props=0:=by rw [← heq,iw (by rw [bV];omega)];rfl
 refine kP H (SC (Rf oW rfl ?_));clear H;intro a H;refine aW AU (cs:=[vi h.marks.ins,vi h.marks.move,.slice dA h.marks.bR.length dc,.slice lA h.marks.layers.length lc]) H wn rfl rfl (fun j v hj=>H.hp.aF (RU j v hj)) rfl ?_;clear H;intro a H;refine dU AU H wn rfl ?_;clear H;intro b11 a w Hr H;refine bN AU 0 (vs:=[_,_,_,_]) _ H wn rfl rfl rfl rfl rfl rfl rfl rfl ?_;clear H;intro w H;dsimp only [List.set,setRow] at H;obtain ⟨Gb,hmb,Jv,H⟩:=H.eG;replace hck:=hck.mono hmb;replace hb:=hmb _ _ hb;replace hh:=hh.mono hmb;replace g3:=ay hmb g3;replace g4:=ay hmb g4;replace hc2:=ay hmb hc2
 have q0:aF Gb b11 0=some (vi h.marks.ins):=by unfold aF;rw [Jv];rfl
 have q1:aF Gb b11 1=some (vi h.marks.move):=by unfold aF;rw [Jv];rfl
 have q2:aF Gb b11 2=some (.slice dA h.marks.bR.length dc):=by unfold aF;rw [Jv];rfl
 have q3:aF Gb b11 3=some (.slice lA h.marks.layers.length lc):=by unfold aF;rw [Jv];rfl
 have hcb:=akI hck hb g3 g4 q3 hh.layers;refine aH ?_;refine dx _ _ ?_;clear dx;refine qL (ι:=GH) (Tc:=[(3,_),(4,_),(11,_)]) (Lc:=[]) (fun gh=>[]) (fun gh=>[]) (fun gh=>gh) (fun gh=>fV (aP st li rv) h.marks=0∧(∀ b o,Gb b=some o→gh b=some o)) (by exact (H).sub ⟨rfl,rfl,rfl,aC⟩) ?_ ?_
 ·skip;refine vC ?_;refine aS (fun _ dP=>?_)
  by_cases c0:h.marks.ins≠0
  ·skip
   by_cases c1:h.marks.ins∉rv.map dh.id
   ·skip;refine dI hmx [[],[0],[0,1],[0,1,2],(ra 0 4),(ra 0 5),(ra 0 6),(ra 0 7),(ra 0 4),[0,1,2,3,8],(ra 0 10),(ra 0 11),(ra 0 12),(ra 0 13)] [13] (by kernel_rfl) [_,_,_,_,_,(aM b 0),_,_,_,_,.bool (decide (h.marks.ins∈rv.map dh.id)),.bool (decide (h.marks.ins∉rv.map dh.id)),_] H (aG (Z0 rfl (Rf uL rfl)) (X1 0 41 rfl fun hG=>Rg aD rfl (ay hG q0)) (Z1 1 42 rfl (Rc rfl)) (Z1 2 43 rfl (Rm rfl)) (aG (X1 3 44 rfl fun hG=>YR J7 (aI c0) rfl (ay hG g3)) ?_ (Z2 5 46 3 44 rfl (YF La (aI c0) rfl)) (X2 6 47 3 44 rfl fun hG=>YR Dl (aI c0) rfl (ay hG hc2)) (aG (Z1 3 44 rfl (YF uL (aI c0) rfl)) (X2 8 49 3 44 rfl fun hG=>YR aD (aI c0) rfl (ay hG q0)) ?_ ?_ (bq (Z2 3 44 11 52 rfl (Pt (aI c0) rfl)) (bq (bY rfl) dD))))) ?_
    ·refine eu 4 45 3 44 rfl rfl fun _ a w G1 hG HT H fin=>?_;refine uU H (wg H rfl rfl (aI c0)) rfl rfl ?_;clear H;intro a H;exact fin H iJ rfl
    ·refine rC 7 48 9 50 3 44 rfl rfl fun _ a w G1 hG HT H fin=>?_;refine BX (zv:=.bool false) Dm qh (by kernel_rfl) H (wg H rfl rfl (aI c0)) rfl rfl (H.ro _ _ (hG _ _ hck.rev)) rfl ?_;clear H;intro a H;rw [Il] at H;exact fin H iJ rfl
    ·refine eu 10 51 3 44 rfl rfl fun _ a w G1 hG HT H fin=>?_;refine kH H (YN (aI c0) rfl ?_);clear H;intro a H;exact fin H iJ (by show _=_;first|rfl|exact aL decide_not.symm)
    clear H;intro a w G tK H hv;have H:=H.aZ (hv 12 53 rfl rfl) rfl;clear hv;refine kH H (Ra rfl ?_);clear H;intro a H;refine aH ⟨rfl,?_⟩;refine dP _ _ ?_;clear dP;refine yV H rfl (aI c1) ?_;refine aS (fun _ dB=>?_);have e3:fV (aP st li rv) h.marks=22:=av ⟨c0,c1⟩;have hE:=(rJ (C:=aP st li rv) (e:=e) (h:=h) e1 e2 (by rw [e3];decide)).trans e3;exact kP H (SC (aO dB rfl (LR results69 rfl fun H=>H.rt (by rw [hE]))))
   skip;refine dI hmx [[],[0],[0,1],[0,1,2],(ra 0 4),(ra 0 5),(ra 0 6),(ra 0 7),(ra 0 4),[0,1,2,3,8],(ra 0 10),(ra 0 11),(ra 0 12),(ra 0 13)] [13] (by kernel_rfl) [_,_,_,_,_,(aM b 0),_,_,_,_,.bool (decide (h.marks.ins∈rv.map dh.id)),.bool (decide (h.marks.ins∉rv.map dh.id)),_] H (aG (Z0 rfl (Rf uL rfl)) (X1 0 41 rfl fun hG=>Rg aD rfl (ay hG q0)) (Z1 1 42 rfl (Rc rfl)) (Z1 2 43 rfl (Rm rfl)) (aG (X1 3 44 rfl fun hG=>YR J7 (aI c0) rfl (ay hG g3)) ?_ (Z2 5 46 3 44 rfl (YF La (aI c0) rfl)) (X2 6 47 3 44 rfl fun hG=>YR Dl (aI c0) rfl (ay hG hc2)) (aG (Z1 3 44 rfl (YF uL (aI c0) rfl)) (X2 8 49 3 44 rfl fun hG=>YR aD (aI c0) rfl (ay hG q0)) ?_ ?_ (bq (Z2 3 44 11 52 rfl (Pt (aI c0) rfl)) (bq (bY rfl) dD))))) ?_
   ·refine eu 4 45 3 44 rfl rfl fun _ a w G1 hG HT H fin=>?_;refine uU H (wg H rfl rfl (aI c0)) rfl rfl ?_;clear H;intro a H;exact fin H iJ rfl
   ·refine rC 7 48 9 50 3 44 rfl rfl fun _ a w G1 hG HT H fin=>?_;refine BX (zv:=.bool false) Dm qh (by kernel_rfl) H (wg H rfl rfl (aI c0)) rfl rfl (H.ro _ _ (hG _ _ hck.rev)) rfl ?_;clear H;intro a H;rw [Il] at H;exact fin H iJ rfl
   ·refine eu 10 51 3 44 rfl rfl fun _ a w G1 hG HT H fin=>?_;refine kH H (YN (aI c0) rfl ?_);clear H;intro a H;exact fin H iJ (by show _=_;first|rfl|exact aL decide_not.symm)
   clear H;intro a w G tK H hv;have H:=H.aZ (hv 12 53 rfl rfl) rfl;clear hv;refine kH H (Ra rfl ?_);clear H;intro a H;refine aH ⟨rfl,?_⟩;refine dP _ _ ?_;clear dP;refine om H rfl (aR c1) ?_;refine aS (fun _ dY=>?_)
   have hno:¬ (h.marks.ins≠0∧h.marks.ins∉(aP st li rv).Dg):=by first|exact fun h=>c1 h.2|exact fun h=>c0 h.1
   replace q0:=ay tK q0;replace q1:=ay tK q1;replace q2:=ay tK q2;refine kP H (SC (Rf wI rfl (Rg aD rfl (by assumption) ?_)));clear H;intro a H;refine s_call ze H wn rfl (zL _ _ H.ro h.marks.move 0 1073741824) rfl ?_;clear H;rintro v57 _ a w ⟨rfl,rfl⟩ - H;refine kH H (Rn rfl (Rm rfl (Sp 59 rfl ?_ ?_))) <;> clear H
   ·intro jl a H
    try have p59:=dT jl
    refine kH H (aN jl rfl (aN jl rfl (Ku rfl (Ku rfl (Ku rfl (Ks jl rfl (Pt jl rfl (aO dY rfl (Ct rfl rfl (SQ fun _ eP=>?_))))))))));clear H dY;intro a H
    have e3:fV (aP st li rv) h.marks=21:=by unfold fV;rw [ah hno,av (by first|(simp_all;done)|(simp_all;omega))]
    have hE:=(rJ (C:=aP st li rv) (e:=e) (h:=h) e1 e2 (by rw [e3];decide)).trans e3;exact kP H (SC (aO eP rfl (LR results69 rfl fun H=>H.rt (by rw [hE]))))
   intro jl a H
   try have p59:=dF jl
   refine kH H (YF wI jl rfl (YR aD jl rfl (by assumption) ?_));clear H;intro a H;refine kH H (YC jl rfl (YM jl rfl (Sp 63 rfl ?_ ?_))) <;> clear H
   ·intro h63 a H
    try have p63:=dT h63
    refine kH H (YF uL h63 rfl (YR aD h63 rfl (by assumption) ?_));clear H;intro a H;refine kH H (YC h63 rfl (PT jl h63 rfl (Pf jl rfl (aO dY rfl (Cd rfl ?_ ?_))))) <;> clear H dY
    ·intro gK a H
     try have p54:=dT gK
     refine aS (fun _ dZ=>?_)
     have e3:fV (aP st li rv) h.marks=21:=by unfold fV;rw [ah hno,av (by first|(simp_all;done)|(simp_all;omega))]
     have hE:=(rJ (C:=aP st li rv) (e:=e) (h:=h) e1 e2 (by rw [e3];decide)).trans e3;exact kP H (SC (aO dZ rfl (LR results69 rfl fun H=>H.rt (by rw [hE]))))
    intro gK a H
    try have p54:=dF gK
    refine aS (fun _ eU=>?_)
    have hn2:¬ (¬ (0≤h.marks.move∧h.marks.move≤1073741824)∨(h.marks.move≠0∧h.marks.ins=0)):=by first|(simp_all;done)|(simp_all;omega)
    refine kP H (SC (Rf mJ rfl (Rg mP rfl (by assumption) ?_)));clear H;intro a H;refine kH H (Rl kS rfl (Rc rfl (aO eU rfl (Cd rfl ?_ ?_)))) <;> clear H eU
    ·intro gY a H
     refine aS (fun _ fK=>?_)
     have e3:fV (aP st li rv) h.marks=9:=by unfold fV;rw [ah hno,ah hn2,av (by simpa using gY)]
     have hE:=(rJ (C:=aP st li rv) (e:=e) (h:=h) e1 e2 (by rw [e3];decide)).trans e3;exact kP H (SC (aO fK rfl (LR results69 rfl fun H=>H.rt (by rw [hE]))))
    intro gY a H
    have e3:fV (aP st li rv) h.marks=0:=by unfold fV;rw [ah hno,ah hn2,ah (by simpa using gY)]
    refine fu ?_;refine ⟨_,by exact (H).sub ⟨rfl,rfl,rfl,aC⟩,?_⟩;exact ⟨e3,tK⟩
   intro h63 a H
   try have p63:=dF h63
   refine kH H (aQ h63 rfl (PF jl h63 rfl (Pf jl rfl (aO dY rfl (Cf rfl rfl (SQ fun _ gM=>?_))))));clear H dY;intro a H
   have hn2:¬ (¬ (0≤h.marks.move∧h.marks.move≤1073741824)∨(h.marks.move≠0∧h.marks.ins=0)):=by first|(simp_all;done)|(simp_all;omega)
   refine kP H (SC (Rf mJ rfl (Rg mP rfl (by assumption) ?_)));clear H;intro a H;refine kH H (Rl kS rfl (Rc rfl (aO gM rfl (Cd rfl ?_ ?_)))) <;> clear H gM
   ·intro gY a H
    refine aS (fun _ iC=>?_)
    have e3:fV (aP st li rv) h.marks=9:=by unfold fV;rw [ah hno,ah hn2,av (by simpa using gY)]
    have hE:=(rJ (C:=aP st li rv) (e:=e) (h:=h) e1 e2 (by rw [e3];decide)).trans e3;exact kP H (SC (aO iC rfl (LR results69 rfl fun H=>H.rt (by rw [hE]))))
   intro gY a H
   have e3:fV (aP st li rv) h.marks=0:=by unfold fV;rw [ah hno,ah hn2,ah (by simpa using gY)]
   refine fu ?_;refine ⟨_,by exact (H).sub ⟨rfl,rfl,rfl,aC⟩,?_⟩;exact ⟨e3,tK⟩
  skip;refine dI hmx [[],[0],[0,1],[0,1,2],(ra 0 4),(ra 0 5),(ra 0 6),(ra 0 7),(ra 0 4),[0,1,2,3,8],(ra 0 10),(ra 0 11),(ra 0 12),(ra 0 13)] [13] (by kernel_rfl) [_,_,_,_,undef,undef,undef,undef,undef,undef,undef,undef,_] H (aG (Z0 rfl (Rf uL rfl)) (X1 0 41 rfl fun hG=>Rg aD rfl (ay hG q0)) (Z1 1 42 rfl (Rc rfl)) (Z1 2 43 rfl (Rm rfl)) (aG (aX (j:=3) (by kernel_rfl) (fun _ _ _ _ _ h=>h) rfl rfl rfl rfl rfl (fun _ _ h=>aY h (aL (aR c0))) rfl (fun _=>rfl)) (aX (j:=3) (by kernel_rfl) (fun _ _ _ _ _ h=>h) rfl rfl rfl rfl rfl (fun _ _ h=>aY h (aL (aR c0))) rfl (fun _=>rfl)) (aX (j:=3) (by kernel_rfl) (fun _ _ _ _ _ h=>h) rfl rfl rfl rfl rfl (fun _ _ h=>aY h (aL (aR c0))) rfl (fun _=>rfl)) (aX (j:=3) (by kernel_rfl) (fun _ _ _ _ _ h=>h) rfl rfl rfl rfl rfl (fun _ _ h=>aY h (aL (aR c0))) rfl (fun _=>rfl)) (aG (aX (j:=3) (by kernel_rfl) (fun _ _ _ _ _ h=>h) rfl rfl rfl rfl rfl (fun _ _ h=>aY h (aL (aR c0))) rfl (fun _=>rfl)) (aX (j:=3) (by kernel_rfl) (fun _ _ _ _ _ h=>h) rfl rfl rfl rfl rfl (fun _ _ h=>aY h (aL (aR c0))) rfl (fun _=>rfl)) (aX (j:=3) (by kernel_rfl) (fun _ _ _ _ _ h=>h) rfl rfl rfl rfl rfl (fun _ _ h=>aY h (aL (aR c0))) rfl (fun _=>rfl)) (aX (j:=3) (by kernel_rfl) (fun _ _ _ _ _ h=>h) rfl rfl rfl rfl rfl (fun _ _ h=>aY h (aL (aR c0))) rfl (fun _=>rfl)) (bq (Z2 3 44 11 52 rfl (Pf (aR c0) rfl)) (bq (bY rfl) dD))))) ?_
  clear H;intro a w G tK H hv;have H:=H.aZ (hv 12 53 rfl rfl) rfl;clear hv;refine kH H (Ra rfl ?_);clear H;intro a H;refine aH ⟨rfl,?_⟩;refine dP _ _ ?_;clear dP;refine om H rfl rfl ?_;refine aS (fun _ gu=>?_)
  have hno:¬ (h.marks.ins≠0∧h.marks.ins∉(aP st li rv).Dg):=by first|exact fun h=>c1 h.2|exact fun h=>c0 h.1
  replace q0:=ay tK q0;replace q1:=ay tK q1;replace q2:=ay tK q2;refine kP H (SC (Rf wI rfl (Rg aD rfl (by assumption) ?_)));clear H;intro a H;refine s_call ze H wn rfl (zL _ _ H.ro h.marks.move 0 1073741824) rfl ?_;clear H;rintro v57 _ a w ⟨rfl,rfl⟩ - H;refine kH H (Rn rfl (Rm rfl (Sp 59 rfl ?_ ?_))) <;> clear H
  ·intro jl a H
   try have p59:=dT jl
   refine kH H (aN jl rfl (aN jl rfl (Ku rfl (Ku rfl (Ku rfl (Ks jl rfl (Pt jl rfl (aO gu rfl (Ct rfl rfl (SQ fun _ iX=>?_))))))))));clear H gu;intro a H
   have e3:fV (aP st li rv) h.marks=21:=by unfold fV;rw [ah hno,av (by first|(simp_all;done)|(simp_all;omega))]
   have hE:=(rJ (C:=aP st li rv) (e:=e) (h:=h) e1 e2 (by rw [e3];decide)).trans e3;exact kP H (SC (aO iX rfl (LR results69 rfl fun H=>H.rt (by rw [hE]))))
  intro jl a H
  try have p59:=dF jl
  refine kH H (YF wI jl rfl (YR aD jl rfl (by assumption) ?_));clear H;intro a H;refine kH H (YC jl rfl (YM jl rfl (Sp 63 rfl ?_ ?_))) <;> clear H
  ·intro h63 a H
   try have p63:=dT h63
   refine kH H (YF uL h63 rfl (YR aD h63 rfl (by assumption) ?_));clear H;intro a H;refine kH H (YC h63 rfl (PT jl h63 rfl (Pf jl rfl (aO gu rfl (Cd rfl ?_ ?_))))) <;> clear H gu
   ·intro gK a H
    try have p54:=dT gK
    refine aS (fun _ jo=>?_)
    have e3:fV (aP st li rv) h.marks=21:=by unfold fV;rw [ah hno,av (by first|(simp_all;done)|(simp_all;omega))]
    have hE:=(rJ (C:=aP st li rv) (e:=e) (h:=h) e1 e2 (by rw [e3];decide)).trans e3;exact kP H (SC (aO jo rfl (LR results69 rfl fun H=>H.rt (by rw [hE]))))
   intro gK a H
   try have p54:=dF gK
   refine aS (fun _ iN=>?_)
   have hn2:¬ (¬ (0≤h.marks.move∧h.marks.move≤1073741824)∨(h.marks.move≠0∧h.marks.ins=0)):=by first|(simp_all;done)|(simp_all;omega)
   refine kP H (SC (Rf mJ rfl (Rg mP rfl (by assumption) ?_)));clear H;intro a H;refine kH H (Rl kS rfl (Rc rfl (aO iN rfl (Cd rfl ?_ ?_)))) <;> clear H iN
   ·intro gY a H
    refine aS (fun _ kJ=>?_)
    have e3:fV (aP st li rv) h.marks=9:=by unfold fV;rw [ah hno,ah hn2,av (by simpa using gY)]
    have hE:=(rJ (C:=aP st li rv) (e:=e) (h:=h) e1 e2 (by rw [e3];decide)).trans e3;exact kP H (SC (aO kJ rfl (LR results69 rfl fun H=>H.rt (by rw [hE]))))
   intro gY a H
   have e3:fV (aP st li rv) h.marks=0:=by unfold fV;rw [ah hno,ah hn2,ah (by simpa using gY)]
   refine fu ?_;refine ⟨_,by exact (H).sub ⟨rfl,rfl,rfl,aC⟩,?_⟩;exact ⟨e3,tK⟩
  intro h63 a H
  try have p63:=dF h63
  refine kH H (aQ h63 rfl (PF jl h63 rfl (Pf jl rfl (aO gu rfl (Cf rfl rfl (SQ fun _ kK=>?_))))));clear H gu;intro a H
  have hn2:¬ (¬ (0≤h.marks.move∧h.marks.move≤1073741824)∨(h.marks.move≠0∧h.marks.ins=0)):=by first|(simp_all;done)|(simp_all;omega)
  refine kP H (SC (Rf mJ rfl (Rg mP rfl (by assumption) ?_)));clear H;intro a H;refine kH H (Rl kS rfl (Rc rfl (aO kK rfl (Cd rfl ?_ ?_)))) <;> clear H kK
  ·intro gY a H
   refine aS (fun _ jA=>?_)
   have e3:fV (aP st li rv) h.marks=9:=by unfold fV;rw [ah hno,ah hn2,av (by simpa using gY)]
   have hE:=(rJ (C:=aP st li rv) (e:=e) (h:=h) e1 e2 (by rw [e3];decide)).trans e3;exact kP H (SC (aO jA rfl (LR results69 rfl fun H=>H.rt (by rw [hE]))))
  intro gY a H
  have e3:fV (aP st li rv) h.marks=0:=by unfold fV;rw [ah hno,ah hn2,ah (by simpa using gY)]
  refine fu ?_;refine ⟨_,by exact (H).sub ⟨rfl,rfl,rfl,aC⟩,?_⟩;exact ⟨e3,tK⟩
 clear H;intro gh a w hI H;obtain ⟨g,hgh⟩:∃ x,x=gh:=⟨_,rfl⟩;subst hgh;obtain ⟨e3,zH⟩:=hI;replace hck:=hck.mono zH;replace hb:=zH _ _ hb;replace hh:=hh.mono zH;replace g3:=ay zH g3;replace q2:=ay zH q2;replace q3:=ay zH q3;replace hc2:=ay zH hc2;replace hcb:=hcb.mono zH;dsimp only [lca,aV] at H;refine kP H (SQ fun _ kT=>SR fun _ kU=>Rf mJ rfl (Rg mP rfl (by assumption) ?_));clear H;intro a H;refine kH H (Rl kS rfl (Rm rfl (Kz kU (SB ?_))));clear H kU;intro a H;skip;refine eH (ι:=Nat × GH) (Tc:=[(3,_),(4,_),(11,_),(75,_),(76,_)]) (Lc:=[]) (fun gh=>[(77,vi gh.1)]) (fun gh=>[]) (fun gh=>gh.2) (fun gh=>gh.1≤h.marks.bR.length∧bT (((List.range h.marks.bR.length).map (uG (aP st li rv) h.marks.bR)).drop gh.1)=iI (uG (aP st li rv) h.marks.bR) h.marks.bR.length∧(∀ b o,g b=some o→gh.2 b=some o)) (fun gh=>h.marks.bR.length - gh.1) ((0,g)) (by exact (H).sub ⟨rfl,rfl,rfl,rfl,rfl,rfl,aC⟩) ?_ ?_
 ·exact ⟨iF _,rfl,fun _ _ h=>h⟩
 clear H;intro gh a w hI H;obtain ⟨k,g2⟩:=gh;dsimp only at hI H;obtain ⟨hk,heq,hgm⟩:=hI;dsimp only [lca,aV] at H;refine kP H (SR fun _ lM=>Rc rfl (Kz lM (SQ fun _ lN=>Cd rfl ?_ ?_))) <;> clear H lM
 ·intro qP a H
  try have UU:=dT qP
  have hk2:k < h.marks.bR.length:=by omega
  have hd2:=hh.bR.mono hgm;obtain ⟨xb,xo,rfl,hrow⟩:=NI hd2 hk2
  have hk1:k - 1 < h.marks.bR.length:=by omega
  obtain ⟨b',o',he',hrow'⟩:=NI hd2 hk1
  injection he' with he'
  injection he' with e1 e2
  subst e1;subst e2
  have hde:uG (aP st li rv) h.marks.bR k=pR (aP st li rv) k h.marks.bR[k] h.marks.bR[k - 1].rev:=by unfold uG;rw [fT hk2,fT hk1];rfl
  have hX:∀ v,pR (aP st li rv) k h.marks.bR[k] h.marks.bR[k - 1].rev=v→v≠0→fP (aP st li rv) e h=v:=fun v h1 h2=>by
   have h4:iI (uG (aP st li rv) h.marks.bR) h.marks.bR.length=v:=by rw [← heq,qJ hk2,hde,h1,av h2]
   exact (YZ e1 e2 e3 (by rw [h4];exact h2)).trans h4
  have hp:=hrow' 0 _ rfl;have g3':=ay hgm g3;have hc2':=ay hgm hc2;have q2':=ay hgm q2;refine kP H (Kc lN (SQ fun _ lQ=>SB (SR fun _ mo=>Rm rfl (Ri kS qE rfl rfl ?_))));clear H lN;intro a H;refine aW qE (cs:=h.marks.bR[k].cells) H wn rfl rfl (fun j v hj=>H.hp.aF (hrow j v hj)) rfl ?_;clear H;intro a H;refine dU qE H wn rfl ?_;clear H;intro b13 a w Jw H;refine kH H (Ra rfl ?_);clear H;intro a H;refine bN qE 0 (vs:=[_,_]) _ H wn rfl rfl rfl rfl rfl rfl rfl rfl ?_;clear H;intro w H;dsimp only [List.set,setRow] at H;refine mo _ _ ?_;clear mo;refine vC ?_;refine aS (fun _ rz=>?_);refine dI hmx [[],[0],[0,1],[0,1,2],[],[4],(ra 0 6),(ra 0 7),(ra 0 8)] [8] (by kernel_rfl) [_,_,_,_,_,vi h.marks.bR[k].rev,.bool (decide (h.marks.bR[k].rev∈rv.map dh.id)),_] H (aG (X0 rfl fun hG=>Rg J7 rfl (ay hG g3')) (Z1 0 83 rfl (Rk rfl)) (Z1 1 84 rfl (Rf La rfl)) (X1 2 85 rfl fun hG=>Rg Dl rfl (ay hG hc2')) (aG (Z0 rfl (Rf Cy rfl)) (Z1 4 87 rfl (Ro aD 0 rfl)) ?_ (Z1 6 89 rfl (Rn rfl)) (bq (bY rfl) dD))) ?_
  ·refine eu 3 86 5 88 rfl rfl fun _ a w G1 hG HT H fin=>?_;refine BX (zv:=.bool false) Dm qh (by kernel_rfl) H wn rfl rfl (H.ro _ _ (hG _ _ (hgm _ _ hck.rev))) rfl ?_;clear H;intro a H;rw [Il] at H;exact fin H iJ rfl
  clear H;intro a w G E9 H hv;have H:=H.aZ (hv 7 90 rfl rfl) rfl;clear hv;refine kH H (Ra rfl ?_);clear H;intro a H;refine aH ⟨rfl,?_⟩;refine rz _ _ ?_;clear rz;refine jX H rfl ?_ ?_
  ·intro xV
   refine aS (fun _ wm=>?_);have hE:=hX 22 (by unfold pR;rw [av (by simpa using xV)]) (by decide);exact kP H (SC (aO wm rfl (LR results69 rfl fun H=>H.rt (by rw [hE]))))
  intro xV
  try have p82:=dF xV
  have Ma:¬ (h.marks.bR[k].rev∉(aP st li rv).Dg):=by simpa using xV
  refine aS (fun _ lS=>?_);replace hp:=ay E9 hp;replace q2':=ay E9 q2'
  by_cases c3:0 < (k:Int)
  ·skip
   by_cases c4:h.marks.bR[k].rev≤h.marks.bR[k - 1].rev
   ·skip;refine dI hmx [[],[0],[0,1],[0,1,2],(ra 0 4),[0,1,2],[0,1,2,5],[0,1,2],[0,1,2,7],[0,1,2,5,6,7,8],[0,1,2,5,6,7,8,9],([0,1,2]++ra 5 6),(ra 0 12),(ra 0 13),(ra 0 14)] [14] (by kernel_rfl) [_,_,_,_,vi h.marks.bR[k].rev,_,_,_,vi ((k - 1:Nat):Int),_,_,_,_,_] H (aG (Z0 rfl (Rm rfl)) (Z1 0 92 rfl (Rc rfl)) (Z1 1 93 rfl (Rm rfl)) (Z1 2 94 rfl (YF Cy (aI c3) rfl)) (aG (Z2 3 95 2 94 rfl (YO aD 0 (aI c3) rfl)) (Z1 2 94 rfl (YF mJ (aI c3) rfl)) (X2 5 97 2 94 rfl fun hG=>YR mP (aI c3) rfl (ay hG q2')) (Z1 2 94 rfl (YM (aI c3) rfl)) (aG ?_ (Z3 6 98 8 100 2 94 rfl (YI kS qE (aI c3) rfl rfl)) (Z2 9 101 2 94 rfl (YF Cy (aI c3) rfl)) (X2 10 102 2 94 rfl fun hG=>YR aD (aI c3) rfl (ay hG hp)) (bq (Z3 4 96 11 103 2 94 rfl (YC (aI c3) rfl)) (bq (Z2 2 94 12 104 rfl (Pt (aI c3) rfl)) (bq (bY rfl) dD)))))) ?_
    ·refine eu 7 99 2 94 rfl rfl fun _ a w G1 hG HT H fin=>?_;refine nU _ H (wg H rfl rfl (aI c3)) rfl rfl rfl (by omega) (by omega) rfl ?_;clear H;intro a H;exact fin H iJ (by show _=_;first|rfl|exact aB vi (by omega))
    clear H;intro a w G Oj H hv;have H:=H.aZ (hv 13 105 rfl rfl) rfl;clear hv;refine kH H (Ra rfl ?_);clear H;intro a H;refine aH ⟨rfl,?_⟩;refine lS _ _ ?_;clear lS;refine yV H rfl (aI c4) ?_;refine aS (fun _ yQ=>?_);have hz:0 < k∧h.marks.bR[k].rev≤h.marks.bR[k - 1].rev:=⟨by omega,c4⟩;have hE:=hX 6 (by unfold pR;rw [ah Ma,av hz]) (by decide);exact kP H (SC (aO yQ rfl (LR results69 rfl fun H=>H.rt (by rw [hE]))))
   skip;refine dI hmx [[],[0],[0,1],[0,1,2],(ra 0 4),[0,1,2],[0,1,2,5],[0,1,2],[0,1,2,7],[0,1,2,5,6,7,8],[0,1,2,5,6,7,8,9],([0,1,2]++ra 5 6),(ra 0 12),(ra 0 13),(ra 0 14)] [14] (by kernel_rfl) [_,_,_,_,vi h.marks.bR[k].rev,_,_,_,vi ((k - 1:Nat):Int),_,_,_,_,_] H (aG (Z0 rfl (Rm rfl)) (Z1 0 92 rfl (Rc rfl)) (Z1 1 93 rfl (Rm rfl)) (Z1 2 94 rfl (YF Cy (aI c3) rfl)) (aG (Z2 3 95 2 94 rfl (YO aD 0 (aI c3) rfl)) (Z1 2 94 rfl (YF mJ (aI c3) rfl)) (X2 5 97 2 94 rfl fun hG=>YR mP (aI c3) rfl (ay hG q2')) (Z1 2 94 rfl (YM (aI c3) rfl)) (aG ?_ (Z3 6 98 8 100 2 94 rfl (YI kS qE (aI c3) rfl rfl)) (Z2 9 101 2 94 rfl (YF Cy (aI c3) rfl)) (X2 10 102 2 94 rfl fun hG=>YR aD (aI c3) rfl (ay hG hp)) (bq (Z3 4 96 11 103 2 94 rfl (YC (aI c3) rfl)) (bq (Z2 2 94 12 104 rfl (Pt (aI c3) rfl)) (bq (bY rfl) dD)))))) ?_
   ·refine eu 7 99 2 94 rfl rfl fun _ a w G1 hG HT H fin=>?_;refine nU _ H (wg H rfl rfl (aI c3)) rfl rfl rfl (by omega) (by omega) rfl ?_;clear H;intro a H;exact fin H iJ (by show _=_;first|rfl|exact aB vi (by omega))
   clear H;intro a w G Oj H hv;have H:=H.aZ (hv 13 105 rfl rfl) rfl;clear hv;refine kH H (Ra rfl ?_);clear H;intro a H;refine aH ⟨rfl,?_⟩;refine lS _ _ ?_;clear lS;refine om H rfl (aR c4) ?_;refine aS (fun _ wo=>?_)
   have hz:¬ (0 < k∧h.marks.bR[k].rev≤h.marks.bR[k - 1].rev):=by first|exact fun h=>c4 h.2|exact fun h=>c3 (by omega)
   refine kP H (SC (bg Jp aD 0 rfl rfl ?_));clear H;intro a H;refine s_call ze H wn rfl (zL _ _ H.ro h.marks.bR[k].move 0 1073741824) rfl ?_;clear H;rintro v109 _ a w ⟨rfl,rfl⟩ - H;refine kH H (Rn rfl (aO wo rfl (Cd rfl ?_ ?_))) <;> clear H wo
   ·intro Bo a H
    try have UH:=dT Bo
    refine aS (fun _ EC=>?_);have hE:=hX 21 (by unfold pR;rw [ah Ma,ah hz,av (by have h0:=Bo;simp at h0;omega)]) (by decide);exact kP H (SC (aO EC rfl (LR results69 rfl fun H=>H.rt (by rw [hE]))))
   intro Bo a H
   try have UH:=dF Bo
   have Hy:pR (aP st li rv) k h.marks.bR[k] h.marks.bR[k - 1].rev=0:=by unfold pR;rw [ah Ma,ah hz,ah (by have h0:=Bo;simp at h0;omega)]
   have sK:=fun b o h=>Oj b o (E9 b o (hgm b o h));refine kP H (Kc lQ (SC (Rd rfl (Rm rfl ?_))));clear H lQ;intro a H;refine aH ?_;refine dK ((k+1,G)) (by exact (H.dS (Pl:=[_]) (dL:=[]) [] (by decide) rfl).sub ⟨rfl,rfl,rfl,rfl,rfl,rfl,aC⟩) ?_ ?_
   ·(try dsimp only);exact ⟨by omega,by rw [qJ hk2,ah (by rw [hde];simpa using Hy)] at heq;exact heq,sK⟩
   first|omega|(dsimp only;omega)
  skip;refine dI hmx [[],[0],[0,1],[0,1,2],(ra 0 4),[0,1,2],[0,1,2,5],[0,1,2],[0,1,2,7],[0,1,2,5,6,7,8],[0,1,2,5,6,7,8,9],([0,1,2]++ra 5 6),(ra 0 12),(ra 0 13),(ra 0 14)] [14] (by kernel_rfl) [_,_,_,undef,undef,undef,undef,undef,undef,undef,undef,undef,undef,_] H (aG (Z0 rfl (Rm rfl)) (Z1 0 92 rfl (Rc rfl)) (Z1 1 93 rfl (Rm rfl)) (aX (j:=2) (by kernel_rfl) (fun _ _ _ _ _ h=>h) rfl rfl rfl rfl rfl (fun _ _ h=>aY h (aL (aR c3))) rfl (fun _=>rfl)) (aG (aX (j:=2) (by kernel_rfl) (fun _ _ _ _ _ h=>h) rfl rfl rfl rfl rfl (fun _ _ h=>aY h (aL (aR c3))) rfl (fun _=>rfl)) (aX (j:=2) (by kernel_rfl) (fun _ _ _ _ _ h=>h) rfl rfl rfl rfl rfl (fun _ _ h=>aY h (aL (aR c3))) rfl (fun _=>rfl)) (aX (j:=2) (by kernel_rfl) (fun _ _ _ _ _ h=>h) rfl rfl rfl rfl rfl (fun _ _ h=>aY h (aL (aR c3))) rfl (fun _=>rfl)) (aX (j:=2) (by kernel_rfl) (fun _ _ _ _ _ h=>h) rfl rfl rfl rfl rfl (fun _ _ h=>aY h (aL (aR c3))) rfl (fun _=>rfl)) (aG (aX (j:=2) (by kernel_rfl) (fun _ _ _ _ _ h=>h) rfl rfl rfl rfl rfl (fun _ _ h=>aY h (aL (aR c3))) rfl (fun _=>rfl)) (aX (j:=2) (by kernel_rfl) (fun _ _ _ _ _ h=>h) rfl rfl rfl rfl rfl (fun _ _ h=>aY h (aL (aR c3))) rfl (fun _=>rfl)) (aX (j:=2) (by kernel_rfl) (fun _ _ _ _ _ h=>h) rfl rfl rfl rfl rfl (fun _ _ h=>aY h (aL (aR c3))) rfl (fun _=>rfl)) (aX (j:=2) (by kernel_rfl) (fun _ _ _ _ _ h=>h) rfl rfl rfl rfl rfl (fun _ _ h=>aY h (aL (aR c3))) rfl (fun _=>rfl)) (bq (aX (j:=2) (by kernel_rfl) (fun _ _ _ _ _ h=>h) rfl rfl rfl rfl rfl (fun _ _ h=>aY h (aL (aR c3))) rfl (fun _=>rfl)) (bq (Z2 2 94 12 104 rfl (Pf (aR c3) rfl)) (bq (bY rfl) dD)))))) ?_
  clear H;intro a w G Oj H hv;have H:=H.aZ (hv 13 105 rfl rfl) rfl;clear hv;refine kH H (Ra rfl ?_);clear H;intro a H;refine aH ⟨rfl,?_⟩;refine lS _ _ ?_;clear lS;refine om H rfl rfl ?_;refine aS (fun _ Ch=>?_)
  have hz:¬ (0 < k∧h.marks.bR[k].rev≤h.marks.bR[k - 1].rev):=by first|exact fun h=>c4 h.2|exact fun h=>c3 (by omega)
  refine kP H (SC (bg Jp aD 0 rfl rfl ?_));clear H;intro a H;refine s_call ze H wn rfl (zL _ _ H.ro h.marks.bR[k].move 0 1073741824) rfl ?_;clear H;rintro v109 _ a w ⟨rfl,rfl⟩ - H;refine kH H (Rn rfl (aO Ch rfl (Cd rfl ?_ ?_))) <;> clear H Ch
  ·intro Bo a H
   try have UH:=dT Bo
   refine aS (fun _ AX=>?_);have hE:=hX 21 (by unfold pR;rw [ah Ma,ah hz,av (by have h0:=Bo;simp at h0;omega)]) (by decide);exact kP H (SC (aO AX rfl (LR results69 rfl fun H=>H.rt (by rw [hE]))))
  intro Bo a H
  try have UH:=dF Bo
  have Hy:pR (aP st li rv) k h.marks.bR[k] h.marks.bR[k - 1].rev=0:=by unfold pR;rw [ah Ma,ah hz,ah (by have h0:=Bo;simp at h0;omega)]
  have sK:=fun b o h=>Oj b o (E9 b o (hgm b o h));refine kP H (Kc lQ (SC (Rd rfl (Rm rfl ?_))));clear H lQ;intro a H;refine aH ?_;refine dK ((k+1,G)) (by exact (H.dS (Pl:=[_]) (dL:=[]) [] (by decide) rfl).sub ⟨rfl,rfl,rfl,rfl,rfl,rfl,aC⟩) ?_ ?_
  ·(try dsimp only);exact ⟨by omega,by rw [qJ hk2,ah (by rw [hde];simpa using Hy)] at heq;exact heq,sK⟩
  first|omega|(dsimp only;omega)
 intro qP a H
 try have UU:=dF qP
 refine dW ?_;refine kT _ _ ?_;clear kT;refine aS (fun _ Ac=>?_);refine aS (fun _ Dt=>?_)
 have e4:iI (uG (aP st li rv) h.marks.bR) h.marks.bR.length=0:=by rw [← heq,iw (by simp;omega)];rfl
 replace q3:=ay hgm q3;refine kP H (SC (Rf vG rfl (Rg vZ rfl (by assumption) ?_)));clear H;intro a H;refine kH H (Rl qg rfl (Rc rfl (Kn Dt (Cd rfl ?_ ?_)))) <;> clear H Dt
 ·intro RY a H
  try have UK:=dT RY
  refine aS (fun _ Du=>?_);have hE:=Y0 (C:=aP st li rv) (e:=e) (h:=h) e1 e2 e3 e4 UK;exact kP H (SC (aO Du rfl (LR results69 rfl fun H=>H.rt (by rw [hE]))))
 intro RY a H
 try have UK:=dF RY
 refine fu ?_;refine Ac _ _ ?_;clear Ac;refine aS (fun _ Ci=>?_);have hE:=Y1 (C:=aP st li rv) (e:=e) (h:=h) e1 e2 e3 e4 UK;refine kP H (SC (Rf vG rfl (Rg vZ rfl (by assumption) ?_)));clear H;intro a H;refine kH H (Rl qg rfl ?_);clear H;intro a H;refine qX H wn rfl rfl ?_;clear H;intro a H;refine s_call Jj H wn rfl (KF _ _ H.ro h.marks.layers.length (BN (aP st li rv) e h.marks.layers) _ (by omega) (hcb.mono hgm)) rfl ?_;clear H;rintro apI aoy a w rfl aoG H;exact kH H (aO Ci rfl (LR results69 rfl fun H=>H.rt (by rw [hE])))
end
section
open Go.RowKit
def codeOk (x:aJ):Bool:=if x.kind=4 then decide (1≤x.code∧x.code≤3) else if x.kind=6 then decide (1≤x.code∧x.code≤2) else if x.kind=8 then decide (1≤x.code∧x.code≤4) else true
def AO (x:aJ):Bool:=decide (x.kind=8∧x.code=1)
def zY (x:aJ):Bool:=decide (x.kind=1∨x.kind=5) || AO x
def zN (x:aJ):Bool:=decide (x.kind=6∨x.kind=7∨x.kind=8)
def Bb (x:aJ):Bool:=decide (x.kind=4∨x.kind=6∨x.kind=8)
def qo (s:ByteArray):Bool:=s.toList == (⟨#[]⟩:ByteArray).toList
def zo (x:aJ):Bool:=!Bb x && decide (x.code≠0) || !zN x && decide (x.id≠0) || !zY x && !qo x.text || decide (x.kind≠6) && decide (0 < (x.flow.length:Int)) || decide (x.kind≠7) && decide (0 < (x.rows.length:Int))
def jN (x:aJ):Int :=
 if (!decide (1≤x.kind∧x.kind≤8) || !codeOk x)=true then 3 else if zo x=true then 15 else if sW x.text=false then 12 else if (decide (x.kind=1∨x.kind=5) && qo x.text)=true then 11
 else if (decide (x.kind=5) && decide (1024 < (x.text.size:Int)))=true then 10 else if (AO x && !pO x.text)=true then 13 else 0
theorem ahG (G:GH) (w0:World) (hG:Hold G w0) (x:aJ) (p d l:ak) (fA rA:Option Addr) (fc rc:Nat) (hs:x.text.size < 4611686018427387904) :
  Calls prog 166 #[.agg #[vi x.kind,vi x.code,vi x.id,.string x.text,p,vi x.head.marks.ins,vi x.head.marks.move,d,l,.slice fA x.flow.length fc,.slice rA x.rows.length rc]] w0 (bJ w0 G fun u G'=>u=vi (jN x)∧G=G'):=by
 refine eN [(0,_)] func166 rfl ntmps166 rfl rfl hG ?_;intro a H;refine dw (fun _ K1=>?_);refine eD (cs:=[_,_,_,_,_,_,_,_,_,_,_]) H wn rfl rfl rfl ?_;clear H;intro b1 a w hb1 H;refine kH H (aj K1 rfl ?_);clear H K1;intro a H;refine qL (ι:=Bool) (Tc:=[(1,_)]) (Lc:=[(_,_)]) (fun gh=>[(3,.bool gh)]) (fun gh=>[]) (fun gh=>G) (fun gh=>gh=AO x) (by exact (H).sub ⟨rfl,aC⟩) ?_ ?_
 ·skip;refine kP H (SC (bg gJ aD 0 rfl rfl (Rc rfl (Rm rfl (Sp 11 rfl ?_ ?_))))) <;> clear H
  ·intro h11 a H
   try have rQ:=dT h11
   refine kH H (YF Bf h11 rfl (YO aD 0 h11 rfl (YC h11 rfl (Pt h11 rfl (Ra rfl ?_)))));clear H;intro a H;refine aH ?_;refine ⟨_,by exact (H).sub ⟨rfl,rfl,aC⟩,?_⟩
   unfold AO;first|(simp_all;done)
  intro h11 a H
  try have rQ:=dF h11
  refine kH H (aQ h11 rfl (Pf h11 rfl (Ra rfl ?_)));clear H;intro a H;refine aH ?_;refine ⟨_,by exact (H).sub ⟨rfl,rfl,aC⟩,?_⟩
  unfold AO;first|(simp_all;done)
 clear H;intro gh a w hI H;obtain ⟨st,hgh⟩:∃ x,x=gh:=⟨_,rfl⟩;subst hgh;have hst:=hI;dsimp only [lca,aV] at H;refine qL (ι:=Bool) (Tc:=[(1,_),(3,_)]) (Lc:=[(_,_)]) (fun gh=>[(4,.bool gh)]) (fun gh=>[]) (fun gh=>G) (fun gh=>gh=zY x) (by exact (H).sub ⟨rfl,rfl,aC⟩) ?_ ?_
 ·skip;refine kP H (SC (bg gJ aD 0 rfl rfl (Rc rfl (Rm rfl (Sp 19 rfl ?_ ?_))))) <;> clear H
  ·intro h19 a H
   try have yD:=dT h19
   refine kH H (aQ h19 rfl (Pt h19 rfl (Rm rfl (Ks rfl rfl (Pt rfl rfl (Ra rfl ?_))))));clear H;intro a H;refine aH ?_;refine ⟨_,by exact (H).sub ⟨rfl,rfl,rfl,aC⟩,?_⟩
   unfold zY;first|(simp_all;done)
  intro h19 a H
  try have yD:=dF h19
  refine kH H (YF gJ h19 rfl (YO aD 0 h19 rfl (YC h19 rfl (Pf h19 rfl (Rm rfl (Sp 24 rfl ?_ ?_)))))) <;> clear H
  ·intro bE a H
   try have jP:=dT bE
   refine kH H (Ks bE rfl (Pt bE rfl (Ra rfl ?_)));clear H;intro a H;refine aH ?_;refine ⟨_,by exact (H).sub ⟨rfl,rfl,rfl,aC⟩,?_⟩
   unfold zY;first|(simp_all;done)
  intro bE a H
  try have jP:=dF bE
  refine kH H (YM bE rfl (Pf bE rfl (Ra rfl ?_)));clear H;intro a H;refine aH ?_;refine ⟨_,by exact (H).sub ⟨rfl,rfl,rfl,aC⟩,?_⟩
  unfold zY;first|(simp_all;done)
 clear H;intro gh a w hI H;obtain ⟨wd,hgh⟩:∃ x,x=gh:=⟨_,rfl⟩;subst hgh;have hwd:=hI;dsimp only [lca,aV] at H;refine qL (ι:=Bool) (Tc:=[(1,_),(3,_),(4,_)]) (Lc:=[(_,_)]) (fun gh=>[(5,.bool gh)]) (fun gh=>[]) (fun gh=>G) (fun gh=>gh=zN x) (by exact (H).sub ⟨rfl,rfl,rfl,aC⟩) ?_ ?_
 ·skip;refine kP H (SC (bg gJ aD 0 rfl rfl (Rc rfl (Rm rfl (Sp 30 rfl ?_ ?_))))) <;> clear H
  ·intro jF a H
   try have p30:=dT jF
   refine kH H (aQ jF rfl (Pt jF rfl (Rm rfl (aQ rfl rfl (Pt rfl rfl (Ra rfl ?_))))));clear H;intro a H;refine aH ?_;refine ⟨_,by exact (H).sub ⟨rfl,rfl,rfl,rfl,aC⟩,?_⟩
   unfold zN;first|(simp_all;done)
  intro jF a H
  try have p30:=dF jF
  refine kH H (YF gJ jF rfl (YO aD 0 jF rfl (YC jF rfl (Pf jF rfl (Rm rfl (Sp 35 rfl ?_ ?_)))))) <;> clear H
  ·intro zu a H
   try have p35:=dT zu
   refine kH H (aQ zu rfl (Pt zu rfl (Ra rfl ?_)));clear H;intro a H;refine aH ?_;refine ⟨_,by exact (H).sub ⟨rfl,rfl,rfl,rfl,aC⟩,?_⟩
   unfold zN;first|(simp_all;done)
  intro zu a H
  try have p35:=dF zu
  refine kH H (YF gJ zu rfl (YO aD 0 zu rfl (YC zu rfl (Pf zu rfl (Ra rfl ?_)))));clear H;intro a H;refine aH ?_;refine ⟨_,by exact (H).sub ⟨rfl,rfl,rfl,rfl,aC⟩,?_⟩
  unfold zN;first|(simp_all;done)
 clear H;intro gh a w hI H;obtain ⟨nm,hgh⟩:∃ x,x=gh:=⟨_,rfl⟩;subst hgh;have hnm:=hI;dsimp only [lca,aV] at H;refine kP H (SR fun _ K2=>aj K2 rfl ?_);clear H K2;intro a H;refine qL (ι:=Bool) (Tc:=[(1,_),(3,_),(4,_),(5,_)]) (Lc:=[(_,_)]) (fun gh=>[(6,.bool gh)]) (fun gh=>[]) (fun gh=>G) (fun gh=>gh=codeOk x) (by exact (H).sub ⟨rfl,rfl,rfl,rfl,aC⟩) ?_ ?_
 ·skip;refine kP H (SR fun _ K3=>bg gJ aD 0 rfl rfl (Kz K3 (SB (SR fun _ K4=>Rc rfl (aj K4 rfl (Cd rfl ?_ ?_)))))) <;> clear H K3 K4
  ·intro Br a H
   try have p42:=dT Br
   refine kP H (SC (bg Bf aD 0 rfl rfl ?_));clear H;intro a H;refine s_call ze H wn rfl (zL _ _ H.ro x.code 1 3) rfl ?_;clear H;rintro v46 _ a w ⟨rfl,rfl⟩ - H;refine kH H (Ra rfl ?_);clear H;intro a H;refine aH ?_;refine ⟨_,by exact (H).sub ⟨rfl,rfl,rfl,rfl,rfl,aC⟩,?_⟩
   unfold codeOk;first|(simp_all;done)
  intro Br a H
  try have p42:=dF Br
  refine kP H (SR fun _ K5=>Rc rfl (aj K5 rfl (Cd rfl ?_ ?_))) <;> clear H K5
  ·intro h47 a H
   try have p47:=dT h47
   refine kP H (SC (bg Bf aD 0 rfl rfl ?_));clear H;intro a H;refine s_call ze H wn rfl (zL _ _ H.ro x.code 1 2) rfl ?_;clear H;rintro v51 _ a w ⟨rfl,rfl⟩ - H;refine kH H (Ra rfl ?_);clear H;intro a H;refine aH ?_;refine ⟨_,by exact (H).sub ⟨rfl,rfl,rfl,rfl,rfl,aC⟩,?_⟩
   unfold codeOk;first|(simp_all;done)
  intro h47 a H
  try have p47:=dF h47
  refine kP H (SR fun _ K6=>Rc rfl (aj K6 rfl (Cd rfl ?_ ?_))) <;> clear H K6
  ·intro sH a H
   try have p52:=dT sH
   refine kP H (SC (bg Bf aD 0 rfl rfl ?_));clear H;intro a H;refine s_call ze H wn rfl (zL _ _ H.ro x.code 1 4) rfl ?_;clear H;rintro v56 _ a w ⟨rfl,rfl⟩ - H;refine kH H (Ra rfl ?_);clear H;intro a H;refine aH ?_;refine ⟨_,by exact (H).sub ⟨rfl,rfl,rfl,rfl,rfl,aC⟩,?_⟩
   unfold codeOk;first|(simp_all;done)
  intro sH a H
  try have p52:=dF sH
  refine fu ?_;refine ⟨_,by exact (H).sub ⟨rfl,rfl,rfl,rfl,rfl,aC⟩,?_⟩
  unfold codeOk;first|(simp_all;done)
 clear H;intro gh a w hI H;obtain ⟨ck,hgh⟩:∃ x,x=gh:=⟨_,rfl⟩;subst hgh;have hck:=hI;dsimp only [lca,aV] at H;refine qL (ι:=Bool) (Tc:=[(1,_),(3,_),(4,_),(5,_),(6,_)]) (Lc:=[(_,_)]) (fun gh=>[(7,.bool gh)]) (fun gh=>[]) (fun gh=>G) (fun gh=>gh=Bb x) (by exact (H).sub ⟨rfl,rfl,rfl,rfl,rfl,aC⟩) ?_ ?_
 ·skip;refine kP H (SC (bg gJ aD 0 rfl rfl (Rc rfl (Rm rfl (Sp 60 rfl ?_ ?_))))) <;> clear H
  ·intro gX a H
   try have p60:=dT gX
   refine kH H (aQ gX rfl (Pt gX rfl (Rm rfl (aQ rfl rfl (Pt rfl rfl (Ra rfl ?_))))));clear H;intro a H;refine aH ?_;refine ⟨_,by exact (H).sub ⟨rfl,rfl,rfl,rfl,rfl,rfl,aC⟩,?_⟩
   unfold Bb;first|(simp_all;done)
  intro gX a H
  try have p60:=dF gX
  refine kH H (YF gJ gX rfl (YO aD 0 gX rfl (YC gX rfl (Pf gX rfl (Rm rfl (Sp 65 rfl ?_ ?_)))))) <;> clear H
  ·intro lZ a H
   try have p65:=dT lZ
   refine kH H (aQ lZ rfl (Pt lZ rfl (Ra rfl ?_)));clear H;intro a H;refine aH ?_;refine ⟨_,by exact (H).sub ⟨rfl,rfl,rfl,rfl,rfl,rfl,aC⟩,?_⟩
   unfold Bb;first|(simp_all;done)
  intro lZ a H
  try have p65:=dF lZ
  refine kH H (YF gJ lZ rfl (YO aD 0 lZ rfl (YC lZ rfl (Pf lZ rfl (Ra rfl ?_)))));clear H;intro a H;refine aH ?_;refine ⟨_,by exact (H).sub ⟨rfl,rfl,rfl,rfl,rfl,rfl,aC⟩,?_⟩
  unfold Bb;first|(simp_all;done)
 clear H;intro gh a w hI H;obtain ⟨cd,hgh⟩:∃ x,x=gh:=⟨_,rfl⟩;subst hgh;have hcd:=hI;dsimp only [lca,aV] at H;refine kP H (SQ fun _ K7=>SB (SR fun _ K8=>?_));clear H;intro a H;refine oz (ι:=Bool) (Tc:=[(1,_),(3,_),(4,_),(5,_),(7,_)]) 8 (fun (q0:Bool)=>[(78,.bool q0)]) (fun (q0:Bool)=>q0=(!decide (1≤x.kind∧x.kind≤8) || !codeOk x)) (by exact H.sub ⟨rfl,rfl,rfl,rfl,rfl,aC⟩) ?_ ?_
 ·intro Yr;refine kH H (bg gJ aD 0 rfl rfl ?_);clear H;intro a H;refine s_call ze H wn rfl (zL _ _ H.ro x.kind 1 8) rfl ?_;clear H;rintro v73 _ a w ⟨rfl,rfl⟩ - H;refine kH H (Rn rfl (Rm rfl (Sp 75 rfl ?_ ?_))) <;> clear H
  ·intro E8 a H
   try have p75:=dT E8
   refine kH H (aN E8 rfl (Pt E8 rfl ?_));clear H;intro a H;refine Yr (_) _ _ ?_ (by exact H.sub ⟨rfl,rfl,rfl,rfl,rfl,rfl,aC⟩);rw [← hck];clear hst hwd hnm hck hcd;(try clear hq1);(try clear hq2);(try clear hq3);(try clear hq0);(try clear hq4);(try clear iy);(try clear iL);(try clear iM);simp_all
  intro E8 a H
  try have p75:=dF E8
  refine kH H (YM E8 rfl (YN E8 rfl (Pf E8 rfl ?_)));clear H;intro a H;refine Yr (_) _ _ ?_ (by exact H.sub ⟨rfl,rfl,rfl,rfl,rfl,rfl,aC⟩);rw [← hck];clear hst hwd hnm hck hcd;(try clear hq1);(try clear hq2);(try clear hq3);(try clear hq0);(try clear hq4);(try clear iy);(try clear iL);(try clear iM);simp_all
 clear H;intro q0 a w hI H;dsimp only [lca,aV] at H;simp only [nZ,mQ];have hq0:=hI;refine kH H (aj K8 rfl (Cd rfl ?_ ?_)) <;> clear H K8
 ·intro pq a H
  refine aS (fun _ K9=>?_)
  have e:jN x=3:=by unfold jN;rw [av (by rw [← hq0];exact pq)]
  exact kP H (SC (aO K9 rfl (LR results166 rfl fun H=>H.rt ⟨by rw [e],rfl⟩)))
 intro pq a H
 try have p70:=dF pq
 have f0:¬ (!decide (1≤x.kind∧x.kind≤8) || !codeOk x)=true:=by rw [← hq0,pq];decide
 refine dw (fun _ aT=>?_);refine oz (ι:=Bool) (Tc:=[(1,_),(3,_),(4,_),(5,_)]) 7 (fun (q1:Bool)=>[(86,.bool q1)]) (fun (q1:Bool)=>q1=(!Bb x && decide (x.code≠0))) (by exact H.sub ⟨rfl,rfl,rfl,rfl,aC⟩) ?_ ?_
 ·intro Yt;refine kH H (Rm rfl (Rn rfl (Rm rfl (Sp 82 rfl ?_ ?_)))) <;> clear H
  ·intro xV a H
   try have p82:=dT xV
   refine kH H (YF Bf xV rfl (YO aD 0 xV rfl (YC xV rfl (Pt xV rfl ?_))));clear H;intro a H;refine Yt (_) _ _ ?_ (by exact H.sub ⟨rfl,rfl,rfl,rfl,rfl,aC⟩);rw [← hcd];clear hst hwd hnm hck hcd;(try clear hq1);(try clear hq2);(try clear hq3);(try clear hq0);(try clear hq4);(try clear iy);(try clear iL);(try clear iM);simp_all
  intro xV a H
  try have p82:=dF xV
  refine kH H (aQ xV rfl (Pf xV rfl ?_));clear H;intro a H;refine Yt (_) _ _ ?_ (by exact H.sub ⟨rfl,rfl,rfl,rfl,rfl,aC⟩);rw [← hcd];clear hst hwd hnm hck hcd;(try clear hq1);(try clear hq2);(try clear hq3);(try clear hq0);(try clear hq4);(try clear iy);(try clear iL);(try clear iM);simp_all
 clear H;intro q1 a w hI H;dsimp only [lca,aV] at H;simp only [nZ,mQ];have hq1:=hI;refine oz (ι:=Bool) (Tc:=[(1,_),(3,_),(4,_)]) 9 (fun (q2:Bool)=>[(95,.bool q2)]) (fun (q2:Bool)=>q2=(q1 || !zN x && decide (x.id≠0))) (by exact H.sub ⟨rfl,rfl,rfl,aC⟩) ?_ ?_
 ·intro SI;refine kH H (Rm rfl (Sp 87 rfl ?_ ?_)) <;> clear H
  ·intro h87 a H
   try have MH:=dT h87
   refine kH H (aQ h87 rfl (Ku rfl (Ku rfl (Ku rfl (Ks h87 rfl (Pt h87 rfl ?_))))));clear H;intro a H;refine SI (_) _ _ ?_ (by exact H.sub ⟨rfl,rfl,rfl,rfl,aC⟩);rw [← hnm];clear hst hwd hnm hck hcd;(try clear hq1);(try clear hq2);(try clear hq3);(try clear hq0);(try clear hq4);(try clear iy);(try clear iL);(try clear iM);simp_all
  intro h87 a H
  try have MH:=dF h87
  refine kH H (YM h87 rfl (YN h87 rfl (YM h87 rfl (Sp 90 rfl ?_ ?_)))) <;> clear H
  ·intro DU a H
   try have p90:=dT DU
   refine kH H (YF wL DU rfl (YO aD 0 DU rfl (YC DU rfl (PT h87 DU rfl (Pf h87 rfl ?_)))));clear H;intro a H;refine SI (_) _ _ ?_ (by exact H.sub ⟨rfl,rfl,rfl,rfl,aC⟩);rw [← hnm];clear hst hwd hnm hck hcd;(try clear hq1);(try clear hq2);(try clear hq3);(try clear hq0);(try clear hq4);(try clear iy);(try clear iL);(try clear iM);simp_all
  intro DU a H
  try have p90:=dF DU
  refine kH H (aQ DU rfl (PF h87 DU rfl (Pf h87 rfl ?_)));clear H;intro a H;refine SI (_) _ _ ?_ (by exact H.sub ⟨rfl,rfl,rfl,rfl,aC⟩);rw [← hnm];clear hst hwd hnm hck hcd;(try clear hq1);(try clear hq2);(try clear hq3);(try clear hq0);(try clear hq4);(try clear iy);(try clear iL);(try clear iM);simp_all
 clear H;intro q2 a w hI H;dsimp only [lca,aV] at H;simp only [nZ,mQ];have hq2:=hI;refine oz (ι:=Bool) (Tc:=[(1,_),(3,_)]) 9 (fun (q3:Bool)=>[(104,.bool q3)]) (fun (q3:Bool)=>q3=(q2 || !zY x && !qo x.text)) (by exact H.sub ⟨rfl,rfl,aC⟩) ?_ ?_
 ·intro SF;refine kH H (Rm rfl (Sp 96 rfl ?_ ?_)) <;> clear H
  ·intro uO a H
   try have MJ:=dT uO
   refine kH H (aQ uO rfl (Ku rfl (Ku rfl (Ku rfl (Ks uO rfl (Pt uO rfl ?_))))));clear H;intro a H;refine SF (_) _ _ ?_ (by exact H.sub ⟨rfl,rfl,rfl,aC⟩);rw [← hwd];clear hst hwd hnm hck hcd;(try clear hq1);(try clear hq2);(try clear hq3);(try clear hq0);(try clear hq4);(try clear iy);(try clear iL);(try clear iM);simp_all [qo]
  intro uO a H
  try have MJ:=dF uO
  refine kH H (YM uO rfl (YN uO rfl (YM uO rfl (Sp 99 rfl ?_ ?_)))) <;> clear H
  ·intro DW a H
   try have p99:=dT DW
   refine kH H (YF tJ DW rfl (YO gD 0 DW rfl ?_));clear H;intro a H;refine aaR H (wg H rfl rfl DW) rfl rfl rfl ?_;clear H;intro a H;refine kH H (PT uO DW rfl (Pf uO rfl ?_));clear H;intro a H;refine SF (_) _ _ ?_ (by exact H.sub ⟨rfl,rfl,rfl,aC⟩);rw [← hwd];clear hst hwd hnm hck hcd;(try clear hq1);(try clear hq2);(try clear hq3);(try clear hq0);(try clear hq4);(try clear iy);(try clear iL);(try clear iM);simp_all [qo]
  intro DW a H
  try have p99:=dF DW
  refine kH H (aQ DW rfl (PF uO DW rfl (Pf uO rfl ?_)));clear H;intro a H;refine SF (_) _ _ ?_ (by exact H.sub ⟨rfl,rfl,rfl,aC⟩);rw [← hwd];clear hst hwd hnm hck hcd;(try clear hq1);(try clear hq2);(try clear hq3);(try clear hq0);(try clear hq4);(try clear iy);(try clear iL);(try clear iM);simp_all [qo]
 clear H;intro q3 a w hI H;dsimp only [lca,aV] at H;simp only [nZ,mQ];have hq3:=hI;refine oz (ι:=Bool) (Tc:=[(1,_),(3,_)]) 11 (fun (q4:Bool)=>[(115,.bool q4)]) (fun (q4:Bool)=>q4=(q3 || decide (x.kind≠6) && decide (0 < (x.flow.length:Int)))) (by exact H.sub ⟨rfl,rfl,aC⟩) ?_ ?_
 ·intro SG;refine kH H (Rm rfl (Sp 105 rfl ?_ ?_)) <;> clear H
  ·intro sF a H
   try have JO:=dT sF
   refine kH H (aN sF rfl (aN sF rfl (Ku rfl (Ku rfl (Ku rfl (Ku rfl (Ks sF rfl (Pt sF rfl ?_))))))));clear H;intro a H;refine SG (_) _ _ ?_ (by exact H.sub ⟨rfl,rfl,rfl,aC⟩);clear hst hwd hnm hck hcd;(try clear hq1);(try clear hq2);(try clear hq3);(try clear hq0);(try clear hq4);(try clear iy);(try clear iL);(try clear iM);simp_all
  intro sF a H
  try have JO:=dF sF
  refine kH H (YF gJ sF rfl (YO aD 0 sF rfl (YC sF rfl (YM sF rfl (Sp 109 rfl ?_ ?_))))) <;> clear H
  ·intro nO a H
   try have UJ:=dT nO
   refine kH H (YF Al nO rfl (YO jy 0 nO rfl (YL lu nO rfl (YC nO rfl (PT sF nO rfl (Pf sF rfl ?_))))));clear H;intro a H;refine SG (_) _ _ ?_ (by exact H.sub ⟨rfl,rfl,rfl,aC⟩);clear hst hwd hnm hck hcd;(try clear hq1);(try clear hq2);(try clear hq3);(try clear hq0);(try clear hq4);(try clear iy);(try clear iL);(try clear iM);simp_all
  intro nO a H
  try have UJ:=dF nO
  refine kH H (aN nO rfl (aN nO rfl (PF sF nO rfl (Pf sF rfl ?_))));clear H;intro a H;refine SG (_) _ _ ?_ (by exact H.sub ⟨rfl,rfl,rfl,aC⟩);clear hst hwd hnm hck hcd;(try clear hq1);(try clear hq2);(try clear hq3);(try clear hq0);(try clear hq4);(try clear iy);(try clear iL);(try clear iM);simp_all
 clear H;intro q4 a w hI H;dsimp only [lca,aV] at H;simp only [nZ,mQ];have hq4:=hI;refine oz (ι:=Bool) (Tc:=[(1,_),(3,_)]) 11 (fun (q5:Bool)=>[(126,.bool q5)]) (fun (q5:Bool)=>q5=zo x) (by exact H.sub ⟨rfl,rfl,aC⟩) ?_ ?_
 ·intro SH;refine kH H (Rm rfl (Sp 116 rfl ?_ ?_)) <;> clear H
  ·intro h116 a H
   try have Px:=dT h116
   refine kH H (aN h116 rfl (aN h116 rfl (Ku rfl (Ku rfl (Ku rfl (Ku rfl (Ks h116 rfl (Pt h116 rfl ?_))))))));clear H;intro a H;refine SH (_) _ _ ?_ (by exact H.sub ⟨rfl,rfl,rfl,aC⟩);rw [show zo x=(q4 || decide (x.kind≠7) && decide (0 < (x.rows.length:Int))) by rw [hq4,hq3,hq2,hq1];rfl];clear hq4;clear hst hwd hnm hck hcd;(try clear hq1);(try clear hq2);(try clear hq3);(try clear hq0);(try clear hq4);(try clear iy);(try clear iL);(try clear iM);simp_all
  intro h116 a H
  try have Px:=dF h116
  refine kH H (YF gJ h116 rfl (YO aD 0 h116 rfl (YC h116 rfl (YM h116 rfl (Sp 120 rfl ?_ ?_))))) <;> clear H
  ·intro nI a H
   try have Fy:=dT nI
   refine kH H (YF zk nI rfl (YO zV 0 nI rfl (YL kr nI rfl (YC nI rfl (PT h116 nI rfl (Pf h116 rfl ?_))))));clear H;intro a H;refine SH (_) _ _ ?_ (by exact H.sub ⟨rfl,rfl,rfl,aC⟩);rw [show zo x=(q4 || decide (x.kind≠7) && decide (0 < (x.rows.length:Int))) by rw [hq4,hq3,hq2,hq1];rfl];clear hq4;clear hst hwd hnm hck hcd;(try clear hq1);(try clear hq2);(try clear hq3);(try clear hq0);(try clear hq4);(try clear iy);(try clear iL);(try clear iM);simp_all
  intro nI a H
  try have Fy:=dF nI
  refine kH H (aN nI rfl (aN nI rfl (PF h116 nI rfl (Pf h116 rfl ?_))));clear H;intro a H;refine SH (_) _ _ ?_ (by exact H.sub ⟨rfl,rfl,rfl,aC⟩);rw [show zo x=(q4 || decide (x.kind≠7) && decide (0 < (x.rows.length:Int))) by rw [hq4,hq3,hq2,hq1];rfl];clear hq4;clear hst hwd hnm hck hcd;(try clear hq1);(try clear hq2);(try clear hq3);(try clear hq0);(try clear hq4);(try clear iy);(try clear iL);(try clear iM);simp_all
 clear H;intro q5 a w hI H;dsimp only [lca,aV] at H;simp only [nZ,mQ];have iy:=hI;refine kH H (aj aT rfl (Cd rfl ?_ ?_)) <;> clear H aT
 ·intro jd a H
  refine aS (fun _ bB=>?_)
  have e:jN x=15:=by unfold jN;rw [ah f0,av (by rw [← iy];exact jd)]
  exact kP H (SC (aO bB rfl (LR results166 rfl fun H=>H.rt ⟨by rw [e],rfl⟩)))
 intro jd a H
 try have zO:=dF jd
 have f1:¬ zo x=true:=by rw [← iy,jd];decide
 refine kP H (SR fun _ bC=>bg tJ gD 0 rfl rfl ?_);clear H;intro a H;refine s_call EU H wn rfl (FL _ _ H.ro x.text hs) rfl ?_;clear H;rintro v130 _ a w ⟨rfl,rfl⟩ - H;refine kH H (Rn rfl (aj bC rfl (Cd rfl ?_ ?_))) <;> clear H bC
 ·intro h127 a H
  refine aS (fun _ bK=>?_)
  have e:jN x=12:=by unfold jN;rw [ah f0,ah f1,av (by simpa using h127)]
  exact kP H (SC (aO bK rfl (LR results166 rfl fun H=>H.rt ⟨by rw [e],rfl⟩)))
 intro h127 a H
 try have aav:=dF h127
 have f2:¬ sW x.text=false:=by simpa using h127
 refine dw (fun _ bP=>?_);refine oz (ι:=Bool) (Tc:=[(1,_),(3,_)]) 13 (fun (q6:Bool)=>[(145,.bool q6)]) (fun (q6:Bool)=>q6=(decide (x.kind=1∨x.kind=5) && qo x.text)) (by exact H.sub ⟨rfl,rfl,aC⟩) ?_ ?_
 ·intro SL;refine kH H (bg gJ aD 0 rfl rfl (Rc rfl (Rm rfl (Sp 136 rfl ?_ ?_)))) <;> clear H
  ·intro qN a H
   try have UM:=dT qN
   refine kH H (aQ qN rfl (Pt qN rfl (Rm rfl ?_)));clear H;intro a H;refine J2 tJ H (wg H rfl rfl rfl) rfl rfl ?_;clear H;intro a H;refine zT gD H (wg H rfl rfl rfl) rfl (H.hp.tV 0 rfl rfl) rfl ?_;clear H;intro a H;refine Eo H (wg H rfl rfl rfl) rfl rfl rfl ?_;clear H;intro a H;refine kH H (Pt rfl rfl ?_);clear H;intro a H;refine SL (_) _ _ ?_ (by exact H.sub ⟨rfl,rfl,rfl,aC⟩);clear hst hwd hnm hck hcd;(try clear hq1);(try clear hq2);(try clear hq3);(try clear hq0);(try clear hq4);(try clear iy);(try clear iL);(try clear iM);simp_all [qo]
  intro qN a H
  try have UM:=dF qN
  refine kH H (YF gJ qN rfl (YO aD 0 qN rfl (YC qN rfl (Pf qN rfl (Rm rfl (Sp 141 rfl ?_ ?_)))))) <;> clear H
  ·intro DT a H
   try have aly:=dT DT
   refine kH H (YF tJ DT rfl (YO gD 0 DT rfl ?_));clear H;intro a H;refine Eo H (wg H rfl rfl DT) rfl rfl rfl ?_;clear H;intro a H;refine kH H (Pt DT rfl ?_);clear H;intro a H;refine SL (_) _ _ ?_ (by exact H.sub ⟨rfl,rfl,rfl,aC⟩);clear hst hwd hnm hck hcd;(try clear hq1);(try clear hq2);(try clear hq3);(try clear hq0);(try clear hq4);(try clear iy);(try clear iL);(try clear iM);simp_all [qo]
  intro DT a H
  try have aly:=dF DT
  refine kH H (aQ DT rfl (Pf DT rfl ?_));clear H;intro a H;refine SL (_) _ _ ?_ (by exact H.sub ⟨rfl,rfl,rfl,aC⟩);clear hst hwd hnm hck hcd;(try clear hq1);(try clear hq2);(try clear hq3);(try clear hq0);(try clear hq4);(try clear iy);(try clear iL);(try clear iM);simp_all [qo]
 clear H;intro q6 a w hI H;dsimp only [lca,aV] at H;simp only [nZ,mQ];have iL:=hI;refine kH H (aj bP rfl (Cd rfl ?_ ?_)) <;> clear H bP
 ·intro DR a H
  refine aS (fun _ dx=>?_)
  have e:jN x=11:=by unfold jN;rw [ah f0,ah f1,ah f2,av (by rw [← iL];exact DR)]
  exact kP H (SC (aO dx rfl (LR results166 rfl fun H=>H.rt ⟨by rw [e],rfl⟩)))
 intro DR a H
 try have alv:=dF DR
 have f3:¬ (decide (x.kind=1∨x.kind=5) && qo x.text)=true:=by rw [← iL,DR];decide
 refine dw (fun _ dP=>?_);refine oz (ι:=Bool) (Tc:=[(1,_),(3,_)]) 9 (fun (q7:Bool)=>[(155,.bool q7)]) (fun (q7:Bool)=>q7=(decide (x.kind=5) && decide (1024 < (x.text.size:Int)))) (by exact H.sub ⟨rfl,rfl,aC⟩) ?_ ?_
 ·intro Yv;refine kH H (bg gJ aD 0 rfl rfl (Rc rfl (Rm rfl (Sp 150 rfl ?_ ?_)))) <;> clear H
  ·intro Bp a H
   try have alA:=dT Bp
   refine kH H (YF tJ Bp rfl (YO gD 0 Bp rfl ?_));clear H;intro a H;refine BU iD H (wg H rfl rfl Bp) rfl rfl ?_;clear H;intro a H;refine kH H (YC Bp rfl (Pt Bp rfl ?_));clear H;intro a H;refine Yv (_) _ _ ?_ (by exact H.sub ⟨rfl,rfl,rfl,aC⟩);clear hst hwd hnm hck hcd;(try clear hq1);(try clear hq2);(try clear hq3);(try clear hq0);(try clear hq4);(try clear iy);(try clear iL);(try clear iM);simp_all
  intro Bp a H
  try have alA:=dF Bp
  refine kH H (aN Bp rfl (aN Bp rfl (Pf Bp rfl ?_)));clear H;intro a H;refine Yv (_) _ _ ?_ (by exact H.sub ⟨rfl,rfl,rfl,aC⟩);clear hst hwd hnm hck hcd;(try clear hq1);(try clear hq2);(try clear hq3);(try clear hq0);(try clear hq4);(try clear iy);(try clear iL);(try clear iM);simp_all
 clear H;intro q7 a w hI H;dsimp only [lca,aV] at H;simp only [nZ,mQ];have iM:=hI;refine kH H (aj dP rfl (Cd rfl ?_ ?_)) <;> clear H dP
 ·intro Oe a H
  refine aS (fun _ dB=>?_)
  have e:jN x=10:=by unfold jN;rw [ah f0,ah f1,ah f2,ah f3,av (by rw [← iM];exact Oe)]
  exact kP H (SC (aO dB rfl (LR results166 rfl fun H=>H.rt ⟨by rw [e],rfl⟩)))
 intro Oe a H
 try have apx:=dF Oe
 have f4:¬ (decide (x.kind=5) && decide (1024 < (x.text.size:Int)))=true:=by rw [← iM,Oe];decide
 refine dw (fun _ dY=>?_);refine oz (ι:=Bool) (Tc:=[]) 7 (fun (q8:Bool)=>[(163,.bool q8)]) (fun (q8:Bool)=>q8=(AO x && !pO x.text)) (by exact H.sub trivial) ?_ ?_
 ·intro Yx;refine kH H (Rm rfl (Rm rfl (Sp 158 rfl ?_ ?_))) <;> clear H
  ·intro Bq a H
   try have alB:=dT Bq
   refine kH H (YF tJ Bq rfl (YO gD 0 Bq rfl ?_));clear H;intro a H;refine s_call KT H (wg H rfl rfl Bq) rfl (KL _ _ H.ro x.text hs) rfl ?_;clear H;rintro apP _ a w ⟨rfl,rfl⟩ - H;refine kH H (YN Bq rfl (Pt Bq rfl ?_));clear H;intro a H;refine Yx (_) _ _ ?_ (by exact H.sub ⟨rfl,aC⟩);rw [← hst];clear hst hwd hnm hck hcd;(try clear hq1);(try clear hq2);(try clear hq3);(try clear hq0);(try clear hq4);(try clear iy);(try clear iL);(try clear iM);simp_all
  intro Bq a H
  try have alB:=dF Bq
  refine kH H (aN Bq rfl (aN Bq rfl (Pf Bq rfl ?_)));clear H;intro a H;refine Yx (_) _ _ ?_ (by exact H.sub ⟨rfl,aC⟩);rw [← hst];clear hst hwd hnm hck hcd;(try clear hq1);(try clear hq2);(try clear hq3);(try clear hq0);(try clear hq4);(try clear iy);(try clear iL);(try clear iM);simp_all
 clear H;intro q8 a w hI H;dsimp only [lca,aV] at H;simp only [nZ,mQ];have hq8:=hI;refine kH H (aj dY rfl (Cd rfl ?_ ?_)) <;> clear H dY
 ·intro Sd a H
  refine aS (fun _ eP=>?_)
  have e:jN x=13:=by unfold jN;rw [ah f0,ah f1,ah f2,ah f3,ah f4,av (by rw [← hq8];exact Sd)]
  exact kP H (SC (aO eP rfl (LR results166 rfl fun H=>H.rt ⟨by rw [e],rfl⟩)))
 intro Sd a H
 refine fu ?_;refine K7 _ _ ?_;clear K7;refine aS (fun _ dZ=>?_)
 have e:jN x=0:=by unfold jN;rw [ah f0,ah f1,ah f2,ah f3,ah f4,ah (by rw [← hq8,Sd];decide)]
 exact kP H (SC (aO dZ rfl (LR results166 rfl fun H=>H.rt ⟨by rw [e],rfl⟩)))
end
section
open Go.RowKit
structure CS where
 n:Int
 bG:List Int
abbrev CR:=Int × CS
def gF (r:CR) (f:CS→CR):CR:=if r.1≠0 then r else f r.2
theorem tF {r:CR} {f:CS→CR} (h:r.1=0):gF r f=f r.2:=by rw [gF,ah (fun h'=>h' h)]
theorem uz {r:CR} {f:CS→CR} (h:r.1≠0):gF r f=r:=by rw [gF,av h]
def jZ (s:CS) (x:Int):CR:=(oK s.bG x,⟨s.n,jU s.bG x⟩)
def lg (body note:Bool) (t k i:Int) (s:CS):CR :=
 if k=3 then (bQ (!body) 19,s) else if k=6 then gF (bQ note 19,s) fun s=>jZ s i else if k=7 then gF (bQ (decide (4≤t)) 17,s) fun s=>jZ s i else if k=8 then (bQ (!decide (1≤i∧i≤1073741824)) 18,s) else (0,s)
def sS (C:iT) (h:jm) (n:Nat):Int:=bT [fP C 9 h,bQ (decide ((n:Int)=0)) 11,bQ (decide (32 < (n:Int))) 9]
def lI (n:Nat) (f:CS→CR) (s:CS):CR:=if n=0 then (11,s) else if 256 < n then (9,s) else f s
mutual
def fJ (C:iT) (body note:Bool) (t:Int):aJ→CS→CR
 | .mk k c i tx h f r,s =>
  gF (jN (.mk k c i tx h f r),s) fun s=>gF (lg body note t k i ⟨s.n+(if k=1 then xL tx else 1:Nat),s.bG⟩) fun s=>gF (fP C k h,s) fun s =>
   if k=6 then jg C false true t f s else if k=7 then lI r.length (fun s=>iO C note (t+1) r s) s else (0,s)
def JV (C:iT) (note:Bool) (t:Int):bS→CS→CR
 | .mk h cs,s=>gF (sS C h cs.length,s) fun s=>pK C note t cs s
def cellC (C:iT) (note:Bool) (t:Int):bO→CS→CR
 | .mk i h f,s=>gF (jZ s i) fun s=>gF (fP C 10 h,s) fun s=>jg C false note t f s
def jg (C:iT) (body note:Bool) (t:Int):List aJ→CS→CR
 | [],s=>(0,s)
 | x :: r,s=>gF (fJ C body note t x s) fun s=>jg C body note t r s
def iO (C:iT) (note:Bool) (t:Int):List bS→CS→CR
 | [],s=>(0,s)
 | x :: r,s=>gF (JV C note t x s) fun s=>iO C note t r s
def pK (C:iT) (note:Bool) (t:Int):List bO→CS→CR
 | [],s=>(0,s)
 | x :: r,s=>gF (cellC C note t x s) fun s=>pK C note t r s
end
theorem O8 (C:iT) (body note:Bool) (t:Int) (x:aJ) (s:CS):fJ C body note t x s=gF (jN x,s) fun s=>gF (lg body note t x.kind x.id ⟨s.n+(gU x:Nat),s.bG⟩) fun s=>gF (fP C x.kind x.head,s) fun s =>
  if x.kind=6 then jg C false true t x.flow s else if x.kind=7 then lI x.rows.length (fun s=>iO C note (t+1) x.rows s) s else (0,s):=by cases x;rw [fJ];rfl
theorem MP (C:iT) (note:Bool) (t:Int) (x:bS) (s:CS):JV C note t x s=gF (sS C x.head x.cells.length,s) fun s=>pK C note t x.cells s:=by cases x;rw [JV];rfl
theorem Cu (C:iT) (note:Bool) (t:Int) (x:bO) (s:CS):cellC C note t x s=gF (jZ s x.id) fun s=>gF (fP C 10 x.head,s) fun s=>jg C false note t x.flow s:=by cases x;rw [cellC];rfl
def Up (s:CS) (z:Nat) (r:CR):Prop:=s.n≤r.2.n∧r.2.n≤s.n+z
theorem Up.and {s:CS} {z y q:Nat} {r:CR} {f:CS→CR} (h:Up s z r) (hq:z+y≤q) (hf:∀ s,Up s y (f s)):Up s q (gF r f):=by
 obtain ⟨h1,h2⟩:=h
 unfold gF
 split
 ·exact ⟨h1,by omega⟩
 obtain ⟨h3,h4⟩:=hf r.2;exact ⟨by omega,by omega⟩
theorem Up.zero (s:CS) (e:Int) (q:Nat):Up s q (e,s):=⟨Int.le_refl _,by dsimp only;omega⟩
theorem Up.le {s:CS} {z y:Nat} {r:CR} (h:Up s z r) (hq:z≤y):Up s y r:=⟨h.1,by have:=h.2;omega⟩
theorem abK (s:CS) (x:Int) (q:Nat):Up s q (jZ s x):=⟨Int.le_refl _,by dsimp only [jZ];omega⟩
theorem anO (body note:Bool) (t k i:Int) (s:CS) (q:Nat):Up s q (lg body note t k i s):=by
 unfold lg
 (repeat' split) <;> first|exact Up.zero _ _ _|exact (Up.zero _ _ 0).and (y:=0) (by omega) fun s=>abK _ _ _
mutual
theorem Vv (C:iT) (body note:Bool) (t:Int):∀ (x:aJ) (s:CS),Up s (dQ x.dat) (fJ C body note t x s)
 | .mk k c i tx h f r,s=>by
  have hz:=uX (.mk k c i tx h f r);have hf:=Qe C false true t f;have hr:=abL C note (t+1) r;rw [fJ];obtain ⟨u,hu'⟩:∃ u,u=(if k=1 then xL tx else 1:Nat):=⟨_,rfl⟩
  have hu:u≤tx.size+1:=by
   have:=Jf tx
   rw [hu'];split <;> omega
  rw [← hu'];dsimp only [aJ.text,aJ.flow,aJ.rows,aJ.head] at hz;refine (Up.zero s _ 0).and (Nat.le_of_eq (lD _)) fun s=>?_
  have h2:Up s (u) (lg body note t k i ⟨s.n+(u:Nat),s.bG⟩):=by
   obtain ⟨h3,h4⟩:=anO body note t k i ⟨s.n+(u:Nat),s.bG⟩ 0;dsimp only at h3 h4;exact ⟨by omega,by omega⟩
  refine h2.and (y:=bU f+fQ r) (by omega) fun s=>(Up.zero s _ 0).and (Nat.le_of_eq (lD _)) fun s=>?_
  by_cases h6:k=6
  ·rw [av h6];exact (hf s).le (by omega)
  rw [ah h6]
  by_cases h7:k=7
  ·rw [av h7]
   unfold lI
   by_cases c1:r.length=0
   ·rw [av c1];exact Up.zero _ _ _
   rw [ah c1]
   by_cases c2:256 < r.length
   ·rw [av c2];exact Up.zero _ _ _
   rw [ah c2];exact (hr s).le (by omega)
  rw [ah h7];exact Up.zero _ _ _
theorem anP (C:iT) (note:Bool) (t:Int):∀ (x:bS) (s:CS),Up s (dQ x.dat) (JV C note t x s)
 | .mk h cs,s=>by
  have hz:=Aa (.mk h cs);have hc:=abJ C note t cs;rw [MP];dsimp only [bS.cells,bS.head] at hz ⊢;exact (Up.zero s _ 0).and (y:=jr cs) (by omega) fun s=>hc s
theorem abI (C:iT) (note:Bool) (t:Int):∀ (x:bO) (s:CS),Up s (dQ x.dat) (cellC C note t x s)
 | .mk i h f,s=>by
  have hz:=zZ (.mk i h f);have hf:=Qe C false note t f;rw [Cu];dsimp only [bO.flow,bO.head,bO.id] at hz ⊢;exact (abK s _ 0).and (y:=bU f) (by omega) fun s=>(Up.zero s _ 0).and (Nat.le_of_eq (lD _)) fun s=>hf s
theorem Qe (C:iT) (body note:Bool) (t:Int):∀ (l:List aJ) (s:CS),Up s (bU l) (jg C body note t l s)
 | [],s=>by rw [jg];exact Up.zero _ _ _
 | x :: r,s=>by
  rw [jg];exact (Vv C body note t x s).and (y:=bU r) (by simp only [bU,iq,fE];omega) fun s=>Qe C body note t r s
theorem abL (C:iT) (note:Bool) (t:Int):∀ (l:List bS) (s:CS),Up s (fQ l) (iO C note t l s)
 | [],s=>by rw [iO];exact Up.zero _ _ _
 | x :: r,s=>by
  rw [iO];exact (anP C note t x s).and (y:=fQ r) (by simp only [fQ,iq,fE];omega) fun s=>abL C note t r s
theorem abJ (C:iT) (note:Bool) (t:Int):∀ (l:List bO) (s:CS),Up s (jr l) (pK C note t l s)
 | [],s=>by rw [pK];exact Up.zero _ _ _
 | x :: r,s=>by
  rw [pK];exact (abI C note t x s).and (y:=jr r) (by simp only [jr,iq,fE];omega) fun s=>abJ C note t r s
end
def rU {α:Type} (f:α→CS→CR) (l:List α) (s:CS):Nat→CS
 | 0=>s
 | i+1=>match l[i]? with|some x=>(f x (rU f l s i)).2|none=>rU f l s i
def DK {α:Type} (f:α→CS→CR) (l:List α) (s:CS) (i:Nat):Int:=match l[i]? with|some x=>(f x (rU f l s i)).1|none=>0
theorem Vk {α:Type} (f:α→CS→CR) (x:α) (l:List α) (s:CS):∀ i,rU f (x :: l) s (i+1)=rU f l (f x s).2 i
 | 0=>rfl
 | i+1=>by
  have ih:=Vk f x l s i
  simp only [rU,List.getElem?_cons_succ] at ih ⊢
  rw [ih]
theorem ahg {α:Type} (f:α→CS→CR) (x:α) (l:List α) (s:CS) (i:Nat):DK f (x :: l) s (i+1)=DK f l (f x s).2 i:=by
 unfold DK
 simp only [List.getElem?_cons_succ,Vk]
theorem acG (E:Nat→Int) (n:Nat):iI E (n+1)=if E 0≠0 then E 0 else iI (fun i=>E (i+1)) n:=by
 unfold iI
 rw [List.range_succ_eq_map,iq,bT,List.map_map]
 rfl
theorem ZU (C:iT) (body note:Bool) (t:Int):∀ (l:List aJ) (s:CS),(jg C body note t l s).1=iI (DK (fJ C body note t) l s) l.length∧((jg C body note t l s).1=0→(jg C body note t l s).2=rU (fJ C body note t) l s l.length)
 | [],s=>by rw [jg];exact ⟨rfl,fun _=>rfl⟩
 | x :: r,s=>by
  obtain ⟨h1,h2⟩:=ZU C body note t r (fJ C body note t x s).2;have e0:DK (fJ C body note t) (x :: r) s 0=(fJ C body note t x s).1:=rfl;rw [jg,qH,acG,e0,Vk]
  simp only [ahg]
  unfold gF
  split
  ·next h=>exact ⟨rfl,fun h0=>absurd h0 h⟩
  exact ⟨h1,h2⟩
theorem abM (C:iT) (body note:Bool) (t:Int) (l:List aJ) (s:CS):∀ i,i≤l.length→s.n≤(rU (fJ C body note t) l s i).n∧(rU (fJ C body note t) l s i).n+(bU (l.drop i):Nat)≤s.n+(bU l:Nat)
 | 0,_=>⟨Int.le_refl _,Int.le_refl _⟩
 | i+1,hi=>by
  have hi':i < l.length:=hi;obtain ⟨h1,h2⟩:=abM C body note t l s i (by omega)
  have hs:rU (fJ C body note t) l s (i+1)=(fJ C body note t l[i] (rU (fJ C body note t) l s i)).2:=by rw [rU,fT hi']
  have hd:bU (l.drop i)=1+dQ l[i].dat+bU (l.drop (i+1)):=by
   simp only [bU];rw [nD hi',iq,fE]
  obtain ⟨h3,h4⟩:=Vv C body note t l[i] (rU (fJ C body note t) l s i);rw [hs];exact ⟨by omega,by omega⟩
end
end Go.Proofs.YtdacibabefnabaaGreat
