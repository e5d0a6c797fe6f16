/-
  What the claim stands on, part 2: Run Ehd Rg Pos Eqi En Pq Doc Dq Idx Bld Prp Plc Plr Prq.
-/
import Derived.Test.YtdacibabefnabaaGreatWka
namespace Go.Proofs.YtdacibabefnabaaGreat
open Go.Proofs.Tryz
section
open Go.RowKit
theorem hmx:prog.follows .mixedOrders=true:=by kernel_rfl
theorem gJ:dV prog 47 0 0:=⟨by kernel_rfl⟩
theorem aD:Ty prog 3 1 8 [.int .i64 0] false:=⟨by kernel_rfl,by kernel_rfl⟩
theorem tJ:dV prog 47 3 3:=⟨by kernel_rfl⟩
theorem gD:Ty prog 9 1 16 [.string ⟨#[]⟩] false:=⟨by kernel_rfl,by kernel_rfl⟩
theorem NZ:∀ args w,(callFunc 84 args).run prog w=.ok (.enter 84 args) w:=enters func84 rfl (by kernel_rfl)
theorem lu:prog.underlying 22=some (.slice 47):=by kernel_rfl
theorem eZ:Ty prog 47 11 176 [.int .i64 0,.int .i64 0,.int .i64 0,.string ⟨#[]⟩,.slice none 0 0,.int .i64 0,.int .i64 0,.slice none 0 0,.slice none 0 0,.slice none 0 0,.slice none 0 0] true:=⟨by kernel_rfl,by kernel_rfl⟩
theorem aeD:∀ args w,(callFunc 111 args).run prog w=.ok (.enter 111 args) w:=enters func111 rfl (by kernel_rfl)
theorem nW:prog.underlying 23=some (.slice 166):=by kernel_rfl
theorem oN:Ty prog 166 2 16 [.int .i64 0,.int .i64 0] true:=⟨by kernel_rfl,by kernel_rfl⟩
theorem kS:prog.underlying 24=some (.slice 169):=by kernel_rfl
theorem qE:Ty prog 169 2 16 [.int .i64 0,.int .i64 0] true:=⟨by kernel_rfl,by kernel_rfl⟩
theorem qg:prog.underlying 25=some (.slice 171):=by kernel_rfl
theorem sV:Ty prog 171 4 32 [.int .i64 0,.int .i64 0,.int .i64 0,.bool false] true:=⟨by kernel_rfl,by kernel_rfl⟩
theorem lJ:Ty prog 29 5 88 [.slice none 0 0,.int .i64 0,.int .i64 0,.slice none 0 0,.slice none 0 0] true:=⟨by kernel_rfl,by kernel_rfl⟩
theorem xP:dV prog 29 0 0:=⟨by kernel_rfl⟩
theorem qY:Ty prog 23 1 24 [.slice none 0 0] false:=⟨by kernel_rfl,by kernel_rfl⟩
theorem XO:∀ args w,(callFunc 91 args).run prog w=.ok (.enter 91 args) w:=enters func91 rfl (by kernel_rfl)
theorem oW:dV prog 29 1 1:=⟨by kernel_rfl⟩
theorem mJ:dV prog 27 2 2:=⟨by kernel_rfl⟩
theorem mP:Ty prog 24 1 24 [.slice none 0 0] false:=⟨by kernel_rfl,by kernel_rfl⟩
theorem agz:∀ args w,(callFunc 92 args).run prog w=.ok (.enter 92 args) w:=enters func92 rfl (by kernel_rfl)
theorem vG:dV prog 27 3 3:=⟨by kernel_rfl⟩
theorem vZ:Ty prog 25 1 24 [.slice none 0 0] false:=⟨by kernel_rfl,by kernel_rfl⟩
theorem agA:∀ args w,(callFunc 93 args).run prog w=.ok (.enter 93 args) w:=enters func93 rfl (by kernel_rfl)
theorem kr:prog.underlying 45=some (.slice 135):=by kernel_rfl
theorem iV:Ty prog 135 6 112 [.slice none 0 0,.int .i64 0,.int .i64 0,.slice none 0 0,.slice none 0 0,.slice none 0 0] true:=⟨by kernel_rfl,by kernel_rfl⟩
theorem mh:prog.underlying 133=some (.slice 132):=by kernel_rfl
theorem iQ:Ty prog 132 7 120 [.int .i64 0,.slice none 0 0,.int .i64 0,.int .i64 0,.slice none 0 0,.slice none 0 0,.slice none 0 0] true:=⟨by kernel_rfl,by kernel_rfl⟩
theorem Cw:dV prog 132 0 0:=⟨by kernel_rfl⟩
theorem Jm:dV prog 132 1 1:=⟨by kernel_rfl⟩
theorem NU:∀ args w,(callFunc 32 args).run prog w=.ok (.enter 32 args) w:=enters func32 rfl (by kernel_rfl)
theorem Cx:dV prog 132 2 6:=⟨by kernel_rfl⟩
theorem jy:Ty prog 22 1 24 [.slice none 0 0] false:=⟨by kernel_rfl,by kernel_rfl⟩
theorem Rt:∀ args w,(callFunc 31 args).run prog w=.ok (.enter 31 args) w:=enters func31 rfl (by kernel_rfl)
theorem Vi:uj prog 132 [(0,1),(1,5),(6,1)] [.int .i64 0,.slice none 0 0,.int .i64 0,.int .i64 0,.slice none 0 0,.slice none 0 0,.slice none 0 0]:=⟨by kernel_rfl,by kernel_rfl⟩
theorem EW:dV prog 135 0 0:=⟨by kernel_rfl⟩
theorem uJ:dV prog 135 1 5:=⟨by kernel_rfl⟩
theorem uW:Ty prog 133 1 24 [.slice none 0 0] false:=⟨by kernel_rfl,by kernel_rfl⟩
theorem aeZ:∀ args w,(callFunc 146 args).run prog w=.ok (.enter 146 args) w:=enters func146 rfl (by kernel_rfl)
theorem abg:uj prog 135 [(0,5),(5,1)] [.slice none 0 0,.int .i64 0,.int .i64 0,.slice none 0 0,.slice none 0 0,.slice none 0 0]:=⟨by kernel_rfl,by kernel_rfl⟩
theorem DL:dV prog 47 4 4:=⟨by kernel_rfl⟩
theorem Al:dV prog 47 5 9:=⟨by kernel_rfl⟩
theorem zk:dV prog 47 6 10:=⟨by kernel_rfl⟩
theorem zV:Ty prog 45 1 24 [.slice none 0 0] false:=⟨by kernel_rfl,by kernel_rfl⟩
theorem agw:∀ args w,(callFunc 89 args).run prog w=.ok (.enter 89 args) w:=enters func89 rfl (by kernel_rfl)
theorem XM:∀ args w,(callFunc 87 args).run prog w=.ok (.enter 87 args) w:=enters func87 rfl (by kernel_rfl)
theorem afa:∀ args w,(callFunc 147 args).run prog w=.ok (.enter 147 args) w:=enters func147 rfl (by kernel_rfl)
theorem agy:∀ args w,(callFunc 90 args).run prog w=.ok (.enter 90 args) w:=enters func90 rfl (by kernel_rfl)
theorem agv:∀ args w,(callFunc 88 args).run prog w=.ok (.enter 88 args) w:=enters func88 rfl (by kernel_rfl)
def gU (x:aJ):Nat:=if x.kind=1 then xL x.text else 1
def Dn (x:aJ):Int:=if x.kind=1 then M8 x.text else 0
theorem anM (G:GH) (w0:World) (hG:Hold G w0) (x:aJ) (i2 i3:Int) (p i5 i6 d l f r:ak) (hs:x.text.size < 4611686018427387904) :
  Calls prog 111 #[.agg #[vi x.kind,vi i2,vi i3,.string x.text,p,i5,i6,d,l,f,r]] w0 (bJ w0 G fun v G'=>v=.tuple #[vi (gU x),vi (Dn x)]∧G=G'):=by
 refine eN [(0,_)] func111 rfl ntmps111 rfl rfl hG ?_;intro a H;refine dw (fun _ K1=>?_);refine eD (cs:=[_,_,_,_,_,_,_,_,_,_,_]) H wn rfl rfl rfl ?_;clear H;intro b1 a w hb1 H;refine kH H (Ra rfl (aj K1 rfl (SQ fun _ K2=>SR fun _ K3=>bg gJ aD 0 rfl rfl (Rc rfl (Kz K3 (Cd rfl ?_ ?_)))))) <;> clear H K1 K3
 ·intro h6 a H
  try have p6:=dT h6
  refine kP H (SR fun _ K4=>Ra rfl (aj K4 rfl ?_));clear H K4;intro a H;refine dR ?_;refine (iB H results111 (.cons (bM H rfl) (.cons (bM H rfl) .nil)) ?_).1;exact H.rt ⟨by simp only [gU,Dn,ah p6];rfl,rfl⟩
 intro h6 a H
 try have p6:=dF h6
 refine kP H (Kc K2 (SR fun _ K5=>bg tJ gD 0 rfl rfl ?_));clear H K2;intro a H;refine s_call NZ H wn rfl (NC _ _ H.ro _ hs) rfl ?_;clear H;rintro v9 _ a w ⟨rfl,rfl⟩ - H;(iterate 2 refine uT H wn rfl rfl rfl ?_;clear H;intro a H);refine kH H (Ra rfl (aj K5 rfl ?_));clear H K5;intro a H;refine dR ?_;refine (iB H results111 (.cons (bM H rfl) (.cons (bM H rfl) .nil)) ?_).1;exact H.rt ⟨by rw [gH] at p6;simp only [gU,Dn,av p6],rfl⟩
def Bd (l:List aJ):Bool:=l.all fun x=>decide (Dn x=0)
def xq:List aJ→Nat
 | []=>0
 | x :: l=>gU x+xq l
def CZ (l:List aJ):Int:=if Bd l then xq l else 0
def Uu (l:List aJ):Int:=if Bd l then 0 else 12
def vX:List aJ→Nat
 | []=>0
 | x :: l=>x.text.size+1+vX l
theorem abr:∀ l:List aJ,xq l≤vX l
 | []=>dJ _
 | x :: l=>by
  have:=abr l;have h2:=Jf x.text
  simp only [xq,vX,gU];split <;> omega
theorem abw {x:aJ}:∀ {l:List aJ},x∈l→x.text.size < vX l
 | [],h=>by cases h
 | y :: l,h=>by
  simp only [vX]
  rcases uo.1 h with rfl|h
  ·omega
  have:=abw h;omega
theorem anw (l m:List aJ):xq (l++m)=xq l+xq m:=by
 induction l with
 | nil=>simp [xq]
 | cons x l ih=>simp [xq,ih];omega
theorem anx {l:List aJ} {k:Nat} (h:k < l.length):xq (l.take (k+1))=xq (l.take k)+gU l[k]:=by
 rw [iG h,anw];simp [xq]
theorem anC (l m:List aJ):vX (l++m)=vX l+vX m:=by
 induction l with
 | nil=>simp [vX]
 | cons x l ih=>simp [vX,ih];omega
theorem anD (l:List aJ) (k:Nat):vX (l.take k)≤vX l:=by
 have:=anC (l.take k) (l.drop k);rw [List.take_append_drop] at this;omega
theorem GX {G:GH} {l:List aJ} {A:Option Addr} {k:Nat} (hk:k < l.length) (hg:∀ k r,(l.map aJ.dat)[k]?=some r→∃ b o cs,A=some ⟨b,o,none⟩∧cs.length=11∧(∀ j u,cs[j]?=some u→aF G b (o+k*11+j)=some u)∧bH G r cs) :
  ∃ b o pA pn pc dA dn dc yA yn yc fA fn fc rA rn rc,A=some ⟨b,o,none⟩∧(∀ j u,[vi l[k].kind,vi l[k].code,vi l[k].id,.string l[k].text,.slice pA pn pc,vi l[k].head.marks.ins,vi l[k].head.marks.move,.slice dA dn dc,.slice yA yn yc,.slice fA fn fc,.slice rA rn rc][j]?=some u→aF G b (o+k*11+j)=some u) ∧
   ku G l[k].head (.slice pA pn pc) (.slice dA dn dc) (.slice yA yn yc)∧au G (.sl 11 (l[k].flow.map aJ.dat)) (.slice fA fn fc)∧au G (.sl 6 (l[k].rows.map bS.dat)) (.slice rA rn rc):=by
 obtain ⟨b,o,cs,h1,h2,h3,h4⟩:=hg k l[k].dat (by simp [hk]);obtain ⟨pA,pn,pc,dA,dn,dc,yA,yn,yc,fA,fn,fc,rA,rn,rc,rfl,h5,h6,h7⟩:=h4.item;exact ⟨b,o,pA,pn,pc,dA,dn,dc,yA,yn,yc,fA,fn,fc,rA,rn,rc,h1,h3,h5,h6,h7⟩
theorem aeh {l:List aJ} {k:Nat} (h:k < l.length):Bd (l.take (k+1))=(Bd (l.take k) && decide (Dn l[k]=0)):=by
 unfold Bd
 rw [iG h,List.all_append];simp
theorem aeg {l:List aJ} {k:Nat} (h:k < l.length) (hn:¬ Dn l[k]=0):Bd l=false:=by
 unfold Bd
 rw [List.all_eq_false];exact ⟨l[k],jW h,by simpa using hn⟩
theorem ZX:∀ l:List aJ,l.length≤vX l
 | []=>dJ _
 | x :: l=>by have:=ZX l;simp only [qH,vX];omega
theorem abv:∀ l:List aJ,vX l≤bU l
 | []=>dJ _
 | x :: l=>by
  have:=abv l;have h2:=uX x
  simp only [vX,bU,iq,fE] at *;omega
theorem akK (G:GH) (w0:World) (hG:Hold G w0) (l:List aJ) (v:ak) (hv:au G (.sl 11 (l.map aJ.dat)) v) (hz:bU l≤4294967296) :
  Calls prog 52 #[v] w0 (bJ w0 G fun v G'=>v=.tuple #[vi (CZ l),vi (Uu l)]∧G=G'):=by
 obtain ⟨A,c,rfl,hc1,hc2,hg⟩:=hv.slice;rw [bV] at *;have hll:=ZX l;have htz:=abv l;refine eN [(0,_)] func52 rfl ntmps52 rfl rfl hG ?_;intro a H;refine kP H (SR fun _ K1=>Ra rfl (aj K1 rfl (SR fun _ K2=>aj K2 rfl (SQ fun _ K3=>SR fun _ K4=>Rm rfl (Rl lu rfl (Rm rfl (Kz K4 (SB ?_))))))));clear H K1 K2 K4;intro a H;skip;refine eH (ι:=Nat) (Tc:=[(9,_),(10,_)]) (Lc:=[]) (fun gh=>[(4,vi (xq (l.take gh))),(11,vi gh)]) (fun gh=>[]) (fun gh=>G) (fun gh=>gh≤l.length∧Bd (l.take gh)=true) (fun gh=>l.length - gh) (0) (by exact (H).sub ⟨rfl,rfl,rfl,rfl,aC⟩) ?_ ?_
 ·exact ⟨by omega,by simp [Bd]⟩
 clear H;intro gh a w hI H;obtain ⟨k,hgh⟩:∃ x,x=gh:=⟨_,rfl⟩;subst hgh;obtain ⟨hk,hd⟩:=hI;dsimp only [lca,aV] at H;refine kP H (SR fun _ K5=>Rc rfl (Kz K5 (SQ fun _ K6=>Cd rfl ?_ ?_))) <;> clear H K5
 ·intro h12 a H
  try have pF:=dT h12
  have hk2:k < l.length:=by omega
  obtain ⟨b,o,pA,pn,pc,dA,dn,dc,yA,yn,yc,fA,fn,fc,rA,rn,rc,rfl,hrow,-⟩:=GX hk2 hg;have hsm:=anx hk2;have hle:=abr (l.take (k+1));have hle2:=anD l (k+1);refine kP H (Kc K6 (SQ fun _ K7=>SB (SR fun _ K8=>Ri lu eZ rfl rfl ?_)));clear H K6;intro a H;refine aW eZ (cs:=[_,_,_,_,_,_,_,_,_,_,_]) H wn rfl rfl (fun j v hj=>H.hp.aF (hrow j v hj)) rfl ?_;clear H;intro a H;refine dU eZ H wn rfl ?_;clear H;intro b6 a w hb6 H;refine bN eZ 0 (vs:=[_,_,_,_,_,_,_,_,_,_,_]) _ H wn rfl rfl rfl rfl rfl rfl rfl rfl ?_;clear H;intro w H;dsimp only [List.set,setRow] at H;refine K8 _ _ ?_;clear K8;refine dw (fun _ K9=>?_);refine aW eZ (cs:=[_,_,_,_,_,_,_,_,_,_,_]) H wn rfl rfl (H.hp.dX 0 rfl rfl) rfl ?_;clear H;intro a H;refine s_call aeD H wn rfl (anM _ _ H.ro _ _ _ _ _ _ _ _ _ _ (by have:=abw (jW hk2);omega)) rfl ?_;clear H;rintro v17 _ a w ⟨rfl,rfl⟩ - H;refine kH H (Rm rfl ?_);clear H;intro a H;(iterate 2 refine uT H wn rfl rfl rfl ?_;clear H;intro a H);refine kH H (Ra rfl (aj K9 rfl (SQ fun _ aT=>SR fun _ bB=>Rm rfl (Rc rfl (Kz bB (Cd rfl ?_ ?_)))))) <;> clear H K9 bB
  ·intro h21 a H
   try have oM:=dT h21
   refine kP H (SR fun _ bC=>Ra rfl (aj bC rfl ?_));clear H bC;intro a H;refine dR ?_;refine (iB H results52 (.cons (bM H rfl) (.cons (bM H rfl) .nil)) ?_).1;exact H.rt ⟨by simp [CZ,Uu,aeg hk2 oM],rfl⟩
  intro h21 a H
  try have oM:=dF h21
  refine kP H (Kc aT (SC (Rm rfl (Rm rfl (Rd rfl ?_)))));clear H aT;intro a H;rw [← Int.natCast_add,← hsm] at H;refine kH H (aO K7 rfl (SC (Rd rfl (Rm rfl ?_))));clear H K7;intro a H;refine aH ?_;refine dK ((k+1)) (by exact (H.dS (Pl:=[_]) (dL:=[]) [] (by decide) rfl).sub ⟨rfl,rfl,rfl,rfl,aC⟩) ?_ ?_
  ·exact ⟨by omega,by rw [aeh hk2,hd];simpa using oM⟩
  first|omega|(dsimp only;omega)
 intro h12 a H
 try have pF:=dF h12
 refine dW ?_;refine K3 _ _ ?_;clear K3;refine kP H (SR fun _ bK=>Rm rfl (Ra rfl (aj bK rfl ?_)));clear H bK;intro a H;refine dR ?_;refine (iB H results52 (.cons (bM H rfl) (.cons (bM H rfl) .nil)) ?_).1;exact H.rt ⟨by rw [show l.take k=l from iH (by omega)] at hd ⊢;simp [CZ,Uu,hd],rfl⟩
theorem Xc (G:GH) (w0:World) (hG:Hold G w0) (rows:List (List Dat)) (A:Option Addr) (n c:Nat) (hv:au G (.sl 2 rows) (.slice A n c)) (hz:rows.length≤4294967296) :
  Calls prog 91 #[.slice A n c] w0 (bJ w0 G fun v G'=>au G' (.sl 2 rows) v):=by
 obtain ⟨hn,hc1,hc2,hnil,hx⟩:=hv.cells;refine eN [(0,_)] func91 rfl ntmps91 rfl rfl hG ?_;intro a H;refine kP H (SR fun _ K1=>aj K1 rfl (SQ fun _ K2=>SR fun _ K3=>Rm rfl ?_));clear H K1;intro a H;refine En nW H wn rfl rfl ?_;clear H;intro a H;refine K3 _ _ ?_;clear K3;refine jX H rfl ?_ ?_
 ·intro h4
  exact kP H (SR fun _ K4=>aj K4 rfl (LR results91 rfl fun H=>H.rt (by rw [hnil (by simpa using h4)];exact au.kg rfl (by simp [maxLen]))))
 intro h4
 try have p4:=dF h4
 refine fu ?_;refine K2 _ _ ?_;clear K2;refine aS (fun _ K5=>?_)
 have hA:¬ A=none:=by intro e;rw [e] at h4;cases h4
 refine nG ?_;refine Em nW oN H wn rfl ?_;clear H;intro b5 a w hb5 H;refine kH H (Rm rfl ?_);clear H;intro a H
 by_cases hr0:rows=[]
 ·have hn0:n=0:=by rw [hn,hr0];rfl
  subst hn0;refine Dh nW oN H wn rfl rfl (dJ _) rfl ?_;clear H;intro a H;exact kH H (aO K5 rfl (LR results91 rfl fun H=>H.rt (by rw [hr0];exact au.kg rfl (by simp [maxLen]))))
 obtain ⟨b,o,xs,rfl,hxl,hxc,hx1,iK⟩:=hx hr0;refine tX (Li:=[]) (Lo:=[_]) (news:=xs) nW oN rfl rfl H wn rfl rfl dO.empty hxl (fun j u hj=>H.hp.aF (hxc j u hj)) hx1 (by omega) (by omega) rfl ?_;clear H;intro v7 Lo a w hrow H;obtain ⟨G',hm,hrep,H⟩:=H.E5 hrow (rows:=rows) (by omega) (by simpa using iK)
 try clear hG
 obtain ⟨G2,hG2⟩:∃ g,g=G':=⟨_,rfl⟩;subst hG2;exact kH H (aO K5 rfl (LR results91 rfl fun H=>H.rt hrep))
theorem adD (G:GH) (w0:World) (hG:Hold G w0) (rows:List (List Dat)) (A:Option Addr) (n c:Nat) (hv:au G (.sl 2 rows) (.slice A n c)) (hz:rows.length≤4294967296) :
  Calls prog 92 #[.slice A n c] w0 (bJ w0 G fun v G'=>au G' (.sl 2 rows) v):=by
 obtain ⟨hn,hc1,hc2,hnil,hx⟩:=hv.cells;refine eN [(0,_)] func92 rfl ntmps92 rfl rfl hG ?_;intro a H;refine kP H (SR fun _ K1=>aj K1 rfl (SQ fun _ K2=>SR fun _ K3=>Rm rfl ?_));clear H K1;intro a H;refine En kS H wn rfl rfl ?_;clear H;intro a H;refine K3 _ _ ?_;clear K3;refine jX H rfl ?_ ?_
 ·intro h4
  exact kP H (SR fun _ K4=>aj K4 rfl (LR results92 rfl fun H=>H.rt (by rw [hnil (by simpa using h4)];exact au.kg rfl (by simp [maxLen]))))
 intro h4
 try have p4:=dF h4
 refine fu ?_;refine K2 _ _ ?_;clear K2;refine aS (fun _ K5=>?_)
 have hA:¬ A=none:=by intro e;rw [e] at h4;cases h4
 refine nG ?_;refine Em kS qE H wn rfl ?_;clear H;intro b5 a w hb5 H;refine kH H (Rm rfl ?_);clear H;intro a H
 by_cases hr0:rows=[]
 ·have hn0:n=0:=by rw [hn,hr0];rfl
  subst hn0;refine Dh kS qE H wn rfl rfl (dJ _) rfl ?_;clear H;intro a H;exact kH H (aO K5 rfl (LR results92 rfl fun H=>H.rt (by rw [hr0];exact au.kg rfl (by simp [maxLen]))))
 obtain ⟨b,o,xs,rfl,hxl,hxc,hx1,iK⟩:=hx hr0;refine tX (Li:=[]) (Lo:=[_]) (news:=xs) kS qE rfl rfl H wn rfl rfl dO.empty hxl (fun j u hj=>H.hp.aF (hxc j u hj)) hx1 (by omega) (by omega) rfl ?_;clear H;intro v7 Lo a w hrow H;obtain ⟨G',hm,hrep,H⟩:=H.E5 hrow (rows:=rows) (by omega) (by simpa using iK)
 try clear hG
 obtain ⟨G2,hG2⟩:∃ g,g=G':=⟨_,rfl⟩;subst hG2;exact kH H (aO K5 rfl (LR results92 rfl fun H=>H.rt hrep))
theorem adJ (G:GH) (w0:World) (hG:Hold G w0) (rows:List (List Dat)) (A:Option Addr) (n c:Nat) (hv:au G (.sl 4 rows) (.slice A n c)) (hz:rows.length≤4294967296) :
  Calls prog 93 #[.slice A n c] w0 (bJ w0 G fun v G'=>au G' (.sl 4 rows) v):=by
 obtain ⟨hn,hc1,hc2,hnil,hx⟩:=hv.cells;refine eN [(0,_)] func93 rfl ntmps93 rfl rfl hG ?_;intro a H;refine kP H (SR fun _ K1=>aj K1 rfl (SQ fun _ K2=>SR fun _ K3=>Rm rfl ?_));clear H K1;intro a H;refine En qg H wn rfl rfl ?_;clear H;intro a H;refine K3 _ _ ?_;clear K3;refine jX H rfl ?_ ?_
 ·intro h4
  exact kP H (SR fun _ K4=>aj K4 rfl (LR results93 rfl fun H=>H.rt (by rw [hnil (by simpa using h4)];exact au.kg rfl (by simp [maxLen]))))
 intro h4
 try have p4:=dF h4
 refine fu ?_;refine K2 _ _ ?_;clear K2;refine aS (fun _ K5=>?_)
 have hA:¬ A=none:=by intro e;rw [e] at h4;cases h4
 refine nG ?_;refine Em qg sV H wn rfl ?_;clear H;intro b5 a w hb5 H;refine kH H (Rm rfl ?_);clear H;intro a H
 by_cases hr0:rows=[]
 ·have hn0:n=0:=by rw [hn,hr0];rfl
  subst hn0;refine Dh qg sV H wn rfl rfl (dJ _) rfl ?_;clear H;intro a H;exact kH H (aO K5 rfl (LR results93 rfl fun H=>H.rt (by rw [hr0];exact au.kg rfl (by simp [maxLen]))))
 obtain ⟨b,o,xs,rfl,hxl,hxc,hx1,iK⟩:=hx hr0;refine tX (Li:=[]) (Lo:=[_]) (news:=xs) qg sV rfl rfl H wn rfl rfl dO.empty hxl (fun j u hj=>H.hp.aF (hxc j u hj)) hx1 (by omega) (by omega) rfl ?_;clear H;intro v7 Lo a w hrow H;obtain ⟨G',hm,hrep,H⟩:=H.E5 hrow (rows:=rows) (by omega) (by simpa using iK)
 try clear hG
 obtain ⟨G2,hG2⟩:∃ g,g=G':=⟨_,rfl⟩;subst hG2;exact kH H (aO K5 rfl (LR results93 rfl fun H=>H.rt hrep))
theorem Nz (G:GH) (w0:World) (hG:Hold G w0) (h:jm) (pA dA yA:Option Addr) (pn pc dn dc yn yc:Nat) (hv:ku G h (.slice pA pn pc) (.slice dA dn dc) (.slice yA yn yc)) (hz:pJ h≤4294967296) :
  Calls prog 32 #[.agg #[.slice pA pn pc,vi h.marks.ins,vi h.marks.move,.slice dA dn dc,.slice yA yn yc]] w0 (bJ w0 G fun v G'=>∃ p d l,v=.agg #[p,vi h.marks.ins,vi h.marks.move,d,l]∧ku G' h p d l):=by
 have he:=Cc h;have h1:=mO (h.props.map gV.dat);have h2:=mO (h.marks.bR.map jV.dat);have h3:=mO (h.marks.layers.map jK.dat);refine eN [(0,_)] func32 rfl ntmps32 rfl rfl hG ?_;intro a H;refine dw (fun _ K1=>?_);refine eD (cs:=[_,_,_,_,_]) H wn rfl rfl rfl ?_;clear H;intro b1 a w hb1 H;refine dU lJ H wn rfl ?_;clear H;intro b2 a w hb2 H;refine K1 _ _ ?_;clear K1;refine kP H (SR fun _ K2=>bg xP qY 1 rfl rfl ?_);clear H;intro a H;refine s_call XO H wn rfl (Xc _ _ H.ro _ _ _ _ hv.props (by omega)) rfl ?_;clear H;rintro v5 G5 a w wW OC H;obtain ⟨A5,n5,c5,rfl⟩:=wW.form;refine kH H (Rf xP rfl ?_);clear H;intro a H;refine bN qY 1 (vs:=[_]) _ H wn rfl rfl rfl rfl rfl rfl rfl rfl ?_;clear H;intro w H;dsimp only [List.set,setRow] at H;refine K2 _ _ ?_;clear K2;refine aS (fun _ K3=>?_);obtain ⟨hvp,hvd,hvy⟩:=hv.mono OC;clear hv
 have qU:∀ (cu:Nat) (v:ak) (G G':GH),(∀ k o,G k=some o→G' k=some o)→(fun (cu:Nat) (v:ak) (G:GH)=>match cu with|0=>v=(aM b1 1)|1=>v=(aM b1 3)|2=>v=.slice dA dn dc|3=>au G (.sl 2 (h.marks.bR.map jV.dat)) v|4=>v=(aM b1 1)|5=>v=(aM b1 4)|6=>v=.slice yA yn yc|7=>au G (.sl 4 (h.marks.layers.map jK.dat)) v|8=>v=(aM b1 1)|9=>v=(aM b1 3)|_=>True) cu v G→(fun (cu:Nat) (v:ak) (G:GH)=>match cu with|0=>v=(aM b1 1)|1=>v=(aM b1 3)|2=>v=.slice dA dn dc|3=>au G (.sl 2 (h.marks.bR.map jV.dat)) v|4=>v=(aM b1 1)|5=>v=(aM b1 4)|6=>v=.slice yA yn yc|7=>au G (.sl 4 (h.marks.layers.map jK.dat)) v|8=>v=(aM b1 1)|9=>v=(aM b1 3)|_=>True) cu v G':=by
  intro cu v G G' hm h
  match cu,h with
  | 0,h=>exact h
  | 1,h=>exact h
  | 2,h=>exact h
  | 3,h=>exact au.mono hm h
  | 4,h=>exact h
  | 5,h=>exact h
  | 6,h=>exact h
  | 7,h=>exact au.mono hm h
  | 8,h=>exact h
  | 9,h=>exact h
  | 10,h=>exact trivial
  | 11,h=>exact trivial
  | 12,h=>exact trivial
  | 13,h=>exact trivial
  | _+14,h=>exact trivial
 refine ER (hmx) [[],[0],[0,1],[0,1,2],[],[4],[4,5],(ra 0 7),(ra 0 7),(ra 0 7++[8]),(ra 0 10),(ra 0 11),(ra 0 12),(ra 0 13)] (ra 10 4) (by kernel_rfl) (by kernel_rfl) (fun (cu:Nat) (v:ak) (G:GH)=>match cu with|0=>v=(aM b1 1)|1=>v=(aM b1 3)|2=>v=.slice dA dn dc|3=>au G (.sl 2 (h.marks.bR.map jV.dat)) v|4=>v=(aM b1 1)|5=>v=(aM b1 4)|6=>v=.slice yA yn yc|7=>au G (.sl 4 (h.marks.layers.map jK.dat)) v|8=>v=(aM b1 1)|9=>v=(aM b1 3)|_=>True) qU H ?_ ?_
 ·clear H;refine aG ?_ ?_ ?_ ?_ (aG ?_ ?_ ?_ ?_ (aG ?_ ?_ (bY rfl) (bY rfl) (bq (bY rfl) (bq (bY rfl) dD))))
  ·refine fO [] rfl trivial (by kernel_rfl) qU rfl rfl ?_;intro dz a w G1 hG HT H fin;exact kH H (Rf oW rfl fun _ H=>fin H iJ rfl)
  ·refine fO [(0,7,_)] rfl ⟨fun _ _ h=>h,aC⟩ (by kernel_rfl) qU rfl rfl ?_;intro dz a w G1 hG HT H fin;exact kH H (Rf mJ rfl fun _ H=>fin H iJ rfl)
  ·refine fO [(1,8,_)] rfl ⟨fun _ _ h=>h,aC⟩ (by kernel_rfl) qU rfl rfl ?_;intro dz a w G1 hG HT H fin;exact kH H (Ro mP 1 rfl fun _ H=>fin H iJ rfl)
  ·refine fO [(2,9,_)] rfl ⟨fun _ _ h=>h,aC⟩ (by kernel_rfl) qU rfl rfl ?_;intro dz a w G1 hG HT H fin;refine s_call agz H wn rfl (adD _ _ H.ro _ _ _ _ (hvd.mono hG) (by omega)) rfl ?_;clear H;rintro v10 Kk a w BG pW H;exact fin H pW (BG)
  ·refine fO [] rfl trivial (by kernel_rfl) qU rfl rfl ?_;intro dz a w G1 hG HT H fin;exact kH H (Rf oW rfl fun _ H=>fin H iJ rfl)
  ·refine fO [(4,11,_)] rfl ⟨fun _ _ h=>h,aC⟩ (by kernel_rfl) qU rfl rfl ?_;intro dz a w G1 hG HT H fin;exact kH H (Rf vG rfl fun _ H=>fin H iJ rfl)
  ·refine fO [(5,12,_)] rfl ⟨fun _ _ h=>h,aC⟩ (by kernel_rfl) qU rfl rfl ?_;intro dz a w G1 hG HT H fin;exact kH H (Ro vZ 1 rfl fun _ H=>fin H iJ rfl)
  ·refine fO [(6,13,_)] rfl ⟨fun _ _ h=>h,aC⟩ (by kernel_rfl) qU rfl rfl ?_;intro dz a w G1 hG HT H fin;refine s_call agA H wn rfl (adJ _ _ H.ro _ _ _ _ (hvy.mono hG) (by omega)) rfl ?_;clear H;rintro v14 IU a w vT DY H;exact fin H DY (vT)
  ·refine fO [] rfl trivial (by kernel_rfl) qU rfl rfl ?_;intro dz a w G1 hG HT H fin;exact kH H (Rf oW rfl fun _ H=>fin H iJ rfl)
  refine fO [(8,15,_)] rfl ⟨fun _ _ h=>h,aC⟩ (by kernel_rfl) qU rfl rfl ?_;intro dz a w G1 hG HT H fin;exact kH H (Rf mJ rfl fun _ H=>fin H iJ rfl)
 clear H;intro a w G DZ H hv;obtain ⟨u10,Ua,BG⟩:=hv 3 10 (by decide) rfl;(try dsimp only at BG);obtain ⟨A10,n10,c10,rfl⟩:=BG.form;have H:=H.nA Ua;obtain ⟨u14,Mk,vT⟩:=hv 7 14 (by decide) rfl;(try dsimp only at vT);obtain ⟨VG,n14,c14,rfl⟩:=vT.form;have H:=H.nA Mk;have H:=H.aZ (hv 9 16 rfl rfl) rfl;clear hv;refine bN mP 1 (vs:=[_]) _ H wn rfl rfl rfl rfl rfl rfl rfl rfl ?_;clear H;intro w H;dsimp only [List.set,setRow] at H;refine kH H (Rf oW rfl (Rf vG rfl ?_));clear H;intro a H;refine bN vZ 1 (vs:=[_]) _ H wn rfl rfl rfl rfl rfl rfl rfl rfl ?_;clear H;intro w H;dsimp only [List.set,setRow] at H;refine aH ⟨rfl,?_⟩;refine K3 _ _ ?_;clear K3;refine dw (fun _ K4=>?_);refine aW lJ (cs:=[_,_,_,_,_]) H wn rfl rfl (H.hp.dX 1 rfl rfl) rfl ?_;clear H;intro a H;refine bN lJ 0 (vs:=[_,_,_,_,_]) _ H wn rfl rfl rfl rfl rfl rfl rfl rfl ?_;clear H;intro w H;dsimp only [List.set,setRow] at H;refine K4 _ _ ?_;clear K4;refine dR ?_;refine (leave1 H results32 (.cons (BS lJ (cs:=[_,_,_,_,_]) H rfl rfl (H.hp.dX 0 rfl rfl)) .nil) ?_).1;exact H.rt ⟨_,_,_,rfl,wW.mono DZ,BG,vT⟩
theorem Az {G:GH} {w:World} (h:Hold G w):ig G [] w:=⟨h,fun _ h=>(by cases h),fun _ h=>(by cases h),List.Pairwise.nil⟩
theorem Jc {P:Program} {f:FuncId} {args:Array ak} {w0:World} {G:GH} {e sz n:Nat} {rows:List (List Dat)} (hG:Hold G w0) (h:Calls P f args w0 (gy w0 G [] fun u G' L'=>∃ xs,dO e sz u n xs L'∧dG G' sz rows xs)) (hl:rows.length=n) :
  Calls P f args w0 (bJ w0 G fun u G'=>au G' (.sl sz rows) u):=by
 intro cs;obtain ⟨e1,w',fr,⟨v,G',L',rfl,hch,xs,hrow,iK⟩,h2,h3,h4⟩:=h cs;have hp0:Hp w0 (fun k=>k < w0.heap.size) G G ([]++[]) w0:=⟨rfl,rfl,rfl,dJ _,fun _ h=>h,fun _ _=>rfl,hG,fun _ _ h=>h,fun _ _ h=>.inl h,fun _ h=>(by cases h),fun _ h=>(by cases h),fun _ h=>(by cases h),List.Pairwise.nil⟩;have hp1:=hp0.change hch;rw [oH] at hp1;refine ⟨_,w',fr,?_,h2,h3,h4⟩
 rcases hrow.2 with ⟨rfl,h5,rfl⟩|⟨b,cap,cur,rfl,rfl,h5,h6,h7,h8⟩
 ·refine hp1.ret ?_;have:rows=[]:=List.eq_nil_of_length_eq_zero (by omega);subst this
  simp only [au]
  exact ⟨none,0,by simp,by simp,by simp [maxLen],fun h=>absurd rfl h⟩
 have hn:=hp1.tY (b,.cells cur e (0,0)) (by simp);exact (hp1.giveUp 0 rfl).ret (au.fF (GH.I6 G' b _) hl h5 h6 h8 (iK.mono fun k o h=>GH.GD G' hn k o h))
def FX (fv:ak) (w0:World) (G:GH) (d d':List Dat):Prop:=∀ (G1:GH) (w1:World) (cs:List ak),(∀ b o,G b=some o→G1 b=some o)→Hold G1 w1→bH G1 d cs →
 xB prog fv [.agg cs.toArray] w1 (bJ w1 G1 fun u G'=>∃ cs',u=.agg cs'.toArray∧bH G' d' cs')
abbrev IQ (fv:ak) (w0:World) (G:GH) (d:List Dat):Prop:=FX fv w0 G d d
theorem Xp (φ:aJ→aJ) (G:GH) (w0:World) (hO:ig G [] w0) (l:List aJ) (v fv:ak) (hv:au G (.sl 11 (l.map aJ.dat)) v) (hz:l.length≤4294967296) (hf:∀ x∈l,FX fv w0 G x.dat (φ x).dat) :
  Calls prog 87 #[v,fv] w0 (gy w0 G [] fun u G' L'=>∃ xs,dO 47 11 u l.length xs L'∧dG G' 11 (l.map fun x=>(φ x).dat) xs):=by
 obtain ⟨A,c,rfl,hc1,hc2,hg⟩:=hv.slice
 have hml:4294967297≤maxLen:=by decide
 rw [bV] at *;refine jB (N:=22) (T:=[(0,_),(1,_)]) func87 rfl ntmps87 rfl rfl hO ?_;intro a H;refine kP H (SR fun _ K1=>aj K1 rfl (SR fun _ K2=>aj K2 rfl (SQ fun _ K3=>SR fun _ K4=>Rm rfl (Rl lu rfl (Rm rfl (Kz K4 (SB ?_)))))));clear H K1 K2 K4;intro a H;skip;refine eH (ι:=Nat × ak × List ak × OL × GH) (Tc:=[(1,_),(8,_),(9,_)]) (Lc:=[]) (fun gh=>[(5,gh.2.1),(10,vi gh.1)]) (fun gh=>[]++gh.2.2.2.1) (fun gh=>gh.2.2.2.2) (fun gh=>gh.1≤l.length∧dO 47 11 gh.2.1 gh.1 gh.2.2.1 gh.2.2.2.1∧dG gh.2.2.2.2 11 ((l.map fun x=>(φ x).dat).take gh.1) gh.2.2.1∧(∀ b o,G b=some o→gh.2.2.2.2 b=some o)) (fun gh=>l.length - gh.1) ((0,.slice none 0 0,[],[],G)) (by exact (H).sub ⟨rfl,rfl,rfl,rfl,rfl,aC⟩) ?_ ?_
 ·exact ⟨by omega,dO.nil,by simpa using dG.nil,fun _ _ h=>h⟩
 clear H;intro gh a w hI H;obtain ⟨k,v,xs,Lo,g⟩:=gh;dsimp only at hI H;obtain ⟨hk,hrw,iK,hgm⟩:=hI;dsimp only [lca,aV] at H;refine kP H (SR fun _ K5=>Rc rfl (Kz K5 (SQ fun _ K6=>Cd rfl ?_ ?_))) <;> clear H K5
 ·intro h11 a H
  try have rQ:=dT h11
  have hk2:k < l.length:=by omega
  obtain ⟨b,o,cs,rfl,hcl,hrow,hrep⟩:=hg k l[k].dat (by simp [hk2]);obtain ⟨pA,pn,pc,dA,dn,dc,yA,yn,yc,fA,fn,fc,rA,rn,rc,rfl,-⟩:=hrep.item;replace hrow:=fun j u hj=>ay hgm (hrow j u hj);refine kP H (Kc K6 (SQ fun _ K7=>SB (SR fun _ K8=>Ri lu eZ rfl rfl ?_)));clear H K6;intro a H;refine aW eZ (cs:=[_,_,_,_,_,_,_,_,_,_,_]) H wn rfl rfl (fun j v hj=>H.hp.aF (hrow j v hj)) rfl ?_;clear H;intro a H;refine dU eZ H wn rfl ?_;clear H;intro b7 a w vM H;refine bN eZ 0 (vs:=[_,_,_,_,_,_,_,_,_,_,_]) _ H wn rfl rfl rfl rfl rfl rfl rfl rfl ?_;clear H;intro w H;dsimp only [List.set,setRow] at H;refine K8 _ _ ?_;clear K8;refine kP H (SC (Rm rfl (Rm rfl ?_)));clear H;intro a H;refine aW eZ (cs:=[_,_,_,_,_,_,_,_,_,_,_]) H wn rfl rfl (H.hp.dX 0 rfl rfl) rfl ?_;clear H;intro a H;refine pI H wn rfl rfl (hf _ (jW hk2) _ _ _ hgm H.ro (hrep.mono hgm)) rfl ?_;clear H;rintro v17 Cg a w ⟨Bc,rfl,bX⟩ ou H;obtain ⟨cs,hcs⟩:∃ cs,cs=Bc:=⟨_,rfl⟩;obtain ⟨pA,pn,pc,dA,dn,dc,yA,yn,yc,fA,fn,fc,rA,rn,rc,xY,-⟩:=bX.item;rw [xY] at H;refine jJ lu eZ [_,_,_,_,_,_,_,_,_,_,_] [_,_,_,_,_,_,_,_,_,_,_] H wn rfl rfl rfl rfl rfl (by intro i q h;match i,h with|0,h=>exact h|n+1,h=>simp at h) rfl rfl ?_;clear H;intro b18 a w Ot H;refine tX (Li:=[_,_]) (Lo:=Lo) (news:=Bc) lu eZ rfl rfl H wn rfl rfl hrw (by rw [xY];rfl) (by rw [xY];exact H.hp.dX 0 rfl rfl) bX.one (by omega) (by omega) rfl ?_;clear H;intro v19 Gm a w Av H;refine kH H (aO K7 rfl (SC (Rd rfl (Rm rfl ?_))));clear H K7;intro a H;refine aH ?_;refine dK ((k+1,v19,xs++Bc,Gm,Cg)) (by exact (H.dS (Pl:=[_,_]) (dL:=[]) [] (by decide) rfl).sub ⟨rfl,rfl,rfl,rfl,rfl,aC⟩) ?_ ?_
  ·(try dsimp only);refine ⟨by omega,Av,?_,fun b o h=>ou b o (hgm b o h)⟩;rw [iG (by simpa using hk2)];exact (iK.mono ou).snoc (by simpa using bX) (by rw [xY];rfl)
  first|omega|(dsimp only;omega)
 intro h11 a H
 try have rQ:=dF h11
 refine dW ?_;refine K3 _ _ ?_;clear K3;refine kP H (SR fun _ K9=>Rm rfl (aj K9 rfl ?_));clear H K9;intro a H;refine lr H results87 rfl ?_
 obtain rfl:k=l.length:=by omega
 exact H.hp.eB ⟨_,hrw,by rw [iH (by simp)] at iK;exact iK⟩
theorem aeu (φ:aJ→aJ) (G:GH) (w0:World) (hG:Hold G w0) (l:List aJ) (v fv:ak) (hv:au G (.sl 11 (l.map aJ.dat)) v) (hz:l.length≤4294967296) (hf:∀ x∈l,FX fv w0 G x.dat (φ x).dat) :
  Calls prog 87 #[v,fv] w0 (bJ w0 G fun u G'=>au G' (.sl 11 (l.map fun x=>(φ x).dat)) u):=Jc hG (Xp φ G w0 (Az hG) l v fv hv hz hf) (by simp)
theorem aen (G:GH) (w0:World) (hG:Hold G w0) (l:List aJ) (v fv:ak) (hv:au G (.sl 11 (l.map aJ.dat)) v) (hz:l.length≤4294967296) (hf:∀ x∈l,IQ fv w0 G x.dat) :
  Calls prog 87 #[v,fv] w0 (bJ w0 G fun u G'=>au G' (.sl 11 (l.map aJ.dat)) u):=aeu (fun x=>x) G w0 hG l v fv hv hz hf
theorem aep (φ:bS→bS) (G:GH) (w0:World) (hO:ig G [] w0) (l:List bS) (v fv:ak) (hv:au G (.sl 6 (l.map bS.dat)) v) (hz:l.length≤4294967296) (hf:∀ x∈l,FX fv w0 G x.dat (φ x).dat) :
  Calls prog 89 #[v,fv] w0 (gy w0 G [] fun u G' L'=>∃ xs,dO 135 6 u l.length xs L'∧dG G' 6 (l.map fun x=>(φ x).dat) xs):=by
 obtain ⟨A,c,rfl,hc1,hc2,hg⟩:=hv.slice
 have hml:4294967297≤maxLen:=by decide
 rw [bV] at *;refine jB (N:=22) (T:=[(0,_),(1,_)]) func89 rfl ntmps89 rfl rfl hO ?_;intro a H;refine kP H (SR fun _ K1=>aj K1 rfl (SR fun _ K2=>aj K2 rfl (SQ fun _ K3=>SR fun _ K4=>Rm rfl (Rl kr rfl (Rm rfl (Kz K4 (SB ?_)))))));clear H K1 K2 K4;intro a H;skip;refine eH (ι:=Nat × ak × List ak × OL × GH) (Tc:=[(1,_),(8,_),(9,_)]) (Lc:=[]) (fun gh=>[(5,gh.2.1),(10,vi gh.1)]) (fun gh=>[]++gh.2.2.2.1) (fun gh=>gh.2.2.2.2) (fun gh=>gh.1≤l.length∧dO 135 6 gh.2.1 gh.1 gh.2.2.1 gh.2.2.2.1∧dG gh.2.2.2.2 6 ((l.map fun x=>(φ x).dat).take gh.1) gh.2.2.1∧(∀ b o,G b=some o→gh.2.2.2.2 b=some o)) (fun gh=>l.length - gh.1) ((0,.slice none 0 0,[],[],G)) (by exact (H).sub ⟨rfl,rfl,rfl,rfl,rfl,aC⟩) ?_ ?_
 ·exact ⟨by omega,dO.nil,by simpa using dG.nil,fun _ _ h=>h⟩
 clear H;intro gh a w hI H;obtain ⟨k,v,xs,Lo,g⟩:=gh;dsimp only at hI H;obtain ⟨hk,hrw,iK,hgm⟩:=hI;dsimp only [lca,aV] at H;refine kP H (SR fun _ K5=>Rc rfl (Kz K5 (SQ fun _ K6=>Cd rfl ?_ ?_))) <;> clear H K5
 ·intro h11 a H
  try have rQ:=dT h11
  have hk2:k < l.length:=by omega
  obtain ⟨b,o,cs,rfl,hcl,hrow,hrep⟩:=hg k l[k].dat (by simp [hk2]);obtain ⟨pA,pn,pc,dA,dn,dc,yA,yn,yc,fA,fn,fc,rfl,-⟩:=hrep.row;replace hrow:=fun j u hj=>ay hgm (hrow j u hj);refine kP H (Kc K6 (SQ fun _ K7=>SB (SR fun _ K8=>Ri kr iV rfl rfl ?_)));clear H K6;intro a H;refine aW iV (cs:=[_,_,_,_,_,_]) H wn rfl rfl (fun j v hj=>H.hp.aF (hrow j v hj)) rfl ?_;clear H;intro a H;refine dU iV H wn rfl ?_;clear H;intro b7 a w vM H;refine bN iV 0 (vs:=[_,_,_,_,_,_]) _ H wn rfl rfl rfl rfl rfl rfl rfl rfl ?_;clear H;intro w H;dsimp only [List.set,setRow] at H;refine K8 _ _ ?_;clear K8;refine kP H (SC (Rm rfl (Rm rfl ?_)));clear H;intro a H;refine aW iV (cs:=[_,_,_,_,_,_]) H wn rfl rfl (H.hp.dX 0 rfl rfl) rfl ?_;clear H;intro a H;refine pI H wn rfl rfl (hf _ (jW hk2) _ _ _ hgm H.ro (hrep.mono hgm)) rfl ?_;clear H;rintro v17 Cg a w ⟨Bc,rfl,bX⟩ ou H;obtain ⟨cs,hcs⟩:∃ cs,cs=Bc:=⟨_,rfl⟩;obtain ⟨pA,pn,pc,dA,dn,dc,yA,yn,yc,fA,fn,fc,xY,-⟩:=bX.row;rw [xY] at H;refine jJ kr iV [_,_,_,_,_,_] [_,_,_,_,_,_] H wn rfl rfl rfl rfl rfl (by intro i q h;match i,h with|0,h=>exact h|n+1,h=>simp at h) rfl rfl ?_;clear H;intro b18 a w Ot H;refine tX (Li:=[_,_]) (Lo:=Lo) (news:=Bc) kr iV rfl rfl H wn rfl rfl hrw (by rw [xY];rfl) (by rw [xY];exact H.hp.dX 0 rfl rfl) bX.one (by omega) (by omega) rfl ?_;clear H;intro v19 Gm a w Av H;refine kH H (aO K7 rfl (SC (Rd rfl (Rm rfl ?_))));clear H K7;intro a H;refine aH ?_;refine dK ((k+1,v19,xs++Bc,Gm,Cg)) (by exact (H.dS (Pl:=[_,_]) (dL:=[]) [] (by decide) rfl).sub ⟨rfl,rfl,rfl,rfl,rfl,aC⟩) ?_ ?_
  ·(try dsimp only);refine ⟨by omega,Av,?_,fun b o h=>ou b o (hgm b o h)⟩;rw [iG (by simpa using hk2)];exact (iK.mono ou).snoc (by simpa using bX) (by rw [xY];rfl)
  first|omega|(dsimp only;omega)
 intro h11 a H
 try have rQ:=dF h11
 refine dW ?_;refine K3 _ _ ?_;clear K3;refine kP H (SR fun _ K9=>Rm rfl (aj K9 rfl ?_));clear H K9;intro a H;refine lr H results89 rfl ?_
 obtain rfl:k=l.length:=by omega
 exact H.hp.eB ⟨_,hrw,by rw [iH (by simp)] at iK;exact iK⟩
theorem aev (φ:bS→bS) (G:GH) (w0:World) (hG:Hold G w0) (l:List bS) (v fv:ak) (hv:au G (.sl 6 (l.map bS.dat)) v) (hz:l.length≤4294967296) (hf:∀ x∈l,FX fv w0 G x.dat (φ x).dat) :
  Calls prog 89 #[v,fv] w0 (bJ w0 G fun u G'=>au G' (.sl 6 (l.map fun x=>(φ x).dat)) u):=Jc hG (aep φ G w0 (Az hG) l v fv hv hz hf) (by simp)
theorem aer (G:GH) (w0:World) (hG:Hold G w0) (l:List bS) (v fv:ak) (hv:au G (.sl 6 (l.map bS.dat)) v) (hz:l.length≤4294967296) (hf:∀ x∈l,IQ fv w0 G x.dat) :
  Calls prog 89 #[v,fv] w0 (bJ w0 G fun u G'=>au G' (.sl 6 (l.map bS.dat)) u):=aev (fun x=>x) G w0 hG l v fv hv hz hf
theorem aeo (φ:bO→bO) (G:GH) (w0:World) (hO:ig G [] w0) (l:List bO) (v fv:ak) (hv:au G (.sl 7 (l.map bO.dat)) v) (hz:l.length≤4294967296) (hf:∀ x∈l,FX fv w0 G x.dat (φ x).dat) :
  Calls prog 146 #[v,fv] w0 (gy w0 G [] fun u G' L'=>∃ xs,dO 132 7 u l.length xs L'∧dG G' 7 (l.map fun x=>(φ x).dat) xs):=by
 obtain ⟨A,c,rfl,hc1,hc2,hg⟩:=hv.slice
 have hml:4294967297≤maxLen:=by decide
 rw [bV] at *;refine jB (N:=22) (T:=[(0,_),(1,_)]) func146 rfl ntmps146 rfl rfl hO ?_;intro a H;refine kP H (SR fun _ K1=>aj K1 rfl (SR fun _ K2=>aj K2 rfl (SQ fun _ K3=>SR fun _ K4=>Rm rfl (Rl mh rfl (Rm rfl (Kz K4 (SB ?_)))))));clear H K1 K2 K4;intro a H;skip;refine eH (ι:=Nat × ak × List ak × OL × GH) (Tc:=[(1,_),(8,_),(9,_)]) (Lc:=[]) (fun gh=>[(5,gh.2.1),(10,vi gh.1)]) (fun gh=>[]++gh.2.2.2.1) (fun gh=>gh.2.2.2.2) (fun gh=>gh.1≤l.length∧dO 132 7 gh.2.1 gh.1 gh.2.2.1 gh.2.2.2.1∧dG gh.2.2.2.2 7 ((l.map fun x=>(φ x).dat).take gh.1) gh.2.2.1∧(∀ b o,G b=some o→gh.2.2.2.2 b=some o)) (fun gh=>l.length - gh.1) ((0,.slice none 0 0,[],[],G)) (by exact (H).sub ⟨rfl,rfl,rfl,rfl,rfl,aC⟩) ?_ ?_
 ·exact ⟨by omega,dO.nil,by simpa using dG.nil,fun _ _ h=>h⟩
 clear H;intro gh a w hI H;obtain ⟨k,v,xs,Lo,g⟩:=gh;dsimp only at hI H;obtain ⟨hk,hrw,iK,hgm⟩:=hI;dsimp only [lca,aV] at H;refine kP H (SR fun _ K5=>Rc rfl (Kz K5 (SQ fun _ K6=>Cd rfl ?_ ?_))) <;> clear H K5
 ·intro h11 a H
  try have rQ:=dT h11
  have hk2:k < l.length:=by omega
  obtain ⟨b,o,cs,rfl,hcl,hrow,hrep⟩:=hg k l[k].dat (by simp [hk2]);obtain ⟨pA,pn,pc,dA,dn,dc,yA,yn,yc,fA,fn,fc,rfl,-⟩:=hrep.cell;replace hrow:=fun j u hj=>ay hgm (hrow j u hj);refine kP H (Kc K6 (SQ fun _ K7=>SB (SR fun _ K8=>Ri mh iQ rfl rfl ?_)));clear H K6;intro a H;refine aW iQ (cs:=[_,_,_,_,_,_,_]) H wn rfl rfl (fun j v hj=>H.hp.aF (hrow j v hj)) rfl ?_;clear H;intro a H;refine dU iQ H wn rfl ?_;clear H;intro b7 a w vM H;refine bN iQ 0 (vs:=[_,_,_,_,_,_,_]) _ H wn rfl rfl rfl rfl rfl rfl rfl rfl ?_;clear H;intro w H;dsimp only [List.set,setRow] at H;refine K8 _ _ ?_;clear K8;refine kP H (SC (Rm rfl (Rm rfl ?_)));clear H;intro a H;refine aW iQ (cs:=[_,_,_,_,_,_,_]) H wn rfl rfl (H.hp.dX 0 rfl rfl) rfl ?_;clear H;intro a H;refine pI H wn rfl rfl (hf _ (jW hk2) _ _ _ hgm H.ro (hrep.mono hgm)) rfl ?_;clear H;rintro v17 Cg a w ⟨Bc,rfl,bX⟩ ou H;obtain ⟨cs,hcs⟩:∃ cs,cs=Bc:=⟨_,rfl⟩;obtain ⟨pA,pn,pc,dA,dn,dc,yA,yn,yc,fA,fn,fc,xY,-⟩:=bX.cell;rw [xY] at H;refine jJ mh iQ [_,_,_,_,_,_,_] [_,_,_,_,_,_,_] H wn rfl rfl rfl rfl rfl (by intro i q h;match i,h with|0,h=>exact h|n+1,h=>simp at h) rfl rfl ?_;clear H;intro b18 a w Ot H;refine tX (Li:=[_,_]) (Lo:=Lo) (news:=Bc) mh iQ rfl rfl H wn rfl rfl hrw (by rw [xY];rfl) (by rw [xY];exact H.hp.dX 0 rfl rfl) bX.one (by omega) (by omega) rfl ?_;clear H;intro v19 Gm a w Av H;refine kH H (aO K7 rfl (SC (Rd rfl (Rm rfl ?_))));clear H K7;intro a H;refine aH ?_;refine dK ((k+1,v19,xs++Bc,Gm,Cg)) (by exact (H.dS (Pl:=[_,_]) (dL:=[]) [] (by decide) rfl).sub ⟨rfl,rfl,rfl,rfl,rfl,aC⟩) ?_ ?_
  ·(try dsimp only);refine ⟨by omega,Av,?_,fun b o h=>ou b o (hgm b o h)⟩;rw [iG (by simpa using hk2)];exact (iK.mono ou).snoc (by simpa using bX) (by rw [xY];rfl)
  first|omega|(dsimp only;omega)
 intro h11 a H
 try have rQ:=dF h11
 refine dW ?_;refine K3 _ _ ?_;clear K3;refine kP H (SR fun _ K9=>Rm rfl (aj K9 rfl ?_));clear H K9;intro a H;refine lr H results146 rfl ?_
 obtain rfl:k=l.length:=by omega
 exact H.hp.eB ⟨_,hrw,by rw [iH (by simp)] at iK;exact iK⟩
theorem aes (φ:bO→bO) (G:GH) (w0:World) (hG:Hold G w0) (l:List bO) (v fv:ak) (hv:au G (.sl 7 (l.map bO.dat)) v) (hz:l.length≤4294967296) (hf:∀ x∈l,FX fv w0 G x.dat (φ x).dat) :
  Calls prog 146 #[v,fv] w0 (bJ w0 G fun u G'=>au G' (.sl 7 (l.map fun x=>(φ x).dat)) u):=Jc hG (aeo φ G w0 (Az hG) l v fv hv hz hf) (by simp)
theorem aem (G:GH) (w0:World) (hG:Hold G w0) (l:List bO) (v fv:ak) (hv:au G (.sl 7 (l.map bO.dat)) v) (hz:l.length≤4294967296) (hf:∀ x∈l,IQ fv w0 G x.dat) :
  Calls prog 146 #[v,fv] w0 (bJ w0 G fun u G'=>au G' (.sl 7 (l.map bO.dat)) u):=aes (fun x=>x) G w0 hG l v fv hv hz hf
def FV (n:Nat):Prop:=∀ (G:GH) (w0:World),Hold G w0→∀ (l:List aJ) (v:ak),au G (.sl 11 (l.map aJ.dat)) v→bU l < n →
 Calls prog 31 #[v] w0 (bJ w0 G fun u G'=>au G' (.sl 11 (l.map aJ.dat)) u)
theorem adC {n:Nat} (ih:FV n) (hn:n≤4294967296) (G:GH) (w0:World) (hG:Hold G w0) (x:bO) (cs:List ak) (hv:bH G x.dat cs) (hz:dQ x.dat < n+1) :
  Calls prog 147 #[.agg cs.toArray] w0 (bJ w0 G fun u G'=>∃ cs',u=.agg cs'.toArray∧bH G' x.dat cs'):=by
 have he:=zZ x;obtain ⟨pA,pn,pc,dA,dn,dc,yA,yn,yc,fA,fn,fc,rfl,hh,hf⟩:=hv.cell;refine eN [(0,_)] func147 rfl ntmps147 rfl rfl hG ?_;intro a H;refine dw (fun _ K1=>?_);refine eD (cs:=[_,_,_,_,_,_,_]) H wn rfl rfl rfl ?_;clear H;intro b1 a w hb1 H;refine dU iQ H wn rfl ?_;clear H;intro b2 a w hb2 H;refine K1 _ _ ?_;clear K1;refine aS (fun _ K2=>?_)
 have fB:∀ (cu:Nat) (v:ak) (G G':GH),(∀ k o,G k=some o→G' k=some o)→(fun (cu:Nat) (v:ak) (G:GH)=>match cu with|0=>v=(aM b1 0)|1=>v=vi x.id|2=>v=(aM b1 1)|3=>v=.agg #[.slice pA pn pc,vi x.head.marks.ins,vi x.head.marks.move,.slice dA dn dc,.slice yA yn yc]|4=>∃ p d l,v=.agg #[p,vi x.head.marks.ins,vi x.head.marks.move,d,l]∧ku G x.head p d l|5=>v=(aM b1 6)|6=>v=.slice fA fn fc|7=>au G (.sl 11 (x.flow.map aJ.dat)) v|_=>True) cu v G→(fun (cu:Nat) (v:ak) (G:GH)=>match cu with|0=>v=(aM b1 0)|1=>v=vi x.id|2=>v=(aM b1 1)|3=>v=.agg #[.slice pA pn pc,vi x.head.marks.ins,vi x.head.marks.move,.slice dA dn dc,.slice yA yn yc]|4=>∃ p d l,v=.agg #[p,vi x.head.marks.ins,vi x.head.marks.move,d,l]∧ku G x.head p d l|5=>v=(aM b1 6)|6=>v=.slice fA fn fc|7=>au G (.sl 11 (x.flow.map aJ.dat)) v|_=>True) cu v G':=by
  intro cu v G G' hm h
  match cu,h with
  | 0,h=>exact h
  | 1,h=>exact h
  | 2,h=>exact h
  | 3,h=>exact h
  | 4,h=>exact let ⟨p,d,l,h1,h2⟩:=h;⟨p,d,l,h1,h2.mono hm⟩
  | 5,h=>exact h
  | 6,h=>exact h
  | 7,h=>exact au.mono hm h
  | 8,h=>exact trivial
  | 9,h=>exact trivial
  | _+10,h=>exact trivial
 refine ER (hmx) [[],[0],[],[2],[2,3],[],[5],(ra 2 5),(ra 0 8),(ra 0 9)] [8,9] (by kernel_rfl) (by kernel_rfl) (fun (cu:Nat) (v:ak) (G:GH)=>match cu with|0=>v=(aM b1 0)|1=>v=vi x.id|2=>v=(aM b1 1)|3=>v=.agg #[.slice pA pn pc,vi x.head.marks.ins,vi x.head.marks.move,.slice dA dn dc,.slice yA yn yc]|4=>∃ p d l,v=.agg #[p,vi x.head.marks.ins,vi x.head.marks.move,d,l]∧ku G x.head p d l|5=>v=(aM b1 6)|6=>v=.slice fA fn fc|7=>au G (.sl 11 (x.flow.map aJ.dat)) v|_=>True) fB H ?_ ?_
 ·clear H;refine aG ?_ ?_ ?_ ?_ (aG ?_ ?_ ?_ ?_ (bq (bY rfl) (bq (bY rfl) dD)))
  ·refine fO [] rfl trivial (by kernel_rfl) fB rfl rfl ?_;intro dz a w G1 hG HT H fin;exact kH H (Rf Cw rfl fun _ H=>fin H iJ rfl)
  ·refine fO [(0,3,_)] rfl ⟨fun _ _ h=>h,aC⟩ (by kernel_rfl) fB rfl rfl ?_;intro dz a w G1 hG HT H fin;exact kH H (Ro aD 1 rfl fun _ H=>fin H iJ rfl)
  ·refine fO [] rfl trivial (by kernel_rfl) fB rfl rfl ?_;intro dz a w G1 hG HT H fin;exact kH H (Rf Jm rfl fun _ H=>fin H iJ rfl)
  ·refine fO [(2,5,_)] rfl ⟨fun _ _ h=>h,aC⟩ (by kernel_rfl) fB rfl rfl ?_;intro dz a w G1 hG HT H fin;refine aW lJ (cs:=[_,_,_,_,_]) H wn rfl rfl (H.hp.dX 1 rfl rfl) rfl ?_;clear H;intro a H;exact fin H iJ rfl
  ·refine fO [(3,6,_)] rfl ⟨fun _ _ h=>h,aC⟩ (by kernel_rfl) fB rfl rfl ?_;intro dz a w G1 hG HT H fin;refine s_call NU H wn rfl (Nz _ _ H.ro x.head _ _ _ _ _ _ _ _ _ (hh.mono hG) (by omega)) rfl ?_;clear H;rintro v7 G7 a w OO LC H;exact fin H LC (OO)
  ·refine fO [] rfl trivial (by kernel_rfl) fB rfl rfl ?_;intro dz a w G1 hG HT H fin;exact kH H (Rf Cx rfl fun _ H=>fin H iJ rfl)
  ·refine fO [(5,8,_)] rfl ⟨fun _ _ h=>h,aC⟩ (by kernel_rfl) fB rfl rfl ?_;intro dz a w G1 hG HT H fin;exact kH H (Ro jy 1 rfl fun _ H=>fin H iJ rfl)
  refine fO [(6,9,_)] rfl ⟨fun _ _ h=>h,aC⟩ (by kernel_rfl) fB rfl rfl ?_;intro dz a w G1 hG HT H fin;refine s_call Rt H wn rfl (ih _ _ H.ro x.flow _ (hf.mono hG) (by omega)) rfl ?_;clear H;rintro v10 Kk a w BG pW H;exact fin H pW (BG)
 clear H;intro a w G jY H hv;have H:=H.aZ (hv 1 4 rfl rfl) rfl;obtain ⟨u7,hu7,OO⟩:=hv 4 7 (by decide) rfl;(try dsimp only at OO);obtain ⟨p7,d7,l7,rfl,Ox⟩:=OO;obtain ⟨a1,a2,a3,rfl⟩:=Ox.props.form;obtain ⟨a4,a5,a6,rfl⟩:=Ox.bR.form;obtain ⟨a7,a8,a9,rfl⟩:=Ox.layers.form;have H:=H.nA hu7;obtain ⟨u10,Ua,BG⟩:=hv 7 10 (by decide) rfl;(try dsimp only at BG);obtain ⟨A10,n10,c10,rfl⟩:=BG.form;have H:=H.nA Ua;clear hv;refine nk Vi [_,_,_,_,_,_,_] H wn rfl rfl rfl rfl ?_;clear H;intro a H;refine bN iQ 0 (vs:=[_,_,_,_,_,_,_]) _ H wn rfl rfl rfl rfl rfl rfl rfl rfl ?_;clear H;intro w H;dsimp only [List.set,setRow] at H;refine aH ⟨rfl,?_⟩;refine K2 _ _ ?_;clear K2;refine dR ?_;refine (leave1 H results147 (.cons (BS iQ (cs:=[_,_,_,_,_,_,_]) H rfl rfl (H.hp.dX 0 rfl rfl)) .nil) ?_).1;exact H.rt ⟨_,rfl,bH.Mv Ox BG⟩
theorem adB {n:Nat} (ih:FV n) (hn:n≤4294967296) {G:GH} {w0:World} (x:bO) (hz:dQ x.dat < n+1):IQ (.func (.func 147) #[] #[]) w0 G x.dat:=by
 intro G1 w1 cs hm1 hG1 hr;have h:=adC ih hn _ _ hG1 x cs hr hz;have h2:=mF (P:=prog) (caps:=[]) (args:=[.agg cs.toArray]) afa h;exact h2
theorem adR {n:Nat} (ih:FV n) (hn:n≤4294967296) (G:GH) (w0:World) (hG:Hold G w0) (x:bS) (cs:List ak) (hv:bH G x.dat cs) (hz:dQ x.dat < n+1) :
  Calls prog 90 #[.agg cs.toArray] w0 (bJ w0 G fun u G'=>∃ cs',u=.agg cs'.toArray∧bH G' x.dat cs'):=by
 have he:=Aa x;have hl:=IJ x.cells;obtain ⟨pA,pn,pc,dA,dn,dc,yA,yn,yc,fA,fn,fc,rfl,hh,hf⟩:=hv.row;refine eN [(0,_)] func90 rfl ntmps90 rfl rfl hG ?_;intro a H;refine dw (fun _ K1=>?_);refine eD (cs:=[_,_,_,_,_,_]) H wn rfl rfl rfl ?_;clear H;intro b1 a w hb1 H;refine dU iV H wn rfl ?_;clear H;intro b2 a w hb2 H;refine K1 _ _ ?_;clear K1;refine aS (fun _ K2=>?_)
 have fB:∀ (cu:Nat) (v:ak) (G G':GH),(∀ k o,G k=some o→G' k=some o)→(fun (cu:Nat) (v:ak) (G:GH)=>match cu with|0=>v=(aM b1 0)|1=>v=.agg #[.slice pA pn pc,vi x.head.marks.ins,vi x.head.marks.move,.slice dA dn dc,.slice yA yn yc]|2=>∃ p d l,v=.agg #[p,vi x.head.marks.ins,vi x.head.marks.move,d,l]∧ku G x.head p d l|3=>v=(aM b1 5)|4=>v=.slice fA fn fc|5=>au G (.sl 7 (x.cells.map bO.dat)) v|_=>True) cu v G→(fun (cu:Nat) (v:ak) (G:GH)=>match cu with|0=>v=(aM b1 0)|1=>v=.agg #[.slice pA pn pc,vi x.head.marks.ins,vi x.head.marks.move,.slice dA dn dc,.slice yA yn yc]|2=>∃ p d l,v=.agg #[p,vi x.head.marks.ins,vi x.head.marks.move,d,l]∧ku G x.head p d l|3=>v=(aM b1 5)|4=>v=.slice fA fn fc|5=>au G (.sl 7 (x.cells.map bO.dat)) v|_=>True) cu v G':=by
  intro cu v G G' hm h
  match cu,h with
  | 0,h=>exact h
  | 1,h=>exact h
  | 2,h=>exact let ⟨p,d,l,h1,h2⟩:=h;⟨p,d,l,h1,h2.mono hm⟩
  | 3,h=>exact h
  | 4,h=>exact h
  | 5,h=>exact au.mono hm h
  | 6,h=>exact trivial
  | 7,h=>exact trivial
  | _+8,h=>exact trivial
 refine ER (hmx) [[],[0],[0,1],[],[3],(ra 0 5),(ra 0 6),(ra 0 7)] [6,7] (by kernel_rfl) (by kernel_rfl) (fun (cu:Nat) (v:ak) (G:GH)=>match cu with|0=>v=(aM b1 0)|1=>v=.agg #[.slice pA pn pc,vi x.head.marks.ins,vi x.head.marks.move,.slice dA dn dc,.slice yA yn yc]|2=>∃ p d l,v=.agg #[p,vi x.head.marks.ins,vi x.head.marks.move,d,l]∧ku G x.head p d l|3=>v=(aM b1 5)|4=>v=.slice fA fn fc|5=>au G (.sl 7 (x.cells.map bO.dat)) v|_=>True) fB H ?_ ?_
 ·clear H;refine aG ?_ ?_ ?_ ?_ (aG ?_ ?_ (bY rfl) (bY rfl) dD)
  ·refine fO [] rfl trivial (by kernel_rfl) fB rfl rfl ?_;intro dz a w G1 hG HT H fin;exact kH H (Rf EW rfl fun _ H=>fin H iJ rfl)
  ·refine fO [(0,3,_)] rfl ⟨fun _ _ h=>h,aC⟩ (by kernel_rfl) fB rfl rfl ?_;intro dz a w G1 hG HT H fin;refine aW lJ (cs:=[_,_,_,_,_]) H wn rfl rfl (H.hp.dX 1 rfl rfl) rfl ?_;clear H;intro a H;exact fin H iJ rfl
  ·refine fO [(1,4,_)] rfl ⟨fun _ _ h=>h,aC⟩ (by kernel_rfl) fB rfl rfl ?_;intro dz a w G1 hG HT H fin;refine s_call NU H wn rfl (Nz _ _ H.ro x.head _ _ _ _ _ _ _ _ _ (hh.mono hG) (by omega)) rfl ?_;clear H;rintro v5 G5 a w wW zy H;exact fin H zy (wW)
  ·refine fO [] rfl trivial (by kernel_rfl) fB rfl rfl ?_;intro dz a w G1 hG HT H fin;exact kH H (Rf uJ rfl fun _ H=>fin H iJ rfl)
  ·refine fO [(3,6,_)] rfl ⟨fun _ _ h=>h,aC⟩ (by kernel_rfl) fB rfl rfl ?_;intro dz a w G1 hG HT H fin;exact kH H (Ro uW 1 rfl fun _ H=>fin H iJ rfl)
  refine fO [(4,7,_)] rfl ⟨fun _ _ h=>h,aC⟩ (by kernel_rfl) fB rfl rfl ?_;intro dz a w G1 hG HT H fin;refine s_call aeZ H wn rfl (aem _ _ H.ro x.cells _ _ (hf.mono hG) (by omega) (fun y hy=>adB ih hn y (by have:=VD hy;omega))) rfl ?_;clear H;rintro v8 G8 a w qz rG H;exact fin H rG (qz)
 clear H;intro a w G jY H hv;obtain ⟨u5,Ml,wW⟩:=hv 2 5 (by decide) rfl;(try dsimp only at wW);obtain ⟨p5,d5,l5,rfl,D9⟩:=wW;obtain ⟨a1,a2,a3,rfl⟩:=D9.props.form;obtain ⟨a4,a5,a6,rfl⟩:=D9.bR.form;obtain ⟨a7,a8,a9,rfl⟩:=D9.layers.form;have H:=H.nA Ml;obtain ⟨u8,Ef,qz⟩:=hv 5 8 (by decide) rfl;(try dsimp only at qz);obtain ⟨A8,n8,c8,rfl⟩:=qz.form;have H:=H.nA Ef;clear hv;refine nk abg [_,_,_,_,_,_] H wn rfl rfl rfl rfl ?_;clear H;intro a H;refine bN iV 0 (vs:=[_,_,_,_,_,_]) _ H wn rfl rfl rfl rfl rfl rfl rfl rfl ?_;clear H;intro w H;dsimp only [List.set,setRow] at H;refine aH ⟨rfl,?_⟩;refine K2 _ _ ?_;clear K2;refine dR ?_;refine (leave1 H results90 (.cons (BS iV (cs:=[_,_,_,_,_,_]) H rfl rfl (H.hp.dX 0 rfl rfl)) .nil) ?_).1;exact H.rt ⟨_,rfl,bH.Uz D9 qz⟩
theorem adQ {n:Nat} (ih:FV n) (hn:n≤4294967296) {G:GH} {w0:World} (x:bS) (hz:dQ x.dat < n+1):IQ (.func (.func 90) #[] #[]) w0 G x.dat:=by
 intro G1 w1 cs hm1 hG1 hr;have h:=adR ih hn _ _ hG1 x cs hr hz;have h2:=mF (P:=prog) (caps:=[]) (args:=[.agg cs.toArray]) agy h;exact h2
theorem adA {n:Nat} (ih:FV n) (hn:n≤4294967296) (G:GH) (w0:World) (hG:Hold G w0) (x:aJ) (cs:List ak) (hv:bH G x.dat cs) (hz:dQ x.dat < n+1) :
  Calls prog 88 #[.agg cs.toArray] w0 (bJ w0 G fun u G'=>∃ cs',u=.agg cs'.toArray∧bH G' x.dat cs'):=by
 have he:=uX x;have hl:=IK x.rows;obtain ⟨pA,pn,pc,dA,dn,dc,yA,yn,yc,fA,fn,fc,rA,rn,rc,rfl,hh,hf,hr⟩:=hv.item;refine eN [(0,_)] func88 rfl ntmps88 rfl rfl hG ?_;intro a H;refine dw (fun _ K1=>?_);refine eD (cs:=[_,_,_,_,_,_,_,_,_,_,_]) H wn rfl rfl rfl ?_;clear H;intro b1 a w hb1 H;refine dU eZ H wn rfl ?_;clear H;intro b2 a w hb2 H;refine K1 _ _ ?_;clear K1;refine aS (fun _ K2=>?_)
 have fB:∀ (cu:Nat) (v:ak) (G G':GH),(∀ k o,G k=some o→G' k=some o)→(fun (cu:Nat) (v:ak) (G:GH)=>match cu with|0=>v=(aM b1 4)|1=>v=.agg #[.slice pA pn pc,vi x.head.marks.ins,vi x.head.marks.move,.slice dA dn dc,.slice yA yn yc]|2=>∃ p d l,v=.agg #[p,vi x.head.marks.ins,vi x.head.marks.move,d,l]∧ku G x.head p d l|3=>v=(aM b1 9)|4=>v=.slice fA fn fc|5=>au G (.sl 11 (x.flow.map aJ.dat)) v|6=>v=(aM b1 10)|7=>v=.slice rA rn rc|8=>au G (.sl 6 (x.rows.map bS.dat)) v|9=>v=(aM b1 4)|_=>True) cu v G→(fun (cu:Nat) (v:ak) (G:GH)=>match cu with|0=>v=(aM b1 4)|1=>v=.agg #[.slice pA pn pc,vi x.head.marks.ins,vi x.head.marks.move,.slice dA dn dc,.slice yA yn yc]|2=>∃ p d l,v=.agg #[p,vi x.head.marks.ins,vi x.head.marks.move,d,l]∧ku G x.head p d l|3=>v=(aM b1 9)|4=>v=.slice fA fn fc|5=>au G (.sl 11 (x.flow.map aJ.dat)) v|6=>v=(aM b1 10)|7=>v=.slice rA rn rc|8=>au G (.sl 6 (x.rows.map bS.dat)) v|9=>v=(aM b1 4)|_=>True) cu v G':=by
  intro cu v G G' hm h
  match cu,h with
  | 0,h=>exact h
  | 1,h=>exact h
  | 2,h=>exact let ⟨p,d,l,h1,h2⟩:=h;⟨p,d,l,h1,h2.mono hm⟩
  | 3,h=>exact h
  | 4,h=>exact h
  | 5,h=>exact au.mono hm h
  | 6,h=>exact h
  | 7,h=>exact h
  | 8,h=>exact au.mono hm h
  | 9,h=>exact h
  | 10,h=>exact trivial
  | 11,h=>exact trivial
  | 12,h=>exact trivial
  | 13,h=>exact trivial
  | 14,h=>exact trivial
  | _+15,h=>exact trivial
 refine ER (hmx) [[],[0],[0,1],[],[3],(ra 0 5),[],[6],(ra 0 8),[0,1,2,3,4,6,7],(ra 0 10),(ra 0 11),(ra 0 12),(ra 0 13),(ra 0 14)] (ra 10 5) (by kernel_rfl) (by kernel_rfl) (fun (cu:Nat) (v:ak) (G:GH)=>match cu with|0=>v=(aM b1 4)|1=>v=.agg #[.slice pA pn pc,vi x.head.marks.ins,vi x.head.marks.move,.slice dA dn dc,.slice yA yn yc]|2=>∃ p d l,v=.agg #[p,vi x.head.marks.ins,vi x.head.marks.move,d,l]∧ku G x.head p d l|3=>v=(aM b1 9)|4=>v=.slice fA fn fc|5=>au G (.sl 11 (x.flow.map aJ.dat)) v|6=>v=(aM b1 10)|7=>v=.slice rA rn rc|8=>au G (.sl 6 (x.rows.map bS.dat)) v|9=>v=(aM b1 4)|_=>True) fB H ?_ ?_
 ·clear H;refine aG ?_ ?_ ?_ ?_ (aG ?_ ?_ ?_ ?_ (aG ?_ ?_ (bY rfl) (bY rfl) (bq (bY rfl) (bq (bY rfl) (bq (bY rfl) dD)))))
  ·refine fO [] rfl trivial (by kernel_rfl) fB rfl rfl ?_;intro dz a w G1 hG HT H fin;exact kH H (Rf DL rfl fun _ H=>fin H iJ rfl)
  ·refine fO [(0,3,_)] rfl ⟨fun _ _ h=>h,aC⟩ (by kernel_rfl) fB rfl rfl ?_;intro dz a w G1 hG HT H fin;refine aW lJ (cs:=[_,_,_,_,_]) H wn rfl rfl (H.hp.dX 1 rfl rfl) rfl ?_;clear H;intro a H;exact fin H iJ rfl
  ·refine fO [(1,4,_)] rfl ⟨fun _ _ h=>h,aC⟩ (by kernel_rfl) fB rfl rfl ?_;intro dz a w G1 hG HT H fin;refine s_call NU H wn rfl (Nz _ _ H.ro x.head _ _ _ _ _ _ _ _ _ (hh.mono hG) (by omega)) rfl ?_;clear H;rintro v5 G5 a w wW zy H;exact fin H zy (wW)
  ·refine fO [] rfl trivial (by kernel_rfl) fB rfl rfl ?_;intro dz a w G1 hG HT H fin;exact kH H (Rf Al rfl fun _ H=>fin H iJ rfl)
  ·refine fO [(3,6,_)] rfl ⟨fun _ _ h=>h,aC⟩ (by kernel_rfl) fB rfl rfl ?_;intro dz a w G1 hG HT H fin;exact kH H (Ro jy 1 rfl fun _ H=>fin H iJ rfl)
  ·refine fO [(4,7,_)] rfl ⟨fun _ _ h=>h,aC⟩ (by kernel_rfl) fB rfl rfl ?_;intro dz a w G1 hG HT H fin;refine s_call Rt H wn rfl (ih _ _ H.ro x.flow _ (hf.mono hG) (by omega)) rfl ?_;clear H;rintro v8 G8 a w qz rG H;exact fin H rG (qz)
  ·refine fO [] rfl trivial (by kernel_rfl) fB rfl rfl ?_;intro dz a w G1 hG HT H fin;exact kH H (Rf zk rfl fun _ H=>fin H iJ rfl)
  ·refine fO [(6,9,_)] rfl ⟨fun _ _ h=>h,aC⟩ (by kernel_rfl) fB rfl rfl ?_;intro dz a w G1 hG HT H fin;exact kH H (Ro zV 1 rfl fun _ H=>fin H iJ rfl)
  ·refine fO [(7,10,_)] rfl ⟨fun _ _ h=>h,aC⟩ (by kernel_rfl) fB rfl rfl ?_;intro dz a w G1 hG HT H fin;refine s_call agw H wn rfl (aer _ _ H.ro x.rows _ _ (hr.mono hG) (by omega) (fun y hy=>adQ ih hn y (by have:=VF hy;omega))) rfl ?_;clear H;rintro v11 wh a w yu qQ H;exact fin H qQ (yu)
  refine fO [] rfl trivial (by kernel_rfl) fB rfl rfl ?_;intro dz a w G1 hG HT H fin;exact kH H (Rf DL rfl fun _ H=>fin H iJ rfl)
 clear H;intro a w G jY H hv;obtain ⟨u5,Ml,wW⟩:=hv 2 5 (by decide) rfl;(try dsimp only at wW);obtain ⟨p5,d5,l5,rfl,D9⟩:=wW;obtain ⟨a1,a2,a3,rfl⟩:=D9.props.form;obtain ⟨a4,a5,a6,rfl⟩:=D9.bR.form;obtain ⟨a7,a8,a9,rfl⟩:=D9.layers.form;have H:=H.nA Ml;obtain ⟨u8,Ef,qz⟩:=hv 5 8 (by decide) rfl;(try dsimp only at qz);obtain ⟨A8,n8,c8,rfl⟩:=qz.form;have H:=H.nA Ef;obtain ⟨Vs,Ia,yu⟩:=hv 8 11 (by decide) rfl;(try dsimp only at yu);obtain ⟨A11,n11,c11,rfl⟩:=yu.form;have H:=H.nA Ia;have H:=H.aZ (hv 9 12 rfl rfl) rfl;clear hv;refine bN lJ 1 (vs:=[_,_,_,_,_]) _ H wn rfl rfl rfl rfl rfl rfl rfl rfl ?_;clear H;intro w H;dsimp only [List.set,setRow] at H;refine kH H (Rf Al rfl ?_);clear H;intro a H;refine bN jy 1 (vs:=[_]) _ H wn rfl rfl rfl rfl rfl rfl rfl rfl ?_;clear H;intro w H;dsimp only [List.set,setRow] at H;refine kH H (Rf zk rfl ?_);clear H;intro a H;refine bN zV 1 (vs:=[_]) _ H wn rfl rfl rfl rfl rfl rfl rfl rfl ?_;clear H;intro w H;dsimp only [List.set,setRow] at H;refine aH ⟨rfl,?_⟩;refine K2 _ _ ?_;clear K2;refine dw (fun _ K3=>?_);refine aW eZ (cs:=[_,_,_,_,_,_,_,_,_,_,_]) H wn rfl rfl (H.hp.dX 1 rfl rfl) rfl ?_;clear H;intro a H;refine bN eZ 0 (vs:=[_,_,_,_,_,_,_,_,_,_,_]) _ H wn rfl rfl rfl rfl rfl rfl rfl rfl ?_;clear H;intro w H;dsimp only [List.set,setRow] at H;refine K3 _ _ ?_;clear K3;refine dR ?_;refine (leave1 H results88 (.cons (BS eZ (cs:=[_,_,_,_,_,_,_,_,_,_,_]) H rfl rfl (H.hp.dX 0 rfl rfl)) .nil) ?_).1;exact H.rt ⟨_,rfl,bH.mkItem D9 qz yu⟩
theorem Xb {n:Nat} (ih:FV n) (hn:n≤4294967296) {G:GH} {w0:World} (x:aJ) (hz:dQ x.dat < n+1):IQ (.func (.func 88) #[] #[]) w0 G x.dat:=by
 intro G1 w1 cs hm1 hG1 hr;have h:=adA ih hn _ _ hG1 x cs hr hz;have h2:=mF (P:=prog) (caps:=[]) (args:=[.agg cs.toArray]) agv h;exact h2
theorem QO:∀ n:Nat,n≤4294967297→FV n
 | 0,_=>fun _ _ _ _ _ _ h=>absurd h (by omega)
 | n+1,hn=>by
  intro G w0 hG l v hv hz;have ih:=QO n (by omega);have hl:=FT l;refine eN [(0,_)] func31 rfl ntmps31 rfl rfl hG ?_;intro a H;refine kP H (SR fun _ K1=>aj K1 rfl (SR fun _ K2=>Rm rfl ?_));clear H K1;intro a H;refine s_call XM H wn rfl (aen _ _ H.ro l _ _ hv (by omega) (fun y hy=>Xb ih (by omega) y (by have:=M9 hy;omega))) rfl ?_;clear H;rintro v4 G4 a w hp4 tL H;exact kH H (aj K2 rfl (LR results31 rfl fun H=>H.rt hp4))
end
section
open Go.RowKit
theorem agY:Nc prog 166 [(0,false),(1,false)]:=⟨by kernel_rfl,by kernel_rfl,by kernel_rfl,by kernel_rfl,by kernel_rfl⟩
theorem agZ:Nc prog 169 [(0,false),(1,false)]:=⟨by kernel_rfl,by kernel_rfl,by kernel_rfl,by kernel_rfl,by kernel_rfl⟩
theorem aha:Nc prog 171 [(0,false),(1,false),(2,false),(3,true)]:=⟨by kernel_rfl,by kernel_rfl,by kernel_rfl,by kernel_rfl,by kernel_rfl⟩
theorem Xq:∀ args w,(callFunc 101 args).run prog w=.ok (.enter 101 args) w:=enters func101 rfl (by kernel_rfl)
theorem uL:dV prog 27 0 0:=⟨by kernel_rfl⟩
theorem wI:dV prog 27 1 1:=⟨by kernel_rfl⟩
theorem aey:∀ args w,(callFunc 102 args).run prog w=.ok (.enter 102 args) w:=enters func102 rfl (by kernel_rfl)
theorem aez:∀ args w,(callFunc 103 args).run prog w=.ok (.enter 103 args) w:=enters func103 rfl (by kernel_rfl)
abbrev jV.cells (x:jV):List ak:=[vi x.rev,vi x.move]
abbrev jK.cells (x:jK):List ak:=[vi x.rev,vi x.key,vi x.before,.bool x.had]
theorem QV {G:GH} {x:jV} {cs:List ak} (h:bH G x.dat cs):cs=x.cells:=by
 simp only [jV.dat,bH,au] at h
 obtain ⟨_,_,rfl,⟨rfl,_⟩,_,_,rfl,⟨rfl,_⟩,rfl⟩:=h
 rfl
theorem Ut {G:GH} {x:jK} {cs:List ak} (h:bH G x.dat cs):cs=x.cells:=by
 simp only [jK.dat,bH,au] at h
 obtain ⟨_,_,rfl,⟨rfl,_⟩,_,_,rfl,⟨rfl,_⟩,_,_,rfl,⟨rfl,_⟩,_,_,rfl,⟨rfl,_⟩,rfl⟩:=h
 rfl
theorem gV.eq_iff (a b:gV):(a.key=b.key∧a.value=b.value)↔a=b:=by cases a;cases b;simp
theorem jV.eq_iff (a b:jV):(a.rev=b.rev∧a.move=b.move)↔a=b:=by cases a;cases b;simp
theorem jK.eq_iff (a b:jK):(a.rev=b.rev∧a.key=b.key∧a.before=b.before∧a.had=b.had)↔a=b:=by cases a;cases b;simp
instance:DecidableEq gV:=fun a b=>decidable_of_iff _ (gV.eq_iff a b)
instance:DecidableEq jV:=fun a b=>decidable_of_iff _ (jV.eq_iff a b)
instance:DecidableEq jK:=fun a b=>decidable_of_iff _ (jK.eq_iff a b)
theorem alh (a b:gV):(!([(0,false),(1,false)].all fun o=>mK #[vi a.key,vi a.value] o == mK #[vi b.key,vi b.value] o))=!decide (a=b):=by
 have h:=gV.eq_iff a b;rw [mE]
 simp only [uy,vk]
 rw [← h]
 simp [mK]
theorem alf (a b:jV):(!([(0,false),(1,false)].all fun o=>mK #[vi a.rev,vi a.move] o == mK #[vi b.rev,vi b.move] o))=!decide (a=b):=by
 have h:=jV.eq_iff a b;rw [mE]
 simp only [uy,vk]
 rw [← h]
 simp [mK]
theorem alg (a b:jK):(!([(0,false),(1,false),(2,false),(3,true)].all fun o=>mK #[vi a.rev,vi a.key,vi a.before,.bool a.had] o == mK #[vi b.rev,vi b.key,vi b.before,.bool b.had] o))=!decide (a=b):=by
 have h:=jK.eq_iff a b;rw [mE]
 simp only [uy,vk]
 rw [← h]
 simp [mK]
theorem XP (G:GH) (w0:World) (hG:Hold G w0) (A B:List gV) (v u:ak) (hv:au G (.sl 2 (A.map gV.dat)) v) (hu:au G (.sl 2 (B.map gV.dat)) u) :
  Calls prog 101 #[v,u] w0 (bJ w0 G fun r G'=>r=.bool (decide (A=B))):=by
 obtain ⟨vA,vc,rfl,hc1,hc2,hg⟩:=hv.slice;obtain ⟨uA,uc,rfl,hd1,hd2,hh⟩:=hu.slice;have hml:maxLen=9223372036854775807:=rfl;(iterate 2 rw [bV] at *);refine eN [(0,_),(1,_)] func101 rfl ntmps101 rfl rfl hG ?_;intro a H;refine kP H (SR fun _ K1=>aj K1 rfl (SQ fun _ K2=>SR fun _ K3=>Rm rfl (Rl nW rfl (Rm rfl (Rl nW rfl (Rc rfl (Kz K3 (Cd rfl ?_ ?_)))))))) <;> clear H K1 K3
 ·intro h10 a H
  try have jw:=dT h10
  exact kP H (SR fun _ K4=>aj K4 rfl (LR results101 rfl fun H=>H.rt (aL (fZ fun e=>absurd (aB List.length e) (by omega)).symm)))
 intro h10 a H
 try have jw:=dF h10
 refine kP H (Kc K2 (SQ fun _ K5=>SR fun _ K6=>Rm rfl (Rl nW rfl (Rm rfl (Kz K6 (SB ?_))))));clear H K2 K6;intro a H;skip;refine eH (ι:=Nat × GH) (Tc:=[(0,_),(1,_),(12,_)]) (Lc:=[]) (fun gh=>[(13,vi gh.1)]) (fun gh=>[]) (fun gh=>gh.2) (fun gh=>gh.1≤A.length∧A.take gh.1=B.take gh.1∧(∀ b o,G b=some o→gh.2 b=some o)) (fun gh=>A.length - gh.1) ((0,G)) (by exact (H).sub ⟨rfl,rfl,rfl,rfl,aC⟩) ?_ ?_
 ·exact ⟨by omega,rfl,fun _ _ h=>h⟩
 clear H;intro gh a w hI H;obtain ⟨k,g⟩:=gh;dsimp only at hI H;obtain ⟨hk,hsame,hgm⟩:=hI;dsimp only [lca,aV] at H;refine kP H (SR fun _ K7=>Rc rfl (Kz K7 (SQ fun _ K8=>Cd rfl ?_ ?_))) <;> clear H K7
 ·intro dM a H
  try have jH:=dT dM
  have hk2:k < A.length:=by omega
  have hk3:k < B.length:=by omega
  obtain ⟨b1,o1,cs1,rfl,Bw,oJ,hr1⟩:=hg k A[k].dat (by simp [hk2]);obtain rfl:=U3 hr1;obtain ⟨b2,o2,cs2,rfl,Bz,hrow2,hr2⟩:=hh k B[k].dat (by simp [hk3]);obtain rfl:=U3 hr2;refine kP H (Kc K8 (SQ fun _ K9=>SB (SR fun _ aT=>Rm rfl (aj aT rfl (SQ fun _ bB=>?_)))));clear H K8 aT;intro a H;refine dI hmx [[],[],[0,1],[0,1,2],[],[],[4,5],[4,5,6],(ra 0 8)] [] (by kernel_rfl) [_,_,_,.agg A[k].cells.toArray,_,_,_,.agg B[k].cells.toArray,.bool (!decide (A[k]=B[k]))] H (aG (Z0 rfl (Rm rfl)) (Z0 rfl (Rm rfl)) (Z2 0 16 1 17 rfl (Ri nW oN rfl rfl)) ?_ (aG (Z0 rfl (Rm rfl)) (Z0 rfl (Rm rfl)) (Z2 4 20 5 21 rfl (Ri nW oN rfl rfl)) ?_ (bq ?_ dD))) ?_
  ·refine dN 2 18 rfl rfl fun _ a w G1 hG HT H fin=>?_;refine aW oN (cs:=A[k].cells) H wn rfl rfl (fun j v hj=>H.hp.aF (ay hG (ay hgm (oJ j v hj)))) rfl ?_;clear H;intro a H;exact fin H iJ rfl
  ·refine dN 6 22 rfl rfl fun _ a w G1 hG HT H fin=>?_;refine aW oN (cs:=B[k].cells) H wn rfl rfl (fun j v hj=>H.hp.aF (ay hG (ay hgm (hrow2 j v hj)))) rfl ?_;clear H;intro a H;exact fin H iJ rfl
  ·refine eu 3 19 7 23 rfl rfl fun _ a w G1 hG HT H fin=>?_;refine Va (.inr rfl) agY H wn rfl rfl rfl rfl ?_;clear H;intro a H;exact fin H iJ (aL (alh A[k] B[k]))
  clear H;intro a w G fH H hv;have H:=H.aZ (hv 8 24 rfl rfl) rfl;clear hv;refine aH ⟨rfl,?_⟩;refine bB _ _ ?_;clear bB;refine jX H rfl ?_ ?_
  ·intro bE
   exact kP H (SR fun _ bC=>aj bC rfl (LR results101 rfl fun H=>H.rt (aL (fZ fun e=>absurd bE (by subst e;simp)).symm)))
  intro bE
  try have jP:=dF bE
  have hsm:A[k]=B[k]:=by simpa using bE
  refine kP H (Kc K9 (SC (Rd rfl (Rm rfl ?_))));clear H K9;intro a H;refine aH ?_;refine dK ((k+1,G)) (by exact (H).sub ⟨rfl,rfl,rfl,rfl,aC⟩) ?_ ?_
  ·(try dsimp only);exact ⟨by omega,by rw [iG hk2,iG hk3,hsame,hsm],fun b o h=>fH b o (hgm b o h)⟩
  first|omega|(dsimp only;omega)
 intro dM a H
 try have jH:=dF dM
 refine dW ?_;refine K5 _ _ ?_;clear K5;exact kP H (SR fun _ bK=>aj bK rfl (LR results101 rfl fun H=>H.rt (aL (gW (by rw [iH (by omega),iH (by omega)] at hsame;exact hsame)).symm)))
theorem agI (G:GH) (w0:World) (hG:Hold G w0) (A B:List jV) (v u:ak) (hv:au G (.sl 2 (A.map jV.dat)) v) (hu:au G (.sl 2 (B.map jV.dat)) u) :
  Calls prog 102 #[v,u] w0 (bJ w0 G fun r G'=>r=.bool (decide (A=B))):=by
 obtain ⟨vA,vc,rfl,hc1,hc2,hg⟩:=hv.slice;obtain ⟨uA,uc,rfl,hd1,hd2,hh⟩:=hu.slice;have hml:maxLen=9223372036854775807:=rfl;(iterate 2 rw [bV] at *);refine eN [(0,_),(1,_)] func102 rfl ntmps102 rfl rfl hG ?_;intro a H;refine kP H (SR fun _ K1=>aj K1 rfl (SQ fun _ K2=>SR fun _ K3=>Rm rfl (Rl kS rfl (Rm rfl (Rl kS rfl (Rc rfl (Kz K3 (Cd rfl ?_ ?_)))))))) <;> clear H K1 K3
 ·intro h10 a H
  try have jw:=dT h10
  exact kP H (SR fun _ K4=>aj K4 rfl (LR results102 rfl fun H=>H.rt (aL (fZ fun e=>absurd (aB List.length e) (by omega)).symm)))
 intro h10 a H
 try have jw:=dF h10
 refine kP H (Kc K2 (SQ fun _ K5=>SR fun _ K6=>Rm rfl (Rl kS rfl (Rm rfl (Kz K6 (SB ?_))))));clear H K2 K6;intro a H;skip;refine eH (ι:=Nat × GH) (Tc:=[(0,_),(1,_),(12,_)]) (Lc:=[]) (fun gh=>[(13,vi gh.1)]) (fun gh=>[]) (fun gh=>gh.2) (fun gh=>gh.1≤A.length∧A.take gh.1=B.take gh.1∧(∀ b o,G b=some o→gh.2 b=some o)) (fun gh=>A.length - gh.1) ((0,G)) (by exact (H).sub ⟨rfl,rfl,rfl,rfl,aC⟩) ?_ ?_
 ·exact ⟨by omega,rfl,fun _ _ h=>h⟩
 clear H;intro gh a w hI H;obtain ⟨k,g⟩:=gh;dsimp only at hI H;obtain ⟨hk,hsame,hgm⟩:=hI;dsimp only [lca,aV] at H;refine kP H (SR fun _ K7=>Rc rfl (Kz K7 (SQ fun _ K8=>Cd rfl ?_ ?_))) <;> clear H K7
 ·intro dM a H
  try have jH:=dT dM
  have hk2:k < A.length:=by omega
  have hk3:k < B.length:=by omega
  obtain ⟨b1,o1,cs1,rfl,Bw,oJ,hr1⟩:=hg k A[k].dat (by simp [hk2]);obtain rfl:=QV hr1;obtain ⟨b2,o2,cs2,rfl,Bz,hrow2,hr2⟩:=hh k B[k].dat (by simp [hk3]);obtain rfl:=QV hr2;refine kP H (Kc K8 (SQ fun _ K9=>SB (SR fun _ aT=>Rm rfl (aj aT rfl (SQ fun _ bB=>?_)))));clear H K8 aT;intro a H;refine dI hmx [[],[],[0,1],[0,1,2],[],[],[4,5],[4,5,6],(ra 0 8)] [] (by kernel_rfl) [_,_,_,.agg A[k].cells.toArray,_,_,_,.agg B[k].cells.toArray,.bool (!decide (A[k]=B[k]))] H (aG (Z0 rfl (Rm rfl)) (Z0 rfl (Rm rfl)) (Z2 0 16 1 17 rfl (Ri kS qE rfl rfl)) ?_ (aG (Z0 rfl (Rm rfl)) (Z0 rfl (Rm rfl)) (Z2 4 20 5 21 rfl (Ri kS qE rfl rfl)) ?_ (bq ?_ dD))) ?_
  ·refine dN 2 18 rfl rfl fun _ a w G1 hG HT H fin=>?_;refine aW qE (cs:=A[k].cells) H wn rfl rfl (fun j v hj=>H.hp.aF (ay hG (ay hgm (oJ j v hj)))) rfl ?_;clear H;intro a H;exact fin H iJ rfl
  ·refine dN 6 22 rfl rfl fun _ a w G1 hG HT H fin=>?_;refine aW qE (cs:=B[k].cells) H wn rfl rfl (fun j v hj=>H.hp.aF (ay hG (ay hgm (hrow2 j v hj)))) rfl ?_;clear H;intro a H;exact fin H iJ rfl
  ·refine eu 3 19 7 23 rfl rfl fun _ a w G1 hG HT H fin=>?_;refine Va (.inr rfl) agZ H wn rfl rfl rfl rfl ?_;clear H;intro a H;exact fin H iJ (aL (alf A[k] B[k]))
  clear H;intro a w G fH H hv;have H:=H.aZ (hv 8 24 rfl rfl) rfl;clear hv;refine aH ⟨rfl,?_⟩;refine bB _ _ ?_;clear bB;refine jX H rfl ?_ ?_
  ·intro bE
   exact kP H (SR fun _ bC=>aj bC rfl (LR results102 rfl fun H=>H.rt (aL (fZ fun e=>absurd bE (by subst e;simp)).symm)))
  intro bE
  try have jP:=dF bE
  have hsm:A[k]=B[k]:=by simpa using bE
  refine kP H (Kc K9 (SC (Rd rfl (Rm rfl ?_))));clear H K9;intro a H;refine aH ?_;refine dK ((k+1,G)) (by exact (H).sub ⟨rfl,rfl,rfl,rfl,aC⟩) ?_ ?_
  ·(try dsimp only);exact ⟨by omega,by rw [iG hk2,iG hk3,hsame,hsm],fun b o h=>fH b o (hgm b o h)⟩
  first|omega|(dsimp only;omega)
 intro dM a H
 try have jH:=dF dM
 refine dW ?_;refine K5 _ _ ?_;clear K5;exact kP H (SR fun _ bK=>aj bK rfl (LR results102 rfl fun H=>H.rt (aL (gW (by rw [iH (by omega),iH (by omega)] at hsame;exact hsame)).symm)))
theorem agO (G:GH) (w0:World) (hG:Hold G w0) (A B:List jK) (v u:ak) (hv:au G (.sl 4 (A.map jK.dat)) v) (hu:au G (.sl 4 (B.map jK.dat)) u) :
  Calls prog 103 #[v,u] w0 (bJ w0 G fun r G'=>r=.bool (decide (A=B))):=by
 obtain ⟨vA,vc,rfl,hc1,hc2,hg⟩:=hv.slice;obtain ⟨uA,uc,rfl,hd1,hd2,hh⟩:=hu.slice;have hml:maxLen=9223372036854775807:=rfl;(iterate 2 rw [bV] at *);refine eN [(0,_),(1,_)] func103 rfl ntmps103 rfl rfl hG ?_;intro a H;refine kP H (SR fun _ K1=>aj K1 rfl (SQ fun _ K2=>SR fun _ K3=>Rm rfl (Rl qg rfl (Rm rfl (Rl qg rfl (Rc rfl (Kz K3 (Cd rfl ?_ ?_)))))))) <;> clear H K1 K3
 ·intro h10 a H
  try have jw:=dT h10
  exact kP H (SR fun _ K4=>aj K4 rfl (LR results103 rfl fun H=>H.rt (aL (fZ fun e=>absurd (aB List.length e) (by omega)).symm)))
 intro h10 a H
 try have jw:=dF h10
 refine kP H (Kc K2 (SQ fun _ K5=>SR fun _ K6=>Rm rfl (Rl qg rfl (Rm rfl (Kz K6 (SB ?_))))));clear H K2 K6;intro a H;skip;refine eH (ι:=Nat × GH) (Tc:=[(0,_),(1,_),(12,_)]) (Lc:=[]) (fun gh=>[(13,vi gh.1)]) (fun gh=>[]) (fun gh=>gh.2) (fun gh=>gh.1≤A.length∧A.take gh.1=B.take gh.1∧(∀ b o,G b=some o→gh.2 b=some o)) (fun gh=>A.length - gh.1) ((0,G)) (by exact (H).sub ⟨rfl,rfl,rfl,rfl,aC⟩) ?_ ?_
 ·exact ⟨by omega,rfl,fun _ _ h=>h⟩
 clear H;intro gh a w hI H;obtain ⟨k,g⟩:=gh;dsimp only at hI H;obtain ⟨hk,hsame,hgm⟩:=hI;dsimp only [lca,aV] at H;refine kP H (SR fun _ K7=>Rc rfl (Kz K7 (SQ fun _ K8=>Cd rfl ?_ ?_))) <;> clear H K7
 ·intro dM a H
  try have jH:=dT dM
  have hk2:k < A.length:=by omega
  have hk3:k < B.length:=by omega
  obtain ⟨b1,o1,cs1,rfl,Bw,oJ,hr1⟩:=hg k A[k].dat (by simp [hk2]);obtain rfl:=Ut hr1;obtain ⟨b2,o2,cs2,rfl,Bz,hrow2,hr2⟩:=hh k B[k].dat (by simp [hk3]);obtain rfl:=Ut hr2;refine kP H (Kc K8 (SQ fun _ K9=>SB (SR fun _ aT=>Rm rfl (aj aT rfl (SQ fun _ bB=>?_)))));clear H K8 aT;intro a H;refine dI hmx [[],[],[0,1],[0,1,2],[],[],[4,5],[4,5,6],(ra 0 8)] [] (by kernel_rfl) [_,_,_,.agg A[k].cells.toArray,_,_,_,.agg B[k].cells.toArray,.bool (!decide (A[k]=B[k]))] H (aG (Z0 rfl (Rm rfl)) (Z0 rfl (Rm rfl)) (Z2 0 16 1 17 rfl (Ri qg sV rfl rfl)) ?_ (aG (Z0 rfl (Rm rfl)) (Z0 rfl (Rm rfl)) (Z2 4 20 5 21 rfl (Ri qg sV rfl rfl)) ?_ (bq ?_ dD))) ?_
  ·refine dN 2 18 rfl rfl fun _ a w G1 hG HT H fin=>?_;refine aW sV (cs:=A[k].cells) H wn rfl rfl (fun j v hj=>H.hp.aF (ay hG (ay hgm (oJ j v hj)))) rfl ?_;clear H;intro a H;exact fin H iJ rfl
  ·refine dN 6 22 rfl rfl fun _ a w G1 hG HT H fin=>?_;refine aW sV (cs:=B[k].cells) H wn rfl rfl (fun j v hj=>H.hp.aF (ay hG (ay hgm (hrow2 j v hj)))) rfl ?_;clear H;intro a H;exact fin H iJ rfl
  ·refine eu 3 19 7 23 rfl rfl fun _ a w G1 hG HT H fin=>?_;refine Va (.inr rfl) aha H wn rfl rfl rfl rfl ?_;clear H;intro a H;exact fin H iJ (aL (alg A[k] B[k]))
  clear H;intro a w G fH H hv;have H:=H.aZ (hv 8 24 rfl rfl) rfl;clear hv;refine aH ⟨rfl,?_⟩;refine bB _ _ ?_;clear bB;refine jX H rfl ?_ ?_
  ·intro bE
   exact kP H (SR fun _ bC=>aj bC rfl (LR results103 rfl fun H=>H.rt (aL (fZ fun e=>absurd bE (by subst e;simp)).symm)))
  intro bE
  try have jP:=dF bE
  have hsm:A[k]=B[k]:=by simpa using bE
  refine kP H (Kc K9 (SC (Rd rfl (Rm rfl ?_))));clear H K9;intro a H;refine aH ?_;refine dK ((k+1,G)) (by exact (H).sub ⟨rfl,rfl,rfl,rfl,aC⟩) ?_ ?_
  ·(try dsimp only);exact ⟨by omega,by rw [iG hk2,iG hk3,hsame,hsm],fun b o h=>fH b o (hgm b o h)⟩
  first|omega|(dsimp only;omega)
 intro dM a H
 try have jH:=dF dM
 refine dW ?_;refine K5 _ _ ?_;clear K5;exact kP H (SR fun _ bK=>aj bK rfl (LR results103 rfl fun H=>H.rt (aL (gW (by rw [iH (by omega),iH (by omega)] at hsame;exact hsame)).symm)))
theorem jm.eq_iff (a b:jm):(((a.props=b.props∧a.marks.ins=b.marks.ins)∧a.marks.move=b.marks.move)∧a.marks.bR=b.marks.bR)∧a.marks.layers=b.marks.layers↔a=b:=by
 obtain ⟨p,i,m,d,l⟩:=a;obtain ⟨p2,i2,m2,d2,l2⟩:=b
 simp [and_assoc]
instance:DecidableEq jm:=fun a b=>decidable_of_iff _ (jm.eq_iff a b)
abbrev zD (h:jm) (p d l:ak):ak:=.agg #[p,vi h.marks.ins,vi h.marks.move,d,l]
theorem KW (G:GH) (w0:World) (hG:Hold G w0) (x y:jm) (p d l p2 d2 l2:ak) (hx:ku G x p d l) (hy:ku G y p2 d2 l2) :
  Calls prog 38 #[zD x p d l,zD y p2 d2 l2] w0 (bJ w0 G fun r G'=>r=.bool (decide (x=y))):=by
 obtain ⟨pA,pc,rfl,-,-,-⟩:=hx.props.slice;obtain ⟨dA,dc,rfl,-,-,-⟩:=hx.bR.slice;obtain ⟨lA,lc,rfl,-,-,-⟩:=hx.layers.slice;obtain ⟨El,pc2,rfl,-,-,-⟩:=hy.props.slice;obtain ⟨DF,DI,rfl,-,-,-⟩:=hy.bR.slice;obtain ⟨lA2,lc2,rfl,-,-,-⟩:=hy.layers.slice;have he:=jm.eq_iff x y;refine eN [(0,_),(1,_)] func38 rfl ntmps38 rfl rfl hG ?_;intro a H;refine dw (fun _ K1=>?_);refine eD (cs:=[_,_,_,_,_]) H wn rfl rfl rfl ?_;clear H;intro b2 a w hb2 H;refine eD (cs:=[_,_,_,_,_]) H wn rfl rfl rfl ?_;clear H;intro b3 a w hb3 H;refine kH H (aj K1 rfl (SR fun _ K2=>bg xP qY 1 rfl rfl (bg xP qY 0 rfl rfl ?_)));clear H K1;intro a H;refine s_call Xq H wn rfl (XP _ _ H.ro x.props y.props _ _ hx.props hy.props) rfl ?_;clear H;rintro v9 G9 a w rfl CV H;refine kH H (Rm rfl (Sp 10 rfl ?_ ?_)) <;> clear H
 ·intro h10 a H
  try have jw:=dT h10
  refine kH H (YF oW h10 rfl (YF uL h10 rfl (YO aD 1 h10 rfl (YF oW h10 rfl (YF uL h10 rfl (YO aD 0 h10 rfl (YC h10 rfl (Pt h10 rfl (Rm rfl (Sp 19 rfl ?_ ?_)))))))))) <;> clear H
  ·intro h19 a H
   try have yD:=dT h19
   refine kH H (YF oW h19 rfl (YF wI h19 rfl (YO aD 1 h19 rfl (YF oW h19 rfl (YF wI h19 rfl (YO aD 0 h19 rfl (YC h19 rfl (Pt h19 rfl (Rm rfl (Sp 28 rfl ?_ ?_)))))))))) <;> clear H
   ·intro gQ a H
    try have p28:=dT gQ
    refine kH H (YF oW gQ rfl (YF mJ gQ rfl (YO mP 1 gQ rfl (YF oW gQ rfl (YF mJ gQ rfl (YO mP 0 gQ rfl ?_))))));clear H;intro a H;refine s_call aey H (wg H rfl rfl gQ) rfl (agI _ _ H.ro x.marks.bR y.marks.bR _ _ (hx.bR.mono CV) (hy.bR.mono CV)) rfl ?_;clear H;rintro v35 VQ a w rfl Y8 H;refine kH H (Pt gQ rfl (Rm rfl (Sp 37 rfl ?_ ?_))) <;> clear H
    ·intro h37 a H
     try have p37:=dT h37
     refine kH H (YF oW h37 rfl (YF vG h37 rfl (YO vZ 1 h37 rfl (YF oW h37 rfl (YF vG h37 rfl (YO vZ 0 h37 rfl ?_))))));clear H;intro a H;refine s_call aez H (wg H rfl rfl h37) rfl (agO _ _ H.ro x.marks.layers y.marks.layers _ _ ((hx.layers.mono CV).mono Y8) ((hy.layers.mono CV).mono Y8)) rfl ?_;clear H;rintro v44 VX a w rfl LX H;exact kH H (Pt h37 rfl (aj K2 rfl (LR results38 rfl fun H=>H.rt (aL (by simp_all)))))
    intro h37 a H
    try have p37:=dF h37
    exact kH H (aQ h37 rfl (aN h37 rfl (aN h37 rfl (Pf h37 rfl (aj K2 rfl (LR results38 rfl fun H=>H.rt (aL (by simp_all))))))))
   intro gQ a H
   try have p28:=dF gQ
   exact kH H (aQ gQ rfl (aN gQ rfl (aN gQ rfl (Pf gQ rfl (Rm rfl (aQ rfl rfl (aN rfl rfl (aN rfl rfl (Pf rfl rfl (aj K2 rfl (LR results38 rfl fun H=>H.rt (aL (by simp_all)))))))))))))
  intro h19 a H
  try have yD:=dF h19
  exact kH H (aQ h19 rfl (aN h19 rfl (aN h19 rfl (Pf h19 rfl (Rm rfl (aQ rfl rfl (aN rfl rfl (aN rfl rfl (Pf rfl rfl (Rm rfl (aQ rfl rfl (aN rfl rfl (aN rfl rfl (Pf rfl rfl (aj K2 rfl (LR results38 rfl fun H=>H.rt (aL (by simp_all))))))))))))))))))
 intro h10 a H
 try have jw:=dF h10
 exact kH H (aQ h10 rfl (aN h10 rfl (aN h10 rfl (Pf h10 rfl (Rm rfl (aQ rfl rfl (aN rfl rfl (aN rfl rfl (Pf rfl rfl (Rm rfl (aQ rfl rfl (aN rfl rfl (aN rfl rfl (Pf rfl rfl (Rm rfl (aQ rfl rfl (aN rfl rfl (aN rfl rfl (Pf rfl rfl (aj K2 rfl (LR results38 rfl fun H=>H.rt (aL (by simp_all)))))))))))))))))))))))
end
section
open Go.RowKit
section
variable {P:Program} {N:Nat} {D:List Deferred} {w0 w w':World} {F:Nat→Prop} {G0 G G':GH} {L L' Li Lo:OL} {T:List (Nat × ak)} {a a':Act} {Q:Exit→Act→World→Prop}
theorem St.cast (h:St N D w0 F G0 G L T a w) (e:L=L'):St N D w0 F G0 G L' T a w:=e ▸ h
theorem St.assoc {A B C:OL} (h:St N D w0 F G0 G ((A++B)++C) T a w):St N D w0 F G0 G (A++(B++C)) T a w:=h.cast (nN _ _ _)
theorem St.un {A B C:OL} (h:St N D w0 F G0 G (A++(B++C)) T a w):St N D w0 F G0 G ((A++B)++C) T a w:=h.cast (nN _ _ _).symm
theorem St.UC {A B:OL} (h:St N D w0 F G0 G (A++B) T a w):St N D w0 F G0 G (A++(B++[])) T a w:=h.cast (by rw [Ah])
theorem ES {ι κ:Type} {Lc:OL} {Bl:Operand} {ps:List Nat} {assign body:Code} {gf:FuncId} {caps:List ak} {xs:List AP} {Gi:GH}
  (Lv:Nat→ι→OL) (Lt:Nat→ι→OL) (inv:Nat→ι→GH→Prop) (cx:κ→Code) (Lx Gx:κ→OL) (BM:κ→GH→Prop) (i0:ι)
  (H:St N D w0 F G0 G (Lc++Lv 0 i0++Lt 0 i0) T a w) (hg:ev T Bl=some (.func (.func gf) #[] caps.toArray)) (en:∀ args w,(callFunc gf args).run P w=.ok (.enter gf args) w) (hit:Iter P Gi (.func (.func gf) #[] caps.toArray) xs) (hGi:∀ b o,Gi b=some o→G b=some o)
  (hps:ps.all (Nat.blt · N)=true) (hlen:∀ k args g,yN xs k args g→args.length=ps.length) (hinv:∀ k i (G G':GH),(∀ b o,G b=some o→G' b=some o)→inv k i G→inv k i G') (Tt:∀ x (G G':GH),(∀ b o,G b=some o→G' b=some o)→BM x G→BM x G') (h0:inv 0 i0 G)
  (round:∀ (l:Nat) (yE vB:Obj) (bk:OL) (k:Nat) (args:List ak) (i:ι) (G1:GH) (w1:World) (F1:Nat→Prop) (B1:Code→Exit→Act→World→Prop) (a1:Act),yN xs k args G1→(∀ b o,G b=some o→G1 b=some o)→inv k i G1 →
   (∀ T' G2 L2 a2 w2 c,St N [] w1 F1 G1 G2 ((l,yE) :: L2) T' a2 w2→(∀ w3,St N [] w1 F1 G1 G2 ((l,vB) :: L2) T' a2 w3→WP (some l) P c (B1 c) a2 w3)→Exit.then (fun a2 w2=>∃ w3,(Instr.beginRound l).run P w2=.ok () w3∧c.wpIn (FW (some l)) 0 P (B1 c) a2 w3) (fun _ _ _=>False) .normal a2 w2) →
   (∀ i' T' G2 a2 w2 c,St N [] w1 F1 G1 G2 ((l,vB) :: (Lc++Lv (k+1) i'++(bk++Lt (k+1) i'))) T' a2 w2→inv (k+1) i' G2→B1 c .normal a2 w2) →
   (∀ x T' G2 a2 w2 c,St N [] w1 F1 G1 G2 ((l,vB) :: (Lc++Lx x++(bk++Gx x))) T' a2 w2→BM x G2→(cx x=.ret→B1 c .ret a2 w2)∧∀ n,cx x=.exit n→B1 c (.exit n) a2 w2) →
   St N [] w1 F1 G1 G1 ((l,yE) :: (Lc++Lv k i++(bk++Lt k i))) (uD ps args T) a1 w1 →
   WP (some l) P assign (Exit.then (fun a2 w2=>∃ w3,(Instr.beginRound l).run P w2=.ok () w3∧body.wpIn (FW (some l)) 0 P (B1 body) a2 w3) (fun _ _ _=>False)) a1 w1)
  (hdone:∀ Dk i G1 a1 w1,(∀ b o,G b=some o→G1 b=some o)→inv xs.length i G1→St N ({ target:=.collected Dk,args:=#[] } :: D) w0 F G0 G1 ((Dk,.deferred (some [])) :: (Lc++Lv xs.length i++Lt xs.length i)) T a1 w1→Q .normal a1 w1)
  (hstop:∀ Dk x G1 a1 w1,(∀ b o,G b=some o→G1 b=some o)→BM x G1→St N ({ target:=.collected Dk,args:=#[] } :: D) w0 F G0 G1 ((Dk,.deferred (some [])) :: (Lc++Lx x++Gx x)) T a1 w1→WP none P (cx x) Q a1 w1) :
  WP none P (.rangeFunc Bl ps.toArray assign body) Q a w:=by
 refine acT (J:=fun k g L=>∃ i,L=Lc++Lv k i++Lt k i∧inv k i g) (Jx:=fun c g L=>∃ x,c=cx x∧L=Lc++Lx x++Gx x∧BM x g) H hg en hit hGi hps hlen (fun k G G' L hm ⟨i,e,h⟩=>⟨i,e,hinv k i G G' hm h⟩) (fun c G G' L hm ⟨x,e1,e2,h⟩=>⟨x,e1,e2,Tt x G G' hm h⟩) ⟨i0,rfl,h0⟩ ?_ ?_ ?_
 ·rintro l q bk k args G1 L1 w1 a1 hk hm ⟨i,rfl,hi⟩ H1
  have pm:∀ A B:OL,(bk++(A++B)).Perm (A++(bk++B)):=fun A B=>by
   rw [← nN,← nN]
   exact List.Perm.append_right B vv
  refine round l (q.at .ready none) (q.at .busy none) bk k args i G1 w1 _ (fun _=>roundPost P l _) a1 hk hm hi ?_ ?_ ?_ (H1.perm (List.Perm.cons _ (pm _ _)))
  ·intro T' G2 L2 a2 w2 c H2 h
   exact WS H2 h
  ·intro i' T' G2 a2 w2 c H2 h2
   exact JU none (H2.perm (List.Perm.cons _ (pm _ _).symm)) ⟨_,rfl,i',rfl,h2⟩
  ·intro x T' G2 a2 w2 c H2 h2
   have H3:=H2.perm (List.Perm.cons _ (pm _ _).symm)
   refine ⟨fun e=>?_,fun n e=>?_⟩
   ·exact JU (some .ret) H3 ⟨_,_,rfl,x,e.symm,rfl,h2⟩
   ·exact JU (some (.exit n)) H3 ⟨_,_,rfl,x,e.symm,rfl,h2⟩
 ·rintro Dk G1 L1 a1 w1 hm ⟨i,rfl,hi⟩ H1
  exact hdone Dk i G1 a1 w1 hm hi H1
 ·rintro Dk c G1 L1 a1 w1 hm ⟨x,rfl,rfl,hx⟩ H1
  exact hstop Dk x G1 a1 w1 hm hx H1
def JN (ds:List Nat):List Deferred:=ds.map fun b=>{ target:=.collected b,args:=#[] }
def mV (ds:List Nat):OL:=ds.map fun b=>(b,.deferred (some []))
theorem Nw {r:Option Nat} {ι:Type} {c:Code} {Tc:List (Nat × ak)} {Lc:List (Nat × Obj)} (Dv:ι→List Deferred) (Tv:ι→List (Nat × ak)) (Lv:ι→List (Nat × Obj)) (Gv:ι→GH) (Pr:ι→Prop) (m:ι→Nat) (i0:ι)
  (H:St N (Dv i0) w0 F G0 (Gv i0) (Lc++Lv i0) (Tv i0++Tc) a w) (hP:Pr i0)
  (round:∀ i a w,Pr i→St N (Dv i) w0 F G0 (Gv i) (Lc++Lv i) (Tv i++Tc) a w →
   WP r P c (Exit.then (fun a' w'=>∃ i',(St N (Dv i') w0 F G0 (Gv i') (Lc++Lv i') (Tv i'++Tc) a' w'∧Pr i')∧m i' < m i) Q) a w):WP r P (.loop c) Q a w :=
 WV (fun i a w=>St N (Dv i) w0 F G0 (Gv i) (Lc++Lv i) (Tv i++Tc) a w∧Pr i) m i0 ⟨H,hP⟩ fun i a w hI=>round i a w hI.2 hI.1
theorem Im {ι:Type} {Dv:ι→List Deferred} {Tc:List (Nat × ak)} {Lc:List (Nat × Obj)} {Tv:ι→List (Nat × ak)} {Lv:ι→List (Nat × Obj)} {Gv:ι→GH} {Pr:ι→Prop} {m:ι→Nat} {i:ι} (i':ι)
  (H:St N (Dv i') w0 F G0 (Gv i') (Lc++Lv i') (Tv i'++Tc) a w) (hP:Pr i') (hm:m i' < m i) :
  ∃ i',(St N (Dv i') w0 F G0 (Gv i') (Lc++Lv i') (Tv i'++Tc) a w∧Pr i')∧m i' < m i:=⟨i',⟨H,hP⟩,hm⟩
theorem Ay {fn:Func} {R:Ending→World→Prop} {Lh Lt:OL}:∀ (ds:List Nat) {a:Act} {w:World},St N (JN ds) w0 F G0 G (Lh++(mV ds++Lt)) T a w →
  (∀ a' w',St N [] w0 F G0 G (Lh++Lt) T a' w'→bodyPostM (FW none) 0 P fn R .ret a' w')→bodyPostM (FW none) 0 P fn R .ret a w∧bodyPostM (FW none) 0 P fn R .normal a w
 | [],a,w,H,k=>⟨k a w H,k a w H⟩
 | b :: ds,a,w,H,k=>by
  refine BO (b:=b) (D:=JN ds) H Lh.length (by rw [Ag (dJ _),Nat.sub_self];rfl) fun a' w' H'=>?_
  refine (Ay ds (Lh:=Lh) (Lt:=Lt) (H'.cast ?_) k).1
  rw [List.eraseIdx_append_of_length_le (dJ _),Nat.sub_self];rfl
end
end
section
open Go.RowKit
theorem agi:∀ args w,(callFunc 52 args).run prog w=.ok (.enter 52 args) w:=enters func52 rfl (by kernel_rfl)
theorem Vj:uj prog 64 [(0,1),(1,1)] [.int .i64 0,.int .i64 0]:=⟨by kernel_rfl,by kernel_rfl⟩
theorem wL:dV prog 47 2 2:=⟨by kernel_rfl⟩
def n1 (x:aJ):Nat:=if Dn x=0 then gU x else 0
theorem au.len {G:GH} {sz:Nat} {rows:List (List Dat)} {A:Option Addr} {n c:Nat} (h:au G (.sl sz rows) (.slice A n c)):n=rows.length:=h.cells.1
theorem au.at_ {G:GH} {sz:Nat} {rows:List (List Dat)} {A:Option Addr} {n c:Nat} (h:au G (.sl sz rows) (.slice A n c)):∀ k r,rows[k]?=some r→∃ b o cs,A=some ⟨b,o,none⟩∧cs.length=sz∧(∀ j u,cs[j]?=some u→aF G b (o+k*sz+j)=some u)∧bH G r cs:=by
 obtain ⟨A2,c2,e,_,_,hg⟩:=h.slice
 cases e;exact hg
theorem JW {G:GH} {l:List bS} {A:Option Addr} {k:Nat} (hk:k < l.length) (hg:∀ k r,(l.map bS.dat)[k]?=some r→∃ b o cs,A=some ⟨b,o,none⟩∧cs.length=6∧(∀ j u,cs[j]?=some u→aF G b (o+k*6+j)=some u)∧bH G r cs) :
  ∃ b o pA pn pc dA dn dc yA yn yc cA cn cc,A=some ⟨b,o,none⟩∧(∀ j u,[.slice pA pn pc,vi l[k].head.marks.ins,vi l[k].head.marks.move,.slice dA dn dc,.slice yA yn yc,.slice cA cn cc][j]?=some u→aF G b (o+k*6+j)=some u) ∧
   ku G l[k].head (.slice pA pn pc) (.slice dA dn dc) (.slice yA yn yc)∧au G (.sl 7 (l[k].cells.map bO.dat)) (.slice cA cn cc):=by
 obtain ⟨b,o,cs,h1,h2,h3,h4⟩:=hg k l[k].dat (by simp [hk]);obtain ⟨pA,pn,pc,dA,dn,dc,yA,yn,yc,cA,cn,cc,rfl,h5,h6⟩:=h4.row;exact ⟨b,o,pA,pn,pc,dA,dn,dc,yA,yn,yc,cA,cn,cc,h1,h3,h5,h6⟩
theorem GJ {G:GH} {l:List bO} {A:Option Addr} {k:Nat} (hk:k < l.length) (hg:∀ k r,(l.map bO.dat)[k]?=some r→∃ b o cs,A=some ⟨b,o,none⟩∧cs.length=7∧(∀ j u,cs[j]?=some u→aF G b (o+k*7+j)=some u)∧bH G r cs) :
  ∃ b o pA pn pc dA dn dc yA yn yc fA fn fc,A=some ⟨b,o,none⟩∧(∀ j u,[vi l[k].id,.slice pA pn pc,vi l[k].head.marks.ins,vi l[k].head.marks.move,.slice dA dn dc,.slice yA yn yc,.slice fA fn fc][j]?=some u→aF G b (o+k*7+j)=some u) ∧
   ku G l[k].head (.slice pA pn pc) (.slice dA dn dc) (.slice yA yn yc)∧au G (.sl 11 (l[k].flow.map aJ.dat)) (.slice fA fn fc):=by
 obtain ⟨b,o,cs,h1,h2,h3,h4⟩:=hg k l[k].dat (by simp [hk]);obtain ⟨pA,pn,pc,dA,dn,dc,yA,yn,yc,fA,fn,fc,rfl,h5,h6⟩:=h4.cell;exact ⟨b,o,pA,pn,pc,dA,dn,dc,yA,yn,yc,fA,fn,fc,h1,h3,h5,h6⟩
end
section
open Go.RowKit
theorem KR:∀ args w,(callFunc 38 args).run prog w=.ok (.enter 38 args) w:=enters func38 rfl (by kernel_rfl)
theorem NV:∀ args w,(callFunc 37 args).run prog w=.ok (.enter 37 args) w:=enters func37 rfl (by kernel_rfl)
theorem afz:∀ args w,(callFunc 182 args).run prog w=.ok (.enter 182 args) w:=enters func182 rfl (by kernel_rfl)
theorem Bf:dV prog 47 1 1:=⟨by kernel_rfl⟩
theorem afb:∀ args w,(callFunc 148 args).run prog w=.ok (.enter 148 args) w:=enters func148 rfl (by kernel_rfl)
theorem agG:∀ args w,(callFunc 99 args).run prog w=.ok (.enter 99 args) w:=enters func99 rfl (by kernel_rfl)
theorem afA:∀ args w,(callFunc 183 args).run prog w=.ok (.enter 183 args) w:=enters func183 rfl (by kernel_rfl)
theorem afc:∀ args w,(callFunc 149 args).run prog w=.ok (.enter 149 args) w:=enters func149 rfl (by kernel_rfl)
theorem aex:∀ args w,(callFunc 100 args).run prog w=.ok (.enter 100 args) w:=enters func100 rfl (by kernel_rfl)
theorem bytes_beq (p q:ByteArray):((p.toList == q.toList)=true)↔p=q:=by
 rw [ByteArray.toList_eq,ByteArray.toList_eq,beq_iff_eq];exact ⟨fun e=>Go.WideShapes.bytes_inj e,fun e=>by rw [e]⟩
theorem aJ.eq_iff (a b:aJ):((((((a.kind=b.kind∧a.code=b.code)∧a.id=b.id)∧a.text=b.text)∧a.head=b.head)∧a.flow=b.flow)∧a.rows=b.rows)↔a=b:=by
 cases a;cases b
 simp [aJ.kind,aJ.code,aJ.id,aJ.text,aJ.head,aJ.flow,aJ.rows,and_assoc]
theorem bS.eq_iff (a b:bS):(a.head=b.head∧a.cells=b.cells)↔a=b:=by
 cases a;cases b
 simp [bS.head,bS.cells]
theorem bO.eq_iff (a b:bO):((a.id=b.id∧a.head=b.head)∧a.flow=b.flow)↔a=b:=by
 cases a;cases b
 simp [bO.id,bO.head,bO.flow,and_assoc]
def Ce (fv:ak) (G:GH) (d d':List Dat) (p:Prop):Prop:=∀ (G1:GH) (w1:World) (cs cs':List ak),(∀ b o,G b=some o→G1 b=some o)→Hold G1 w1→bH G1 d cs→bH G1 d' cs' →
 xB prog fv [.agg cs.toArray,.agg cs'.toArray] w1 (bJ w1 G1 fun u G'=>∃ b,u=.bool b∧(b=true↔p))
theorem agK (G:GH) (w0:World) (hG:Hold G w0) (A B:List aJ) (v u fv:ak) (hv:au G (.sl 11 (A.map aJ.dat)) v) (hu:au G (.sl 11 (B.map aJ.dat)) u) (hf:∀ (i:Nat) (h1:i < A.length) (h2:i < B.length),Ce fv G A[i].dat B[i].dat (A[i]=B[i])) :
  Calls prog 99 #[v,u,fv] w0 (bJ w0 G fun r G'=>∃ b,r=.bool b∧(b=true↔A=B)):=by
 obtain ⟨vA,vc,rfl,hc1,hc2,hg⟩:=hv.slice;obtain ⟨uA,uc,rfl,hd1,hd2,hh⟩:=hu.slice;have hml:maxLen=9223372036854775807:=rfl;(iterate 2 rw [bV] at *);refine eN [(0,_),(1,_),(2,_)] func99 rfl ntmps99 rfl rfl hG ?_;intro a H;refine kP H (SR fun _ K1=>aj K1 rfl (SQ fun _ K2=>SR fun _ K3=>Rm rfl (Rl lu rfl (Rm rfl (Rl lu rfl (Rc rfl (Kz K3 (Cd rfl ?_ ?_)))))))) <;> clear H K1 K3
 ·intro dM a H
  try have jH:=dT dM
  exact kP H (SR fun _ K4=>aj K4 rfl (LR results99 rfl fun H=>H.rt ⟨false,rfl,by simp only [mD,false_iff];exact fun e=>absurd (aB List.length e) (by omega)⟩))
 intro dM a H
 try have jH:=dF dM
 refine kP H (Kc K2 (SQ fun _ K5=>SR fun _ K6=>Rm rfl (Rl lu rfl (Rm rfl (Kz K6 (SB ?_))))));clear H K2 K6;intro a H;skip;refine eH (ι:=Nat × GH) (Tc:=[(1,_),(2,_),(15,_),(16,_)]) (Lc:=[]) (fun gh=>[(17,vi gh.1)]) (fun gh=>[]) (fun gh=>gh.2) (fun gh=>gh.1≤A.length∧A.take gh.1=B.take gh.1∧(∀ b o,G b=some o→gh.2 b=some o)) (fun gh=>A.length - gh.1) ((0,G)) (by exact (H).sub ⟨rfl,rfl,rfl,rfl,rfl,aC⟩) ?_ ?_
 ·exact ⟨by omega,rfl,fun _ _ h=>h⟩
 clear H;intro gh a w hI H;obtain ⟨k,g⟩:=gh;dsimp only at hI H;obtain ⟨hk,hsame,hgm⟩:=hI;dsimp only [lca,aV] at H;refine kP H (SR fun _ K7=>Rc rfl (Kz K7 (SQ fun _ K8=>Cd rfl ?_ ?_))) <;> clear H K7
 ·intro h18 a H
  try have pG:=dT h18
  have hk2:k < A.length:=by omega
  have hk3:k < B.length:=by omega
  obtain ⟨b1,o1,cs1,rfl,Bw,oJ,hr1⟩:=hg k A[k].dat (by simp [hk2]);obtain ⟨pA,pn,pc,dA,dn,dc,yA,yn,yc,fA,fn,fc,rA,rn,rc,rfl,-⟩:=hr1.item;obtain ⟨b2,o2,cs2,rfl,Bz,hrow2,hr2⟩:=hh k B[k].dat (by simp [hk3]);obtain ⟨El,FB,pc2,DF,ET,DI,FP,FR,FQ,GQ,GY,GR,rA2,rn2,rc2,rfl,-⟩:=hr2.item;refine kP H (Kc K8 (SQ fun _ K9=>SB (SR fun _ aT=>Rm rfl (Ri lu eZ rfl rfl ?_))));clear H K8;intro a H;refine aW eZ (cs:=_) H wn rfl rfl (fun j v hj=>H.hp.aF (ay hgm (oJ j v hj))) rfl ?_;clear H;intro a H;refine dU eZ H wn rfl ?_;clear H;intro b8 a w vN H;refine kH H (Ra rfl ?_);clear H;intro a H;refine bN eZ 0 (vs:=[_,_,_,_,_,_,_,_,_,_,_]) _ H wn rfl rfl rfl rfl rfl rfl rfl rfl ?_;clear H;intro w H;dsimp only [List.set,setRow] at H;refine aT _ _ ?_;clear aT;refine kP H (SR fun _ bB=>Rm rfl (Rm rfl (Ri lu eZ rfl rfl ?_)));clear H;intro a H;refine aW eZ (cs:=_) H wn rfl rfl (fun j v hj=>H.hp.aF (ay hgm (hrow2 j v hj))) rfl ?_;clear H;intro a H;refine dU eZ H wn rfl ?_;clear H;intro b9 a w rH H;refine bN eZ 0 (vs:=[_,_,_,_,_,_,_,_,_,_,_]) _ H wn rfl rfl rfl rfl rfl rfl rfl rfl ?_;clear H;intro w H;dsimp only [List.set,setRow] at H;refine bB _ _ ?_;clear bB;refine kP H (SR fun _ bC=>Rm rfl ?_);clear H;intro a H;refine aW eZ (cs:=[_,_,_,_,_,_,_,_,_,_,_]) H wn rfl rfl (H.hp.dX 1 rfl rfl) rfl ?_;clear H;intro a H;refine aW eZ (cs:=[_,_,_,_,_,_,_,_,_,_,_]) H wn rfl rfl (H.hp.dX 0 rfl rfl) rfl ?_;clear H;intro a H;refine pI H wn rfl rfl (hf k hk2 hk3 _ _ _ _ hgm H.ro (hr1.mono hgm) (hr2.mono hgm)) rfl ?_;clear H;rintro v29 ug a w ⟨I8,rfl,xX⟩ vQ H;refine kH H (Rn rfl (Kz bC (Cd rfl ?_ ?_))) <;> clear H bC
  ·intro jF a H
   exact kP H (SR fun _ bK=>aj bK rfl (LR results99 rfl fun H=>H.rt ⟨false,rfl,by simp only [mD,false_iff];rintro rfl;exact absurd (xX.2 rfl) (by simpa using jF)⟩))
  intro jF a H
  try have p30:=dF jF
  refine kP H (Kc K9 (SC (Rd rfl (Rm rfl ?_))));clear H K9;intro a H;refine aH ?_;refine dK ((k+1,ug)) (by exact (H.dS (Pl:=[_,_]) (dL:=[]) [] (by decide) rfl).sub ⟨rfl,rfl,rfl,rfl,rfl,aC⟩) ?_ ?_
  ·(try dsimp only);exact ⟨by omega,by rw [iG hk2,iG hk3,hsame,xX.1 (by simpa using jF)],fun b o h=>vQ b o (hgm b o h)⟩
  first|omega|(dsimp only;omega)
 intro h18 a H
 try have pG:=dF h18
 refine dW ?_;refine K5 _ _ ?_;clear K5;exact kP H (SR fun _ bP=>aj bP rfl (LR results99 rfl fun H=>H.rt ⟨true,rfl,by rw [iH (by omega),iH (by omega)] at hsame;simpa using hsame⟩))
theorem agL (G:GH) (w0:World) (hG:Hold G w0) (A B:List bS) (v u fv:ak) (hv:au G (.sl 6 (A.map bS.dat)) v) (hu:au G (.sl 6 (B.map bS.dat)) u) (hf:∀ (i:Nat) (h1:i < A.length) (h2:i < B.length),Ce fv G A[i].dat B[i].dat (A[i]=B[i])) :
  Calls prog 148 #[v,u,fv] w0 (bJ w0 G fun r G'=>∃ b,r=.bool b∧(b=true↔A=B)):=by
 obtain ⟨vA,vc,rfl,hc1,hc2,hg⟩:=hv.slice;obtain ⟨uA,uc,rfl,hd1,hd2,hh⟩:=hu.slice;have hml:maxLen=9223372036854775807:=rfl;(iterate 2 rw [bV] at *);refine eN [(0,_),(1,_),(2,_)] func148 rfl ntmps148 rfl rfl hG ?_;intro a H;refine kP H (SR fun _ K1=>aj K1 rfl (SQ fun _ K2=>SR fun _ K3=>Rm rfl (Rl kr rfl (Rm rfl (Rl kr rfl (Rc rfl (Kz K3 (Cd rfl ?_ ?_)))))))) <;> clear H K1 K3
 ·intro dM a H
  try have jH:=dT dM
  exact kP H (SR fun _ K4=>aj K4 rfl (LR results148 rfl fun H=>H.rt ⟨false,rfl,by simp only [mD,false_iff];exact fun e=>absurd (aB List.length e) (by omega)⟩))
 intro dM a H
 try have jH:=dF dM
 refine kP H (Kc K2 (SQ fun _ K5=>SR fun _ K6=>Rm rfl (Rl kr rfl (Rm rfl (Kz K6 (SB ?_))))));clear H K2 K6;intro a H;skip;refine eH (ι:=Nat × GH) (Tc:=[(1,_),(2,_),(15,_),(16,_)]) (Lc:=[]) (fun gh=>[(17,vi gh.1)]) (fun gh=>[]) (fun gh=>gh.2) (fun gh=>gh.1≤A.length∧A.take gh.1=B.take gh.1∧(∀ b o,G b=some o→gh.2 b=some o)) (fun gh=>A.length - gh.1) ((0,G)) (by exact (H).sub ⟨rfl,rfl,rfl,rfl,rfl,aC⟩) ?_ ?_
 ·exact ⟨by omega,rfl,fun _ _ h=>h⟩
 clear H;intro gh a w hI H;obtain ⟨k,g⟩:=gh;dsimp only at hI H;obtain ⟨hk,hsame,hgm⟩:=hI;dsimp only [lca,aV] at H;refine kP H (SR fun _ K7=>Rc rfl (Kz K7 (SQ fun _ K8=>Cd rfl ?_ ?_))) <;> clear H K7
 ·intro h18 a H
  try have pG:=dT h18
  have hk2:k < A.length:=by omega
  have hk3:k < B.length:=by omega
  obtain ⟨b1,o1,cs1,rfl,Bw,oJ,hr1⟩:=hg k A[k].dat (by simp [hk2]);obtain ⟨pA,pn,pc,dA,dn,dc,yA,yn,yc,fA,fn,fc,rfl,-⟩:=hr1.row;obtain ⟨b2,o2,cs2,rfl,Bz,hrow2,hr2⟩:=hh k B[k].dat (by simp [hk3]);obtain ⟨El,FB,pc2,DF,ET,DI,FP,FR,FQ,GQ,GY,GR,rfl,-⟩:=hr2.row;refine kP H (Kc K8 (SQ fun _ K9=>SB (SR fun _ aT=>Rm rfl (Ri kr iV rfl rfl ?_))));clear H K8;intro a H;refine aW iV (cs:=_) H wn rfl rfl (fun j v hj=>H.hp.aF (ay hgm (oJ j v hj))) rfl ?_;clear H;intro a H;refine dU iV H wn rfl ?_;clear H;intro b8 a w vN H;refine kH H (Ra rfl ?_);clear H;intro a H;refine bN iV 0 (vs:=[_,_,_,_,_,_]) _ H wn rfl rfl rfl rfl rfl rfl rfl rfl ?_;clear H;intro w H;dsimp only [List.set,setRow] at H;refine aT _ _ ?_;clear aT;refine kP H (SR fun _ bB=>Rm rfl (Rm rfl (Ri kr iV rfl rfl ?_)));clear H;intro a H;refine aW iV (cs:=_) H wn rfl rfl (fun j v hj=>H.hp.aF (ay hgm (hrow2 j v hj))) rfl ?_;clear H;intro a H;refine dU iV H wn rfl ?_;clear H;intro b9 a w rH H;refine bN iV 0 (vs:=[_,_,_,_,_,_]) _ H wn rfl rfl rfl rfl rfl rfl rfl rfl ?_;clear H;intro w H;dsimp only [List.set,setRow] at H;refine bB _ _ ?_;clear bB;refine kP H (SR fun _ bC=>Rm rfl ?_);clear H;intro a H;refine aW iV (cs:=[_,_,_,_,_,_]) H wn rfl rfl (H.hp.dX 1 rfl rfl) rfl ?_;clear H;intro a H;refine aW iV (cs:=[_,_,_,_,_,_]) H wn rfl rfl (H.hp.dX 0 rfl rfl) rfl ?_;clear H;intro a H;refine pI H wn rfl rfl (hf k hk2 hk3 _ _ _ _ hgm H.ro (hr1.mono hgm) (hr2.mono hgm)) rfl ?_;clear H;rintro v29 ug a w ⟨I8,rfl,xX⟩ vQ H;refine kH H (Rn rfl (Kz bC (Cd rfl ?_ ?_))) <;> clear H bC
  ·intro jF a H
   exact kP H (SR fun _ bK=>aj bK rfl (LR results148 rfl fun H=>H.rt ⟨false,rfl,by simp only [mD,false_iff];rintro rfl;exact absurd (xX.2 rfl) (by simpa using jF)⟩))
  intro jF a H
  try have p30:=dF jF
  refine kP H (Kc K9 (SC (Rd rfl (Rm rfl ?_))));clear H K9;intro a H;refine aH ?_;refine dK ((k+1,ug)) (by exact (H.dS (Pl:=[_,_]) (dL:=[]) [] (by decide) rfl).sub ⟨rfl,rfl,rfl,rfl,rfl,aC⟩) ?_ ?_
  ·(try dsimp only);exact ⟨by omega,by rw [iG hk2,iG hk3,hsame,xX.1 (by simpa using jF)],fun b o h=>vQ b o (hgm b o h)⟩
  first|omega|(dsimp only;omega)
 intro h18 a H
 try have pG:=dF h18
 refine dW ?_;refine K5 _ _ ?_;clear K5;exact kP H (SR fun _ bP=>aj bP rfl (LR results148 rfl fun H=>H.rt ⟨true,rfl,by rw [iH (by omega),iH (by omega)] at hsame;simpa using hsame⟩))
theorem agJ (G:GH) (w0:World) (hG:Hold G w0) (A B:List bO) (v u fv:ak) (hv:au G (.sl 7 (A.map bO.dat)) v) (hu:au G (.sl 7 (B.map bO.dat)) u) (hf:∀ (i:Nat) (h1:i < A.length) (h2:i < B.length),Ce fv G A[i].dat B[i].dat (A[i]=B[i])) :
  Calls prog 182 #[v,u,fv] w0 (bJ w0 G fun r G'=>∃ b,r=.bool b∧(b=true↔A=B)):=by
 obtain ⟨vA,vc,rfl,hc1,hc2,hg⟩:=hv.slice;obtain ⟨uA,uc,rfl,hd1,hd2,hh⟩:=hu.slice;have hml:maxLen=9223372036854775807:=rfl;(iterate 2 rw [bV] at *);refine eN [(0,_),(1,_),(2,_)] func182 rfl ntmps182 rfl rfl hG ?_;intro a H;refine kP H (SR fun _ K1=>aj K1 rfl (SQ fun _ K2=>SR fun _ K3=>Rm rfl (Rl mh rfl (Rm rfl (Rl mh rfl (Rc rfl (Kz K3 (Cd rfl ?_ ?_)))))))) <;> clear H K1 K3
 ·intro dM a H
  try have jH:=dT dM
  exact kP H (SR fun _ K4=>aj K4 rfl (LR results182 rfl fun H=>H.rt ⟨false,rfl,by simp only [mD,false_iff];exact fun e=>absurd (aB List.length e) (by omega)⟩))
 intro dM a H
 try have jH:=dF dM
 refine kP H (Kc K2 (SQ fun _ K5=>SR fun _ K6=>Rm rfl (Rl mh rfl (Rm rfl (Kz K6 (SB ?_))))));clear H K2 K6;intro a H;skip;refine eH (ι:=Nat × GH) (Tc:=[(1,_),(2,_),(15,_),(16,_)]) (Lc:=[]) (fun gh=>[(17,vi gh.1)]) (fun gh=>[]) (fun gh=>gh.2) (fun gh=>gh.1≤A.length∧A.take gh.1=B.take gh.1∧(∀ b o,G b=some o→gh.2 b=some o)) (fun gh=>A.length - gh.1) ((0,G)) (by exact (H).sub ⟨rfl,rfl,rfl,rfl,rfl,aC⟩) ?_ ?_
 ·exact ⟨by omega,rfl,fun _ _ h=>h⟩
 clear H;intro gh a w hI H;obtain ⟨k,g⟩:=gh;dsimp only at hI H;obtain ⟨hk,hsame,hgm⟩:=hI;dsimp only [lca,aV] at H;refine kP H (SR fun _ K7=>Rc rfl (Kz K7 (SQ fun _ K8=>Cd rfl ?_ ?_))) <;> clear H K7
 ·intro h18 a H
  try have pG:=dT h18
  have hk2:k < A.length:=by omega
  have hk3:k < B.length:=by omega
  obtain ⟨b1,o1,cs1,rfl,Bw,oJ,hr1⟩:=hg k A[k].dat (by simp [hk2]);obtain ⟨pA,pn,pc,dA,dn,dc,yA,yn,yc,fA,fn,fc,rfl,-⟩:=hr1.cell;obtain ⟨b2,o2,cs2,rfl,Bz,hrow2,hr2⟩:=hh k B[k].dat (by simp [hk3]);obtain ⟨El,FB,pc2,DF,ET,DI,FP,FR,FQ,GQ,GY,GR,rfl,-⟩:=hr2.cell;refine kP H (Kc K8 (SQ fun _ K9=>SB (SR fun _ aT=>Rm rfl (Ri mh iQ rfl rfl ?_))));clear H K8;intro a H;refine aW iQ (cs:=_) H wn rfl rfl (fun j v hj=>H.hp.aF (ay hgm (oJ j v hj))) rfl ?_;clear H;intro a H;refine dU iQ H wn rfl ?_;clear H;intro b8 a w vN H;refine kH H (Ra rfl ?_);clear H;intro a H;refine bN iQ 0 (vs:=[_,_,_,_,_,_,_]) _ H wn rfl rfl rfl rfl rfl rfl rfl rfl ?_;clear H;intro w H;dsimp only [List.set,setRow] at H;refine aT _ _ ?_;clear aT;refine kP H (SR fun _ bB=>Rm rfl (Rm rfl (Ri mh iQ rfl rfl ?_)));clear H;intro a H;refine aW iQ (cs:=_) H wn rfl rfl (fun j v hj=>H.hp.aF (ay hgm (hrow2 j v hj))) rfl ?_;clear H;intro a H;refine dU iQ H wn rfl ?_;clear H;intro b9 a w rH H;refine bN iQ 0 (vs:=[_,_,_,_,_,_,_]) _ H wn rfl rfl rfl rfl rfl rfl rfl rfl ?_;clear H;intro w H;dsimp only [List.set,setRow] at H;refine bB _ _ ?_;clear bB;refine kP H (SR fun _ bC=>Rm rfl ?_);clear H;intro a H;refine aW iQ (cs:=[_,_,_,_,_,_,_]) H wn rfl rfl (H.hp.dX 1 rfl rfl) rfl ?_;clear H;intro a H;refine aW iQ (cs:=[_,_,_,_,_,_,_]) H wn rfl rfl (H.hp.dX 0 rfl rfl) rfl ?_;clear H;intro a H;refine pI H wn rfl rfl (hf k hk2 hk3 _ _ _ _ hgm H.ro (hr1.mono hgm) (hr2.mono hgm)) rfl ?_;clear H;rintro v29 ug a w ⟨I8,rfl,xX⟩ vQ H;refine kH H (Rn rfl (Kz bC (Cd rfl ?_ ?_))) <;> clear H bC
  ·intro jF a H
   exact kP H (SR fun _ bK=>aj bK rfl (LR results182 rfl fun H=>H.rt ⟨false,rfl,by simp only [mD,false_iff];rintro rfl;exact absurd (xX.2 rfl) (by simpa using jF)⟩))
  intro jF a H
  try have p30:=dF jF
  refine kP H (Kc K9 (SC (Rd rfl (Rm rfl ?_))));clear H K9;intro a H;refine aH ?_;refine dK ((k+1,ug)) (by exact (H.dS (Pl:=[_,_]) (dL:=[]) [] (by decide) rfl).sub ⟨rfl,rfl,rfl,rfl,rfl,aC⟩) ?_ ?_
  ·(try dsimp only);exact ⟨by omega,by rw [iG hk2,iG hk3,hsame,xX.1 (by simpa using jF)],fun b o h=>vQ b o (hgm b o h)⟩
  first|omega|(dsimp only;omega)
 intro h18 a H
 try have pG:=dF h18
 refine dW ?_;refine K5 _ _ ?_;clear K5;exact kP H (SR fun _ bP=>aj bP rfl (LR results182 rfl fun H=>H.rt ⟨true,rfl,by rw [iH (by omega),iH (by omega)] at hsame;simpa using hsame⟩))
def FY (n:Nat):Prop:=∀ (G:GH) (w0:World),Hold G w0→∀ (A B:List aJ) (v u:ak),au G (.sl 11 (A.map aJ.dat)) v→au G (.sl 11 (B.map aJ.dat)) u→bU A < n →
 Calls prog 37 #[v,u] w0 (bJ w0 G fun r G'=>∃ b,r=.bool b∧(b=true↔A=B))
theorem agH {n:Nat} (ih:FY n) (G:GH) (x y:bO) (hz:bU x.flow < n):Ce (.func (.func 183) #[] #[]) G x.dat y.dat (x=y):=by
 intro G1 w0 cs cs' hm hG h1 h2;refine mF (caps:=[]) afA ?_;obtain ⟨pA,pn,pc,dA,dn,dc,yA,yn,yc,fA,fn,fc,rfl,LQ,hf1⟩:=h1.cell;obtain ⟨El,FB,pc2,DF,ET,DI,FP,FR,FQ,GQ,GY,GR,rfl,HV,hf2⟩:=h2.cell;have he:=bO.eq_iff x y;refine eN [(0,_),(1,_)] func183 rfl ntmps183 rfl rfl hG ?_;intro a H;refine dw (fun _ K1=>?_);refine eD (cs:=[_,_,_,_,_,_,_]) H wn rfl rfl rfl ?_;clear H;intro b2 a w hb2 H;refine eD (cs:=[_,_,_,_,_,_,_]) H wn rfl rfl rfl ?_;clear H;intro b3 a w hb3 H;refine kH H (aj K1 rfl (SR fun _ K2=>bg Cw aD 1 rfl rfl (bg Cw aD 0 rfl rfl (Rc rfl (Rm rfl (Sp 10 rfl ?_ ?_)))))) <;> clear H K1
 ·intro h10 a H
  try have jw:=dT h10
  refine kH H (YF Jm h10 rfl ?_);clear H;intro a H;refine aW lJ (cs:=[_,_,_,_,_]) H (wg H rfl rfl h10) rfl rfl (H.hp.dX 1 rfl rfl) rfl ?_;clear H;intro a H;refine kH H (YF Jm h10 rfl ?_);clear H;intro a H;refine aW lJ (cs:=[_,_,_,_,_]) H (wg H rfl rfl h10) rfl rfl (H.hp.dX 0 rfl rfl) rfl ?_;clear H;intro a H;refine s_call KR H (wg H rfl rfl h10) rfl (KW _ _ H.ro x.head y.head _ _ _ _ _ _ LQ HV) rfl ?_;clear H;rintro vH GH a w rfl CW H;refine kH H (Pt h10 rfl (Rm rfl (Sp 17 rfl ?_ ?_))) <;> clear H
  ·intro bX a H
   try have kQ:=dT bX
   refine kH H (YF Cx bX rfl (YO jy 1 bX rfl (YF Cx bX rfl (YO jy 0 bX rfl ?_))));clear H;intro a H;refine s_call NV H (wg H rfl rfl bX) rfl (ih _ _ H.ro x.flow y.flow _ _ (hf1.mono CW) (hf2.mono CW) hz) rfl ?_;clear H;rintro vF GF a w ⟨bF,rfl,YH⟩ OD H;exact kH H (Pt bX rfl (aj K2 rfl (LR results183 rfl fun H=>H.rt ⟨_,rfl,by rw [← he];simp_all⟩)))
  intro bX a H
  try have kQ:=dF bX
  exact kH H (aQ bX rfl (aN bX rfl (Pf bX rfl (aj K2 rfl (LR results183 rfl fun H=>H.rt ⟨_,rfl,by rw [← he];simp_all⟩)))))
 intro h10 a H
 try have jw:=dF h10
 exact kH H (aQ h10 rfl (aN h10 rfl (Pf h10 rfl (Rm rfl (aQ rfl rfl (aN rfl rfl (Pf rfl rfl (aj K2 rfl (LR results183 rfl fun H=>H.rt ⟨_,rfl,by rw [← he];simp_all⟩)))))))))
theorem agR {n:Nat} (ih:FY n) (hn:n≤4294967297) (G:GH) (x y:bS) (hz:jr x.cells < n):Ce (.func (.func 149) #[] #[]) G x.dat y.dat (x=y):=by
 intro G1 w0 cs cs' hm hG h1 h2;refine mF (caps:=[]) afc ?_;obtain ⟨pA,pn,pc,dA,dn,dc,yA,yn,yc,fA,fn,fc,rfl,LQ,hf1⟩:=h1.row;obtain ⟨El,FB,pc2,DF,ET,DI,FP,FR,FQ,GQ,GY,GR,rfl,HV,hf2⟩:=h2.row;have he:=bS.eq_iff x y;refine eN [(0,_),(1,_)] func149 rfl ntmps149 rfl rfl hG ?_;intro a H;refine dw (fun _ K1=>?_);refine eD (cs:=[_,_,_,_,_,_]) H wn rfl rfl rfl ?_;clear H;intro b2 a w hb2 H;refine eD (cs:=[_,_,_,_,_,_]) H wn rfl rfl rfl ?_;clear H;intro b3 a w hb3 H;refine kH H (aj K1 rfl (SR fun _ K2=>Rf EW rfl ?_));clear H K1;intro a H;refine aW lJ (cs:=[_,_,_,_,_]) H wn rfl rfl (H.hp.dX 1 rfl rfl) rfl ?_;clear H;intro a H;refine kH H (Rf EW rfl ?_);clear H;intro a H;refine aW lJ (cs:=[_,_,_,_,_]) H wn rfl rfl (H.hp.dX 0 rfl rfl) rfl ?_;clear H;intro a H;refine s_call KR H wn rfl (KW _ _ H.ro x.head y.head _ _ _ _ _ _ LQ HV) rfl ?_;clear H;rintro vH GH a w rfl CW H;refine kH H (Rm rfl (Sp 10 rfl ?_ ?_)) <;> clear H
 ·intro h10 a H
  try have jw:=dT h10
  refine kH H (YF uJ h10 rfl (YO uW 1 h10 rfl (YF uJ h10 rfl (YO uW 0 h10 rfl ?_))));clear H;intro a H;refine s_call afz H (wg H rfl rfl h10) rfl (agJ _ _ H.ro x.cells y.cells _ _ _ (hf1.mono CW) (hf2.mono CW) (fun i h1 h2=>agH ih _ _ _ (by have:=Qm h1;omega))) rfl ?_;clear H;rintro vF GF a w ⟨bF,rfl,YH⟩ OD H;exact kH H (Pt h10 rfl (aj K2 rfl (LR results149 rfl fun H=>H.rt ⟨_,rfl,by rw [← he];simp_all⟩)))
 intro h10 a H
 try have jw:=dF h10
 exact kH H (aQ h10 rfl (aN h10 rfl (Pf h10 rfl (aj K2 rfl (LR results149 rfl fun H=>H.rt ⟨_,rfl,by rw [← he];simp_all⟩)))))
theorem agM {n:Nat} (ih:FY n) (hn:n≤4294967297) (G:GH) (w0:World) (hG:Hold G w0) (x y:aJ) (cs cs':List ak) (h1:bH G x.dat cs) (h2:bH G y.dat cs') (hz:bU x.flow < n) (hr:fQ x.rows < n) :
  Calls prog 100 #[.agg cs.toArray,.agg cs'.toArray] w0 (bJ w0 G fun u G'=>∃ b,u=.bool b∧(b=true↔x=y)):=by
 obtain ⟨pA,pn,pc,dA,dn,dc,yA,yn,yc,fA,fn,fc,rA,rn,rc,rfl,LQ,hf1,hw1⟩:=h1.item;obtain ⟨El,FB,pc2,DF,ET,DI,FP,FR,FQ,GQ,GY,GR,rA2,rn2,rc2,rfl,HV,hf2,hw2⟩:=h2.item;have he:=aJ.eq_iff x y;have hb:=bytes_beq x.text y.text;refine eN [(0,_),(1,_)] func100 rfl ntmps100 rfl rfl hG ?_;intro a H;refine dw (fun _ K1=>?_);refine eD (cs:=[_,_,_,_,_,_,_,_,_,_,_]) H wn rfl rfl rfl ?_;clear H;intro b2 a w hb2 H;refine eD (cs:=[_,_,_,_,_,_,_,_,_,_,_]) H wn rfl rfl rfl ?_;clear H;intro b3 a w hb3 H;refine kH H (aj K1 rfl (SR fun _ K2=>bg gJ aD 1 rfl rfl (bg gJ aD 0 rfl rfl (Rc rfl (Rm rfl (Sp 10 rfl ?_ ?_)))))) <;> clear H K1
 ·intro h10 a H
  try have jw:=dT h10
  refine kH H (YF Bf h10 rfl (YO aD 1 h10 rfl (YF Bf h10 rfl (YO aD 0 h10 rfl (YC h10 rfl (Pt h10 rfl (Rm rfl (Sp 17 rfl ?_ ?_)))))))) <;> clear H
  ·intro bX a H
   try have kQ:=dT bX
   refine kH H (YF wL bX rfl (YO aD 1 bX rfl (YF wL bX rfl (YO aD 0 bX rfl (YC bX rfl (Pt bX rfl (Rm rfl (Sp 24 rfl ?_ ?_)))))))) <;> clear H
   ·intro bE a H
    try have jP:=dT bE
    refine kH H (YF tJ bE rfl (YO gD 1 bE rfl (YF tJ bE rfl (YO gD 0 bE rfl ?_))));clear H;intro a H;refine Eo H (wg H rfl rfl bE) rfl rfl rfl ?_;clear H;intro a H;refine kH H (Pt bE rfl (Rm rfl (Sp 31 rfl ?_ ?_))) <;> clear H
    ·intro h31 a H
     try have p31:=dT h31
     refine kH H (YF DL h31 rfl ?_);clear H;intro a H;refine aW lJ (cs:=[_,_,_,_,_]) H (wg H rfl rfl h31) rfl rfl (H.hp.dX 1 rfl rfl) rfl ?_;clear H;intro a H;refine kH H (YF DL h31 rfl ?_);clear H;intro a H;refine aW lJ (cs:=[_,_,_,_,_]) H (wg H rfl rfl h31) rfl rfl (H.hp.dX 0 rfl rfl) rfl ?_;clear H;intro a H;refine s_call KR H (wg H rfl rfl h31) rfl (KW _ _ H.ro x.head y.head _ _ _ _ _ _ LQ HV) rfl ?_;clear H;rintro vH GH a w rfl CW H;refine kH H (Pt h31 rfl (Rm rfl (Sp 38 rfl ?_ ?_))) <;> clear H
     ·intro jC a H
      try have p38:=dT jC
      refine kH H (YF Al jC rfl (YO jy 1 jC rfl (YF Al jC rfl (YO jy 0 jC rfl ?_))));clear H;intro a H;refine s_call NV H (wg H rfl rfl jC) rfl (ih _ _ H.ro x.flow y.flow _ _ (hf1.mono CW) (hf2.mono CW) hz) rfl ?_;clear H;rintro vF GF a w ⟨bF,rfl,YH⟩ OD H;refine kH H (Pt jC rfl (Rm rfl (Sp 45 rfl ?_ ?_))) <;> clear H
      ·intro h45 a H
       try have p45:=dT h45
       refine kH H (YF zk h45 rfl (YO zV 1 h45 rfl (YF zk h45 rfl (YO zV 0 h45 rfl ?_))));clear H;intro a H;refine s_call afb H (wg H rfl rfl h45) rfl (agL _ _ H.ro x.rows y.rows _ _ _ ((hw1.mono CW).mono OD) ((hw2.mono CW).mono OD) (fun i h1 h2=>agR ih hn _ _ _ (by have:=Qo h1;omega))) rfl ?_;clear H;rintro vW GW a w ⟨bW,rfl,hbW⟩ hmW H;exact kH H (Pt h45 rfl (aj K2 rfl (LR results100 rfl fun H=>H.rt ⟨_,rfl,by rw [← he];simp_all⟩)))
      intro h45 a H
      try have p45:=dF h45
      exact kH H (aQ h45 rfl (aN h45 rfl (Pf h45 rfl (aj K2 rfl (LR results100 rfl fun H=>H.rt ⟨_,rfl,by rw [← he];simp_all⟩)))))
     intro jC a H
     try have p38:=dF jC
     exact kH H (aQ jC rfl (aN jC rfl (Pf jC rfl (Rm rfl (aQ rfl rfl (aN rfl rfl (Pf rfl rfl (aj K2 rfl (LR results100 rfl fun H=>H.rt ⟨_,rfl,by rw [← he];simp_all⟩)))))))))
    intro h31 a H
    try have p31:=dF h31
    exact kH H (aQ h31 rfl (aN h31 rfl (Pf h31 rfl (Rm rfl (aQ rfl rfl (aN rfl rfl (Pf rfl rfl (Rm rfl (aQ rfl rfl (aN rfl rfl (Pf rfl rfl (aj K2 rfl (LR results100 rfl fun H=>H.rt ⟨_,rfl,by rw [← he];simp_all⟩)))))))))))))
   intro bE a H
   try have jP:=dF bE
   exact kH H (aQ bE rfl (aN bE rfl (Pf bE rfl (Rm rfl (aQ rfl rfl (aN rfl rfl (Pf rfl rfl (Rm rfl (aQ rfl rfl (aN rfl rfl (Pf rfl rfl (Rm rfl (aQ rfl rfl (aN rfl rfl (Pf rfl rfl (aj K2 rfl (LR results100 rfl fun H=>H.rt ⟨_,rfl,by rw [← he];simp_all⟩)))))))))))))))))
  intro bX a H
  try have kQ:=dF bX
  exact kH H (aQ bX rfl (aN bX rfl (Pf bX rfl (Rm rfl (aQ rfl rfl (aN rfl rfl (Pf rfl rfl (Rm rfl (aQ rfl rfl (aN rfl rfl (Pf rfl rfl (Rm rfl (aQ rfl rfl (aN rfl rfl (Pf rfl rfl (Rm rfl (aQ rfl rfl (aN rfl rfl (Pf rfl rfl (aj K2 rfl (LR results100 rfl fun H=>H.rt ⟨_,rfl,by rw [← he];simp_all⟩)))))))))))))))))))))
 intro h10 a H
 try have jw:=dF h10
 refine kH H (aQ h10 rfl (aN h10 rfl (Pf h10 rfl (Rm rfl (aQ rfl rfl (aN rfl rfl (Pf rfl rfl (Rm rfl (aQ rfl rfl (aN rfl rfl (Pf rfl rfl (Rm rfl (aQ rfl rfl (aN rfl rfl (Pf rfl rfl (Rm rfl (aQ rfl rfl (aN rfl rfl (Pf rfl rfl (Rm rfl (aQ rfl rfl (aN rfl rfl ?_))))))))))))))))))))));clear H;intro a H;exact kH H (Pf rfl rfl (aj K2 rfl (LR results100 rfl fun H=>H.rt ⟨_,rfl,by rw [← he];simp_all⟩)))
theorem agN {n:Nat} (ih:FY n) (hn:n≤4294967297) (G:GH) (x y:aJ) (hz:bU x.flow < n) (hr:fQ x.rows < n):Ce (.func (.func 100) #[] #[]) G x.dat y.dat (x=y):=by
 intro G1 w0 cs cs' hm hG h1 h2;exact mF (caps:=[]) aex (agM ih hn G1 w0 hG x y cs cs' h1 h2 hz hr)
theorem agU {n:Nat} (ih:FY n) (hn:n≤4294967297):FY (n+1):=by
 intro G w0 hG A B v u hv hu hz;refine eN [(0,_),(1,_)] func37 rfl ntmps37 rfl rfl hG ?_;intro a H;refine kP H (SR fun _ K1=>aj K1 rfl (SR fun _ K2=>Rm rfl (Rm rfl ?_)));clear H K1;intro a H;refine s_call agG H wn rfl (agK _ _ H.ro A B _ _ _ hv hu (fun i h1 h2=>agN ih hn _ _ _ (by have:=Qn h1;omega) (by have:=Qn h1;omega))) rfl ?_;clear H;rintro v7 G7 a w ⟨b7,rfl,vM⟩ wU H;exact kH H (aj K2 rfl (LR results37 rfl fun H=>H.rt ⟨_,rfl,vM⟩))
theorem XR:∀ n:Nat,n≤4294967298→FY n
 | 0,_=>fun _ _ _ _ _ _ _ _ _ h=>absurd h (by omega)
 | n+1,hn=>agU (XR n (by omega)) (by omega)
theorem XY (G:GH) (w0:World) (hG:Hold G w0) (A B:List aJ) (v u:ak) (hv:au G (.sl 11 (A.map aJ.dat)) v) (hu:au G (.sl 11 (B.map aJ.dat)) u) (hz:bU A≤4294967296) :
  Calls prog 37 #[v,u] w0 (bJ w0 G fun r G'=>∃ b,r=.bool b∧(b=true↔A=B)):=XR 4294967298 (by omega) G w0 hG A B v u hv hu (by omega)
end
section
open Go.RowKit
def kF (xs:Array ak) (o:Nat × Nat):Option (Int × Int × List UInt8):=match o.2 with
 | 0=>(kE xs o.1).map fun n=>(n,0,[])
 | 1=>match xs[o.1]? with|some (.string s)=>some (0,0,s.toList)|_=>none
 | 2=>match kE xs o.1,kE xs (o.1+1) with|some a,some b=>some (a,b,[])|_,_=>none
 | 3=>match xs[o.1]? with|some (.bool b)=>some (if b=true then 1 else 0,0,[])|_=>none
 | _=>none
def aap (P:Program) (t:TypeId):Bool:=!P.stoodInHeld t && decide ((P.fieldsOf t).toList.map (·.offset)=[0,1]) && ((P.fieldsOf t).toList.all fun f=>decide (f.name ≠ "_") && P.plainKey f.type && O6 (P.underlying f.type)) && decide (P.cellsOf t=2) && (P.info? t).isSome
def Aw (P:Program) (t:TypeId):Nat:=match P.underlying t with|some (.int .i64)=>0|some .string=>1|some (.struct _)=>2|some .bool=>3|_=>4
def UF (P:Program) (t:TypeId):Bool:=match Aw P t with|0=>P.plainKey t|1=>P.plainKey t|2=>aap P t|3=>P.plainKey t|_=>false
structure Kj (P:Program) (t:TypeId) (rP:List (Nat × Nat)):Prop where
 und:P.underlying t=some (.struct (P.fieldsOf t))
 held:P.stoodInHeld t=false
 guard:P.eqGuardType P.depth t=false
 Bj:(P.fieldsOf t).toList.map (fun f=>(f.offset,Aw P f.type))=rP
 ok:(P.fieldsOf t).toList.all (fun f=>decide (f.name ≠ "_") && UF P f.type)=true
theorem anK {P:Program} {t:TypeId} {fs:Array Field} (h:P.underlying t=some (.struct fs)):P.underlying t=some (.struct (P.fieldsOf t)):=by
 rw [h]
 simp [Program.fieldsOf,h]
theorem aaJ {P:Program} (w:World) {t:TypeId} {fs:Array Field} (hu:P.underlying t=some (.struct fs)) {i:TypeInfo} (hi:P.info? t=some i) (hc:P.cellsOf t=2) (xs:Array ak) (off:Nat):(part t xs off).run P w=.ok (.agg (xs.extract off (off+2))) w:=by
 unfold part
 simp [isAgg,eT,run_underlying hu,run_sizeOf w hi,hc]
theorem Oc {xs:Array ak} {o:Nat} {n:Int} (h:kE xs o=some n):xs[o]?=some (.int .i64 n):=by
 unfold kE at h
 split at h
 ·rename_i hx;cases h;exact hx
 ·cases h
theorem Yk {xs:Array ak} {off:Nat} {a b:Int} (h1:kE xs off=some a) (h2:kE xs (off+1)=some b):kE (xs.extract off (off+2)) 0=some a∧kE (xs.extract off (off+2)) 1=some b:=by
 have e1:=Oc h1
 have e2:=Oc h2
 have hl:off+1 < xs.size:=(Array.getElem?_eq_some_iff.1 e2).1
 constructor
 ·unfold kE
  rw [Array.getElem?_extract,av (by omega),nY,e1]
 ·unfold kE
  rw [Array.getElem?_extract,av (by omega),e2]
theorem aaG {P:Program} {w:World} {d:Nat} {xs ys:Array ak}:∀ fs:List Field,fs.all (fun f=>decide (f.name ≠ "_") && UF P f.type)=true →
  (fs.map (fun f=>(f.offset,Aw P f.type))).all (fun o=>(kF xs o).isSome && (kF ys o).isSome)=true→(Op.eqFields (d+2) xs ys fs).run P w=.ok ((fs.map (fun f=>(f.offset,Aw P f.type))).all fun o=>kF xs o == kF ys o) w
 | [],_,_=>by simp [Op.eqFields]
 | f :: fs,h1,h2=>by
  simp only [List.all_cons,oF,qI,iq] at h1 h2
  obtain ⟨⟨hn,hk⟩,h1⟩:=h1
  obtain ⟨⟨hx,hy⟩,h2⟩:=h2
  have ih:=aaG (w:=w) (d:=d) fs (by simpa using h1) h2
  have fin:∀ (x y:ak) (r:Bool),(part f.type xs f.offset).run P w=.ok x w→(part f.type ys f.offset).run P w=.ok y w→(Op.equalIn (d+2) f.type x y).run P w=.ok r w→(kF xs (f.offset,Aw P f.type) == kF ys (f.offset,Aw P f.type))=r →
    (Op.eqFields (d+2) xs ys (f :: fs)).run P w=.ok (((f :: fs).map (fun f=>(f.offset,Aw P f.type))).all fun o=>kF xs o == kF ys o) w:=by
   intro x y r p1 p2 p3 p4
   simp only [Op.eqFields,hn,ne_eq,not_false_eq_true,if_true,eT,p1,p2,nC,p3,iq,List.all_cons,p4]
   cases r with
   | true=>simp [ih,List.all_map]
   | false=>simp
  unfold UF at hk
  rcases hkd:Aw P f.type with _|_|_|_|n
  ·rw [hkd] at hk hx hy
   have hu:P.underlying f.type=some (.int .i64):=by unfold Aw at hkd;split at hkd <;> first|assumption|cases hkd
   obtain ⟨m,hm⟩:∃ m,kE xs f.offset=some m:=by cases h:kE xs f.offset with|some m=>exact ⟨m,rfl⟩|none=>simp [kF,h] at hx
   obtain ⟨m2,hm2⟩:∃ m,kE ys f.offset=some m:=by cases h:kE ys f.offset with|some m=>exact ⟨m,rfl⟩|none=>simp [kF,h] at hy
   refine fin _ _ _ (run_part_plain w hk (Oc hm)) (run_part_plain w hk (Oc hm2)) (run_equalIn_int w (d+1) f.type .i64 .i64 m m2 hu) ?_
   rw [hkd,mE]
   simp [kF,hm,hm2]
  ·rw [hkd] at hk hx hy
   have hu:P.underlying f.type=some .string:=by unfold Aw at hkd;split at hkd <;> first|assumption|cases hkd
   obtain ⟨m,hm⟩:∃ m,xs[f.offset]?=some (.string m):=by
    simp only [kF] at hx
    split at hx
    ·rename_i s hs;exact ⟨s,hs⟩
    ·cases hx
   obtain ⟨m2,hm2⟩:∃ m,ys[f.offset]?=some (.string m):=by
    simp only [kF] at hy
    split at hy
    ·rename_i s hs;exact ⟨s,hs⟩
    ·cases hy
   refine fin _ _ _ (run_part_plain w hk hm) (run_part_plain w hk hm2) (run_equalIn_string w (d+1) f.type m m2 hu) ?_
   rw [hkd,mE]
   simp [kF,hm,hm2]
  ·rw [hkd] at hk hx hy
   obtain ⟨gs,hu⟩:∃ gs,P.underlying f.type=some (.struct gs):=by
    unfold Aw at hkd
    split at hkd
    ·cases hkd
    ·cases hkd
    ·rename_i gs hg;exact ⟨gs,hg⟩
    ·cases hkd
    ·cases hkd
   simp only [aap,oF,uy,qI] at hk
   obtain ⟨⟨⟨⟨k1,k2⟩,k3⟩,k4⟩,k5⟩:=hk
   obtain ⟨inf,Y2⟩:=Option.isSome_iff_exists.1 k5
   obtain ⟨a,b,ha,hb⟩:∃ a b,kE xs f.offset=some a∧kE xs (f.offset+1)=some b:=by
    simp only [kF] at hx
    split at hx
    ·rename_i a b h1 h2;exact ⟨a,b,h1,h2⟩
    ·cases hx
   obtain ⟨a',b',ha',hb'⟩:∃ a b,kE ys f.offset=some a∧kE ys (f.offset+1)=some b:=by
    simp only [kF] at hy
    split at hy
    ·rename_i a b h1 h2;exact ⟨a,b,h1,h2⟩
    ·cases hy
   obtain ⟨e1,e2⟩:=Yk ha hb
   obtain ⟨e3,e4⟩:=Yk ha' hb'
   have hq:=U6 (P:=P) (w:=w) (d:=d) (xs:=xs.extract f.offset (f.offset+2)) (ys:=ys.extract f.offset (f.offset+2)) _ (by simpa only [oU,oF,qI] using k3) (by rw [k2];simp [e1,e2,e3,e4])
   rw [k2] at hq
   refine fin _ _ _ (aaJ w hu Y2 k4 xs f.offset) (aaJ w hu Y2 k4 ys f.offset) ((run_equalIn_struct w (d+1) f.type _ _ (anK hu) k1).trans hq) ?_
   rw [hkd,mE]
   simp [kF,ha,hb,ha',hb',e1,e2,e3,e4]
  ·rw [hkd] at hk hx hy
   have hu:P.underlying f.type=some .bool:=by unfold Aw at hkd;split at hkd <;> first|assumption|cases hkd
   obtain ⟨m,hm⟩:∃ m,xs[f.offset]?=some (.bool m):=by
    simp only [kF] at hx
    split at hx
    ·rename_i s hs;exact ⟨s,hs⟩
    ·cases hx
   obtain ⟨m2,hm2⟩:∃ m,ys[f.offset]?=some (.bool m):=by
    simp only [kF] at hy
    split at hy
    ·rename_i s hs;exact ⟨s,hs⟩
    ·cases hy
   refine fin _ _ _ (run_part_plain w hk hm) (run_part_plain w hk hm2) (run_equalIn_bool' w (d+1) f.type m m2 hu) ?_
   rw [hkd,mE]
   cases m <;> cases m2 <;> simp [kF,hm,hm2]
  ·rw [hkd] at hk;cases hk
section
variable {N:Nat} {D:List Deferred} {w0:World} {F:Nat→Prop} {G0 G:GH} {L:List (Nat × Obj)} {T:List (Nat × ak)}
variable {r:Option Nat} {P:Program} {ops:Array Oper} {Q:Exit→Act→World→Prop} {rest:List Oper} {a:Act} {w:World}
variable {d:Nat} {ty:TypeId} {pos:String} {aU:Array Edge} {g:Option (Nat × Bool)}
theorem FE {t yt:TypeId} {rP:List (Nat × Nat)} (he:Kj P t rP) {x y:Operand} {xs ys:Array ak} (H:St N D w0 F G0 G L T a w) (hw:Region.wanted ⟨some d,.binOp .neq t x y yt,ty,pos,aU,g⟩ (yielded ops a.tmps)=true) (hx:ev T x=some (.agg xs)) (hy:ev T y=some (.agg ys))
  (hi:rP.all (fun o=>(kF xs o).isSome && (kF ys o).isSome)=true) (hd:Nat.blt d N=true)
  (k:∀ a',St N D w0 F G0 G L ((d,.bool (!(rP.all fun o=>kF xs o == kF ys o))) :: T) a' w→WL r P ops Q rest a' w):WL r P ops Q (⟨some d,.binOp .neq t x y yt,ty,pos,aU,g⟩ :: rest) a w:=by
 have h1:=aaG (P:=P) (w:=w) (d:=9997) (xs:=xs) (ys:=ys) _ he.ok (by rw [he.Bj];exact hi)
 rw [he.Bj] at h1
 refine gZ (v:=.bool (!(rP.all fun o=>kF xs o == kF ys o))) (w':=w) hw rfl ?_ (k _ (H.put hd _ H.hp))
 simp only [execOp,H.ev hx,H.ev hy,eT,run_eqGuard_agg w .neq t x y xs ys he.guard,nC,run_neq_struct,run_equalIn_struct w 9999 t xs ys he.und he.held,h1]
 rfl
end
end
section
open Go.RowKit
theorem ny:Ty prog 64 2 16 [.int .i64 0,.int .i64 0] true:=⟨by kernel_rfl,by kernel_rfl⟩
theorem uM:dV prog 38 0 0:=⟨by kernel_rfl⟩
theorem jQ:Ty prog 38 11 232 [.slice none 0 0,.slice none 0 0,.int .i64 0,.int .i64 0,.slice none 0 0,.slice none 0 0,.slice none 0 0,.slice none 0 0,.slice none 0 0,.slice none 0 0,.slice none 0 0] true:=⟨by kernel_rfl,by kernel_rfl⟩
structure jS where
 (f p d y r s1 s2 s3 s4:Option Addr × Nat × Nat)
 (ins move:Int)
abbrev aK (x:Option Addr × Nat × Nat):ak:=.slice x.1 x.2.1 x.2.2
abbrev jS.cells (D:jS):List ak:=[aK D.f,aK D.p,vi D.ins,vi D.move,aK D.d,aK D.y,aK D.r,aK D.s1,aK D.s2,aK D.s3,aK D.s4]
abbrev jS.val (D:jS):ak:=.agg D.cells.toArray
end
section
open Go.RowKit
theorem Q7:∀ args w,(callFunc 154 args).run prog w=.ok (.enter 154 args) w:=enters func154 rfl (by kernel_rfl)
theorem Qb:Ty prog 116 3 16 [.bool false,.bool false,.int .i64 0] true:=⟨by kernel_rfl,by kernel_rfl⟩
theorem anj:uj prog 118 [(0,1),(1,3)] [.slice none 0 0,.bool false,.bool false,.int .i64 0]:=⟨by kernel_rfl,by kernel_rfl⟩
theorem KX:dV prog 116 2 2:=⟨by kernel_rfl⟩
theorem FH:uj prog 116 [(0,1),(1,1),(2,1)] [.bool false,.bool false,.int .i64 0]:=⟨by kernel_rfl,by kernel_rfl⟩
theorem RA:dV prog 116 1 1:=⟨by kernel_rfl⟩
theorem uf:Ty prog 4 1 1 [.bool false] false:=⟨by kernel_rfl,by kernel_rfl⟩
theorem aeE:∀ args w,(callFunc 112 args).run prog w=.ok (.enter 112 args) w:=enters func112 rfl (by kernel_rfl)
theorem Q6:∀ args w,(callFunc 153 args).run prog w=.ok (.enter 153 args) w:=enters func153 rfl (by kernel_rfl)
structure qG where
 id:Int
 items:List aJ
 body:Bool
 note:Bool
 tables:Int
mutual
def IE (note:Bool) (t:Int):aJ→List qG
 | .mk k _ i _ _ f r=>if k=6 then ⟨i,f,false,true,t⟩ :: mI true t f else if k=7 then yJ note t r else []
def mI (note:Bool) (t:Int):List aJ→List qG
 | []=>[]
 | x :: l=>IE note t x++mI note t l
def yJ (note:Bool) (t:Int):List bS→List qG
 | []=>[]
 | r :: l=>IG note t r++yJ note t l
def IG (note:Bool) (t:Int):bS→List qG
 | .mk _ cs=>zX note t cs
def zX (note:Bool) (t:Int):List bO→List qG
 | []=>[]
 | c :: l=>IC note t c++zX note t l
def IC (note:Bool) (t:Int):bO→List qG
 | .mk i _ f=>⟨i,f,false,note,t+1⟩ :: mI note (t+1) f
end
theorem abT (note:Bool) (t:Int) (x:aJ):IE note t x=if x.kind=6 then ⟨x.id,x.flow,false,true,t⟩ :: mI true t x.flow else if x.kind=7 then yJ note t x.rows else []:=by cases x;rw [IE];rfl
theorem abU (note:Bool) (t:Int) (x:bS):IG note t x=zX note t x.cells:=by cases x;rw [IG];rfl
theorem abQ (note:Bool) (t:Int) (x:bO):IC note t x=⟨x.id,x.flow,false,note,t+1⟩ :: mI note (t+1) x.flow:=by cases x;rw [IC];rfl
def DN (a:qG):AP:=fun args g=>∃ v,args=[vi a.id,.agg #[v,.bool a.body,.bool a.note,vi a.tables]]∧au g (.sl 11 (a.items.map aJ.dat)) v
def QD (n:Nat):Prop:=∀ (fv:ak) (Gi:GH) (xs:List AP) (J:Nat→GH→OL→Prop) (Jx:GH→OL→Prop) (G:GH) (L:OL) (w0:World) (j:Nat) (l:List aJ) (id:Int) (body note:Bool) (t:Int) (v:ak),
 (∀ b o,Gi b=some o→G b=some o)→Ew prog fv Gi xs J Jx→F4 J→GA Jx→J j G L→ig G L w0→au G (.sl 11 (l.map aJ.dat)) v→bU l < n→0≤t→t+bU l≤4294967296→(∀ i a,(⟨id,l,body,note,t⟩ :: mI note t l)[i]?=some a→xs[j+i]?=some (DN a)) →
 Calls prog 154 #[vi id,v,.agg #[.bool body,.bool note,vi t],fv] w0 (gy w0 G L fun u G' L'=>∃ b,u=.bool b∧(b=true→J (j+((mI note t l).length+1)) G' L')∧(b=false→Jx G' L'))
set_option maxHeartbeats 1000000 in
theorem aof {n:Nat} (ih:QD n) (hn:n≤4294967296):QD (n+1):=by
 intro fv Gi xs J Jx G L w0 j0 l id body note t v hGi hcb nR hJx hJ0 hO hv hz ht0 ht1 hx0;obtain ⟨A,c,rfl,hc1,hc2,hg⟩:=hv.slice;rw [bV] at *;have hll:=FT l;have TM:Now xs DN J (j0+((mI note t l).length+1)) j0 (⟨id,l,body,note,t⟩ :: mI note t l) G L:=⟨hJ0,hx0,rfl⟩;refine jB (N:=74) (T:=[(0,_),(1,_),(2,_),(3,_)]) func154 rfl ntmps154 rfl rfl hO ?_;intro a H;refine dw (fun _ K1=>?_);refine eD (cs:=[_,_,_]) H wn rfl rfl rfl ?_;clear H;intro b6 a w hb6 H;refine kH H (aj K1 rfl (SQ fun _ K2=>SR fun _ K3=>Rm rfl (Rm rfl (Rm rfl ?_))));clear H K1;intro a H;refine aW Qb (cs:=[_,_,_]) H wn rfl rfl (H.hp.dX 0 rfl rfl) rfl ?_;clear H;intro a H;refine nk anj [_,_,_,_] H wn rfl rfl rfl rfl ?_;clear H;intro a H;refine yG (Li:=[_]) (L:=L) H wn rfl rfl (hcb _ _ _ _ _ ⟨_,TM.head,_,rfl,hv⟩ hGi TM.now (Hp.owns (Li:=[_]) H.hp)) rfl ?_;clear H;rintro v20 EA Kv a w ⟨b20,rfl,hb1,hb2⟩ Eb H;refine kH H (Rn rfl (Kz K3 (Cd rfl ?_ ?_))) <;> clear H K3
 ·intro h21 a H
  try have oM:=dT h21
  refine kP H (SR fun _ K4=>aj K4 rfl ?_);clear H K4;intro a H;refine lr H results154 rfl ?_
  first
   | exact H.hp.cK (L':=Kv) (by repeat (first|exact cO _|apply List.Sublist.cons)) ⟨_,rfl,fun e=>(by cases e),fun _=>hb2 (by simpa using h21)⟩
   | exact H.hp.cK (L':=Kw) (by repeat (first|exact cO _|apply List.Sublist.cons)) ⟨_,rfl,fun e=>(by cases e),fun _=>hb4 (by simpa using kM)⟩
   | exact H.hp.cK (L':=KC) (by repeat (first|exact cO _|apply List.Sublist.cons)) ⟨_,rfl,fun e=>(by cases e),fun _=>hb6 (by simpa using pq)⟩
   | exact H.hp.cK (L':=Lt) (by repeat (first|exact cO _|apply List.Sublist.cons)) ⟨_,rfl,fun _=>(by rw [iw (by omega),mI] at bZ;have:=bZ.len;simp only [List.length_nil,nY] at this;rw [← this];exact bZ.now),fun e=>(by cases e)⟩
 intro h21 a H
 try have oM:=dF h21
 refine kP H (Kc K2 (SQ fun _ K5=>SR fun _ K6=>Rm rfl (Rl lu rfl (Rm rfl (Kz K6 (SB ?_))))));clear H K2 K6;intro a H;skip;refine eH (ι:=Nat × Nat × OL × GH) (Tc:=[(3,_),(6,_),(22,_),(23,_)]) (Lc:=[(_,_)]) (fun gh=>[(24,vi gh.1)]) (fun gh=>[]++gh.2.2.1) (fun gh=>gh.2.2.2) (fun gh=>gh.1≤l.length∧(∀ b o,G b=some o→gh.2.2.2 b=some o)∧Now xs DN J (j0+((mI note t l).length+1)) gh.2.1 (mI note t (l.drop gh.1)) gh.2.2.2 gh.2.2.1) (fun gh=>l.length - gh.1) ((0,j0+1,Kv,EA)) (by exact (H).sub ⟨rfl,rfl,rfl,rfl,rfl,aC⟩) ?_ ?_
 ·exact ⟨by omega,Eb,TM.step (hb1 (by simpa using h21))⟩
 clear H;intro gh a w hI H;obtain ⟨k,j1,Lt,g⟩:=gh;dsimp only at hI H;obtain ⟨hk,hgm,bZ⟩:=hI;dsimp only [lca,aV] at H;refine kP H (SR fun _ K7=>Rc rfl (Kz K7 (SQ fun _ K8=>Cd rfl ?_ ?_))) <;> clear H K7
 ·intro gP a H
  try have p25:=dT gP
  have hk2:k < l.length:=by omega
  obtain ⟨b,o,pA,pn,pc,dA,dn,dc,yA,yn,yc,fA,fn,fc,rA,rn,rc,rfl,hrow,hhd,hfl,hrw⟩:=GX hk2 hg;replace hrow:=fun j u hj=>ay hgm (hrow j u hj);have hrn:=hrw.len;rw [bV] at hrn;subst hrn;have hrs:=IK l[k].rows;have hsz1:=Qn hk2;rw [nD hk2] at bZ
  simp only [mI,abT] at bZ
  refine kP H (Kc K8 (SQ fun _ K9=>SB (SR fun _ aT=>Ri lu eZ rfl rfl ?_)));clear H K8;intro a H;refine aW eZ (cs:=[_,_,_,_,_,_,_,_,_,_,_]) H wn rfl rfl (fun j v hj=>H.hp.aF (hrow j v hj)) rfl ?_;clear H;intro a H;refine dU eZ H wn rfl ?_;clear H;intro b10 a w Hq H;refine bN eZ 0 (vs:=[_,_,_,_,_,_,_,_,_,_,_]) _ H wn rfl rfl rfl rfl rfl rfl rfl rfl ?_;clear H;intro w H;dsimp only [List.set,setRow] at H;refine aT _ _ ?_;clear aT;refine kP H (SR fun _ bB=>bg gJ aD 0 rfl rfl (Kz bB (SB (SR fun _ bC=>Rc rfl (aj bC rfl (Cd rfl ?_ ?_)))))) <;> clear H bB bC
  ·intro jF a H
   try have p30:=dT jF
   rw [av p30] at bZ;refine kP H (SR fun _ bK=>bg wL aD 0 rfl rfl (bg Al jy 0 rfl rfl (bg KX aD 1 rfl rfl ?_)));clear H;intro a H;refine nk FH [_,_,_] H wn rfl rfl rfl rfl ?_;clear H;intro a H;refine kH H (Rm rfl ?_);clear H;intro a H;refine gB Q7 (Li:=[_,_]) (L:=Lt) H wn rfl (ih fv Gi xs J Jx _ _ _ j1 l[k].flow l[k].id false true t _ (fun b o h=>hgm b o (hGi b o h)) hcb nR hJx bZ.now (Hp.owns (Li:=[_,_]) H.hp) (hfl.mono hgm) (by omega) ht0 (by omega) bZ.part) rfl ?_;clear H;rintro v40 VU Kw a w ⟨b40,rfl,hb3,hb4⟩ OB H;refine kH H (Rn rfl (Kz bK (Cd rfl ?_ ?_))) <;> clear H bK
   ·intro kM a H
    try have p41:=dT kM
    refine kP H (SR fun _ bP=>aj bP rfl ?_);clear H bP;intro a H;refine lr H results154 rfl ?_
    first
     | exact H.hp.cK (L':=Kv) (by repeat (first|exact cO _|apply List.Sublist.cons)) ⟨_,rfl,fun e=>(by cases e),fun _=>hb2 (by simpa using h21)⟩
     | exact H.hp.cK (L':=Kw) (by repeat (first|exact cO _|apply List.Sublist.cons)) ⟨_,rfl,fun e=>(by cases e),fun _=>hb4 (by simpa using kM)⟩
     | exact H.hp.cK (L':=KC) (by repeat (first|exact cO _|apply List.Sublist.cons)) ⟨_,rfl,fun e=>(by cases e),fun _=>hb6 (by simpa using pq)⟩
     | exact H.hp.cK (L':=Lt) (by repeat (first|exact cO _|apply List.Sublist.cons)) ⟨_,rfl,fun _=>(by rw [iw (by omega),mI] at bZ;have:=bZ.len;simp only [List.length_nil,nY] at this;rw [← this];exact bZ.now),fun e=>(by cases e)⟩
   intro kM a H
   try have p41:=dF kM
   refine kP H (Kc K9 (SC (Rd rfl (Rm rfl ?_))));clear H K9;intro a H;refine aH ?_;refine dK ((k+1,j1+((mI true t l[k].flow).length+1),Kw,VU)) (by exact (H.dS (Pl:=[_,_]) (dL:=[_]) [1] (by decide) rfl).sub ⟨rfl,rfl,rfl,rfl,rfl,aC⟩) ?_ ?_
   ·(try dsimp only);exact ⟨by omega,fun b o h=>OB b o (hgm b o h),bZ.jump (hb3 (by simpa using kM))⟩
   first|omega|(dsimp only;omega)
  intro jF a H
  try have p30:=dF jF
  refine kP H (SR fun _ dx=>Rc rfl (aj dx rfl (Cd rfl ?_ ?_))) <;> clear H dx
  ·intro Br a H
   try have p42:=dT Br
   rw [ah p30,av p42] at bZ;refine kP H (SR fun _ dP=>bg zk zV 0 rfl rfl (Rl kr rfl (Rm rfl (Kz dP (SB ?_)))));clear H dP;intro a H;skip;refine eH (ι:=Nat × Nat × OL × GH) (Tc:=[(3,_),(6,_),(22,_),(23,_),(24,_),(45,_),(46,_)]) (Lc:=[(_,_),(_,_)]) (fun gh=>[(47,vi gh.1)]) (fun gh=>[]++gh.2.2.1) (fun gh=>gh.2.2.2) (fun gh=>gh.1≤l[k].rows.length∧(∀ b o,G b=some o→gh.2.2.2 b=some o)∧Now xs DN J (j0+((mI note t l).length+1)) gh.2.1 (yJ note t (l[k].rows.drop gh.1)++mI note t (l.drop (k+1))) gh.2.2.2 gh.2.2.1) (fun gh=>l[k].rows.length - gh.1) ((0,j1,Lt,g)) (by exact (H).sub ⟨rfl,rfl,rfl,rfl,rfl,rfl,rfl,rfl,aC⟩) ?_ ?_
   ·exact ⟨by omega,hgm,bZ⟩
   clear H;intro gh a w hI H;obtain ⟨rk,j3,Lt3,g3⟩:=gh;dsimp only at hI H;obtain ⟨Zm,rO,BF⟩:=hI;dsimp only [lca,aV] at H;refine kP H (SR fun _ dB=>Rc rfl (Kz dB (SQ fun _ dY=>Cd rfl ?_ ?_))) <;> clear H dB
   ·intro h48 a H
    try have p48:=dT h48
    have hk3:rk < l[k].rows.length:=by omega
    obtain ⟨b2,o2,qA,qn,qc,eA,en,ec,zA,zn,zc,cA,cn,cc,rfl,hrow,JH,hcl⟩:=JW hk3 hrw.at_;replace hrow:=fun j u hj=>ay rO (hrow j u hj);have hcn:=hcl.len;rw [bV] at hcn;subst hcn;have hsz2:=Qo hk3;have hcs:=IJ l[k].rows[rk].cells;rw [nD hk3] at BF
    simp only [yJ,abU,nN] at BF
    refine kP H (Kc dY (SQ fun _ eP=>SB (SR fun _ dZ=>Ri kr iV rfl rfl ?_)));clear H dY;intro a H;refine aW iV (cs:=[_,_,_,_,_,_]) H wn rfl rfl (fun j v hj=>H.hp.aF (hrow j v hj)) rfl ?_;clear H;intro a H;refine dU iV H wn rfl ?_;clear H;intro b12 a w Fg H;refine bN iV 0 (vs:=[_,_,_,_,_,_]) _ H wn rfl rfl rfl rfl rfl rfl rfl rfl ?_;clear H;intro w H;dsimp only [List.set,setRow] at H;refine dZ _ _ ?_;clear dZ;refine kP H (SR fun _ eU=>bg uJ uW 0 rfl rfl (Rl mh rfl (Rm rfl (Kz eU (SB ?_)))));clear H eU;intro a H;skip;refine eH (ι:=Nat × Nat × OL × GH) (Tc:=[(3,_),(6,_),(22,_),(23,_),(24,_),(45,_),(46,_),(47,_),(52,_),(53,_)]) (Lc:=[(_,_),(_,_),(_,_)]) (fun gh=>[(54,vi gh.1)]) (fun gh=>[]++gh.2.2.1) (fun gh=>gh.2.2.2) (fun gh=>gh.1≤l[k].rows[rk].cells.length∧(∀ b o,G b=some o→gh.2.2.2 b=some o)∧Now xs DN J (j0+((mI note t l).length+1)) gh.2.1 (zX note t (l[k].rows[rk].cells.drop gh.1)++(yJ note t (l[k].rows.drop (rk+1))++mI note t (l.drop (k+1)))) gh.2.2.2 gh.2.2.1) (fun gh=>l[k].rows[rk].cells.length - gh.1) ((0,j3,Lt3,g3)) (by exact (H).sub ⟨rfl,rfl,rfl,rfl,rfl,rfl,rfl,rfl,rfl,rfl,rfl,aC⟩) ?_ ?_
    ·exact ⟨by omega,rO,BF⟩
    clear H;intro gh a w hI H;obtain ⟨ck,j4,Lt4,g4⟩:=gh;dsimp only at hI H;obtain ⟨hck,vO,wV⟩:=hI;dsimp only [lca,aV] at H;refine kP H (SR fun _ fK=>Rc rfl (Kz fK (SQ fun _ gM=>Cd rfl ?_ ?_))) <;> clear H fK
    ·intro nP a H
     try have p55:=dT nP
     have hk4:ck < l[k].rows[rk].cells.length:=by omega
     obtain ⟨b3,o3,sA,sn,sc,tA,tn,tc,uA,un,uc,gA,gn,gc,rfl,hrow,hch,hcf⟩:=GJ hk4 hcl.at_;replace hrow:=fun j u hj=>ay vO (hrow j u hj);have T9:=Qm hk4;rw [nD hk4] at wV
     simp only [zX,abQ,nN] at wV
     refine kP H (Kc gM (SQ fun _ iC=>SB (SR fun _ gu=>Ri mh iQ rfl rfl ?_)));clear H gM;intro a H;refine aW iQ (cs:=[_,_,_,_,_,_,_]) H wn rfl rfl (fun j v hj=>H.hp.aF (hrow j v hj)) rfl ?_;clear H;intro a H;refine dU iQ H wn rfl ?_;clear H;intro b14 a w Yz H;refine bN iQ 0 (vs:=[_,_,_,_,_,_,_]) _ H wn rfl rfl rfl rfl rfl rfl rfl rfl ?_;clear H;intro w H;dsimp only [List.set,setRow] at H;refine gu _ _ ?_;clear gu;refine kP H (SR fun _ iX=>bg Cw aD 0 rfl rfl (bg Cx jy 0 rfl rfl (bg RA uf 3 rfl rfl (bg KX aD 3 rfl rfl (Rd rfl ?_)))));clear H;intro a H;refine nk FH [_,_,_] H wn rfl rfl rfl rfl ?_;clear H;intro a H;refine kH H (Rm rfl ?_);clear H;intro a H;refine gB Q7 (Li:=[_,_,_,_]) (L:=Lt4) H wn rfl (ih fv Gi xs J Jx _ _ _ j4 l[k].rows[rk].cells[ck].flow l[k].rows[rk].cells[ck].id false note (t+1) _ (fun b o h=>vO b o (hGi b o h)) hcb nR hJx wV.now (Hp.owns (Li:=[_,_,_,_]) H.hp) (hcf.mono vO) (by omega) (by omega) (by omega) wV.part) rfl ?_;clear H;rintro v69 G69 KC a w ⟨b69,rfl,hb5,hb6⟩ ajy H;refine kH H (Rn rfl (Kz iX (Cd rfl ?_ ?_))) <;> clear H iX
     ·intro pq a H
      try have p70:=dT pq
      refine kP H (SR fun _ jo=>aj jo rfl ?_);clear H jo;intro a H;refine lr H results154 rfl ?_
      first
       | exact H.hp.cK (L':=Kv) (by repeat (first|exact cO _|apply List.Sublist.cons)) ⟨_,rfl,fun e=>(by cases e),fun _=>hb2 (by simpa using h21)⟩
       | exact H.hp.cK (L':=Kw) (by repeat (first|exact cO _|apply List.Sublist.cons)) ⟨_,rfl,fun e=>(by cases e),fun _=>hb4 (by simpa using kM)⟩
       | exact H.hp.cK (L':=KC) (by repeat (first|exact cO _|apply List.Sublist.cons)) ⟨_,rfl,fun e=>(by cases e),fun _=>hb6 (by simpa using pq)⟩
       | exact H.hp.cK (L':=Lt) (by repeat (first|exact cO _|apply List.Sublist.cons)) ⟨_,rfl,fun _=>(by rw [iw (by omega),mI] at bZ;have:=bZ.len;simp only [List.length_nil,nY] at this;rw [← this];exact bZ.now),fun e=>(by cases e)⟩
     intro pq a H
     try have p70:=dF pq
     refine kP H (Kc iC (SC (Rd rfl (Rm rfl ?_))));clear H iC;intro a H;refine aH ?_;refine dK ((ck+1,j4+((mI note (t+1) l[k].rows[rk].cells[ck].flow).length+1),KC,G69)) (by exact (H.dS (Pl:=[_,_,_,_]) (dL:=[_,_,_]) [1,2,3] (by decide) rfl).sub ⟨rfl,rfl,rfl,rfl,rfl,rfl,rfl,rfl,rfl,rfl,rfl,aC⟩) ?_ ?_
     ·(try dsimp only);exact ⟨by omega,fun b o h=>ajy b o (vO b o h),wV.jump (hb5 (by simpa using pq))⟩
     first|omega|(dsimp only;omega)
    intro nP a H
    try have p55:=dF nP
    refine dW ?_;refine eP _ _ ?_;clear eP;refine kP H (SC (Rd rfl (Rm rfl ?_)));clear H;intro a H;refine aH ?_;refine dK ((rk+1,j4,Lt4,g4)) (by exact (H.dS (Pl:=[_,_,_]) (dL:=[_,_]) [1,2] (by decide) rfl).sub ⟨rfl,rfl,rfl,rfl,rfl,rfl,rfl,rfl,aC⟩) ?_ ?_
    ·(try dsimp only);exact ⟨by omega,vO,by rw [iw (by omega),zX,oH] at wV;exact wV⟩
    first|omega|(dsimp only;omega)
   intro h48 a H
   try have p48:=dF h48
   refine dW ?_;refine K9 _ _ ?_;clear K9;refine kP H (SC (Rd rfl (Rm rfl ?_)));clear H;intro a H;refine aH ?_;refine dK ((k+1,j3,Lt3,g3)) (by exact (H.dS (Pl:=[_,_]) (dL:=[_]) [1] (by decide) rfl).sub ⟨rfl,rfl,rfl,rfl,rfl,aC⟩) ?_ ?_
   ·(try dsimp only);exact ⟨by omega,rO,by rw [iw (by omega),yJ,oH] at BF;exact BF⟩
   first|omega|(dsimp only;omega)
  intro Br a H
  try have p42:=dF Br
  refine kP H (Kc K9 (SC (Rd rfl (Rm rfl ?_))));clear H K9;intro a H;refine aH ?_;refine dK ((k+1,j1,Lt,g)) (by exact (H.dS (Pl:=[_,_]) (dL:=[_]) [1] (by decide) rfl).sub ⟨rfl,rfl,rfl,rfl,rfl,aC⟩) ?_ ?_
  ·(try dsimp only);exact ⟨by omega,hgm,by rw [ah p30,ah p42,oH] at bZ;exact bZ⟩
  first|omega|(dsimp only;omega)
 intro gP a H
 try have p25:=dF gP
 refine dW ?_;refine K5 _ _ ?_;clear K5;refine kP H (SR fun _ iN=>aj iN rfl ?_);clear H iN;intro a H;refine lr H results154 rfl ?_
 first
  | exact H.hp.cK (L':=Kv) (by repeat (first|exact cO _|apply List.Sublist.cons)) ⟨_,rfl,fun e=>(by cases e),fun _=>hb2 (by simpa using h21)⟩
  | exact H.hp.cK (L':=Kw) (by repeat (first|exact cO _|apply List.Sublist.cons)) ⟨_,rfl,fun e=>(by cases e),fun _=>hb4 (by simpa using kM)⟩
  | exact H.hp.cK (L':=KC) (by repeat (first|exact cO _|apply List.Sublist.cons)) ⟨_,rfl,fun e=>(by cases e),fun _=>hb6 (by simpa using pq)⟩
  | exact H.hp.cK (L':=Lt) (by repeat (first|exact cO _|apply List.Sublist.cons)) ⟨_,rfl,fun _=>(by rw [iw (by omega),mI] at bZ;have:=bZ.len;simp only [List.length_nil,nY] at this;rw [← this];exact bZ.now),fun e=>(by cases e)⟩
theorem abX:∀ n:Nat,n≤4294967297→QD n
 | 0,_=>fun _ _ _ _ _ _ _ _ _ _ _ _ _ _ _ _ _ _ _ _ _ _ h=>absurd h (by omega)
 | n+1,hn=>aof (abX n (by omega)) (by omega)
def sD (l:List aJ):List qG:=⟨0,l,true,false,0⟩ :: mI false 0 l
theorem ahD {G:GH} {ba bl bp:Nat} {l:List aJ} {v:ak} {id t:Int} {body note:Bool} (h1:aF G ba 0=some (vi id)) (h2:aF G bl 0=some v) (h3:G bp=some (.cells #[.bool body,.bool note,vi t] 116 (0,0))) (hv:au G (.sl 11 (l.map aJ.dat)) v) (hz:bU l≤4294967296) (ht0:0≤t) (ht1:t+bU l≤4294967296) :
  Iter prog G (.func (.func 153) #[] #[(aM ba 0),(aM bl 0),(aM bp 0)]) ((⟨id,l,body,note,t⟩ :: mI note t l).map DN):=by
 intro J Jx fv G1 L w0 D7 hGi nR hJx hJ hO hcb;refine mF (caps:=[(aM ba 0),(aM bl 0),(aM bp 0)]) Q6 ?_;replace h1:=ay hGi h1;replace h2:=ay hGi h2
 have hrow:∀ j u,[.bool body,.bool note,vi t][j]?=some u→aF G1 bp (0+j)=some u:=by
  intro j u hj;refine ay hGi ?_
  unfold aF;rw [h3];simpa using hj
 refine jB (N:=10) (T:=[(0,_),(1,_),(2,_),(3,_)]) func153 rfl ntmps153 rfl rfl hO ?_;intro a H;refine kP H (SC (Rg aD rfl (by assumption) ?_));clear H;intro a H;refine kH H (Rg jy rfl (by assumption) ?_);clear H;intro a H;refine aW Qb (cs:=[_,_,_]) H wn rfl rfl (fun j v hj=>H.hp.aF (hrow j v hj)) rfl ?_;clear H;intro a H;refine kH H (Rm rfl ?_);clear H;intro a H;refine gB Q7 (Li:=[]) (L:=L) H wn rfl (abX 4294967297 (by omega) _ G1 _ J Jx G1 _ _ 0 l id body note t _ (fun _ _ h=>h) hcb nR hJx hJ (Hp.owns (Li:=[]) H.hp) (hv.mono hGi) (by omega) ht0 ht1 (fun i a h=>by rw [lD,tu,h];rfl)) rfl ?_;clear H;rintro v9 G9 L9 a w ⟨b9,rfl,h1,h2⟩ CV H;refine aH ?_;refine (leave0 H results153 ?_).2
 cases b9
 ·exact H.hp.eB (.inr (h2 rfl))
 exact H.hp.eB (.inl (by simpa using h1 rfl))
theorem ahF (G:GH) (w0:World) (hG:Hold G w0) (l:List aJ) (v:ak) (id t:Int) (body note:Bool) (hv:au G (.sl 11 (l.map aJ.dat)) v) (hz:bU l≤4294967296) (ht0:0≤t) (ht1:t+bU l≤4294967296) :
  Calls prog 112 #[vi id,v,.agg #[.bool body,.bool note,vi t]] w0 (bJ w0 G fun u G'=>∃ ba bl bp,u=.func (.func 153) #[] #[(aM ba 0),(aM bl 0),(aM bp 0)]∧Iter prog G' u ((⟨id,l,body,note,t⟩ :: mI note t l).map DN)):=by
 obtain ⟨A,c,rfl,hc1,hc2,hg⟩:=hv.slice;refine eN [(0,_),(1,_),(2,_)] func112 rfl ntmps112 rfl rfl hG ?_;intro a H;refine dw (fun _ K1=>?_);refine eD (cs:=[_]) H wn rfl rfl rfl ?_;clear H;intro b3 a w hb3 H;refine eD (cs:=[_]) H wn rfl rfl rfl ?_;clear H;intro b4 a w hb4 H;refine eD (cs:=[_,_,_]) H wn rfl rfl rfl ?_;clear H;intro b5 a w hb5 H;refine kH H (aj K1 rfl (SR fun _ K2=>?_));clear H K1;intro a H;refine qX H wn rfl rfl ?_;clear H;intro a H;refine kH H (aj K2 rfl ?_);clear H K2;intro a H;refine dR ?_;obtain ⟨G2,hm2,hb5,H⟩:=H.eG;obtain ⟨G3,tQ,hb4,H⟩:=H.eG;obtain ⟨G4,OA,hb3,H⟩:=H.eG;refine lv H results112 rfl ?_;exact H.rt ⟨b3,b4,b5,rfl,ahD (by unfold aF;rw [hb3];rfl) (ay OA (by unfold aF;rw [hb4];rfl)) (OA _ _ (tQ _ _ hb5)) (hv.mono fun b o h=>OA _ _ (tQ _ _ (hm2 _ _ h))) hz ht0 ht1⟩
theorem aao (G:GH) (w0:World) (hG:Hold G w0) (D:jS) (l:List aJ) (hv:au G (.sl 11 (l.map aJ.dat)) (aK D.f)) (hz:bU l≤4294967296) :
  Calls prog 53 #[D.val] w0 (bJ w0 G fun u G'=>∃ ba bl bp,u=.func (.func 153) #[] #[(aM ba 0),(aM bl 0),(aM bp 0)]∧Iter prog G' u ((sD l).map DN)):=by
 refine eN [(0,_)] func53 rfl ntmps53 rfl rfl hG ?_;intro a H;refine dw (fun _ K1=>?_);refine eD (cs:=[_,_,_,_,_,_,_,_,_,_,_]) H wn rfl rfl rfl ?_;clear H;intro b1 a w hb1 H;refine kH H (aj K1 rfl (SR fun _ K2=>bg uM jy 0 rfl rfl ?_));clear H K1;intro a H;refine nk FH [_,_,_] H wn rfl rfl rfl rfl ?_;clear H;intro a H;refine s_call aeE H wn rfl (ahF _ _ H.ro l _ 0 0 true false hv hz (by omega) (by omega)) rfl ?_;clear H;rintro v6 G6 a w ⟨ba,bl,bp,rfl,hit⟩ LY H;exact kH H (aj K2 rfl (LR results53 rfl fun H=>H.rt ⟨ba,bl,bp,rfl,hit⟩))
end
section
open Go.RowKit
theorem XF:∀ args w,(callFunc 53 args).run prog w=.ok (.enter 53 args) w:=enters func53 rfl (by kernel_rfl)
theorem abx:Ty prog 118 4 40 [.slice none 0 0,.bool false,.bool false,.int .i64 0] true:=⟨by kernel_rfl,by kernel_rfl⟩
theorem ahl:dV prog 118 0 0:=⟨by kernel_rfl⟩
mutual
theorem aoc {note:Bool} {t:Int} {f:qG}:∀ {x:aJ},f∈IE note t x→bU f.items < dQ x.dat
 | .mk k c i tx h fl r,hf=>by
  have h4:=uX (.mk k c i tx h fl r)
  simp only [aJ.text,aJ.head,aJ.flow,aJ.rows] at h4
  rw [IE] at hf
  split at hf
  ·rcases uo.1 hf with rfl|hf
   ·show bU fl < _;omega
   have:=Qj hf;omega
  split at hf
  ·have:=abW hf;omega
  cases hf
theorem Qj {note:Bool} {t:Int} {f:qG}:∀ {l:List aJ},f∈mI note t l→bU f.items≤bU l
 | [],hf=>by simp [mI] at hf
 | x :: l,hf=>by
  rw [mI] at hf
  simp only [bU,iq,fE]
  rcases AZ.1 hf with hf|hf
  ·have:=aoc hf;simp only [bU] at this;omega
  have:=Qj hf;simp only [bU] at this;omega
theorem abW {note:Bool} {t:Int} {f:qG}:∀ {l:List bS},f∈yJ note t l→bU f.items≤fQ l
 | [],hf=>by simp [yJ] at hf
 | x :: l,hf=>by
  rw [yJ] at hf
  simp only [fQ,iq,fE]
  rcases AZ.1 hf with hf|hf
  ·have:=aoe hf;simp only [bU] at *;omega
  have:=abW hf;simp only [bU,fQ] at *;omega
theorem aoe {note:Bool} {t:Int} {f:qG}:∀ {x:bS},f∈IG note t x→bU f.items≤dQ x.dat
 | .mk h cs,hf=>by
  have h4:=Aa (.mk h cs)
  simp only [bS.head,bS.cells] at h4
  rw [IG] at hf;have:=abS hf;omega
theorem abS {note:Bool} {t:Int} {f:qG}:∀ {l:List bO},f∈zX note t l→bU f.items≤jr l
 | [],hf=>by simp [zX] at hf
 | x :: l,hf=>by
  rw [zX] at hf
  simp only [jr,iq,fE]
  rcases AZ.1 hf with hf|hf
  ·have:=aoa hf;simp only [bU] at *;omega
  have:=abS hf;simp only [bU,jr] at *;omega
theorem aoa {note:Bool} {t:Int} {f:qG}:∀ {x:bO},f∈IC note t x→bU f.items≤dQ x.dat
 | .mk i h fl,hf=>by
  have h4:=zZ (.mk i h fl)
  simp only [bO.head,bO.flow] at h4
  rw [IC] at hf
  rcases uo.1 hf with rfl|hf
  ·show bU fl≤_;omega
  have:=Qj hf;omega
end
theorem ahE {f:qG} {l:List aJ} (h:f∈sD l):bU f.items≤bU l:=by
 rcases uo.1 h with rfl|h
 ·exact dJ _
 exact Qj h
theorem ahz {α:Type} {p:α→Bool} {A:List α} {k:Nat} (hk:k < A.length) (h:(A.take k).find? p=none) (hp:p A[k]=false):(A.take (k+1)).find? p=none:=by
 rw [iG hk,List.find?_append,h]
 simp [hp]
theorem Ye {α:Type} {p:α→Bool} {A:List α} {k:Nat} (hk:k < A.length) (h:(A.take k).find? p=none) (hp:p A[k]=true):A.find? p=some A[k]:=by
 have e:A.find? p=(A.take k++A.drop k).find? p:=by rw [List.take_append_drop]
 rw [e,List.find?_append,h,nD hk,List.find?_cons,hp]
 rfl
theorem ahx {α:Type} {p:α→Bool} {A:List α} (h:(A.take A.length).find? p=none):A.find? p=none:=by rwa [List.take_length] at h
theorem Ob {A:List qG} {k:Nat} {args:List ak} {g:GH} (h:yN (A.map DN) k args g):∃ (hk:k < A.length) (a:Option Addr) (n c:Nat),args=[vi A[k].id,.agg #[.slice a n c,.bool A[k].body,.bool A[k].note,vi A[k].tables]]∧au g (.sl 11 (A[k].items.map aJ.dat)) (.slice a n c):=by
 obtain ⟨p,hp,hargs⟩:=h;rw [tu] at hp;obtain ⟨q,hq,rfl⟩:=ql.1 hp;obtain ⟨hk,rfl⟩:=mq.1 hq;obtain ⟨v,h1,h2⟩:=hargs;obtain ⟨a,n,c,rfl⟩:=h2.form;exact ⟨hk,a,n,c,h1,h2⟩
end
section
open Go.RowKit
theorem iW:Ty prog 41 1 8 [.int .i64 0] false:=⟨by kernel_rfl,by kernel_rfl⟩
theorem agX:VN prog 64 [0,1]:=⟨by kernel_rfl,by kernel_rfl,by kernel_rfl,by kernel_rfl,by kernel_rfl⟩
theorem Ie {α:Type} {p:α→Bool} {A:List α} {k:Nat} (hk:k < A.length) (h:(A.take k).findIdx? p=none) (hp:p A[k]=false):(A.take (k+1)).findIdx? p=none:=by
 rw [List.findIdx?_eq_none_iff] at h ⊢;rw [iG hk];intro x hx
 rcases AZ.1 hx with hx|hx
 ·exact h x hx
 rw [xI.1 hx];exact hp
theorem zK {α:Type} {p:α→Bool} {A:List α} {k:Nat} (hk:k < A.length) (h:(A.take k).findIdx? p=none) (hp:p A[k]=true):A.findIdx? p=some k:=by
 have e:A.findIdx? p=(A.take k++A.drop k).findIdx? p:=by rw [List.take_append_drop]
 rw [e,List.findIdx?_append,h,nD hk,List.findIdx?_cons,hp]
 simp;omega
end
section
open Go.RowKit
theorem Vg:I4 prog 124:=⟨by kernel_rfl⟩
theorem adj:prog.cellsOf 5=1:=by kernel_rfl
theorem alk (v:ak) (w:World):(callFunc 156 #[v]).run prog w=.ok (.value v) w:=amj func156 (by kernel_rfl) (by kernel_rfl) (by kernel_rfl) (by kernel_rfl) v w
theorem M5:prog.underlying 121=some (.pointer 124):=by kernel_rfl
theorem abD:prog.underlying 245=some .unsafePointer:=by kernel_rfl
theorem KY:dV prog 124 0 0:=⟨by kernel_rfl⟩
theorem MZ:Ty prog 121 1 8 [.pointer none] false:=⟨by kernel_rfl,by kernel_rfl⟩
theorem aeG:∀ args w,(callFunc 115 args).run prog w=.ok (.enter 115 args) w:=enters func115 rfl (by kernel_rfl)
theorem Iz:prog.underlying 122=some (.slice 5):=by kernel_rfl
theorem Jl:dV prog 124 1 1:=⟨by kernel_rfl⟩
theorem J6:Ty prog 122 1 24 [.slice none 0 0] false:=⟨by kernel_rfl,by kernel_rfl⟩
theorem anJ:prog.underlying 205=some (.pointer 5):=by kernel_rfl
end
section
open Go.RowKit
theorem ahn:dV prog 229 0 0:=⟨by kernel_rfl⟩
theorem afx:∀ args w,(callFunc 180 args).run prog w=.ok (.enter 180 args) w:=enters func180 rfl (by kernel_rfl)
theorem abE:prog.underlying 270=some (.int .u64):=by kernel_rfl
theorem afw:∀ args w,(callFunc 179 args).run prog w=.ok (.enter 179 args) w:=enters func179 rfl (by kernel_rfl)
theorem WX (G:GH) (w0:World) (hG:Hold G w0) (x:kV) (t:Int):xB prog (.func (.func 179) #[] #[]) [.agg x.cells.toArray,vi t] w0 (bJ w0 G fun u G'=>u=vi (DC x.num t)):=by
 refine mF (caps:=[]) afw ?_;refine eN [(0,_),(1,_)] func179 rfl ntmps179 rfl rfl hG ?_;intro a H;refine dw (fun _ K1=>?_);refine eD (cs:=[_,_,_,_,_,_]) H wn rfl rfl rfl ?_;clear H;intro b2 a w hb2 H;refine kH H (aj K1 rfl (SR fun _ K2=>bg ahn aD 0 rfl rfl (Rm rfl ?_)));clear H K1;intro a H;refine s_call afx H wn rfl (adX _ _ H.ro x.num t) rfl ?_;clear H;rintro v8 G8 a w rfl tT H;exact kH H (aj K2 rfl (LR results179 rfl fun H=>H.rt rfl))
theorem acN (G:GH) (w0:World) (hG:Hold G w0) (l:List kV) (t:Int) (v:ak) (hv:au G (.sl 6 (l.map kV.dat)) v) (hl:l.length≤4294967296) :
  Calls prog 178 #[v,vi t,.func (.func 179) #[] #[]] w0 (bJ w0 G fun u G'=>u=.tuple #[vi (Cr (l.map kV.num) t),.bool (Fe (l.map kV.num) t)]):=by
 obtain ⟨A,c,rfl,hc1,hc2,-⟩:=hv.slice;rw [bV] at *;obtain ⟨p,hp⟩:∃ p:Nat→Bool,p=fun h=>decide (¬ (l.map kV.num).getD h 0 < t):=⟨_,rfl⟩
 have hbs:Cr (l.map kV.num) t=BK p l.length 0 l.length:=by rw [hp,Cr,bV]
 refine eN [(0,_),(1,_),(2,_)] func178 rfl ntmps178 rfl rfl hG ?_;intro a H;refine kP H (SR fun _ K1=>Ra rfl (aj K1 rfl (SR fun _ K2=>Rm rfl (Rl M6 rfl (aj K2 rfl (SR fun _ K3=>Rm rfl (Ra rfl (aj K3 rfl (SQ fun _ K4=>SB ?_)))))))));clear H K1 K2 K3;intro a H;skip;refine eH (ι:=Nat × Nat × Nat × GH) (Tc:=[(0,_),(1,_),(2,_),(8,_)]) (Lc:=[]) (fun gh=>[(9,vi gh.1),(10,vi gh.2.1)]) (fun gh=>[]) (fun gh=>gh.2.2.2) (fun gh=>gh.1≤gh.2.1∧gh.2.1≤l.length∧gh.2.1 - gh.1≤gh.2.2.1∧BK p gh.2.2.1 gh.1 gh.2.1=Cr (l.map kV.num) t∧(∀ b o,G b=some o→gh.2.2.2 b=some o)) (fun gh=>gh.2.1 - gh.1) ((0,l.length,l.length,G)) (by exact (H).sub ⟨rfl,rfl,rfl,rfl,rfl,rfl,aC⟩) ?_ ?_
 ·exact ⟨iF _,dJ _,Nat.sub_le _ _,hbs.symm,fun _ _ h=>h⟩
 clear H;intro gh a w hI H;obtain ⟨i,j,f,g⟩:=gh;dsimp only at hI H;obtain ⟨hij,hj,hf1,heq,hgm⟩:=hI;have Ib:=hv.mono hgm;dsimp only [lca,aV] at H;refine kP H (SQ fun _ K5=>SR fun _ K6=>Rm rfl (Rm rfl (Rc rfl (Kz K6 (Cd rfl ?_ ?_))))) <;> clear H K6
 ·intro bX a H
  try have kQ:=dT bX
  have hlt:i < j:=by omega
  rw [ake hf1 hlt] at heq;obtain ⟨m,hm⟩:∃ m,m=(i+j) / 2:=⟨_,rfl⟩;rw [← hm] at heq
  have hml:m < l.length:=by omega
  obtain ⟨b,o,rfl,hrow⟩:=Us Ib hml
  have hpm:p m=decide (¬ l[m].num < t):=by rw [hp];dsimp only;rw [getD_map hml]
  rw [hpm] at heq;refine kP H (Kc K5 (SB (SR fun _ K7=>Rm rfl (Rm rfl (Rd rfl ?_)))));clear H K5;intro a H;rw [show ((i:Int)+(j:Int))=((i+j:Nat):Int) by push_cast;rfl] at H;refine JZ ((i+j:Nat):Int) abE qh H wn rfl (akf (by omega) (by omega)) rfl ?_;clear H;intro a H;refine aaS _ H wn rfl rfl rfl (by decide) rfl ?_;clear H;intro a H;rw [akd,← hm] at H;refine JZ (m:Int) qh abE H wn rfl (JK (by omega) (by omega)) rfl ?_;clear H;intro a H;refine kH H (aj K7 rfl (SR fun _ K8=>Rm rfl (Rm rfl (Rm rfl (Ri M6 vY rfl rfl ?_)))));clear H K7;intro a H;refine aW vY (cs:=[_,_,_,_,_,_]) H wn rfl rfl (fun j v hj=>H.hp.aF (hrow j v hj)) rfl ?_;clear H;intro a H;refine kH H (Rm rfl ?_);clear H;intro a H;refine pI H wn rfl rfl (WX _ _ H.ro l[m] t) rfl ?_;clear H;rintro v30 Dq a w rfl zF H;refine kH H (Rc rfl (Kz K8 (Cd rfl ?_ ?_))) <;> clear H K8
  ·intro h31 a H
   try have p31:=dT h31
   rw [ah (by simpa using Xe.1 p31)] at heq;refine kP H (SC (Rm rfl (Rd rfl (Ra rfl ?_))));clear H;intro a H;refine aH ?_;refine dK ((m+1,j,f - 1,Dq)) (by exact (H).sub ⟨rfl,rfl,rfl,rfl,rfl,rfl,aC⟩) ?_ ?_
   ·(try dsimp only);exact ⟨by omega,hj,by omega,heq,fun b o h=>zF b o (hgm b o h)⟩
   first|omega|(dsimp only;omega)
  intro h31 a H
  try have p31:=dF h31
  rw [av (by simpa using fun h=>p31 (Xe.2 h))] at heq;refine kP H (SC (Rm rfl (Ra rfl ?_)));clear H;intro a H;refine aH ?_;refine dK ((i,m,f - 1,Dq)) (by exact (H).sub ⟨rfl,rfl,rfl,rfl,rfl,rfl,aC⟩) ?_ ?_
  ·(try dsimp only);exact ⟨by omega,by omega,by omega,heq,fun b o h=>zF b o (hgm b o h)⟩
  first|omega|(dsimp only;omega)
 intro bX a H
 try have kQ:=dF bX
 refine dW ?_;refine K4 _ _ ?_;clear K4;refine aS (fun _ K9=>?_);rw [akc (by omega)] at heq;refine kP H (SC (Rm rfl (Rm rfl (Rm rfl (Rc rfl (Rm rfl (Sp 39 rfl ?_ ?_))))))) <;> clear H
 ·intro lT a H
  try have p39:=dT lT
  have hil:i < l.length:=by omega
  obtain ⟨b,o,rfl,hrow⟩:=Us Ib hil;refine kH H (YM lT rfl (YM lT rfl (YM lT rfl (YI M6 vY lT rfl rfl ?_))));clear H;intro a H;refine aW vY (cs:=[_,_,_,_,_,_]) H (wg H rfl rfl lT) rfl rfl (fun j v hj=>H.hp.aF (hrow j v hj)) rfl ?_;clear H;intro a H;refine kH H (YM lT rfl ?_);clear H;intro a H;refine pI H (wg H rfl rfl lT) rfl rfl (WX _ _ H.ro l[i] t) rfl ?_;clear H;rintro v46 Qr a w rfl Ed H;refine kH H (YC lT rfl (Pt lT rfl (Ra rfl (aO K9 rfl ?_))));clear H K9;intro a H;refine dR ?_;refine (iB H results178 (.cons (bM H rfl) (.cons (bM H rfl) .nil)) ?_).1;exact H.rt (by rw [ain heq.symm (by rw [bV];omega),← heq];simp)
 intro lT a H
 try have p39:=dF lT
 refine kH H (aQ lT rfl (aQ lT rfl (aN lT rfl (Pf lT rfl (Ra rfl (aO K9 rfl ?_))))));clear H K9;intro a H;refine dR ?_;refine (iB H results178 (.cons (bM H rfl) (.cons (bM H rfl) .nil)) ?_).1;exact H.rt (by rw [aip heq.symm (by rw [bV];omega),← heq])
end
section
open Go.RowKit
theorem Ru:∀ args w,(callFunc 60 args).run prog w=.ok (.enter 60 args) w:=enters func60 rfl (by kernel_rfl)
theorem NR:∀ args w,(callFunc 116 args).run prog w=.ok (.enter 116 args) w:=enters func116 rfl (by kernel_rfl)
theorem J8:Ty prog 206 1 8 [.nilFunc] false:=⟨by kernel_rfl,by kernel_rfl⟩
theorem Xr:∀ args w,(callFunc 117 args).run prog w=.ok (.enter 117 args) w:=enters func117 rfl (by kernel_rfl)
theorem Q8:∀ args w,(callFunc 157 args).run prog w=.ok (.enter 157 args) w:=enters func157 rfl (by kernel_rfl)
def wC (x:aJ):Nat:=if x.kind=1 then xL x.text else 1
mutual
def UY (flow at_:Int):aJ→List ((Int × Int) × aJ)
 | .mk k c i t h f r=>if k=6 then ((flow,at_),.mk k c i t h f r) :: nK i 0 f else if k=7 then ((flow,at_),.mk k c i t h f r) :: ML r else []
/-- The notes and tables of a flow, and those in them, with their positions. -/
def nK (flow:Int):Int→List aJ→List ((Int × Int) × aJ)
 | _,[]=>[]
 | at_,x :: l=>UY flow at_ x++nK flow (at_+wC x) l
def ML:List bS→List ((Int × Int) × aJ)
 | []=>[]
 | r :: l=>UZ r++ML l
def UZ:bS→List ((Int × Int) × aJ)
 | .mk _ cs=>mW cs
def mW:List bO→List ((Int × Int) × aJ)
 | []=>[]
 | c :: l=>PG c++mW l
def PG:bO→List ((Int × Int) × aJ)
 | .mk i _ f=>nK i 0 f
end
def kZ (x:aJ):List bO:=if x.kind=7 then x.rows.flatMap bS.cells else [.mk x.id ⟨[],⟨0,0,[],[]⟩⟩ x.flow]
theorem aaw (x:bO):PG x=nK x.id 0 x.flow:=by cases x;simp [PG,bO.id,bO.flow]
theorem alC (x:bS):UZ x=mW x.cells:=by cases x;simp [UZ,bS.cells]
theorem aax:∀ a b:List bO,mW (a++b)=mW a++mW b
 | [],b=>by simp [mW]
 | x :: a,b=>by simp [mW,aax a b]
theorem aaz:∀ l:List bS,ML l=mW (l.flatMap bS.cells)
 | []=>by simp [ML,mW]
 | x :: l=>by simp [ML,alC,aax,aaz l]
theorem JR (flow at_:Int) (x:aJ):UY flow at_ x=if x.kind=6∨x.kind=7 then ((flow,at_),x) :: mW (kZ x) else []:=by
 obtain ⟨k,c,i,t,h,f,r⟩:=x
 simp only [UY,kZ,aJ.kind,aJ.rows,aJ.id,aJ.flow]
 by_cases h6:k=6
 ·subst h6;simp [mW,PG]
 by_cases h7:k=7
 ·subst h7;simp [aaz]
 simp [h6,h7]
theorem ZR {x:aJ} {c:bO} (h:c∈kZ x):bU c.flow < dQ x.dat:=by
 have h4:=uX x
 unfold kZ at h
 split at h
 ·obtain ⟨r,hr,hc⟩:=List.mem_flatMap.1 h;have h1:=VF hr;have h2:=VD hc;have h3:=Aa r;have h5:=zZ c
  omega
 rw [xI.1 h];show bU x.flow < _;omega
def AB (a:(Int × Int) × aJ):AP:=fun args g=>∃ cs,args=[.agg #[vi a.1.1,vi a.1.2],.agg cs.toArray]∧bH g a.2.dat cs
theorem Dc {A:List ((Int × Int) × aJ)} {k:Nat} {args:List ak} {g:GH} (h:yN (A.map AB) k args g):∃ (hk:k < A.length) (cs:List ak),args=[.agg #[vi A[k].1.1,vi A[k].1.2],.agg cs.toArray]∧bH g A[k].2.dat cs:=by
 obtain ⟨p,hp,hargs⟩:=h;rw [tu] at hp;obtain ⟨q,hq,rfl⟩:=ql.1 hp;obtain ⟨hk,rfl⟩:=mq.1 hq;exact ⟨hk,hargs⟩
def IZ (n:Nat):Prop:=∀ (G:GH) (l:List aJ) (id:Int) (bl bi:Nat) (v:ak),bU l < n→aF G bl 0=some v→aF G bi 0=some (vi id)→au G (.sl 11 (l.map aJ.dat)) v →
 Iter prog G (.func (.func 116) #[] #[(aM bl 0),(aM bi 0)]) ((nK id 0 l).map AB)
theorem U1 {n:Nat} (ih:IZ n) (G:GH) (w0:World) (hG:Hold G w0) (l:List aJ) (id:Int) (v:ak) (hz:bU l < n) (hv:au G (.sl 11 (l.map aJ.dat)) v) :
  Calls prog 60 #[vi id,v] w0 (bJ w0 G fun u G'=>∃ bl bi,u=.func (.func 116) #[] #[(aM bl 0),(aM bi 0)]∧Iter prog G' u ((nK id 0 l).map AB)):=by
 obtain ⟨A,c,rfl,hc1,hc2,hg⟩:=hv.slice;refine eN [(0,_),(1,_)] func60 rfl ntmps60 rfl rfl hG ?_;intro a H;refine dw (fun _ K1=>?_);refine eD (cs:=[_]) H wn rfl rfl rfl ?_;clear H;intro b2 a w hb2 H;refine eD (cs:=[_]) H wn rfl rfl rfl ?_;clear H;intro b3 a w hb3 H;refine kH H (aj K1 rfl (SR fun _ K2=>?_));clear H K1;intro a H;refine qX H wn rfl rfl ?_;clear H;intro a H;refine kH H (aj K2 rfl ?_);clear H K2;intro a H;refine dR ?_;obtain ⟨G2,hm2,hb3,H⟩:=H.eG;obtain ⟨G3,tQ,hb2,H⟩:=H.eG;refine lv H results60 rfl ?_;exact H.rt ⟨b3,b2,rfl,ih _ _ _ _ _ _ hz (ay tQ (by unfold aF;rw [hb3];rfl)) (by unfold aF;rw [hb2];rfl) (hv.mono fun b o h=>tQ _ _ (hm2 _ _ h))⟩
theorem RO:∀ l:List bS,(l.flatMap bS.cells).length≤fQ l
 | []=>dJ _
 | x :: l=>by
  have h1:=RO l;have h2:=IJ x.cells;have h3:=Aa x
  simp only [List.flatMap_cons,wE,fQ,iq,fE] at *;omega
theorem aow (l:List bS) (k:Nat):fQ (l.take k)≤fQ l:=by
 have h:fQ l=fQ (l.take k++l.drop k):=by rw [List.take_append_drop]
 rw [h];simp only [fQ,List.map_append,P8];omega
theorem aay (c:bO) (l:List bO):mW (c :: l)=nK c.id 0 c.flow++mW l:=by rw [mW,aaw]
set_option maxHeartbeats 1000000 in
theorem aog {n:Nat} (ih:IZ n) (hn:n≤4294967296) {G:GH} {x:aJ} {bx:Nat} {cs:List ak} (hsz:dQ x.dat≤n) (hb:G bx=some (.cells cs.toArray 47 (0,0))) (hv:bH G x.dat cs) :
  Iter prog G (.func (.func 157) #[] #[(aM bx 0)]) ((mW (kZ x)).map AB):=by
 intro J Jx fv G1 L w0 D7 hGi nR hJx hJ hO hcb;refine mF (caps:=[(aM bx 0)]) Q8 ?_;obtain ⟨pA,pn,pc,dA,dn,dc,yA,yn,yc,fA,fn,fc,rA,rn,rc,rfl,hh,hf,hr⟩:=hv.item;have hsz1:=uX x;have hrn:=hr.len;rw [bV] at hrn;subst hrn;have hrs:=IK x.rows
 have hrow:∀ j u,[vi x.kind,vi x.code,vi x.id,.string x.text,.slice pA pn pc,vi x.head.marks.ins,vi x.head.marks.move,.slice dA dn dc,.slice yA yn yc,.slice fA fn fc,.slice rA x.rows.length rc][j]?=some u→aF G1 bx (0+j)=some u:=by
  intro j u hj;refine ay hGi ?_
  unfold aF;rw [hb];simpa using hj
 have hfc:aF G1 bx 0=some (vi x.kind)∧aF G1 bx 2=some (vi x.id)∧aF G1 bx 9=some (.slice fA fn fc)∧aF G1 bx 10=some (.slice rA x.rows.length rc):=⟨hrow 0 _ rfl,hrow 2 _ rfl,hrow 9 _ rfl,hrow 10 _ rfl⟩;obtain ⟨hc0,hc2,hc9,aoV⟩:=hfc
 have hml:4294967297≤maxLen:=by decide
 refine jB (N:=50) (T:=[(0,_),(1,_)]) func157 rfl ntmps157 rfl rfl hO ?_;intro a H;refine dw (fun _ K1=>?_);refine eD (cs:=[fv]) H wn rfl D7 rfl ?_;clear H;intro b2 a w hb2 H;refine K1 _ _ ?_;clear K1;refine kP H (SR fun _ K2=>Rf wL rfl (Rg aD rfl (by assumption) ?_));clear H;intro a H;refine kH H (Rf Al rfl (Rg jy rfl (by assumption) ?_));clear H;intro a H;refine nk Vi [_,_,_,_,_,_,_] H wn rfl rfl rfl rfl ?_;clear H;intro a H;refine jJ mh iQ [_,_,_,_,_,_,_] [_,_,_,_,_,_,_] H wn rfl rfl rfl rfl rfl (by intro i q h;match i,h with|0,h=>exact h|n+1,h=>simp at h) rfl rfl ?_;clear H;intro b15 a w SX H;refine kH H (aj K2 rfl (SQ fun _ K3=>SR fun _ K4=>Rf gJ rfl (Rg aD rfl (by assumption) ?_)));clear H K2;intro a H;refine kH H (Rc rfl (Kz K4 (Cd rfl ?_ ?_))) <;> clear H K4
 ·intro h18 a H
  try have pG:=dT h18
  refine kP H (SR fun _ K5=>aj K5 rfl (SR fun _ K6=>Rf zk rfl (Rg zV rfl (by assumption) ?_)));clear H K5;intro a H;refine kH H (Rl kr rfl (Rm rfl (Kz K6 (SB ?_))));clear H K6;intro a H;skip;refine eH (ι:=Nat × ak × List ak × OL) (Tc:=[(2,_),(20,_),(21,_)]) (Lc:=[(_,_)]) (fun gh=>[(3,gh.2.1),(22,vi gh.1)]) (fun gh=>[]++(L++gh.2.2.2)) (fun gh=>G1) (fun gh=>gh.1≤x.rows.length∧dO 132 7 gh.2.1 ((x.rows.take gh.1).flatMap bS.cells).length gh.2.2.1 gh.2.2.2∧dG G1 7 (((x.rows.take gh.1).flatMap bS.cells).map bO.dat) gh.2.2.1) (fun gh=>x.rows.length - gh.1) ((0,.slice none 0 0,[],[])) (by exact (St.UC (A:=[_]) (H.dS (Pl:=[_,_]) (dL:=[_]) [1] (by decide) rfl)).sub ⟨rfl,rfl,rfl,rfl,rfl,aC⟩) ?_ ?_
  ·exact ⟨by omega,dO.nil,by simpa using dG.nil⟩
  clear H;intro gh a w hI H;obtain ⟨rk,v3,xs,Lo⟩:=gh;dsimp only at hI H;obtain ⟨Zm,hrw3,iK⟩:=hI;dsimp only [lca,aV] at H;refine kP H (SR fun _ K7=>Rc rfl (Kz K7 (SQ fun _ K8=>Cd rfl ?_ ?_))) <;> clear H K7
  ·intro h23 a H
   try have AA:=dT h23
   have hk2:rk < x.rows.length:=by omega
   obtain ⟨b,o,qA,qn,qc,eA,en,ec,zA,zn,zc,cA,cn,cc,rfl,hrow,JH,hcl⟩:=JW hk2 hr.at_;replace hrow:=fun j u hj=>ay hGi (hrow j u hj);have YS:=hcl.len;rw [bV] at YS;subst YS;have hsz2:=RO (x.rows.take (rk+1));have T9:=aow x.rows (rk+1);rw [iG hk2,List.flatMap_append,wE,List.flatMap_singleton] at hsz2;rw [iG hk2] at T9;refine kP H (Kc K8 (SQ fun _ K9=>SB (SR fun _ aT=>Ri kr iV rfl rfl ?_)));clear H K8;intro a H;refine aW iV (cs:=[_,_,_,_,_,_]) H wn rfl rfl (fun j v hj=>H.hp.aF (hrow j v hj)) rfl ?_;clear H;intro a H;refine dU iV H wn rfl ?_;clear H;intro b5 a w hb5 H;refine bN iV 0 (vs:=[_,_,_,_,_,_]) _ H wn rfl rfl rfl rfl rfl rfl rfl rfl ?_;clear H;intro w H;dsimp only [List.set,setRow] at H;refine aT _ _ ?_;clear aT;refine kP H (SC (Rm rfl (bg uJ uW 0 rfl rfl ?_)));clear H;intro a H;refine amo (Li:=[_,_]++L) (Lo:=Lo) mh iQ rfl rfl (St.un (A:=[_,_]) H) wn rfl rfl hrw3 (hcl.mono hGi) (by omega) (by omega) rfl ?_;clear H;intro v29 acz news a w ajN hcn H;refine kH H (Ra rfl ?_);clear H;intro a H;refine aH ?_;replace H:=H.assoc.dS (Pl:=[_,_]) (dL:=[_]) [1] (by decide) rfl;refine K9 _ _ ?_;clear K9;refine kP H (SC (Rd rfl (Rm rfl ?_)));clear H;intro a H;refine aH ?_;refine dK ((rk+1,v29,xs++news,acz)) (by exact H.sub ⟨rfl,rfl,rfl,rfl,rfl,aC⟩) ?_ ?_
   ·(try dsimp only);exact ⟨by omega,by rw [iG hk2,List.flatMap_append,wE,List.flatMap_singleton];exact ajN,by rw [iG hk2,List.flatMap_append,List.map_append,List.flatMap_singleton];exact iK.append hcn⟩
   first|omega|(dsimp only;omega)
  intro h23 a H
  try have AA:=dF h23
  have ajL:rk=x.rows.length:=by omega
  subst ajL;rw [List.take_length] at hrw3 iK;obtain ⟨G3,tQ,hin,H⟩:=(St.un (A:=[_]) H).E5 (rows:=((x.rows.flatMap bS.cells)).map bO.dat) hrw3 (by simp) iK
  replace hin:au G3 (.sl 7 ((kZ x).map bO.dat)) v3:=by rw [kZ,av pG];exact hin
  obtain ⟨iA,ni,ic,rfl⟩:=hin.form;have TL:=hin.len;rw [bV] at TL
  have hisz:(kZ x).length≤4294967296:=by
   have h1:=RO x.rows;rw [kZ,av pG];omega
  refine dW ?_;refine K3 _ _ ?_;clear K3;refine kP H (SR fun _ bB=>Rm rfl (Rl mh rfl (Rm rfl (Kz bB (SB ?_)))));clear H bB;intro a H;skip;refine Nw (ι:=Nat × Nat × OL × GH × List Nat) (Tc:=[(2,_),(31,_),(32,_)]) (Lc:=[(_,_)]) (fun gh=>JN gh.2.2.2.2) (fun gh=>[(33,vi gh.1)]) (fun gh=>[]++(mV gh.2.2.2.2++gh.2.2.1)) (fun gh=>gh.2.2.2.1) (fun gh=>gh.1≤(kZ x).length∧(∀ b o,G3 b=some o→gh.2.2.2.1 b=some o)∧Now ((mW (kZ x)).map AB) AB J (mW (kZ x)).length gh.2.1 (mW ((kZ x).drop gh.1)) gh.2.2.2.1 gh.2.2.1) (fun gh=>(kZ x).length - gh.1) ((0,0,L,G3,[])) (by exact (H).sub ⟨rfl,rfl,rfl,rfl,aC⟩) ?_ ?_
  ·exact ⟨by omega,fun _ _ h=>h,⟨nR _ _ _ _ tQ hJ,fun i a h=>by rw [lD,tu];rw [mQ] at h;rw [h];rfl,by simp⟩⟩
  clear H;intro gh a w hI H;obtain ⟨ck,j1,Lt,g,ds⟩:=gh;dsimp only at hI H;obtain ⟨hck,hgm,bZ⟩:=hI;dsimp only [lca,aV] at H;refine kP H (SR fun _ bC=>Rc rfl (Kz bC (SQ fun _ bK=>Cd rfl ?_ ?_))) <;> clear H bC
  ·intro fD a H
   try have p34:=dT fD
   have hk3:ck < (kZ x).length:=by omega
   obtain ⟨b,o,sA,sn,sc,tA,tn,tc,uA,un,uc,gA,gn,gc,Tq,hrow,hch,hcf⟩:=GJ hk3 hin.at_;subst Tq;replace hrow:=fun j u hj=>ay hgm (hrow j u hj);rw [nD hk3,aay] at bZ;refine kP H (Kc bK (SQ fun _ bP=>SB (SR fun _ dx=>Ri mh iQ rfl rfl ?_)));clear H bK;intro a H;refine aW iQ (cs:=[_,_,_,_,_,_,_]) H wn rfl rfl (fun j v hj=>H.hp.aF (hrow j v hj)) rfl ?_;clear H;intro a H;refine dU iQ H wn rfl ?_;clear H;intro b7 a w vM H;refine bN iQ 0 (vs:=[_,_,_,_,_,_,_]) _ H wn rfl rfl rfl rfl rfl rfl rfl rfl ?_;clear H;intro w H;dsimp only [List.set,setRow] at H;refine dx _ _ ?_;clear dx;refine kP H (SR fun _ dP=>bg Cw aD 0 rfl rfl (bg Cx jy 0 rfl rfl ?_));clear H;intro a H;refine s_call Ru H wn rfl (U1 ih _ _ H.ro (kZ x)[ck].flow (kZ x)[ck].id _ (by have:=ZR (jW hk3);omega) (hcf.mono hgm)) rfl ?_;clear H;rintro v41 IV a w ⟨bl,bi,rfl,hit⟩ CU H;refine dP _ _ ?_;clear dP;refine vC ?_;skip;refine ES (ι:=OL) (κ:=OL) (Lc:=[(_,_),(_,_)]) (fun (k:Nat) (gh:OL)=>[]) (fun (k:Nat) (gh:OL)=>(mV ds++gh)) (fun (k:Nat) (gh:OL) (g:GH)=>J (j1+k) g gh) (fun (gx:OL)=>Code.ret) (fun (gx:OL)=>[]) (fun (gx:OL)=>(mV ds++gx)) (fun (gx:OL) (g:GH)=>Jx g gx) (Lt) (by exact H) rfl NR (hit) (fun _ _ h=>h) rfl (fun k args g h=>by obtain ⟨_,_,rfl,_⟩:=Dc h;rfl) (fun k i G G' hm h=>nR _ _ _ _ hm h) (fun x G G' hm h=>hJx _ _ _ hm h) (nR _ _ _ _ CU bZ.now) ?_ ?_ ?_
   ·clear H;intro l13 yE vB bk k args gh yO w13 F13 B13 a Tw nT hI Ta TJ TW H;obtain ⟨wu,hgh⟩:∃ x,x=gh:=⟨_,rfl⟩;subst hgh;obtain ⟨hk,ND,rfl,zJ⟩:=Dc Tw;obtain ⟨aA,an,ac,bA,bn,bc,NG,NJ,NH,NM,NY,NP,OZ,O4,O1,rfl,-⟩:=zJ.item;dsimp only [uD,List.cons_append,List.nil_append] at H;refine dw (fun _ dB=>?_);refine dU ny H wn rfl ?_;clear H;intro b8 a w vN H;refine bN ny 0 (vs:=[_,_]) _ H wn rfl rfl rfl rfl rfl rfl rfl rfl ?_;clear H;intro w H;dsimp only [List.set,setRow] at H;refine dB _ _ ?_;clear dB;refine nG ?_;refine dU eZ H wn rfl ?_;clear H;intro b9 a w rH H;refine bN eZ 0 (vs:=[_,_,_,_,_,_,_,_,_,_,_]) _ H wn rfl rfl rfl rfl rfl rfl rfl rfl ?_;clear H;intro w H;dsimp only [List.set,setRow] at H;refine aH ?_;refine Ta _ _ _ _ _ _ (by exact H.dS (Pl:=[_,_,_,_,_]) (dL:=[_,_,_,_,_]) [2,0,1,3,4] (by decide) rfl) ?_;clear H;intro w H;refine kP H (SB (SR fun _ dY=>Ro J8 4 rfl ?_));clear H;intro a H;refine aW ny (cs:=[_,_]) H wn rfl rfl (H.hp.dX 2 rfl rfl) rfl ?_;clear H;intro a H;refine aW eZ (cs:=[_,_,_,_,_,_,_,_,_,_,_]) H wn rfl rfl (H.hp.dX 1 rfl rfl) rfl ?_;clear H;intro a H;refine yG (Li:=([_,_,_,_,_]++bk)++mV ds) (L:=wu) (St.un (A:=[_,_,_,_,_]++bk) (St.un (A:=[_,_,_,_,_]) H)) wn rfl rfl (hcb (j1+k) _ _ _ _ ⟨_,bZ.part k _ (fT hk),_,rfl,zJ⟩ (fun b o h=>nT b o (CU b o (hgm b o (tQ b o h)))) hI (Hp.owns (Li:=([_,_,_,_,_]++bk)++mV ds) (St.un (A:=[_,_,_,_,_]++bk) (St.un (A:=[_,_,_,_,_]) H)).hp)) rfl ?_;clear H;rintro v47 Qs Ky a w ⟨b47,rfl,hb1,hb2⟩ ajt H
    simp only [nN,oG,oH] at H
    refine kH H (Rn rfl (Kz dY (Cd rfl ?_ ?_))) <;> clear H dY
    ·intro h48 a H
     refine dR ?_;refine (TW (Ky) _ _ _ _ _ (by exact H.dS (Pl:=[_,_,_,_,_]) (dL:=[_,_,_]) [0,3,4] (by decide) rfl) ?_).1 rfl;exact hb2 (by simpa using h48)
    intro h48 a H
    refine fu ?_;refine TJ (Ky) _ _ _ _ _ (by exact H.dS (Pl:=[_,_,_,_,_]) (dL:=[_,_,_]) [0,3,4] (by decide) rfl) ?_;exact hb1 (by simpa using h48)
   ·clear H;intro Kh gh Km a w nT hI H;obtain ⟨wu,hgh⟩:∃ x,x=gh:=⟨_,rfl⟩;subst hgh;dsimp only [lca,aV] at H;refine bP _ _ ?_;clear bP;refine kP H (SC (Rd rfl (Rm rfl ?_)));clear H;intro a H;refine aH ?_;refine Im ((ck+1,j1+(nK (kZ x)[ck].id 0 (kZ x)[ck].flow).length,wu,Km,Kh :: ds)) (by exact (H.dS (Pl:=[_,_,_]) (dL:=[_,_]) [2,0] (by decide) rfl).sub ⟨rfl,rfl,rfl,rfl,aC⟩) ?_ ?_
    ·(try dsimp only);exact ⟨by omega,fun b o h=>nT b o (CU b o (hgm b o h)),bZ.jump (by simpa using hI)⟩
    first|omega|(dsimp only;omega)
   clear H;intro Kh gx Km a w nT hI H;obtain ⟨Lx,hgh⟩:∃ x,x=gx:=⟨_,rfl⟩;subst hgh;dsimp only [lca,aV] at H;refine dR ?_;refine (BO H 0 rfl ?_).1;clear H;intro a w H;dsimp only [List.eraseIdx_cons_succ,List.eraseIdx_cons_zero] at H;refine (Ay (Lh:=[_,_]) _ H ?_).1;clear H;intro a w H;dsimp only [lca,aV] at H;refine (leave0 H results157 ?_).1
   first
    | exact H.hp.cK (L':=Lx) (by repeat (first|exact cO _|apply List.Sublist.cons)) (.inr hI)
    | exact H.hp.cK (L':=Lt) (by repeat (first|exact cO _|apply List.Sublist.cons)) (.inl (by rw [iw (by omega),mW] at bZ;have:=bZ.len;simp only [List.length_nil,nY] at this;rw [bV,← this];exact bZ.now))
  intro fD a H
  try have p34:=dF fD
  refine dW ?_;refine (Ay (Lh:=[_]) _ H ?_).2;clear H;intro a w H;dsimp only [lca,aV] at H;refine (leave0 H results157 ?_).1
  first
   | exact H.hp.cK (L':=Lx) (by repeat (first|exact cO _|apply List.Sublist.cons)) (.inr hI)
   | exact H.hp.cK (L':=Lt) (by repeat (first|exact cO _|apply List.Sublist.cons)) (.inl (by rw [iw (by omega),mW] at bZ;have:=bZ.len;simp only [List.length_nil,nY] at this;rw [bV,← this];exact bZ.now))
 intro h18 a H
 try have pG:=dF h18
 obtain ⟨G3,tQ,hin,H⟩:=H.Od (sz:=7) (d:=(bO.mk x.id ⟨[],⟨0,0,[],[]⟩⟩ x.flow).dat) rfl (bH.Mv (x:=bO.mk x.id ⟨[],⟨0,0,[],[]⟩⟩ x.flow) ⟨au.kg rfl (by decide),au.kg rfl (by decide),au.kg rfl (by decide)⟩ (hf.mono hGi))
 replace hin:au G3 (.sl 7 ((kZ x).map bO.dat)) (.slice (some ⟨b15,0,none⟩) 1 1):=by rw [kZ,ah pG];exact hin
 obtain ⟨iA,hiA⟩:∃ z,z=some (Addr.mk b15 0 none):=⟨_,rfl⟩;obtain ⟨ni,hni⟩:∃ z,z=1:=⟨_,rfl⟩;obtain ⟨ic,hic⟩:∃ z,z=1:=⟨_,rfl⟩;rw [← hiA] at hin H;have TL:=hin.len;rw [bV] at TL
 have hisz:(kZ x).length≤4294967296:=by omega
 refine kP H (Kc K3 (SR fun _ eP=>Rm rfl (Rl mh rfl (Rm rfl (Kz eP (SB ?_))))));clear H K3 eP;intro a H;skip;refine Nw (ι:=Nat × Nat × OL × GH × List Nat) (Tc:=[(2,_),(31,_),(32,_)]) (Lc:=[(_,_)]) (fun gh=>JN gh.2.2.2.2) (fun gh=>[(33,vi gh.1)]) (fun gh=>[]++(mV gh.2.2.2.2++gh.2.2.1)) (fun gh=>gh.2.2.2.1) (fun gh=>gh.1≤(kZ x).length∧(∀ b o,G3 b=some o→gh.2.2.2.1 b=some o)∧Now ((mW (kZ x)).map AB) AB J (mW (kZ x)).length gh.2.1 (mW ((kZ x).drop gh.1)) gh.2.2.2.1 gh.2.2.1) (fun gh=>(kZ x).length - gh.1) ((0,0,L,G3,[])) (by exact (H).sub ⟨rfl,rfl,rfl,rfl,aC⟩) ?_ ?_
 ·exact ⟨by omega,fun _ _ h=>h,⟨nR _ _ _ _ tQ hJ,fun i a h=>by rw [lD,tu];rw [mQ] at h;rw [h];rfl,by simp⟩⟩
 clear H;intro gh a w hI H;obtain ⟨ck,j1,Lt,g,ds⟩:=gh;dsimp only at hI H;obtain ⟨hck,hgm,bZ⟩:=hI;dsimp only [lca,aV] at H;refine kP H (SR fun _ dZ=>Rc rfl (Kz dZ (SQ fun _ eU=>Cd rfl ?_ ?_))) <;> clear H dZ
 ·intro fD a H
  try have p34:=dT fD
  have hk3:ck < (kZ x).length:=by omega
  obtain ⟨b,o,sA,sn,sc,tA,tn,tc,uA,un,uc,gA,gn,gc,Tq,hrow,hch,hcf⟩:=GJ hk3 hin.at_;subst Tq;replace hrow:=fun j u hj=>ay hgm (hrow j u hj);rw [nD hk3,aay] at bZ;refine kP H (Kc eU (SQ fun _ fK=>SB (SR fun _ gM=>Ri mh iQ rfl rfl ?_)));clear H eU;intro a H;refine aW iQ (cs:=[_,_,_,_,_,_,_]) H wn rfl rfl (fun j v hj=>H.hp.aF (hrow j v hj)) rfl ?_;clear H;intro a H;refine dU iQ H wn rfl ?_;clear H;intro b7 a w vM H;refine bN iQ 0 (vs:=[_,_,_,_,_,_,_]) _ H wn rfl rfl rfl rfl rfl rfl rfl rfl ?_;clear H;intro w H;dsimp only [List.set,setRow] at H;refine gM _ _ ?_;clear gM;refine kP H (SR fun _ iC=>bg Cw aD 0 rfl rfl (bg Cx jy 0 rfl rfl ?_));clear H;intro a H;refine s_call Ru H wn rfl (U1 ih _ _ H.ro (kZ x)[ck].flow (kZ x)[ck].id _ (by have:=ZR (jW hk3);omega) (hcf.mono hgm)) rfl ?_;clear H;rintro v41 IV a w ⟨bl,bi,rfl,hit⟩ CU H;refine iC _ _ ?_;clear iC;refine vC ?_;skip;refine ES (ι:=OL) (κ:=OL) (Lc:=[(_,_),(_,_)]) (fun (k:Nat) (gh:OL)=>[]) (fun (k:Nat) (gh:OL)=>(mV ds++gh)) (fun (k:Nat) (gh:OL) (g:GH)=>J (j1+k) g gh) (fun (gx:OL)=>Code.ret) (fun (gx:OL)=>[]) (fun (gx:OL)=>(mV ds++gx)) (fun (gx:OL) (g:GH)=>Jx g gx) (Lt) (by exact H) rfl NR (hit) (fun _ _ h=>h) rfl (fun k args g h=>by obtain ⟨_,_,rfl,_⟩:=Dc h;rfl) (fun k i G G' hm h=>nR _ _ _ _ hm h) (fun x G G' hm h=>hJx _ _ _ hm h) (nR _ _ _ _ CU bZ.now) ?_ ?_ ?_
  ·clear H;intro l13 yE vB bk k args gh yO w13 F13 B13 a Tw nT hI Ta TJ TW H;obtain ⟨wu,hgh⟩:∃ x,x=gh:=⟨_,rfl⟩;subst hgh;obtain ⟨hk,ND,rfl,zJ⟩:=Dc Tw;obtain ⟨aA,an,ac,bA,bn,bc,NG,NJ,NH,NM,NY,NP,OZ,O4,O1,rfl,-⟩:=zJ.item;dsimp only [uD,List.cons_append,List.nil_append] at H;refine dw (fun _ gu=>?_);refine dU ny H wn rfl ?_;clear H;intro b8 a w vN H;refine bN ny 0 (vs:=[_,_]) _ H wn rfl rfl rfl rfl rfl rfl rfl rfl ?_;clear H;intro w H;dsimp only [List.set,setRow] at H;refine gu _ _ ?_;clear gu;refine nG ?_;refine dU eZ H wn rfl ?_;clear H;intro b9 a w rH H;refine bN eZ 0 (vs:=[_,_,_,_,_,_,_,_,_,_,_]) _ H wn rfl rfl rfl rfl rfl rfl rfl rfl ?_;clear H;intro w H;dsimp only [List.set,setRow] at H;refine aH ?_;refine Ta _ _ _ _ _ _ (by exact H.dS (Pl:=[_,_,_,_,_]) (dL:=[_,_,_,_,_]) [2,0,1,3,4] (by decide) rfl) ?_;clear H;intro w H;refine kP H (SB (SR fun _ iX=>Ro J8 4 rfl ?_));clear H;intro a H;refine aW ny (cs:=[_,_]) H wn rfl rfl (H.hp.dX 2 rfl rfl) rfl ?_;clear H;intro a H;refine aW eZ (cs:=[_,_,_,_,_,_,_,_,_,_,_]) H wn rfl rfl (H.hp.dX 1 rfl rfl) rfl ?_;clear H;intro a H;refine yG (Li:=([_,_,_,_,_]++bk)++mV ds) (L:=wu) (St.un (A:=[_,_,_,_,_]++bk) (St.un (A:=[_,_,_,_,_]) H)) wn rfl rfl (hcb (j1+k) _ _ _ _ ⟨_,bZ.part k _ (fT hk),_,rfl,zJ⟩ (fun b o h=>nT b o (CU b o (hgm b o (tQ b o h)))) hI (Hp.owns (Li:=([_,_,_,_,_]++bk)++mV ds) (St.un (A:=[_,_,_,_,_]++bk) (St.un (A:=[_,_,_,_,_]) H)).hp)) rfl ?_;clear H;rintro v47 Qs Ky a w ⟨b47,rfl,hb1,hb2⟩ ajt H
   simp only [nN,oG,oH] at H
   refine kH H (Rn rfl (Kz iX (Cd rfl ?_ ?_))) <;> clear H iX
   ·intro h48 a H
    refine dR ?_;refine (TW (Ky) _ _ _ _ _ (by exact H.dS (Pl:=[_,_,_,_,_]) (dL:=[_,_,_]) [0,3,4] (by decide) rfl) ?_).1 rfl;exact hb2 (by simpa using h48)
   intro h48 a H
   refine fu ?_;refine TJ (Ky) _ _ _ _ _ (by exact H.dS (Pl:=[_,_,_,_,_]) (dL:=[_,_,_]) [0,3,4] (by decide) rfl) ?_;exact hb1 (by simpa using h48)
  ·clear H;intro Kh gh Km a w nT hI H;obtain ⟨wu,hgh⟩:∃ x,x=gh:=⟨_,rfl⟩;subst hgh;dsimp only [lca,aV] at H;refine fK _ _ ?_;clear fK;refine kP H (SC (Rd rfl (Rm rfl ?_)));clear H;intro a H;refine aH ?_;refine Im ((ck+1,j1+(nK (kZ x)[ck].id 0 (kZ x)[ck].flow).length,wu,Km,Kh :: ds)) (by exact (H.dS (Pl:=[_,_,_]) (dL:=[_,_]) [2,0] (by decide) rfl).sub ⟨rfl,rfl,rfl,rfl,aC⟩) ?_ ?_
   ·(try dsimp only);exact ⟨by omega,fun b o h=>nT b o (CU b o (hgm b o h)),bZ.jump (by simpa using hI)⟩
   first|omega|(dsimp only;omega)
  clear H;intro Kh gx Km a w nT hI H;obtain ⟨Lx,hgh⟩:∃ x,x=gx:=⟨_,rfl⟩;subst hgh;dsimp only [lca,aV] at H;refine dR ?_;refine (BO H 0 rfl ?_).1;clear H;intro a w H;dsimp only [List.eraseIdx_cons_succ,List.eraseIdx_cons_zero] at H;refine (Ay (Lh:=[_,_]) _ H ?_).1;clear H;intro a w H;dsimp only [lca,aV] at H;refine (leave0 H results157 ?_).1
  first
   | exact H.hp.cK (L':=Lx) (by repeat (first|exact cO _|apply List.Sublist.cons)) (.inr hI)
   | exact H.hp.cK (L':=Lt) (by repeat (first|exact cO _|apply List.Sublist.cons)) (.inl (by rw [iw (by omega),mW] at bZ;have:=bZ.len;simp only [List.length_nil,nY] at this;rw [bV,← this];exact bZ.now))
 intro fD a H
 try have p34:=dF fD
 refine dW ?_;refine (Ay (Lh:=[_]) _ H ?_).2;clear H;intro a w H;dsimp only [lca,aV] at H;refine (leave0 H results157 ?_).1
 first
  | exact H.hp.cK (L':=Lx) (by repeat (first|exact cO _|apply List.Sublist.cons)) (.inr hI)
  | exact H.hp.cK (L':=Lt) (by repeat (first|exact cO _|apply List.Sublist.cons)) (.inl (by rw [iw (by omega),mW] at bZ;have:=bZ.len;simp only [List.length_nil,nY] at this;rw [bV,← this];exact bZ.now))
theorem abZ {n:Nat} (ih:IZ n) (hn:n≤4294967296) (G:GH) (w0:World) (hG:Hold G w0) (x:aJ) (cs:List ak) (hsz:dQ x.dat≤n) (hv:bH G x.dat cs) :
  Calls prog 117 #[.agg cs.toArray] w0 (bJ w0 G fun u G'=>∃ bx,u=.func (.func 157) #[] #[(aM bx 0)]∧Iter prog G' u ((mW (kZ x)).map AB)):=by
 obtain ⟨pA,pn,pc,dA,dn,dc,yA,yn,yc,fA,fn,fc,rA,rn,rc,hcs,-⟩:=hv.item;have hv2:=hv;rw [hcs] at hv2 ⊢;refine eN [(0,_)] func117 rfl ntmps117 rfl rfl hG ?_;intro a H;refine dw (fun _ K1=>?_);refine eD (cs:=[_,_,_,_,_,_,_,_,_,_,_]) H wn rfl rfl rfl ?_;clear H;intro b1 a w hb1 H;refine kH H (aj K1 rfl (SR fun _ K2=>?_));clear H K1;intro a H;refine qX H wn rfl rfl ?_;clear H;intro a H;refine kH H (aj K2 rfl ?_);clear H K2;intro a H;refine dR ?_;obtain ⟨G2,hm2,hb1,H⟩:=H.eG;refine lv H results117 rfl ?_;exact H.rt ⟨b1,rfl,aog ih hn hsz hb1 (hv2.mono hm2)⟩
theorem acD (x:aJ):wC x < dQ x.dat:=by
 have h1:=uX x;have h2:=Jf x.text
 unfold wC;split <;> omega
set_option maxHeartbeats 1000000 in
theorem alJ {n:Nat} (ih:IZ n) (hn:n≤4294967296):IZ (n+1):=by
 intro G l id bl bi v hz hbl hbi hv J Jx fv G1 L w0 D7 hGi nR hJx hJ hO hcb;refine mF (caps:=[(aM bl 0),(aM bi 0)]) NR ?_;obtain ⟨A,c,rfl,hc1,hc2,hg⟩:=hv.slice;rw [bV] at *;have hll:=FT l;replace hbl:=ay hGi hbl;replace hbi:=ay hGi hbi;refine jB (N:=55) (T:=[(0,_),(1,_),(2,_)]) func116 rfl ntmps116 rfl rfl hO ?_;intro a H;refine dw (fun _ K1=>?_);refine eD (cs:=[fv]) H wn rfl D7 rfl ?_;clear H;intro b3 a w hb3 H;refine K1 _ _ ?_;clear K1;refine kP H (SR fun _ K2=>aj K2 rfl (SR fun _ K3=>Rg jy rfl (by assumption) ?_));clear H K2;intro a H;refine kH H (Rl lu rfl (Rm rfl (Kz K3 (SB ?_))));clear H K3;intro a H;skip;refine Nw (ι:=Nat × Int × Nat × OL × GH × List Nat) (Tc:=[(2,_),(3,_),(12,_),(13,_)]) (Lc:=[(_,_)]) (fun gh=>JN gh.2.2.2.2.2) (fun gh=>[(4,vi gh.2.1),(14,vi gh.1)]) (fun gh=>[]++(mV gh.2.2.2.2.2++gh.2.2.2.1)) (fun gh=>gh.2.2.2.2.1) (fun gh=>gh.1≤l.length∧(∀ b o,G1 b=some o→gh.2.2.2.2.1 b=some o)∧Now ((nK id 0 l).map AB) AB J (nK id 0 l).length gh.2.2.1 (nK id gh.2.1 (l.drop gh.1)) gh.2.2.2.2.1 gh.2.2.2.1∧0≤gh.2.1∧gh.2.1+bU (l.drop gh.1)≤n) (fun gh=>l.length - gh.1) ((0,0,0,L,G1,[])) (by exact (H).sub ⟨rfl,rfl,rfl,rfl,rfl,rfl,aC⟩) ?_ ?_
 ·exact ⟨by omega,fun _ _ h=>h,⟨hJ,fun i a h=>by rw [lD,tu];rw [mQ] at h;rw [h];rfl,by simp⟩,Int.le_refl _,by simp;omega⟩
 clear H;intro gh a w hI H;obtain ⟨k,at_,j1,Lt,g,ds⟩:=gh;dsimp only at hI H;obtain ⟨hk,hgm,bZ,aoI,hat⟩:=hI;dsimp only [lca,aV] at H;refine kP H (SR fun _ K4=>Rc rfl (Kz K4 (SQ fun _ K5=>Cd rfl ?_ ?_))) <;> clear H K4
 ·intro fM a H
  try have oL:=dT fM
  have hk2:k < l.length:=by omega
  obtain ⟨b,o,pA,pn,pc,dA,dn,dc,yA,yn,yc,fA,fn,fc,rA,rn,rc,rfl,hrow,hhd,hfl,hrw⟩:=GX hk2 hg;have pX:∀ b o,G b=some o→g b=some o:=fun b o h=>hgm b o (hGi b o h);replace hrow:=fun j u hj=>ay pX (hrow j u hj);have aoS:=ay hgm hbi;have hsz1:=uX l[k];have hsz2:=M9 (jW hk2);have aoH:=acD l[k];rw [nD hk2] at bZ hat;rw [bU,iq,fE] at hat;rw [nK] at bZ;refine kP H (Kc K5 (SQ fun _ K6=>SB (SR fun _ K7=>Ri lu eZ rfl rfl ?_)));clear H K5;intro a H;refine aW eZ (cs:=[_,_,_,_,_,_,_,_,_,_,_]) H wn rfl rfl (fun j v hj=>H.hp.aF (hrow j v hj)) rfl ?_;clear H;intro a H;refine dU eZ H wn rfl ?_;clear H;intro b6 a w hb6 H;refine bN eZ 0 (vs:=[_,_,_,_,_,_,_,_,_,_,_]) _ H wn rfl rfl rfl rfl rfl rfl rfl rfl ?_;clear H;intro w H;dsimp only [List.set,setRow] at H;refine K7 _ _ ?_;clear K7;refine kP H (SR fun _ K8=>Rg aD rfl (by assumption) ?_);clear H;intro a H;refine kH H (Rm rfl ?_);clear H;intro a H;refine nk Vj [_,_] H wn rfl rfl rfl rfl ?_;clear H;intro a H;refine dU ny H wn rfl ?_;clear H;intro b7 a w vM H;refine bN ny 0 (vs:=[_,_]) _ H wn rfl rfl rfl rfl rfl rfl rfl rfl ?_;clear H;intro w H;dsimp only [List.set,setRow] at H;refine K8 _ _ ?_;clear K8;refine kP H (SR fun _ K9=>Rm rfl (Rd rfl (aj K9 rfl (SR fun _ aT=>bg gJ aD 1 rfl rfl (Kz aT (SB (SR fun _ bB=>Rc rfl (aj bB rfl (Cd rfl ?_ ?_))))))))) <;> clear H K9 aT bB
  ·intro gP a H
   try have p25:=dT gP
   have hcl:=Jf l[k].text;refine kP H (SR fun _ bC=>bg tJ gD 1 rfl rfl ?_);clear H;intro a H;refine s_call NZ H wn rfl (NC _ _ H.ro _ (by omega)) rfl ?_;clear H;rintro v30 Dq a w ⟨rfl,rfl⟩ zF H;refine kH H (Rm rfl ?_);clear H;intro a H;(iterate 2 refine uT H wn rfl rfl rfl ?_;clear H;intro a H);refine kH H (Ra rfl (aj bC rfl (SC (Rm rfl (Rm rfl (Rs rfl (Rd rfl (Ra rfl ?_))))))));clear H bC;intro a H
   have e:at_+1+((xL l[k].text:Int) - 1)=at_+(wC l[k]:Int):=by rw [wC,av p25];omega
   rw [e] at H;refine kH H (Kn K6 (SC (Rd rfl (Rm rfl ?_))));clear H K6;intro a H;refine aH ?_;refine Im ((k+1,at_+wC l[k],j1,Lt,g,ds)) (by exact (H.dS (Pl:=[_,_,_]) (dL:=[_]) [2] (by decide) rfl).sub ⟨rfl,rfl,rfl,rfl,rfl,rfl,aC⟩) ?_ ?_
   ·(try dsimp only);exact ⟨by omega,hgm,by rw [JR,ah (by omega),oH] at bZ;exact bZ,by omega,by show at_+(wC l[k]:Int)+(fE ((l.drop (k+1)).map aJ.dat):Nat)≤n;omega⟩
   first|omega|(dsimp only;omega)
  intro gP a H
  try have p25:=dF gP
  have e:at_+1=at_+(wC l[k]:Int):=by rw [wC,ah p25];rfl
  rw [e] at H;refine kP H (SQ fun _ bK=>SR fun _ bP=>Rc rfl (aj bP rfl (Cd rfl ?_ ?_))) <;> clear H bP
  ·intro h37 a H
   try have p37:=dT h37
   have Bt:l[k].kind=6∨l[k].kind=7:=by first|exact .inl p37|exact .inr p37
   rw [JR,av Bt] at bZ;refine kP H (Kc bK (Ct rfl h37 (SQ fun _ dx=>SR fun _ dP=>Ro J8 2 rfl ?_)));clear H bK;intro a H;refine aW ny (cs:=[_,_]) H wn rfl rfl (H.hp.dX 0 rfl rfl) rfl ?_;clear H;intro a H;refine aW eZ (cs:=[_,_,_,_,_,_,_,_,_,_,_]) H wn rfl rfl (H.hp.dX 1 rfl rfl) rfl ?_;clear H;intro a H;refine yG (Li:=[_,_,_]++mV ds) (L:=Lt) (St.un (A:=[_,_,_]) H) wn rfl rfl (hcb j1 _ _ _ _ ⟨_,bZ.head,_,rfl,bH.mkItem (hhd.mono pX) (hfl.mono pX) (hrw.mono pX)⟩ hgm bZ.now (Hp.owns (Li:=[_,_,_]++mV ds) (St.un (A:=[_,_,_]) H).hp)) rfl ?_;clear H;rintro v43 Dr EL a w ⟨Ns,rfl,hb1,hb2⟩ qb H
   simp only [nN,oG,oH] at H
   refine kH H (Rn rfl (Kz dP (Cd rfl ?_ ?_))) <;> clear H dP
   ·intro lH a H
    try have p44:=dT lH
    refine dR ?_;refine (Ay (Lh:=[_,_,_]) _ H ?_).1;clear H;intro a w H;dsimp only [lca,aV] at H;refine (leave0 H results116 ?_).1
    first
     | exact H.hp.cK (L':=Lx) (by repeat (first|exact cO _|apply List.Sublist.cons)) (.inr hI)
     | exact H.hp.cK (L':=EL) (by repeat (first|exact cO _|apply List.Sublist.cons)) (.inr (hb2 (by simpa using lH)))
     | exact H.hp.cK (L':=Lt) (by repeat (first|exact cO _|apply List.Sublist.cons)) (.inl (by rw [iw (by omega),nK] at bZ;have:=bZ.len;simp only [List.length_nil,nY] at this;(try rw [bV]);rw [← this];exact bZ.now))
   intro lH a H
   try have p44:=dF lH
   have zI:=bZ.step (hb1 (by simpa using lH));refine fu ?_;refine dx _ _ ?_;clear dx;refine dw (fun _ dB=>?_);refine aW eZ (cs:=[_,_,_,_,_,_,_,_,_,_,_]) H wn rfl rfl (H.hp.dX 1 rfl rfl) rfl ?_;clear H;intro a H;refine s_call Xr H wn rfl (abZ ih hn _ _ H.ro l[k] _ (by omega) (bH.mkItem (hhd.mono fun b o h=>qb b o (pX b o h)) (hfl.mono fun b o h=>qb b o (pX b o h)) (hrw.mono fun b o h=>qb b o (pX b o h)))) rfl ?_;clear H;rintro v46 Qr a w ⟨bx,rfl,hit⟩ Ed H;refine dB _ _ ?_;clear dB;refine vC ?_;skip;refine ES (ι:=OL) (κ:=OL) (Lc:=[(_,_),(_,_),(_,_)]) (fun (k:Nat) (gh:OL)=>[]) (fun (k:Nat) (gh:OL)=>(mV ds++gh)) (fun (k:Nat) (gh:OL) (g:GH)=>J (j1+1+k) g gh) (fun (gx:OL)=>Code.ret) (fun (gx:OL)=>[]) (fun (gx:OL)=>(mV ds++gx)) (fun (gx:OL) (g:GH)=>Jx g gx) (EL) (by exact H) rfl Q8 (hit) (fun _ _ h=>h) rfl (fun k args g h=>by obtain ⟨_,_,rfl,_⟩:=Dc h;rfl) (fun k i G G' hm h=>nR _ _ _ _ hm h) (fun x G G' hm h=>hJx _ _ _ hm h) (nR _ _ _ _ Ed zI.now) ?_ ?_ ?_
   ·clear H;intro l15 yE vB bk k args gh Ez w15 F15 B15 a Tx yg hI Td TK TY H;obtain ⟨wu,hgh⟩:∃ x,x=gh:=⟨_,rfl⟩;subst hgh;obtain ⟨Tz,ND,rfl,zJ⟩:=Dc Tx;obtain ⟨aA,an,ac,bA,bn,bc,NG,NJ,NH,NM,NY,NP,OZ,O4,O1,rfl,-⟩:=zJ.item;dsimp only [uD,List.cons_append,List.nil_append] at H;refine dw (fun _ dY=>?_);refine dU ny H wn rfl ?_;clear H;intro b10 a w Hq H;refine bN ny 0 (vs:=[_,_]) _ H wn rfl rfl rfl rfl rfl rfl rfl rfl ?_;clear H;intro w H;dsimp only [List.set,setRow] at H;refine dY _ _ ?_;clear dY;refine nG ?_;refine dU eZ H wn rfl ?_;clear H;intro b11 a w Hr H;refine bN eZ 0 (vs:=[_,_,_,_,_,_,_,_,_,_,_]) _ H wn rfl rfl rfl rfl rfl rfl rfl rfl ?_;clear H;intro w H;dsimp only [List.set,setRow] at H;refine aH ?_;refine Td _ _ _ _ _ _ (by exact H.dS (Pl:=[_,_,_,_,_,_]) (dL:=[_,_,_,_,_,_]) [2,0,1,3,4,5] (by decide) rfl) ?_;clear H;intro w H;refine kP H (SB (SR fun _ eP=>Ro J8 5 rfl ?_));clear H;intro a H;refine aW ny (cs:=[_,_]) H wn rfl rfl (H.hp.dX 2 rfl rfl) rfl ?_;clear H;intro a H;refine aW eZ (cs:=[_,_,_,_,_,_,_,_,_,_,_]) H wn rfl rfl (H.hp.dX 1 rfl rfl) rfl ?_;clear H;intro a H;refine yG (Li:=([_,_,_,_,_,_]++bk)++mV ds) (L:=wu) (St.un (A:=[_,_,_,_,_,_]++bk) (St.un (A:=[_,_,_,_,_,_]) H)) wn rfl rfl (hcb (j1+1+k) _ _ _ _ ⟨_,zI.part k _ (fT Tz),_,rfl,zJ⟩ (fun b o h=>yg b o (Ed b o (qb b o (hgm b o h)))) hI (Hp.owns (Li:=([_,_,_,_,_,_]++bk)++mV ds) (St.un (A:=[_,_,_,_,_,_]++bk) (St.un (A:=[_,_,_,_,_,_]) H)).hp)) rfl ?_;clear H;rintro v52 Qt KA a w ⟨b52,rfl,hb3,hb4⟩ TB H
    simp only [nN,oG,oH] at H
    refine kH H (Rn rfl (Kz eP (Cd rfl ?_ ?_))) <;> clear H eP
    ·intro fC a H
     refine dR ?_;refine (TY (KA) _ _ _ _ _ (by exact H.dS (Pl:=[_,_,_,_,_,_]) (dL:=[_,_,_,_]) [0,3,4,5] (by decide) rfl) ?_).1 rfl;exact hb4 (by simpa using fC)
    intro fC a H
    refine fu ?_;refine TK (KA) _ _ _ _ _ (by exact H.dS (Pl:=[_,_,_,_,_,_]) (dL:=[_,_,_,_]) [0,3,4,5] (by decide) rfl) ?_;exact hb3 (by simpa using fC)
   ·clear H;intro Ki gh Ko a w yg hI H;obtain ⟨wu,hgh⟩:∃ x,x=gh:=⟨_,rfl⟩;subst hgh;dsimp only [lca,aV] at H;refine K6 _ _ ?_;clear K6;refine kP H (SC (Rd rfl (Rm rfl ?_)));clear H;intro a H;refine aH ?_;refine Im ((k+1,at_+wC l[k],j1+1+(mW (kZ l[k])).length,wu,Ko,Ki :: ds)) (by exact (H.dS (Pl:=[_,_,_,_]) (dL:=[_,_]) [3,0] (by decide) rfl).sub ⟨rfl,rfl,rfl,rfl,rfl,rfl,aC⟩) ?_ ?_
    ·(try dsimp only);exact ⟨by omega,fun b o h=>yg b o (Ed b o (qb b o (hgm b o h))),zI.jump (by simpa using hI),by omega,by show at_+(wC l[k]:Int)+(fE ((l.drop (k+1)).map aJ.dat):Nat)≤n;omega⟩
    first|omega|(dsimp only;omega)
   clear H;intro Ki gx Ko a w yg hI H;obtain ⟨Lx,hgh⟩:∃ x,x=gx:=⟨_,rfl⟩;subst hgh;dsimp only [lca,aV] at H;refine dR ?_;refine (BO H 0 rfl ?_).1;clear H;intro a w H;dsimp only [List.eraseIdx_cons_succ,List.eraseIdx_cons_zero] at H;refine (Ay (Lh:=[_,_,_]) _ H ?_).1;clear H;intro a w H;dsimp only [lca,aV] at H;refine (leave0 H results116 ?_).1
   first
    | exact H.hp.cK (L':=Lx) (by repeat (first|exact cO _|apply List.Sublist.cons)) (.inr hI)
    | exact H.hp.cK (L':=EL) (by repeat (first|exact cO _|apply List.Sublist.cons)) (.inr (hb2 (by simpa using lH)))
    | exact H.hp.cK (L':=Lt) (by repeat (first|exact cO _|apply List.Sublist.cons)) (.inl (by rw [iw (by omega),nK] at bZ;have:=bZ.len;simp only [List.length_nil,nY] at this;(try rw [bV]);rw [← this];exact bZ.now))
  intro h37 a H
  try have p37:=dF h37
  first
   | (have hn6:¬ l[k].kind=6:=p37)
   | (have hn7:¬ l[k].kind=7:=p37)
  refine kP H (SC (Rc rfl (aO bK rfl (Cd rfl ?_ ?_)))) <;> clear H bK
  ·intro h37 a H
   try have p37:=dT h37
   have Bt:l[k].kind=6∨l[k].kind=7:=by first|exact .inl p37|exact .inr p37
   rw [JR,av Bt] at bZ;refine kP H (SQ fun _ dZ=>SR fun _ eU=>Ro J8 2 rfl ?_);clear H;intro a H;refine aW ny (cs:=[_,_]) H wn rfl rfl (H.hp.dX 0 rfl rfl) rfl ?_;clear H;intro a H;refine aW eZ (cs:=[_,_,_,_,_,_,_,_,_,_,_]) H wn rfl rfl (H.hp.dX 1 rfl rfl) rfl ?_;clear H;intro a H;refine yG (Li:=[_,_,_]++mV ds) (L:=Lt) (St.un (A:=[_,_,_]) H) wn rfl rfl (hcb j1 _ _ _ _ ⟨_,bZ.head,_,rfl,bH.mkItem (hhd.mono pX) (hfl.mono pX) (hrw.mono pX)⟩ hgm bZ.now (Hp.owns (Li:=[_,_,_]++mV ds) (St.un (A:=[_,_,_]) H).hp)) rfl ?_;clear H;rintro v43 Dr EL a w ⟨Ns,rfl,hb1,hb2⟩ qb H
   simp only [nN,oG,oH] at H
   refine kH H (Rn rfl (Kz eU (Cd rfl ?_ ?_))) <;> clear H eU
   ·intro lH a H
    try have p44:=dT lH
    refine dR ?_;refine (Ay (Lh:=[_,_,_]) _ H ?_).1;clear H;intro a w H;dsimp only [lca,aV] at H;refine (leave0 H results116 ?_).1
    first
     | exact H.hp.cK (L':=Lx) (by repeat (first|exact cO _|apply List.Sublist.cons)) (.inr hI)
     | exact H.hp.cK (L':=EL) (by repeat (first|exact cO _|apply List.Sublist.cons)) (.inr (hb2 (by simpa using lH)))
     | exact H.hp.cK (L':=Lt) (by repeat (first|exact cO _|apply List.Sublist.cons)) (.inl (by rw [iw (by omega),nK] at bZ;have:=bZ.len;simp only [List.length_nil,nY] at this;(try rw [bV]);rw [← this];exact bZ.now))
   intro lH a H
   try have p44:=dF lH
   have zI:=bZ.step (hb1 (by simpa using lH));refine fu ?_;refine dZ _ _ ?_;clear dZ;refine dw (fun _ fK=>?_);refine aW eZ (cs:=[_,_,_,_,_,_,_,_,_,_,_]) H wn rfl rfl (H.hp.dX 1 rfl rfl) rfl ?_;clear H;intro a H;refine s_call Xr H wn rfl (abZ ih hn _ _ H.ro l[k] _ (by omega) (bH.mkItem (hhd.mono fun b o h=>qb b o (pX b o h)) (hfl.mono fun b o h=>qb b o (pX b o h)) (hrw.mono fun b o h=>qb b o (pX b o h)))) rfl ?_;clear H;rintro v46 Qr a w ⟨bx,rfl,hit⟩ Ed H;refine fK _ _ ?_;clear fK;refine vC ?_;skip;refine ES (ι:=OL) (κ:=OL) (Lc:=[(_,_),(_,_),(_,_)]) (fun (k:Nat) (gh:OL)=>[]) (fun (k:Nat) (gh:OL)=>(mV ds++gh)) (fun (k:Nat) (gh:OL) (g:GH)=>J (j1+1+k) g gh) (fun (gx:OL)=>Code.ret) (fun (gx:OL)=>[]) (fun (gx:OL)=>(mV ds++gx)) (fun (gx:OL) (g:GH)=>Jx g gx) (EL) (by exact H) rfl Q8 (hit) (fun _ _ h=>h) rfl (fun k args g h=>by obtain ⟨_,_,rfl,_⟩:=Dc h;rfl) (fun k i G G' hm h=>nR _ _ _ _ hm h) (fun x G G' hm h=>hJx _ _ _ hm h) (nR _ _ _ _ Ed zI.now) ?_ ?_ ?_
   ·clear H;intro l15 yE vB bk k args gh Ez w15 F15 B15 a Tx yg hI Td TK TY H;obtain ⟨wu,hgh⟩:∃ x,x=gh:=⟨_,rfl⟩;subst hgh;obtain ⟨Tz,ND,rfl,zJ⟩:=Dc Tx;obtain ⟨aA,an,ac,bA,bn,bc,NG,NJ,NH,NM,NY,NP,OZ,O4,O1,rfl,-⟩:=zJ.item;dsimp only [uD,List.cons_append,List.nil_append] at H;refine dw (fun _ gM=>?_);refine dU ny H wn rfl ?_;clear H;intro b10 a w Hq H;refine bN ny 0 (vs:=[_,_]) _ H wn rfl rfl rfl rfl rfl rfl rfl rfl ?_;clear H;intro w H;dsimp only [List.set,setRow] at H;refine gM _ _ ?_;clear gM;refine nG ?_;refine dU eZ H wn rfl ?_;clear H;intro b11 a w Hr H;refine bN eZ 0 (vs:=[_,_,_,_,_,_,_,_,_,_,_]) _ H wn rfl rfl rfl rfl rfl rfl rfl rfl ?_;clear H;intro w H;dsimp only [List.set,setRow] at H;refine aH ?_;refine Td _ _ _ _ _ _ (by exact H.dS (Pl:=[_,_,_,_,_,_]) (dL:=[_,_,_,_,_,_]) [2,0,1,3,4,5] (by decide) rfl) ?_;clear H;intro w H;refine kP H (SB (SR fun _ iC=>Ro J8 5 rfl ?_));clear H;intro a H;refine aW ny (cs:=[_,_]) H wn rfl rfl (H.hp.dX 2 rfl rfl) rfl ?_;clear H;intro a H;refine aW eZ (cs:=[_,_,_,_,_,_,_,_,_,_,_]) H wn rfl rfl (H.hp.dX 1 rfl rfl) rfl ?_;clear H;intro a H;refine yG (Li:=([_,_,_,_,_,_]++bk)++mV ds) (L:=wu) (St.un (A:=[_,_,_,_,_,_]++bk) (St.un (A:=[_,_,_,_,_,_]) H)) wn rfl rfl (hcb (j1+1+k) _ _ _ _ ⟨_,zI.part k _ (fT Tz),_,rfl,zJ⟩ (fun b o h=>yg b o (Ed b o (qb b o (hgm b o h)))) hI (Hp.owns (Li:=([_,_,_,_,_,_]++bk)++mV ds) (St.un (A:=[_,_,_,_,_,_]++bk) (St.un (A:=[_,_,_,_,_,_]) H)).hp)) rfl ?_;clear H;rintro v52 Qt KA a w ⟨b52,rfl,hb3,hb4⟩ TB H
    simp only [nN,oG,oH] at H
    refine kH H (Rn rfl (Kz iC (Cd rfl ?_ ?_))) <;> clear H iC
    ·intro fC a H
     refine dR ?_;refine (TY (KA) _ _ _ _ _ (by exact H.dS (Pl:=[_,_,_,_,_,_]) (dL:=[_,_,_,_]) [0,3,4,5] (by decide) rfl) ?_).1 rfl;exact hb4 (by simpa using fC)
    intro fC a H
    refine fu ?_;refine TK (KA) _ _ _ _ _ (by exact H.dS (Pl:=[_,_,_,_,_,_]) (dL:=[_,_,_,_]) [0,3,4,5] (by decide) rfl) ?_;exact hb3 (by simpa using fC)
   ·clear H;intro Ki gh Ko a w yg hI H;obtain ⟨wu,hgh⟩:∃ x,x=gh:=⟨_,rfl⟩;subst hgh;dsimp only [lca,aV] at H;refine K6 _ _ ?_;clear K6;refine kP H (SC (Rd rfl (Rm rfl ?_)));clear H;intro a H;refine aH ?_;refine Im ((k+1,at_+wC l[k],j1+1+(mW (kZ l[k])).length,wu,Ko,Ki :: ds)) (by exact (H.dS (Pl:=[_,_,_,_]) (dL:=[_,_]) [3,0] (by decide) rfl).sub ⟨rfl,rfl,rfl,rfl,rfl,rfl,aC⟩) ?_ ?_
    ·(try dsimp only);exact ⟨by omega,fun b o h=>yg b o (Ed b o (qb b o (hgm b o h))),zI.jump (by simpa using hI),by omega,by show at_+(wC l[k]:Int)+(fE ((l.drop (k+1)).map aJ.dat):Nat)≤n;omega⟩
    first|omega|(dsimp only;omega)
   clear H;intro Ki gx Ko a w yg hI H;obtain ⟨Lx,hgh⟩:∃ x,x=gx:=⟨_,rfl⟩;subst hgh;dsimp only [lca,aV] at H;refine dR ?_;refine (BO H 0 rfl ?_).1;clear H;intro a w H;dsimp only [List.eraseIdx_cons_succ,List.eraseIdx_cons_zero] at H;refine (Ay (Lh:=[_,_,_]) _ H ?_).1;clear H;intro a w H;dsimp only [lca,aV] at H;refine (leave0 H results116 ?_).1
   first
    | exact H.hp.cK (L':=Lx) (by repeat (first|exact cO _|apply List.Sublist.cons)) (.inr hI)
    | exact H.hp.cK (L':=EL) (by repeat (first|exact cO _|apply List.Sublist.cons)) (.inr (hb2 (by simpa using lH)))
    | exact H.hp.cK (L':=Lt) (by repeat (first|exact cO _|apply List.Sublist.cons)) (.inl (by rw [iw (by omega),nK] at bZ;have:=bZ.len;simp only [List.length_nil,nY] at this;(try rw [bV]);rw [← this];exact bZ.now))
  intro h37 a H
  try have p37:=dF h37
  first
   | (have hn6:¬ l[k].kind=6:=p37)
   | (have hn7:¬ l[k].kind=7:=p37)
  refine kP H (Kc K6 (SC (Rd rfl (Rm rfl ?_))));clear H K6;intro a H;refine aH ?_;refine Im ((k+1,at_+wC l[k],j1,Lt,g,ds)) (by exact (H.dS (Pl:=[_,_,_]) (dL:=[_]) [2] (by decide) rfl).sub ⟨rfl,rfl,rfl,rfl,rfl,rfl,aC⟩) ?_ ?_
  ·(try dsimp only);exact ⟨by omega,hgm,by rw [JR,ah (by omega),oH] at bZ;exact bZ,by omega,by show at_+(wC l[k]:Int)+(fE ((l.drop (k+1)).map aJ.dat):Nat)≤n;omega⟩
  first|omega|(dsimp only;omega)
 intro fM a H
 try have oL:=dF fM
 refine dW ?_;refine (Ay (Lh:=[_]) _ H ?_).2;clear H;intro a w H;dsimp only [lca,aV] at H;refine (leave0 H results116 ?_).1
 first
  | exact H.hp.cK (L':=Lx) (by repeat (first|exact cO _|apply List.Sublist.cons)) (.inr hI)
  | exact H.hp.cK (L':=EL) (by repeat (first|exact cO _|apply List.Sublist.cons)) (.inr (hb2 (by simpa using lH)))
  | exact H.hp.cK (L':=Lt) (by repeat (first|exact cO _|apply List.Sublist.cons)) (.inl (by rw [iw (by omega),nK] at bZ;have:=bZ.len;simp only [List.length_nil,nY] at this;(try rw [bV]);rw [← this];exact bZ.now))
theorem aaB:∀ n:Nat,n≤4294967297→IZ n
 | 0,_=>fun _ _ _ _ _ _ h=>absurd h (by omega)
 | n+1,hn=>alJ (aaB n (by omega)) (by omega)
theorem alI (G:GH) (w0:World) (hG:Hold G w0) (l:List aJ) (id:Int) (v:ak) (hz:bU l≤4294967296) (hv:au G (.sl 11 (l.map aJ.dat)) v) :
  Calls prog 60 #[vi id,v] w0 (bJ w0 G fun u G'=>∃ bl bi,u=.func (.func 116) #[] #[(aM bl 0),(aM bi 0)]∧Iter prog G' u ((nK id 0 l).map AB)) :=
 U1 (aaB 4294967297 (by omega)) G w0 hG l id v (by omega) hv
end
section
open Go.RowKit
theorem aeH:∀ args w,(callFunc 118 args).run prog w=.ok (.enter 118 args) w:=enters func118 rfl (by kernel_rfl)
theorem aeI:∀ args w,(callFunc 119 args).run prog w=.ok (.enter 119 args) w:=enters func119 rfl (by kernel_rfl)
theorem agm:∀ args w,(callFunc 63 args).run prog w=.ok (.enter 63 args) w:=enters func63 rfl (by kernel_rfl)
theorem agk:∀ args w,(callFunc 61 args).run prog w=.ok (.enter 61 args) w:=enters func61 rfl (by kernel_rfl)
theorem agn:∀ args w,(callFunc 64 args).run prog w=.ok (.enter 64 args) w:=enters func64 rfl (by kernel_rfl)
theorem agl:∀ args w,(callFunc 62 args).run prog w=.ok (.enter 62 args) w:=enters func62 rfl (by kernel_rfl)
def wB (fv:ak) (G:GH) (d:List Dat) (b:Bool):Prop:=∀ (G1:GH) (w1:World) (cs:List ak),(∀ b o,G b=some o→G1 b=some o)→Hold G1 w1→bH G1 d cs →
 xB prog fv [.agg cs.toArray] w1 (bJ w1 G1 fun u G'=>u=.bool b)
def qV (o:Option Nat):Int:=match o with|some i=>i|none=>-1
theorem akr (G:GH) (w0:World) (hG:Hold G w0) (l:List bS) (p:bS→Bool) (v fv:ak) (hv:au G (.sl 6 (l.map bS.dat)) v) (hf:∀ x∈l,wB fv G x.dat (p x)) :
  Calls prog 118 #[v,fv] w0 (bJ w0 G fun u G'=>u=vi (qV (l.findIdx? p))):=by
 obtain ⟨A,c,rfl,hc1,hc2,hg⟩:=hv.slice;have hml:maxLen=9223372036854775807:=rfl;rw [bV] at *;refine eN [(0,_),(1,_)] func118 rfl ntmps118 rfl rfl hG ?_;intro a H;refine kP H (SR fun _ K1=>aj K1 rfl (SQ fun _ K2=>SR fun _ K3=>Rm rfl (Rl kr rfl (Rm rfl (Kz K3 (SB ?_))))));clear H K1 K3;intro a H;skip;refine eH (ι:=Nat × GH) (Tc:=[(0,_),(1,_),(7,_)]) (Lc:=[]) (fun gh=>[(8,vi gh.1)]) (fun gh=>[]) (fun gh=>gh.2) (fun gh=>gh.1≤l.length∧(l.take gh.1).findIdx? p=none∧(∀ b o,G b=some o→gh.2 b=some o)) (fun gh=>l.length - gh.1) ((0,G)) (by exact (H).sub ⟨rfl,rfl,rfl,rfl,aC⟩) ?_ ?_
 ·exact ⟨by omega,rfl,fun _ _ h=>h⟩
 clear H;intro gh a w hI H;obtain ⟨k,g⟩:=gh;dsimp only at hI H;obtain ⟨hk,hno,hgm⟩:=hI;dsimp only [lca,aV] at H;refine kP H (SR fun _ K4=>Rc rfl (Kz K4 (SQ fun _ K5=>Cd rfl ?_ ?_))) <;> clear H K4
 ·intro h9 a H
  try have p9:=dT h9
  have hk2:k < l.length:=by omega
  obtain ⟨b,o,cs,rfl,hcl,hrow,hrep⟩:=hg k l[k].dat (by simp [hk2]);obtain ⟨pA,pn,pc,dA,dn,dc,yA,yn,yc,fA,fn,fc,rfl,-⟩:=hrep.row;replace hrow:=fun j u hj=>ay hgm (hrow j u hj);refine kP H (Kc K5 (SQ fun _ K6=>SB (SR fun _ K7=>Rm rfl (aj K7 rfl (SR fun _ K8=>Rm rfl (Rm rfl (Rm rfl (Ri kr iV rfl rfl ?_))))))));clear H K5 K7;intro a H;refine aW iV (cs:=[_,_,_,_,_,_]) H wn rfl rfl (fun j v hj=>H.hp.aF (hrow j v hj)) rfl ?_;clear H;intro a H;refine pI H wn rfl rfl (hf _ (jW hk2) _ _ _ hgm H.ro (hrep.mono hgm)) rfl ?_;clear H;rintro v16 yP a w rfl pY H;refine K8 _ _ ?_;clear K8;refine jX H rfl ?_ ?_
  ·intro h16
   try have p16:=dT h16
   refine kP H (SR fun _ K9=>Rm rfl (aj K9 rfl ?_));clear H K9;intro a H;refine lr H results118 rfl ?_
   first
    | exact H.rt (by rw [zK hk2 hno h16];rfl)
    | exact H.rt (by rw [show l.take k=l from iH (by omega)] at hno;rw [hno];rfl)
  intro h16
  try have p16:=dF h16
  refine kP H (Kc K6 (SC (Rd rfl (Rm rfl ?_))));clear H K6;intro a H;refine aH ?_;refine dK ((k+1,yP)) (by exact (H).sub ⟨rfl,rfl,rfl,rfl,aC⟩) ?_ ?_
  ·(try dsimp only);exact ⟨by omega,Ie hk2 hno h16,fun b o h=>pY b o (hgm b o h)⟩
  first|omega|(dsimp only;omega)
 intro h9 a H
 try have p9:=dF h9
 refine dW ?_;refine K2 _ _ ?_;clear K2;refine kP H (SR fun _ aT=>aj aT rfl ?_);clear H aT;intro a H;refine lr H results118 rfl ?_
 first
  | exact H.rt (by rw [zK hk2 hno h16];rfl)
  | exact H.rt (by rw [show l.take k=l from iH (by omega)] at hno;rw [hno];rfl)
theorem aea (G:GH) (w0:World) (hG:Hold G w0) (l:List bS) (p:bS→Bool) (v fv:ak) (hv:au G (.sl 6 (l.map bS.dat)) v) (hf:∀ x∈l,wB fv G x.dat (p x)) :
  Calls prog 61 #[v,fv] w0 (bJ w0 G fun u G'=>u=.bool (l.findIdx? p).isSome):=by
 refine eN [(0,_),(1,_)] func61 rfl ntmps61 rfl rfl hG ?_;intro a H;refine kP H (SR fun _ K1=>aj K1 rfl (SR fun _ K2=>Rm rfl (Rm rfl ?_)));clear H K1;intro a H;refine s_call aeH H wn rfl (akr _ _ H.ro l p _ _ hv hf) rfl ?_;clear H;rintro v7 G7 a w rfl wU H;refine kH H (Rc rfl (aj K2 rfl ?_));clear H K2;intro a H;refine lr H results61 rfl ?_
 exact H.rt (by cases h:l.findIdx? p <;> simp [qV])
theorem akq (G:GH) (w0:World) (hG:Hold G w0) (l:List bO) (p:bO→Bool) (v fv:ak) (hv:au G (.sl 7 (l.map bO.dat)) v) (hf:∀ x∈l,wB fv G x.dat (p x)) :
  Calls prog 119 #[v,fv] w0 (bJ w0 G fun u G'=>u=vi (qV (l.findIdx? p))):=by
 obtain ⟨A,c,rfl,hc1,hc2,hg⟩:=hv.slice;have hml:maxLen=9223372036854775807:=rfl;rw [bV] at *;refine eN [(0,_),(1,_)] func119 rfl ntmps119 rfl rfl hG ?_;intro a H;refine kP H (SR fun _ K1=>aj K1 rfl (SQ fun _ K2=>SR fun _ K3=>Rm rfl (Rl mh rfl (Rm rfl (Kz K3 (SB ?_))))));clear H K1 K3;intro a H;skip;refine eH (ι:=Nat × GH) (Tc:=[(0,_),(1,_),(7,_)]) (Lc:=[]) (fun gh=>[(8,vi gh.1)]) (fun gh=>[]) (fun gh=>gh.2) (fun gh=>gh.1≤l.length∧(l.take gh.1).findIdx? p=none∧(∀ b o,G b=some o→gh.2 b=some o)) (fun gh=>l.length - gh.1) ((0,G)) (by exact (H).sub ⟨rfl,rfl,rfl,rfl,aC⟩) ?_ ?_
 ·exact ⟨by omega,rfl,fun _ _ h=>h⟩
 clear H;intro gh a w hI H;obtain ⟨k,g⟩:=gh;dsimp only at hI H;obtain ⟨hk,hno,hgm⟩:=hI;dsimp only [lca,aV] at H;refine kP H (SR fun _ K4=>Rc rfl (Kz K4 (SQ fun _ K5=>Cd rfl ?_ ?_))) <;> clear H K4
 ·intro h9 a H
  try have p9:=dT h9
  have hk2:k < l.length:=by omega
  obtain ⟨b,o,cs,rfl,hcl,hrow,hrep⟩:=hg k l[k].dat (by simp [hk2]);obtain ⟨pA,pn,pc,dA,dn,dc,yA,yn,yc,fA,fn,fc,rfl,-⟩:=hrep.cell;replace hrow:=fun j u hj=>ay hgm (hrow j u hj);refine kP H (Kc K5 (SQ fun _ K6=>SB (SR fun _ K7=>Rm rfl (aj K7 rfl (SR fun _ K8=>Rm rfl (Rm rfl (Rm rfl (Ri mh iQ rfl rfl ?_))))))));clear H K5 K7;intro a H;refine aW iQ (cs:=[_,_,_,_,_,_,_]) H wn rfl rfl (fun j v hj=>H.hp.aF (hrow j v hj)) rfl ?_;clear H;intro a H;refine pI H wn rfl rfl (hf _ (jW hk2) _ _ _ hgm H.ro (hrep.mono hgm)) rfl ?_;clear H;rintro v16 yP a w rfl pY H;refine K8 _ _ ?_;clear K8;refine jX H rfl ?_ ?_
  ·intro h16
   try have p16:=dT h16
   refine kP H (SR fun _ K9=>Rm rfl (aj K9 rfl ?_));clear H K9;intro a H;refine lr H results119 rfl ?_
   first
    | exact H.rt (by rw [zK hk2 hno h16];rfl)
    | exact H.rt (by rw [show l.take k=l from iH (by omega)] at hno;rw [hno];rfl)
  intro h16
  try have p16:=dF h16
  refine kP H (Kc K6 (SC (Rd rfl (Rm rfl ?_))));clear H K6;intro a H;refine aH ?_;refine dK ((k+1,yP)) (by exact (H).sub ⟨rfl,rfl,rfl,rfl,aC⟩) ?_ ?_
  ·(try dsimp only);exact ⟨by omega,Ie hk2 hno h16,fun b o h=>pY b o (hgm b o h)⟩
  first|omega|(dsimp only;omega)
 intro h9 a H
 try have p9:=dF h9
 refine dW ?_;refine K2 _ _ ?_;clear K2;refine kP H (SR fun _ aT=>aj aT rfl ?_);clear H aT;intro a H;refine lr H results119 rfl ?_
 first
  | exact H.rt (by rw [zK hk2 hno h16];rfl)
  | exact H.rt (by rw [show l.take k=l from iH (by omega)] at hno;rw [hno];rfl)
theorem adZ (G:GH) (w0:World) (hG:Hold G w0) (l:List bO) (p:bO→Bool) (v fv:ak) (hv:au G (.sl 7 (l.map bO.dat)) v) (hf:∀ x∈l,wB fv G x.dat (p x)) :
  Calls prog 63 #[v,fv] w0 (bJ w0 G fun u G'=>u=.bool (l.findIdx? p).isSome):=by
 refine eN [(0,_),(1,_)] func63 rfl ntmps63 rfl rfl hG ?_;intro a H;refine kP H (SR fun _ K1=>aj K1 rfl (SR fun _ K2=>Rm rfl (Rm rfl ?_)));clear H K1;intro a H;refine s_call aeI H wn rfl (akq _ _ H.ro l p _ _ hv hf) rfl ?_;clear H;rintro v7 G7 a w rfl wU H;refine kH H (Rc rfl (aj K2 rfl ?_));clear H K2;intro a H;refine lr H results63 rfl ?_
 exact H.rt (by cases h:l.findIdx? p <;> simp [qV])
def O5 (id:Int) (r:bS):Bool:=(r.cells.findIdx? fun c=>decide (c.id=id)).isSome
def JL (id:Int) (x:aJ):Bool:=decide (x.id=id) || (x.rows.findIdx? (O5 id)).isSome
theorem alG {G:GH} {bi:Nat} {id:Int} (hb:aF G bi 0=some (vi id)) (c:bO):wB (.func (.func 64) #[] #[(aM bi 0)]) G c.dat (decide (c.id=id)):=by
 intro G1 w0 cs hm hG hr;refine mF (caps:=[(aM bi 0)]) agn ?_;obtain ⟨pA,pn,pc,dA,dn,dc,yA,yn,yc,fA,fn,fc,rfl,-⟩:=hr.cell;replace hb:=ay hm hb;refine eN [(0,_),(1,_)] func64 rfl ntmps64 rfl rfl hG ?_;intro a H;refine dw (fun _ K1=>?_);refine eD (cs:=[_,_,_,_,_,_,_]) H wn rfl rfl rfl ?_;clear H;intro b2 a w hb2 H;refine kH H (aj K1 rfl (SR fun _ K2=>bg Cw aD 0 rfl rfl (Rg aD rfl (by assumption) ?_)));clear H K1;intro a H;exact kH H (Rc rfl (aj K2 rfl (LR results64 rfl fun H=>H.rt rfl)))
theorem alF {G:GH} {bi:Nat} {id:Int} (hb:aF G bi 0=some (vi id)) (r:bS):wB (.func (.func 62) #[] #[(aM bi 0)]) G r.dat (O5 id r):=by
 intro G1 w0 cs hm hG hr;refine mF (caps:=[(aM bi 0)]) agl ?_;obtain ⟨pA,pn,pc,dA,dn,dc,yA,yn,yc,fA,fn,fc,rfl,-,hcl⟩:=hr.row;replace hb:=ay hm hb;refine eN [(0,_),(1,_)] func62 rfl ntmps62 rfl rfl hG ?_;intro a H;refine dw (fun _ K1=>?_);refine eD (cs:=[_,_,_,_,_,_]) H wn rfl rfl rfl ?_;clear H;intro b2 a w hb2 H;refine kH H (aj K1 rfl (SR fun _ K2=>bg uJ uW 0 rfl rfl ?_));clear H K1;intro a H;refine qX H wn rfl rfl ?_;clear H;intro a H;refine s_call agm H wn rfl (adZ _ _ H.ro r.cells (fun c=>decide (c.id=id)) _ _ hcl (fun c _=>alG hb c)) rfl ?_;clear H;rintro v7 G7 a w rfl wU H;exact kH H (aj K2 rfl (LR results62 rfl fun H=>H.rt rfl))
def Df (l:List aJ) (id:Int):Option (Int × Int):=((nK 0 0 l).find? fun a=>JL id a.2).map (·.1)
theorem alH (G:GH) (w0:World) (hG:Hold G w0) (D:jS) (l:List aJ) (id:Int) (hv:au G (.sl 11 (l.map aJ.dat)) (aK D.f)) (hz:bU l≤4294967296) :
  Calls prog 20 #[D.val,vi id] w0 (bJ w0 G fun u G'=>u=.tuple #[.agg #[vi ((Df l id).getD (0,0)).1,vi ((Df l id).getD (0,0)).2],.bool (Df l id).isSome]):=by
 refine eN [(0,_),(1,_)] func20 rfl ntmps20 rfl rfl hG ?_;intro a H;refine dw (fun _ K1=>?_);refine eD (cs:=[_,_,_,_,_,_,_,_,_,_,_]) H wn rfl rfl rfl ?_;clear H;intro b2 a w hb2 H;refine eD (cs:=[_]) H wn rfl rfl rfl ?_;clear H;intro b3 a w hb3 H;refine dU ny H wn rfl ?_;clear H;intro b4 a w hb4 H;refine dU uf H wn rfl ?_;clear H;intro b5 a w hb5 H;refine K1 _ _ ?_;clear K1;refine aS (fun _ K2=>?_);refine aS (fun _ K3=>?_);have H:=H.dS (Pl:=[_,_,_,_]) (dL:=[_,_,_,_]) [2,0,1,3] (by decide) rfl;obtain ⟨Ga,hma,hb3,H⟩:=H.eG
 have hbi:aF Ga b3 0=some (vi id):=by unfold aF;rw [hb3];rfl
 refine kP H (SC (bg uM jy 2 rfl rfl ?_));clear H;intro a H;refine s_call Ru H wn rfl (alI _ _ H.ro l 0 _ hz (hv.mono hma)) rfl ?_;clear H;rintro v11 wh a w ⟨bl,bi,rfl,hit⟩ HY H;refine aH ?_;refine K3 _ _ ?_;clear K3;refine vC ?_;skip;refine ES (ι:=Unit) (κ:=Int × Int) (Lc:=[(_,_)]) (fun (k:Nat) (gh:Unit)=>[(b4,.cells #[vi 0,vi 0] 64 (0,0)),(b5,.cells #[.bool false] 4 (0,0))]) (fun (k:Nat) (gh:Unit)=>[]) (fun (k:Nat) (gh:Unit) (g:GH)=>((nK 0 0 l).take k).find? (fun a=>JL id a.2)=none) (fun (gx:Int × Int)=>Code.ret) (fun (gx:Int × Int)=>[(b4,.cells #[vi gx.1,vi gx.2] 64 (0,0)),(b5,.cells #[.bool true] 4 (0,0))]) (fun (gx:Int × Int)=>[]) (fun (gx:Int × Int) (g:GH)=>Df l id=some gx) (()) (by exact H.dS (Pl:=[_,_,_]) (dL:=[_,_,_]) [2,1,0] (by decide) rfl) rfl NR (hit) (fun _ _ h=>h) rfl (fun k args g h=>by obtain ⟨_,_,rfl,_⟩:=Dc h;rfl) (fun _ _ _ _ _ h=>h) (fun _ _ _ _ h=>h) (rfl) ?_ ?_ ?_
 ·clear H;intro l2 yE vB bk k args gh G2 w2 F2 B2 a hk2 hm2 hI aiH ajB Zv H;obtain ⟨hk,ND,rfl,zJ⟩:=Dc hk2;obtain ⟨aA,an,ac,bA,bn,bc,NG,NJ,NH,NM,NY,NP,OZ,O4,O1,rfl,LU,hf8,hr8⟩:=zJ.item;dsimp only [uD,List.cons_append,List.nil_append] at H;replace hbi:=ay hm2 (ay HY hbi);refine dw (fun _ K4=>?_);refine dU ny H wn rfl ?_;clear H;intro b6 a w hb6 H;refine bN ny 0 (vs:=[_,_]) _ H wn rfl rfl rfl rfl rfl rfl rfl rfl ?_;clear H;intro w H;dsimp only [List.set,setRow] at H;refine K4 _ _ ?_;clear K4;refine nG ?_;refine dU eZ H wn rfl ?_;clear H;intro b7 a w vM H;refine bN eZ 0 (vs:=[_,_,_,_,_,_,_,_,_,_,_]) _ H wn rfl rfl rfl rfl rfl rfl rfl rfl ?_;clear H;intro w H;dsimp only [List.set,setRow] at H;refine aH ?_;refine aiH _ _ _ _ _ _ (by exact H.dS (Pl:=[_,_,_,_,_,_]) (dL:=[_,_,_,_,_,_]) [2,0,1,3,4,5] (by decide) rfl) ?_;clear H;intro w H;refine kP H (SB (SR fun _ K5=>bg zk zV 1 rfl rfl ?_));clear H;intro a H;refine qX H wn rfl rfl ?_;clear H;intro a H;refine s_call agk H wn rfl (aea _ _ H.ro _ (O5 id) _ _ hr8 (fun r _=>alF hbi r)) rfl ?_;clear H;rintro v17 Cg a w rfl ou H;replace hbi:=ay ou hbi;refine kH H (aj K5 rfl (SR fun _ K6=>bg wL aD 1 rfl rfl (Rg aD rfl (by assumption) ?_)));clear H K5;intro a H;refine kH H (Rc rfl (Rm rfl (Sp 22 rfl ?_ ?_))) <;> clear H
  ·intro h22 a H
   try have jI:=dT h22
   refine kH H (Ks h22 rfl (Pt h22 rfl (Kz K6 (Ct rfl rfl (SR fun _ K7=>?_)))));clear H K6;intro a H;refine aW ny (cs:=[_,_]) H wn rfl rfl (H.hp.dX 2 rfl rfl) rfl ?_;clear H;intro a H;refine bN ny 4 (vs:=[_,_]) _ H wn rfl rfl rfl rfl rfl rfl rfl rfl ?_;clear H;intro w H;dsimp only [List.set,setRow] at H;refine bN uf 5 (vs:=[_]) _ H wn rfl rfl rfl rfl rfl rfl rfl rfl ?_;clear H;intro w H;dsimp only [List.set,setRow] at H;refine K7 _ _ ?_;clear K7;refine dR ?_;refine (Zv ((nK 0 0 l)[k].1) _ _ _ _ _ (by exact H.dS (Pl:=[_,_,_,_,_,_]) (dL:=[_,_,_,_]) [0,3,4,5] (by decide) rfl) ?_).1 rfl;exact (by unfold Df;rw [Ye hk hI (by unfold JL;simp_all)];rfl)
  intro h22 a H
  try have jI:=dF h22
  refine kH H (YM h22 rfl (Pf h22 rfl (Kz K6 (Cd rfl ?_ ?_)))) <;> clear H K6
  ·intro bE a H
   try have jP:=dT bE
   refine dw (fun _ K8=>?_);refine aW ny (cs:=[_,_]) H wn rfl rfl (H.hp.dX 2 rfl rfl) rfl ?_;clear H;intro a H;refine bN ny 4 (vs:=[_,_]) _ H wn rfl rfl rfl rfl rfl rfl rfl rfl ?_;clear H;intro w H;dsimp only [List.set,setRow] at H;refine bN uf 5 (vs:=[_]) _ H wn rfl rfl rfl rfl rfl rfl rfl rfl ?_;clear H;intro w H;dsimp only [List.set,setRow] at H;refine K8 _ _ ?_;clear K8;refine dR ?_;refine (Zv ((nK 0 0 l)[k].1) _ _ _ _ _ (by exact H.dS (Pl:=[_,_,_,_,_,_]) (dL:=[_,_,_,_]) [0,3,4,5] (by decide) rfl) ?_).1 rfl;exact (by unfold Df;rw [Ye hk hI (by unfold JL;simp_all)];rfl)
  intro bE a H
  try have jP:=dF bE
  refine fu ?_;refine ajB (()) _ _ _ _ _ (by exact H.dS (Pl:=[_,_,_,_,_,_]) (dL:=[_,_,_,_]) [0,3,4,5] (by decide) rfl) ?_;exact ahz hk hI (by unfold JL;simp_all)
 ·clear H;intro Dk2 gh Gd2 a w hm2 hI H;dsimp only [lca,aV] at H;refine K2 _ _ ?_;clear K2;refine dw (fun _ K9=>?_);refine nk Vj [_,_] H wn rfl rfl rfl rfl ?_;clear H;intro a H;refine bN ny 2 (vs:=[_,_]) _ H wn rfl rfl rfl rfl rfl rfl rfl rfl ?_;clear H;intro w H;dsimp only [List.set,setRow] at H;refine bN uf 3 (vs:=[_]) _ H wn rfl rfl rfl rfl rfl rfl rfl rfl ?_;clear H;intro w H;dsimp only [List.set,setRow] at H;refine K9 _ _ ?_;clear K9;refine dR ?_;refine (BO H 0 rfl ?_).1;clear H;intro a w H;dsimp only [List.eraseIdx_cons_succ,List.eraseIdx_cons_zero] at H;refine (iB H results20 (.cons (BS ny (cs:=[_,_]) H rfl rfl (H.hp.dX 1 rfl rfl)) (.cons (BR uf H rfl (H.hp.tV 2 rfl rfl)) .nil)) ?_).1
  have h:Df l id=none:=by unfold Df;rw [ahx (by simpa using hI)];rfl
  exact H.rt (by rw [h];rfl)
 clear H;intro Dk2 gx Gd2 a w hm2 hI H;obtain ⟨x,hgh⟩:∃ x,x=gx:=⟨_,rfl⟩;subst hgh;dsimp only [lca,aV] at H;refine dR ?_;refine (BO H 0 rfl ?_).1;clear H;intro a w H;dsimp only [List.eraseIdx_cons_succ,List.eraseIdx_cons_zero] at H;refine (iB H results20 (.cons (BS ny (cs:=[_,_]) H rfl rfl (H.hp.dX 1 rfl rfl)) (.cons (BR uf H rfl (H.hp.tV 2 rfl rfl)) .nil)) ?_).1;exact H.rt (by rw [hI];rfl)
end
section
open Go.RowKit
theorem afu:∀ args w,(callFunc 177 args).run prog w=.ok (.enter 177 args) w:=enters func177 rfl (by kernel_rfl)
theorem afv:∀ args w,(callFunc 178 args).run prog w=.ok (.enter 178 args) w:=enters func178 rfl (by kernel_rfl)
theorem rW:prog.underlying 61=some (.slice 3):=by kernel_rfl
theorem afy:∀ args w,(callFunc 181 args).run prog w=.ok (.enter 181 args) w:=enters func181 rfl (by kernel_rfl)
theorem Xv:∀ args w,(callFunc 142 args).run prog w=.ok (.enter 142 args) w:=enters func142 rfl (by kernel_rfl)
theorem aeY:∀ args w,(callFunc 144 args).run prog w=.ok (.enter 144 args) w:=enters func144 rfl (by kernel_rfl)
theorem aho:dV prog 229 1 1:=⟨by kernel_rfl⟩
theorem aeX:∀ args w,(callFunc 143 args).run prog w=.ok (.enter 143 args) w:=enters func143 rfl (by kernel_rfl)
theorem ahp:dV prog 229 2 2:=⟨by kernel_rfl⟩
theorem ahq:dV prog 229 3 3:=⟨by kernel_rfl⟩
def kz:kV:=⟨0,0,0,0,0,⟨#[]⟩⟩
def Ii:List Int:=Ij.map kV.num
def oo (k:Int):kV × Bool:=if Fe Ii k=true then (Ij.getD (Cr Ii k) kz,true) else (kz,false)
theorem find_spec (G:GH) (w0:World) (hG:Hold G w0) (k:Int):Calls prog 142 #[vi k] w0 (bJ w0 G fun u G'=>u=.tuple #[.agg (oo k).1.cells.toArray,.bool (oo k).2]):=by
 refine eN [(0,_)] func142 rfl ntmps142 rfl rfl hG ?_;intro a H;refine dw (fun _ K1=>?_);refine dU vY H wn rfl ?_;clear H;intro b2 a w hb2 H;refine kH H (aj K1 rfl (SR fun _ K2=>?_));clear H K1;intro a H;refine s_call afu H wn rfl (akH _ _ H.ro) rfl ?_;clear H;rintro v7 G7 a w hv7 wU H;obtain ⟨A,c,rfl,hc1,hc2,-⟩:=hv7.slice;rw [bV] at *;refine kH H (aj K2 rfl (SR fun _ K3=>Rm rfl (Rm rfl ?_)));clear H K2;intro a H;refine s_call afv H wn rfl (acN _ _ H.ro Ij k _ hv7 (by decide)) rfl ?_;clear H;rintro v11 wh a w rfl HY H;have hv7:=hv7.mono HY;have hkn:Ij.map kV.num=Ii:=rfl;rw [hkn] at H;obtain ⟨n,hn⟩:∃ n,n=Cr Ii k:=⟨_,rfl⟩;obtain ⟨q,hq⟩:∃ q,q=Fe Ii k:=⟨_,rfl⟩;rw [← hn,← hq] at H;refine kH H (Rm rfl ?_);clear H;intro a H;(iterate 2 refine uT H wn rfl rfl rfl ?_;clear H;intro a H);refine kH H (Ra rfl (aj K3 rfl (SQ fun _ K4=>SR fun _ K5=>Rm rfl (Rn rfl (Kz K5 (Cd rfl ?_ ?_)))))) <;> clear H K3 K5
 ·intro fM a H
  refine dw (fun _ K6=>?_);refine nk abh [_,_,_,_,_,_] H wn rfl rfl rfl rfl ?_;clear H;intro a H;refine bN vY 0 (vs:=[_,_,_,_,_,_]) _ H wn rfl rfl rfl rfl rfl rfl rfl rfl ?_;clear H;intro w H;dsimp only [List.set,setRow] at H;refine kH H (aj K6 rfl ?_);clear H K6;intro a H;refine dR ?_;refine (iB H results142 (.cons (BS vY (cs:=[_,_,_,_,_,_]) H rfl rfl (H.hp.dX 0 rfl rfl)) (.cons (bM H rfl) .nil)) ?_).1;exact H.rt (by rw [oo,ah (by rw [← hq];simpa using fM)];rfl)
 intro fM a H
 try have oL:=dF fM
 have hlt:n < Ij.length:=by have:=aio (ks:=Ii) (t:=k) (by rw [← hq];simpa using fM);rw [← hn] at this;simpa [Ii] using this
 obtain ⟨b,o,rfl,hrow⟩:=Us hv7 hlt;refine kP H (Kc K4 (SR fun _ K7=>Rm rfl (Rm rfl (Ri M6 vY rfl rfl ?_))));clear H K4;intro a H;refine aW vY (cs:=[_,_,_,_,_,_]) H wn rfl rfl (fun j v hj=>H.hp.aF (hrow j v hj)) rfl ?_;clear H;intro a H;refine bN vY 0 (vs:=[_,_,_,_,_,_]) _ H wn rfl rfl rfl rfl rfl rfl rfl rfl ?_;clear H;intro w H;dsimp only [List.set,setRow] at H;refine kH H (aj K7 rfl ?_);clear H K7;intro a H;refine dR ?_;refine (iB H results142 (.cons (BS vY (cs:=[_,_,_,_,_,_]) H rfl rfl (H.hp.dX 0 rfl rfl)) (.cons (bM H rfl) .nil)) ?_).1;exact H.rt (by rw [oo,av (by rw [← hq];simpa using fM),← hn,List.getD_eq_getElem?_getD,fT hlt];rfl)
def eY (e:Int):List Int:=if e=1∨e=4∨e=5∨e=6 then [1] else if e=2 then [1,2] else if e=3 then [3] else if e=7 then [6] else if e=9 then [4] else if e=10 then [5] else []
theorem fU (G:GH) (A:List Int):dG G 1 (A.map fun k=>[li k]) (A.map vi):=by
 refine ⟨A.map fun k=>[vi k],?_,by simp,fun j r cs hr hc=>?_⟩
 ·induction A with
  | nil=>rfl
  | cons a A ih=>simpa using ih
 rw [tu] at hr hc
 cases h:A[j]? with
 | none=>rw [h] at hr;cases hr
 | some x =>
  rw [h] at hr hc
  cases hr;cases hc
  exact ⟨by simp only [bH];exact ⟨_,_,rfl,by simp [au,Value.oneCell'],rfl⟩,rfl⟩
theorem ahK (G:GH) (w0:World) (hG:Hold G w0) (e:Int):Calls prog 144 #[vi e] w0 (bJ w0 G fun u G'=>au G' (.sl 1 ((eY e).map fun k=>[li k])) u):=by
  refine eN [(0,_)] func144 rfl ntmps144 rfl rfl hG ?_;intro a H;refine kP H (SR fun _ K1=>aj K1 rfl (SQ fun _ K2=>SR fun _ K3=>Rm rfl (Kz K3 (SB (SQ fun _ K4=>SR fun _ K5=>Rc rfl (aj K5 rfl (Cd rfl ?_ ?_))))))) <;> clear H K1 K3 K5
  · intro h4 a H
    try have p4:=dT h4
    refine kP H (Kc K4 (Ct rfl h4 (SR fun _ K6=>?_)));clear H K4;intro a H;refine jJ rW aD [_] [_] H wn rfl rfl rfl rfl rfl (by intro i q h;match i,h with|0,h=>exact h|n+1,h=>simp at h) rfl rfl ?_;clear H;intro b9 a w rH H;refine kH H (aj K6 rfl ?_);clear H K6;intro a H;refine lr H results144 rfl ?_
    first
      | exact H.rt (by rw [eY,ah (by omega),ah (by omega),ah (by omega),ah (by omega),ah (by omega),ah (by omega)];exact au.kg rfl (by decide))
      | (obtain ⟨Gz,hmz,hbz,H⟩:=H.eG
         first
           | exact H.rt (by rw [eY,av (by omega)];exact au.fF (n:=1) (cap:=1) hbz rfl (dJ _) (show 1≤maxLen by decide) rfl (fU _ [1]))
           | exact H.rt (by rw [eY,ah (by omega),av (by omega)];exact au.fF (n:=2) (cap:=2) hbz rfl (dJ _) (show 2≤maxLen by decide) rfl (fU _ [1,2]))
           | exact H.rt (by rw [eY,ah (by omega),ah (by omega),av (by omega)];exact au.fF (n:=1) (cap:=1) hbz rfl (dJ _) (show 1≤maxLen by decide) rfl (fU _ [3]))
           | exact H.rt (by rw [eY,ah (by omega),ah (by omega),ah (by omega),av (by omega)];exact au.fF (n:=1) (cap:=1) hbz rfl (dJ _) (show 1≤maxLen by decide) rfl (fU _ [6]))
           | exact H.rt (by rw [eY,ah (by omega),ah (by omega),ah (by omega),ah (by omega),av (by omega)];exact au.fF (n:=1) (cap:=1) hbz rfl (dJ _) (show 1≤maxLen by decide) rfl (fU _ [4]))
           | exact H.rt (by rw [eY,ah (by omega),ah (by omega),ah (by omega),ah (by omega),ah (by omega),av (by omega)];exact au.fF (n:=1) (cap:=1) hbz rfl (dJ _) (show 1≤maxLen by decide) rfl (fU _ [5])))
  intro h4 a H
  try have p4:=dF h4
  refine kP H (SR fun _ K7=>Rc rfl (aj K7 rfl (Cd rfl ?_ ?_))) <;> clear H K7
  · intro h4 a H
    try have p4:=dT h4
    refine kP H (Kc K4 (Ct rfl h4 (SR fun _ K8=>?_)));clear H K4;intro a H;refine jJ rW aD [_] [_] H wn rfl rfl rfl rfl rfl (by intro i q h;match i,h with|0,h=>exact h|n+1,h=>simp at h) rfl rfl ?_;clear H;intro b9 a w rH H;refine kH H (aj K8 rfl ?_);clear H K8;intro a H;refine lr H results144 rfl ?_
    first
      | exact H.rt (by rw [eY,ah (by omega),ah (by omega),ah (by omega),ah (by omega),ah (by omega),ah (by omega)];exact au.kg rfl (by decide))
      | (obtain ⟨Gz,hmz,hbz,H⟩:=H.eG
         first
           | exact H.rt (by rw [eY,av (by omega)];exact au.fF (n:=1) (cap:=1) hbz rfl (dJ _) (show 1≤maxLen by decide) rfl (fU _ [1]))
           | exact H.rt (by rw [eY,ah (by omega),av (by omega)];exact au.fF (n:=2) (cap:=2) hbz rfl (dJ _) (show 2≤maxLen by decide) rfl (fU _ [1,2]))
           | exact H.rt (by rw [eY,ah (by omega),ah (by omega),av (by omega)];exact au.fF (n:=1) (cap:=1) hbz rfl (dJ _) (show 1≤maxLen by decide) rfl (fU _ [3]))
           | exact H.rt (by rw [eY,ah (by omega),ah (by omega),ah (by omega),av (by omega)];exact au.fF (n:=1) (cap:=1) hbz rfl (dJ _) (show 1≤maxLen by decide) rfl (fU _ [6]))
           | exact H.rt (by rw [eY,ah (by omega),ah (by omega),ah (by omega),ah (by omega),av (by omega)];exact au.fF (n:=1) (cap:=1) hbz rfl (dJ _) (show 1≤maxLen by decide) rfl (fU _ [4]))
           | exact H.rt (by rw [eY,ah (by omega),ah (by omega),ah (by omega),ah (by omega),ah (by omega),av (by omega)];exact au.fF (n:=1) (cap:=1) hbz rfl (dJ _) (show 1≤maxLen by decide) rfl (fU _ [5])))
  intro h4 a H
  try have p4:=dF h4
  refine kP H (SR fun _ K9=>Rc rfl (aj K9 rfl (Cd rfl ?_ ?_))) <;> clear H K9
  · intro h4 a H
    try have p4:=dT h4
    refine kP H (Kc K4 (Ct rfl h4 (SR fun _ aT=>?_)));clear H K4;intro a H;refine jJ rW aD [_] [_] H wn rfl rfl rfl rfl rfl (by intro i q h;match i,h with|0,h=>exact h|n+1,h=>simp at h) rfl rfl ?_;clear H;intro b9 a w rH H;refine kH H (aj aT rfl ?_);clear H aT;intro a H;refine lr H results144 rfl ?_
    first
      | exact H.rt (by rw [eY,ah (by omega),ah (by omega),ah (by omega),ah (by omega),ah (by omega),ah (by omega)];exact au.kg rfl (by decide))
      | (obtain ⟨Gz,hmz,hbz,H⟩:=H.eG
         first
           | exact H.rt (by rw [eY,av (by omega)];exact au.fF (n:=1) (cap:=1) hbz rfl (dJ _) (show 1≤maxLen by decide) rfl (fU _ [1]))
           | exact H.rt (by rw [eY,ah (by omega),av (by omega)];exact au.fF (n:=2) (cap:=2) hbz rfl (dJ _) (show 2≤maxLen by decide) rfl (fU _ [1,2]))
           | exact H.rt (by rw [eY,ah (by omega),ah (by omega),av (by omega)];exact au.fF (n:=1) (cap:=1) hbz rfl (dJ _) (show 1≤maxLen by decide) rfl (fU _ [3]))
           | exact H.rt (by rw [eY,ah (by omega),ah (by omega),ah (by omega),av (by omega)];exact au.fF (n:=1) (cap:=1) hbz rfl (dJ _) (show 1≤maxLen by decide) rfl (fU _ [6]))
           | exact H.rt (by rw [eY,ah (by omega),ah (by omega),ah (by omega),ah (by omega),av (by omega)];exact au.fF (n:=1) (cap:=1) hbz rfl (dJ _) (show 1≤maxLen by decide) rfl (fU _ [4]))
           | exact H.rt (by rw [eY,ah (by omega),ah (by omega),ah (by omega),ah (by omega),ah (by omega),av (by omega)];exact au.fF (n:=1) (cap:=1) hbz rfl (dJ _) (show 1≤maxLen by decide) rfl (fU _ [5])))
  intro h4 a H
  try have p4:=dF h4
  refine kP H (SC (Rc rfl (aO K4 rfl (Cd rfl ?_ ?_)))) <;> clear H K4
  · intro h4 a H
    try have p4:=dT h4
    refine dw (fun _ bB=>?_);refine jJ rW aD [_] [_] H wn rfl rfl rfl rfl rfl (by intro i q h;match i,h with|0,h=>exact h|n+1,h=>simp at h) rfl rfl ?_;clear H;intro b9 a w rH H;refine kH H (aj bB rfl ?_);clear H bB;intro a H;refine lr H results144 rfl ?_
    first
      | exact H.rt (by rw [eY,ah (by omega),ah (by omega),ah (by omega),ah (by omega),ah (by omega),ah (by omega)];exact au.kg rfl (by decide))
      | (obtain ⟨Gz,hmz,hbz,H⟩:=H.eG
         first
           | exact H.rt (by rw [eY,av (by omega)];exact au.fF (n:=1) (cap:=1) hbz rfl (dJ _) (show 1≤maxLen by decide) rfl (fU _ [1]))
           | exact H.rt (by rw [eY,ah (by omega),av (by omega)];exact au.fF (n:=2) (cap:=2) hbz rfl (dJ _) (show 2≤maxLen by decide) rfl (fU _ [1,2]))
           | exact H.rt (by rw [eY,ah (by omega),ah (by omega),av (by omega)];exact au.fF (n:=1) (cap:=1) hbz rfl (dJ _) (show 1≤maxLen by decide) rfl (fU _ [3]))
           | exact H.rt (by rw [eY,ah (by omega),ah (by omega),ah (by omega),av (by omega)];exact au.fF (n:=1) (cap:=1) hbz rfl (dJ _) (show 1≤maxLen by decide) rfl (fU _ [6]))
           | exact H.rt (by rw [eY,ah (by omega),ah (by omega),ah (by omega),ah (by omega),av (by omega)];exact au.fF (n:=1) (cap:=1) hbz rfl (dJ _) (show 1≤maxLen by decide) rfl (fU _ [4]))
           | exact H.rt (by rw [eY,ah (by omega),ah (by omega),ah (by omega),ah (by omega),ah (by omega),av (by omega)];exact au.fF (n:=1) (cap:=1) hbz rfl (dJ _) (show 1≤maxLen by decide) rfl (fU _ [5])))
  intro h4 a H
  try have p4:=dF h4
  refine kP H (SR fun _ bC=>Rc rfl (aj bC rfl (Cd rfl ?_ ?_))) <;> clear H bC
  · intro h10 a H
    try have jw:=dT h10
    refine dw (fun _ bK=>?_);refine jJ rW aD [_,_] [_,_] H wn rfl rfl rfl rfl rfl (by intro i q h;match i,h with|0,h=>exact h|1,h=>exact h|n+2,h=>simp at h) rfl rfl ?_;clear H;intro b12 a w Fg H;refine kH H (aj bK rfl ?_);clear H bK;intro a H;refine lr H results144 rfl ?_
    first
      | exact H.rt (by rw [eY,ah (by omega),ah (by omega),ah (by omega),ah (by omega),ah (by omega),ah (by omega)];exact au.kg rfl (by decide))
      | (obtain ⟨Gz,hmz,hbz,H⟩:=H.eG
         first
           | exact H.rt (by rw [eY,av (by omega)];exact au.fF (n:=1) (cap:=1) hbz rfl (dJ _) (show 1≤maxLen by decide) rfl (fU _ [1]))
           | exact H.rt (by rw [eY,ah (by omega),av (by omega)];exact au.fF (n:=2) (cap:=2) hbz rfl (dJ _) (show 2≤maxLen by decide) rfl (fU _ [1,2]))
           | exact H.rt (by rw [eY,ah (by omega),ah (by omega),av (by omega)];exact au.fF (n:=1) (cap:=1) hbz rfl (dJ _) (show 1≤maxLen by decide) rfl (fU _ [3]))
           | exact H.rt (by rw [eY,ah (by omega),ah (by omega),ah (by omega),av (by omega)];exact au.fF (n:=1) (cap:=1) hbz rfl (dJ _) (show 1≤maxLen by decide) rfl (fU _ [6]))
           | exact H.rt (by rw [eY,ah (by omega),ah (by omega),ah (by omega),ah (by omega),av (by omega)];exact au.fF (n:=1) (cap:=1) hbz rfl (dJ _) (show 1≤maxLen by decide) rfl (fU _ [4]))
           | exact H.rt (by rw [eY,ah (by omega),ah (by omega),ah (by omega),ah (by omega),ah (by omega),av (by omega)];exact au.fF (n:=1) (cap:=1) hbz rfl (dJ _) (show 1≤maxLen by decide) rfl (fU _ [5])))
  intro h10 a H
  try have jw:=dF h10
  refine kP H (SR fun _ bP=>Rc rfl (aj bP rfl (Cd rfl ?_ ?_))) <;> clear H bP
  · intro gG a H
    try have rR:=dT gG
    refine dw (fun _ dx=>?_);refine jJ rW aD [_] [_] H wn rfl rfl rfl rfl rfl (by intro i q h;match i,h with|0,h=>exact h|n+1,h=>simp at h) rfl rfl ?_;clear H;intro b15 a w SX H;refine kH H (aj dx rfl ?_);clear H dx;intro a H;refine lr H results144 rfl ?_
    first
      | exact H.rt (by rw [eY,ah (by omega),ah (by omega),ah (by omega),ah (by omega),ah (by omega),ah (by omega)];exact au.kg rfl (by decide))
      | (obtain ⟨Gz,hmz,hbz,H⟩:=H.eG
         first
           | exact H.rt (by rw [eY,av (by omega)];exact au.fF (n:=1) (cap:=1) hbz rfl (dJ _) (show 1≤maxLen by decide) rfl (fU _ [1]))
           | exact H.rt (by rw [eY,ah (by omega),av (by omega)];exact au.fF (n:=2) (cap:=2) hbz rfl (dJ _) (show 2≤maxLen by decide) rfl (fU _ [1,2]))
           | exact H.rt (by rw [eY,ah (by omega),ah (by omega),av (by omega)];exact au.fF (n:=1) (cap:=1) hbz rfl (dJ _) (show 1≤maxLen by decide) rfl (fU _ [3]))
           | exact H.rt (by rw [eY,ah (by omega),ah (by omega),ah (by omega),av (by omega)];exact au.fF (n:=1) (cap:=1) hbz rfl (dJ _) (show 1≤maxLen by decide) rfl (fU _ [6]))
           | exact H.rt (by rw [eY,ah (by omega),ah (by omega),ah (by omega),ah (by omega),av (by omega)];exact au.fF (n:=1) (cap:=1) hbz rfl (dJ _) (show 1≤maxLen by decide) rfl (fU _ [4]))
           | exact H.rt (by rw [eY,ah (by omega),ah (by omega),ah (by omega),ah (by omega),ah (by omega),av (by omega)];exact au.fF (n:=1) (cap:=1) hbz rfl (dJ _) (show 1≤maxLen by decide) rfl (fU _ [5])))
  intro gG a H
  try have rR:=dF gG
  refine kP H (SR fun _ dP=>Rc rfl (aj dP rfl (Cd rfl ?_ ?_))) <;> clear H dP
  · intro h16 a H
    try have p16:=dT h16
    refine dw (fun _ dB=>?_);refine jJ rW aD [_] [_] H wn rfl rfl rfl rfl rfl (by intro i q h;match i,h with|0,h=>exact h|n+1,h=>simp at h) rfl rfl ?_;clear H;intro b18 a w Ot H;refine kH H (aj dB rfl ?_);clear H dB;intro a H;refine lr H results144 rfl ?_
    first
      | exact H.rt (by rw [eY,ah (by omega),ah (by omega),ah (by omega),ah (by omega),ah (by omega),ah (by omega)];exact au.kg rfl (by decide))
      | (obtain ⟨Gz,hmz,hbz,H⟩:=H.eG
         first
           | exact H.rt (by rw [eY,av (by omega)];exact au.fF (n:=1) (cap:=1) hbz rfl (dJ _) (show 1≤maxLen by decide) rfl (fU _ [1]))
           | exact H.rt (by rw [eY,ah (by omega),av (by omega)];exact au.fF (n:=2) (cap:=2) hbz rfl (dJ _) (show 2≤maxLen by decide) rfl (fU _ [1,2]))
           | exact H.rt (by rw [eY,ah (by omega),ah (by omega),av (by omega)];exact au.fF (n:=1) (cap:=1) hbz rfl (dJ _) (show 1≤maxLen by decide) rfl (fU _ [3]))
           | exact H.rt (by rw [eY,ah (by omega),ah (by omega),ah (by omega),av (by omega)];exact au.fF (n:=1) (cap:=1) hbz rfl (dJ _) (show 1≤maxLen by decide) rfl (fU _ [6]))
           | exact H.rt (by rw [eY,ah (by omega),ah (by omega),ah (by omega),ah (by omega),av (by omega)];exact au.fF (n:=1) (cap:=1) hbz rfl (dJ _) (show 1≤maxLen by decide) rfl (fU _ [4]))
           | exact H.rt (by rw [eY,ah (by omega),ah (by omega),ah (by omega),ah (by omega),ah (by omega),av (by omega)];exact au.fF (n:=1) (cap:=1) hbz rfl (dJ _) (show 1≤maxLen by decide) rfl (fU _ [5])))
  intro h16 a H
  try have p16:=dF h16
  refine kP H (SR fun _ dY=>Rc rfl (aj dY rfl (Cd rfl ?_ ?_))) <;> clear H dY
  · intro h19 a H
    try have yD:=dT h19
    refine dw (fun _ eP=>?_);refine jJ rW aD [_] [_] H wn rfl rfl rfl rfl rfl (by intro i q h;match i,h with|0,h=>exact h|n+1,h=>simp at h) rfl rfl ?_;clear H;intro b21 a w aoL H;refine kH H (aj eP rfl ?_);clear H eP;intro a H;refine lr H results144 rfl ?_
    first
      | exact H.rt (by rw [eY,ah (by omega),ah (by omega),ah (by omega),ah (by omega),ah (by omega),ah (by omega)];exact au.kg rfl (by decide))
      | (obtain ⟨Gz,hmz,hbz,H⟩:=H.eG
         first
           | exact H.rt (by rw [eY,av (by omega)];exact au.fF (n:=1) (cap:=1) hbz rfl (dJ _) (show 1≤maxLen by decide) rfl (fU _ [1]))
           | exact H.rt (by rw [eY,ah (by omega),av (by omega)];exact au.fF (n:=2) (cap:=2) hbz rfl (dJ _) (show 2≤maxLen by decide) rfl (fU _ [1,2]))
           | exact H.rt (by rw [eY,ah (by omega),ah (by omega),av (by omega)];exact au.fF (n:=1) (cap:=1) hbz rfl (dJ _) (show 1≤maxLen by decide) rfl (fU _ [3]))
           | exact H.rt (by rw [eY,ah (by omega),ah (by omega),ah (by omega),av (by omega)];exact au.fF (n:=1) (cap:=1) hbz rfl (dJ _) (show 1≤maxLen by decide) rfl (fU _ [6]))
           | exact H.rt (by rw [eY,ah (by omega),ah (by omega),ah (by omega),ah (by omega),av (by omega)];exact au.fF (n:=1) (cap:=1) hbz rfl (dJ _) (show 1≤maxLen by decide) rfl (fU _ [4]))
           | exact H.rt (by rw [eY,ah (by omega),ah (by omega),ah (by omega),ah (by omega),ah (by omega),av (by omega)];exact au.fF (n:=1) (cap:=1) hbz rfl (dJ _) (show 1≤maxLen by decide) rfl (fU _ [5])))
  intro h19 a H
  try have yD:=dF h19
  refine kP H (SR fun _ dZ=>Rc rfl (aj dZ rfl (Cd rfl ?_ ?_))) <;> clear H dZ
  · intro h22 a H
    try have jI:=dT h22
    refine dw (fun _ eU=>?_);refine jJ rW aD [_] [_] H wn rfl rfl rfl rfl rfl (by intro i q h;match i,h with|0,h=>exact h|n+1,h=>simp at h) rfl rfl ?_;clear H;intro b24 a w aoN H;refine kH H (aj eU rfl ?_);clear H eU;intro a H;refine lr H results144 rfl ?_
    first
      | exact H.rt (by rw [eY,ah (by omega),ah (by omega),ah (by omega),ah (by omega),ah (by omega),ah (by omega)];exact au.kg rfl (by decide))
      | (obtain ⟨Gz,hmz,hbz,H⟩:=H.eG
         first
           | exact H.rt (by rw [eY,av (by omega)];exact au.fF (n:=1) (cap:=1) hbz rfl (dJ _) (show 1≤maxLen by decide) rfl (fU _ [1]))
           | exact H.rt (by rw [eY,ah (by omega),av (by omega)];exact au.fF (n:=2) (cap:=2) hbz rfl (dJ _) (show 2≤maxLen by decide) rfl (fU _ [1,2]))
           | exact H.rt (by rw [eY,ah (by omega),ah (by omega),av (by omega)];exact au.fF (n:=1) (cap:=1) hbz rfl (dJ _) (show 1≤maxLen by decide) rfl (fU _ [3]))
           | exact H.rt (by rw [eY,ah (by omega),ah (by omega),ah (by omega),av (by omega)];exact au.fF (n:=1) (cap:=1) hbz rfl (dJ _) (show 1≤maxLen by decide) rfl (fU _ [6]))
           | exact H.rt (by rw [eY,ah (by omega),ah (by omega),ah (by omega),ah (by omega),av (by omega)];exact au.fF (n:=1) (cap:=1) hbz rfl (dJ _) (show 1≤maxLen by decide) rfl (fU _ [4]))
           | exact H.rt (by rw [eY,ah (by omega),ah (by omega),ah (by omega),ah (by omega),ah (by omega),av (by omega)];exact au.fF (n:=1) (cap:=1) hbz rfl (dJ _) (show 1≤maxLen by decide) rfl (fU _ [5])))
  intro h22 a H
  try have jI:=dF h22
  refine kP H (Kc K2 (SR fun _ fK=>aj fK rfl ?_));clear H K2 fK;intro a H;refine lr H results144 rfl ?_
  first
    | exact H.rt (by rw [eY,ah (by omega),ah (by omega),ah (by omega),ah (by omega),ah (by omega),ah (by omega)];exact au.kg rfl (by decide))
    | (obtain ⟨Gz,hmz,hbz,H⟩:=H.eG
       first
         | exact H.rt (by rw [eY,av (by omega)];exact au.fF (n:=1) (cap:=1) hbz rfl (dJ _) (show 1≤maxLen by decide) rfl (fU _ [1]))
         | exact H.rt (by rw [eY,ah (by omega),av (by omega)];exact au.fF (n:=2) (cap:=2) hbz rfl (dJ _) (show 2≤maxLen by decide) rfl (fU _ [1,2]))
         | exact H.rt (by rw [eY,ah (by omega),ah (by omega),av (by omega)];exact au.fF (n:=1) (cap:=1) hbz rfl (dJ _) (show 1≤maxLen by decide) rfl (fU _ [3]))
         | exact H.rt (by rw [eY,ah (by omega),ah (by omega),ah (by omega),av (by omega)];exact au.fF (n:=1) (cap:=1) hbz rfl (dJ _) (show 1≤maxLen by decide) rfl (fU _ [6]))
         | exact H.rt (by rw [eY,ah (by omega),ah (by omega),ah (by omega),ah (by omega),av (by omega)];exact au.fF (n:=1) (cap:=1) hbz rfl (dJ _) (show 1≤maxLen by decide) rfl (fU _ [4]))
         | exact H.rt (by rw [eY,ah (by omega),ah (by omega),ah (by omega),ah (by omega),ah (by omega),av (by omega)];exact au.fF (n:=1) (cap:=1) hbz rfl (dJ _) (show 1≤maxLen by decide) rfl (fU _ [5])))
theorem akv {G:GH} {l:List Int} {A:Option Addr} {n c k:Nat} (hv:au G (.sl 1 (l.map fun k=>[li k])) (.slice A n c)) (hk:k < l.length):∃ b o,A=some ⟨b,o,none⟩∧aF G b (o+k*1)=some (vi l[k]):=by
 obtain ⟨A',c',he,_,_,hg⟩:=hv.slice
 injection he with e1 e2 e3
 subst e1;obtain ⟨b,o,cs,h1,h2,h3,h4⟩:=hg k [li l[k]] (by simp [hk])
 simp only [bH,au] at h4
 obtain ⟨v1,_,rfl,⟨rfl,-⟩,rfl⟩:=h4;exact ⟨b,o,h1,h3 0 _ rfl⟩
theorem aks (G:GH) (w0:World) (hG:Hold G w0) (l:List Int) (t:Int) (v:ak) (hv:au G (.sl 1 (l.map fun k=>[li k])) v) :
  Calls prog 181 #[v,vi t] w0 (bJ w0 G fun u G'=>u=vi (qV (l.findIdx? fun x=>decide (t=x)))):=by
 obtain ⟨A,c,rfl,hc1,hc2,-⟩:=hv.slice;have hml:maxLen=9223372036854775807:=rfl;rw [bV] at *;refine eN [(0,_),(1,_)] func181 rfl ntmps181 rfl rfl hG ?_;intro a H;refine kP H (SR fun _ K1=>aj K1 rfl (SQ fun _ K2=>SR fun _ K3=>Rm rfl (Rl rW rfl (Rm rfl (Kz K3 (SB ?_))))));clear H K1 K3;intro a H;skip;refine eH (ι:=Nat) (Tc:=[(0,_),(1,_),(7,_)]) (Lc:=[]) (fun gh=>[(8,vi gh)]) (fun gh=>[]) (fun gh=>G) (fun gh=>gh≤l.length∧(l.take gh).findIdx? (fun x=>decide (t=x))=none) (fun gh=>l.length - gh) (0) (by exact (H).sub ⟨rfl,rfl,rfl,rfl,aC⟩) ?_ ?_
 ·exact ⟨iF _,rfl⟩
 clear H;intro gh a w hI H;obtain ⟨k,hgh⟩:∃ x,x=gh:=⟨_,rfl⟩;subst hgh;obtain ⟨hk,hno⟩:=hI;dsimp only [lca,aV] at H;refine kP H (SR fun _ K4=>Rc rfl (Kz K4 (SQ fun _ K5=>Cd rfl ?_ ?_))) <;> clear H K4
 ·intro h9 a H
  try have p9:=dT h9
  have hk2:k < l.length:=by omega
  obtain ⟨b,o,rfl,hrow⟩:=akv hv hk2;refine kP H (Kc K5 (SQ fun _ K6=>SB (SR fun _ K7=>Rm rfl (aj K7 rfl (SR fun _ K8=>Rm rfl (Rm rfl (Rm rfl (Ri rW aD rfl rfl (Rg aD rfl (by assumption) ?_)))))))));clear H K5 K7;intro a H;refine kH H (Rc rfl (Kz K8 (Cd rfl ?_ ?_))) <;> clear H K8
  ·intro h16 a H
   try have p16:=dT h16
   exact kP H (SR fun _ K9=>Rm rfl (aj K9 rfl (LR results181 rfl fun H=>H.rt (by rw [zK hk2 hno (by simpa using p16)];rfl))))
  intro h16 a H
  try have p16:=dF h16
  refine kP H (Kc K6 (SC (Rd rfl (Rm rfl ?_))));clear H K6;intro a H;refine aH ?_;refine dK ((k+1)) (by exact (H).sub ⟨rfl,rfl,rfl,rfl,aC⟩) ?_ ?_
  ·exact ⟨by omega,Ie hk2 hno (by simpa using p16)⟩
  first|omega|(dsimp only;omega)
 intro h9 a H
 try have p9:=dF h9
 refine dW ?_;refine K2 _ _ ?_;clear K2;exact kP H (SR fun _ aT=>aj aT rfl (LR results181 rfl fun H=>H.rt (by rw [show l.take k=l from iH (by omega)] at hno;rw [hno];rfl)))
theorem aeb (G:GH) (w0:World) (hG:Hold G w0) (l:List Int) (t:Int) (v:ak) (hv:au G (.sl 1 (l.map fun k=>[li k])) v) :
  Calls prog 143 #[v,vi t] w0 (bJ w0 G fun u G'=>u=.bool (decide (t∈l))):=by
 obtain ⟨A,c,rfl,hc1,hc2,-⟩:=hv.slice;rw [bV] at *;refine eN [(0,_),(1,_)] func143 rfl ntmps143 rfl rfl hG ?_;intro a H;refine kP H (SR fun _ K1=>aj K1 rfl (SR fun _ K2=>Rm rfl (Rm rfl ?_)));clear H K1;intro a H;refine s_call afy H wn rfl (aks _ _ H.ro l t _ hv) rfl ?_;clear H;rintro v7 G7 a w rfl wU H;refine kH H (Rc rfl (aj K2 rfl ?_));clear H K2;intro a H;refine lr H results143 rfl ?_
 exact H.rt (by
  congr 1
  cases h:l.findIdx? (fun x=>decide (t=x)) with
  | none =>
   rw [List.findIdx?_eq_none_iff] at h;have:t∉l:=fun hm=>absurd (h t hm) (by simp)
   simp [qV,this]
  | some i =>
   obtain ⟨hi,he,-⟩:=List.findIdx?_eq_some_iff_getElem.1 h
   have:t∈l:=by rw [tC he];exact jW _
   simp [qV,this])
def Bh (e k:Int):Bool:=(oo k).2 && decide ((oo k).1.CG∈eY e)
theorem RL (G:GH) (w0:World) (hG:Hold G w0) (e k:Int):Calls prog 81 #[vi e,vi k] w0 (bJ w0 G fun u G'=>u=.bool (Bh e k)):=by
 refine eN [(0,_),(1,_)] func81 rfl ntmps81 rfl rfl hG ?_;intro a H;refine kP H (SR fun _ K1=>aj K1 rfl (SR fun _ K2=>Rm rfl ?_));clear H K1;intro a H;refine s_call Xv H wn rfl (find_spec _ _ H.ro k) rfl ?_;clear H;rintro v9 G9 a w rfl CV H;dsimp only [kV.cells] at H;refine kH H (Rm rfl ?_);clear H;intro a H;(iterate 2 refine uT H wn rfl rfl rfl ?_;clear H;intro a H);refine dU vY H wn rfl ?_;clear H;intro b5 a w hb5 H;refine bN vY 0 (vs:=[_,_,_,_,_,_]) _ H wn rfl rfl rfl rfl rfl rfl rfl rfl ?_;clear H;intro w H;dsimp only [List.set,setRow] at H;refine kH H (aj K2 rfl (SQ fun _ K3=>?_));clear H K2;intro a H
 by_cases c0:(oo k).2=true
 ·skip
  have qU:∀ (cu:Nat) (v:ak) (G G':GH),(∀ k o,G k=some o→G' k=some o)→(fun (cu:Nat) (v:ak) (G:GH)=>match cu with|0=>v=.bool (oo k).2|1=>v=.bool (decide ((oo k).2=true))|2=>v=vi e|3=>(oo k).2=true→au G (.sl 1 ((eY e).map fun k=>[li k])) v|4=>v=(aM b5 1)|5=>v=vi (oo k).1.CG|6=>v=.bool (decide ((oo k).1.CG∈eY e))|7=>v=.bool (Bh e k)|_=>True) cu v G→(fun (cu:Nat) (v:ak) (G:GH)=>match cu with|0=>v=.bool (oo k).2|1=>v=.bool (decide ((oo k).2=true))|2=>v=vi e|3=>(oo k).2=true→au G (.sl 1 ((eY e).map fun k=>[li k])) v|4=>v=(aM b5 1)|5=>v=vi (oo k).1.CG|6=>v=.bool (decide ((oo k).1.CG∈eY e))|7=>v=.bool (Bh e k)|_=>True) cu v G':=by
   intro cu v G G' hm h
   match cu,h with
   | 0,h=>exact h
   | 1,h=>exact h
   | 2,h=>exact h
   | 3,h=>exact fun hf=>(h hf).mono hm
   | 4,h=>exact h
   | 5,h=>exact h
   | 6,h=>exact h
   | 7,h=>exact h
   | 8,h=>exact trivial
   | _+9,h=>exact trivial
  refine ER (hmx) [[],[0],[0,1],[0,1,2],[0,1],[0,1,4],(ra 0 6),(ra 0 7),(ra 0 8)] [8] (by kernel_rfl) (by kernel_rfl) (fun (cu:Nat) (v:ak) (G:GH)=>match cu with|0=>v=.bool (oo k).2|1=>v=.bool (decide ((oo k).2=true))|2=>v=vi e|3=>(oo k).2=true→au G (.sl 1 ((eY e).map fun k=>[li k])) v|4=>v=(aM b5 1)|5=>v=vi (oo k).1.CG|6=>v=.bool (decide ((oo k).1.CG∈eY e))|7=>v=.bool (Bh e k)|_=>True) qU H ?_ ?_
  ·clear H;refine aG ?_ ?_ ?_ ?_ (aG ?_ ?_ ?_ ?_ (bq (bY rfl) dD))
   ·refine fO [] rfl trivial (by kernel_rfl) qU rfl rfl ?_;intro dz a w G1 hG HT H fin;exact kH H (Rm rfl fun _ H=>fin H iJ rfl)
   ·refine fO [(0,12,_)] rfl ⟨fun _ _ h=>h,aC⟩ (by kernel_rfl) qU rfl rfl ?_;intro dz a w G1 hG HT H fin;refine kH H (Rm rfl ?_);clear H;intro a H;exact fin H iJ (by simp)
   ·refine fO [(1,13,_)] rfl ⟨fun _ _ h=>h,aC⟩ (by kernel_rfl) qU rfl rfl ?_;intro dz a w G1 hG HT H fin;exact kH H (YM (aI c0) rfl fun _ H=>fin H iJ rfl)
   ·refine fO [(2,14,_),(1,13,_)] rfl ⟨fun _ _ h=>h,fun _ _ h=>h,aC⟩ (by kernel_rfl) qU rfl rfl ?_;intro dz a w G1 hG HT H fin;refine s_call aeY H (wg H rfl rfl (aI c0)) rfl (ahK _ _ H.ro e) rfl ?_;clear H;rintro v15 Ez a w Fq Hl H;exact fin H Hl (by first|exact fun _=>Fq|rfl)
   ·refine fO [(1,13,_)] rfl ⟨fun _ _ h=>h,aC⟩ (by kernel_rfl) qU rfl rfl ?_;intro dz a w G1 hG HT H fin;exact kH H (YF aho (aI c0) rfl fun _ H=>fin H iJ rfl)
   ·refine fO [(4,16,_),(1,13,_)] rfl ⟨fun _ _ h=>h,fun _ _ h=>h,aC⟩ (by kernel_rfl) qU rfl rfl ?_;intro dz a w G1 hG HT H fin;exact kH H (YO aD 0 (aI c0) rfl fun _ H=>fin H iJ rfl)
   ·intro dz a w G1 _ cB hc hG HT hv;have H:=HT;clear cB;obtain ⟨u15,ajU,Fq⟩:=hv 3 15 (hc 3 (by decide)) rfl;(try dsimp only at Fq);have H:=H.nA ajU;have H:=H.aZ (hv 5 17 (hc 5 (by decide)) rfl) rfl;have H:=H.aZ (hv 1 13 (hc 1 (by decide)) rfl) rfl;have Hb:=H.full;have H:=Hb;clear hc;refine s_call aeX H (wg H rfl rfl (aI c0)) rfl (aeb _ _ H.ro _ _ _ (Fq c0)) rfl ?_;clear H;rintro v18 G18 a w rfl ahO H;refine aH ⟨rfl,?_⟩;exact kC (by kernel_rfl) qU rfl rfl HT Hb hG hv ahO (rfl) H
   refine fO [(1,13,_),(6,18,_)] rfl ⟨fun _ _ h=>h,fun _ _ h=>h,aC⟩ (by kernel_rfl) qU rfl rfl ?_;intro dz a w G1 hG HT H fin;refine kH H (Pt (aI c0) rfl ?_);clear H;intro a H;exact fin H iJ (by unfold Bh;simp_all)
  clear H;intro a w G DZ H hv;have H:=H.aZ (hv 7 19 rfl rfl) rfl;clear hv;refine kH H (Ra rfl ?_);clear H;intro a H;refine aH ⟨rfl,?_⟩;refine K3 _ _ ?_;clear K3;refine lr H results81 rfl ?_;exact H.rt rfl
 skip;refine dI hmx [[],[0],[0,1],[0,1,2],[0,1],[0,1,4],(ra 0 6),(ra 0 7),(ra 0 8)] [8] (by kernel_rfl) [_,.bool (decide ((oo k).2=true)),undef,undef,undef,undef,undef,.bool (Bh e k)] H (aG (Z0 rfl (Rm rfl)) ?_ (aX (j:=1) (by kernel_rfl) (fun _ _ _ _ _ h=>h) rfl rfl rfl rfl rfl (fun _ _ h=>aY h (aL (aR c0))) rfl (fun _=>rfl)) ?_ (aG (aX (j:=1) (by kernel_rfl) (fun _ _ _ _ _ h=>h) rfl rfl rfl rfl rfl (fun _ _ h=>aY h (aL (aR c0))) rfl (fun _=>rfl)) (aX (j:=1) (by kernel_rfl) (fun _ _ _ _ _ h=>h) rfl rfl rfl rfl rfl (fun _ _ h=>aY h (aL (aR c0))) rfl (fun _=>rfl)) (aX (j:=1) (by kernel_rfl) (fun _ _ _ _ _ h=>h) rfl rfl rfl rfl rfl (fun _ _ h=>aY h (aL (aR c0))) rfl (fun _=>rfl)) ?_ (bq (bY rfl) dD))) ?_
 ·refine dN 0 12 rfl rfl fun _ a w G1 hG HT H fin=>?_;refine kH H (Rm rfl ?_);clear H;intro a H;exact fin H iJ (by show _=_;simp)
 ·intro dz a w G1 _ cB hc hG HT hv;have H:=HT;clear cB;have H:=H.aZ (hv 2 14 (hc 2 (by decide)) rfl) rfl;have H:=H.aZ (hv 1 13 (hc 1 (by decide)) rfl) rfl;have Hb:=H.full;have H:=Hb;clear hc;refine kH H (Ks (aR c0) rfl ?_);clear H;intro a H;refine aH ⟨rfl,?_⟩;exact kC (by kernel_rfl) (fun _ _ _ _ _ h=>h) rfl rfl HT Hb hG hv (fun _ _ h=>h) (by first|exact fun _=>Fq|rfl) H
 ·refine eu 1 13 6 18 rfl rfl fun _ a w G1 hG HT H fin=>?_;refine kH H (Pf (aR c0) rfl ?_);clear H;intro a H;exact fin H iJ (by show _=_;unfold Bh;simp_all)
 clear H;intro a w G DZ H hv;have H:=H.aZ (hv 7 19 rfl rfl) rfl;clear hv;refine kH H (Ra rfl ?_);clear H;intro a H;refine aH ⟨rfl,?_⟩;refine K3 _ _ ?_;clear K3;refine lr H results81 rfl ?_;exact H.rt rfl
def tH (k v:Int):Int:=if (oo k).2=false then 4 else if v < (oo k).1.low∨(oo k).1.high < v then 5 else 0
theorem GK (G:GH) (w0:World) (hG:Hold G w0) (k x:Int):Calls prog 82 #[vi k,vi x] w0 (bJ w0 G fun u G'=>u=vi (tH k x)):=by
 refine eN [(0,_),(1,_)] func82 rfl ntmps82 rfl rfl hG ?_;intro a H;refine kP H (SR fun _ K1=>aj K1 rfl (SR fun _ K2=>Rm rfl ?_));clear H K1;intro a H;refine s_call Xv H wn rfl (find_spec _ _ H.ro k) rfl ?_;clear H;rintro v9 G9 a w rfl CV H;dsimp only [kV.cells] at H;refine kH H (Rm rfl ?_);clear H;intro a H;(iterate 2 refine uT H wn rfl rfl rfl ?_;clear H;intro a H);refine dU vY H wn rfl ?_;clear H;intro b5 a w hb5 H;refine bN vY 0 (vs:=[_,_,_,_,_,_]) _ H wn rfl rfl rfl rfl rfl rfl rfl rfl ?_;clear H;intro w H;dsimp only [List.set,setRow] at H;refine kH H (aj K2 rfl (SQ fun _ K3=>SB (SR fun _ K4=>Rm rfl (Rn rfl (aj K4 rfl (Cd rfl ?_ ?_)))))) <;> clear H K2 K4
 ·intro h12 a H
  try have pF:=dT h12
  exact kP H (SR fun _ K5=>aj K5 rfl (LR results82 rfl fun H=>H.rt (by unfold tH;simp_all)))
 intro h12 a H
 try have pF:=dF h12
 refine kP H (SR fun _ K6=>Rm rfl (bg ahp aD 0 rfl rfl (Rc rfl (Rm rfl (Sp 20 rfl ?_ ?_))))) <;> clear H
 ·intro h20 a H
  try have qW:=dT h20
  exact kH H (aN h20 rfl (aN h20 rfl (Pt h20 rfl (aj K6 rfl (Ct rfl rfl (SR fun _ K7=>aj K7 rfl (LR results82 rfl fun H=>H.rt (by unfold tH;simp_all))))))))
 intro h20 a H
 try have qW:=dF h20
 refine kH H (YM h20 rfl (YF ahq h20 rfl (YO aD 0 h20 rfl (YC h20 rfl (Pf h20 rfl (aj K6 rfl (Cd rfl ?_ ?_))))))) <;> clear H K6
 ·intro fM a H
  try have oL:=dT fM
  exact kP H (SR fun _ K8=>aj K8 rfl (LR results82 rfl fun H=>H.rt (by unfold tH;simp_all)))
 intro fM a H
 try have oL:=dF fM
 exact kP H (Kc K3 (SR fun _ K9=>aj K9 rfl (LR results82 rfl fun H=>H.rt (by unfold tH;simp_all))))
end
end Go.Proofs.YtdacibabefnabaaGreat
