/-
  What the claim stands on, part 2: Run Rg Pos Pq Dy Bd Doc Dq Eq Idx Bld Hv Ut Prk Prp Plc Plr Prq Prc.
-/
import Derived.Test.YtlnhhlighgaapaaGreatWka
import Derived.Lib.Builder
import Derived.Lib.UnsafeStr
import Derived.Lib.AppendStr
import Derived.Laws.Externs
import Derived.Laws.StructEq
import Derived.ChangeKeysEq
import Derived.Lib.OthersKept
import Derived.Laws.IdiomStrings
import Derived.Laws.Cover4
import Derived.Laws.Slices
import Derived.Laws.Strings2
namespace Go.Proofs.YtlnhhlighgaapaaGreat
open Go.Proofs.Tryz
section
open Go.RowKit
theorem hmx:prog.follows .mixedOrders=true:=by kernel_rfl
theorem gG:dV prog 35 0 0:=⟨by kernel_rfl⟩
theorem aD:Ty prog 3 1 8 [.int .i64 0] false:=⟨by kernel_rfl,by kernel_rfl⟩
theorem uz:dV prog 35 3 3:=⟨by kernel_rfl⟩
theorem gX:Ty prog 9 1 16 [.string ⟨#[]⟩] false:=⟨by kernel_rfl,by kernel_rfl⟩
theorem Qa:∀ args w,(callFunc 93 args).run prog w=.ok (.enter 93 args) w:=enters func93 rfl (by kernel_rfl)
theorem iN:prog.underlying 32=some (.slice 35):=by kernel_rfl
theorem dB:Ty prog 35 11 176 [.int .i64 0,.int .i64 0,.int .i64 0,.string ⟨#[]⟩,.slice none 0 0,.int .i64 0,.int .i64 0,.slice none 0 0,.slice none 0 0,.slice none 0 0,.slice none 0 0] true:=⟨by kernel_rfl,by kernel_rfl⟩
theorem aje:∀ args w,(callFunc 34 args).run prog w=.ok (.enter 34 args) w:=enters func34 rfl (by kernel_rfl)
theorem oh:prog.underlying 25=some (.slice 40):=by kernel_rfl
theorem oZ:Ty prog 40 2 16 [.int .i64 0,.int .i64 0] true:=⟨by kernel_rfl,by kernel_rfl⟩
theorem lF:prog.underlying 26=some (.slice 214):=by kernel_rfl
theorem qV:Ty prog 214 2 16 [.int .i64 0,.int .i64 0] true:=⟨by kernel_rfl,by kernel_rfl⟩
theorem qy:prog.underlying 27=some (.slice 217):=by kernel_rfl
theorem um:Ty prog 217 4 32 [.int .i64 0,.int .i64 0,.int .i64 0,.bool false] true:=⟨by kernel_rfl,by kernel_rfl⟩
theorem nC:Ty prog 31 5 88 [.slice none 0 0,.int .i64 0,.int .i64 0,.slice none 0 0,.slice none 0 0] true:=⟨by kernel_rfl,by kernel_rfl⟩
theorem yH:dV prog 31 0 0:=⟨by kernel_rfl⟩
theorem vN:Ty prog 25 1 24 [.slice none 0 0] false:=⟨by kernel_rfl,by kernel_rfl⟩
theorem ajv:∀ args w,(callFunc 98 args).run prog w=.ok (.enter 98 args) w:=enters func98 rfl (by kernel_rfl)
theorem pG:dV prog 31 1 1:=⟨by kernel_rfl⟩
theorem mV:dV prog 29 2 2:=⟨by kernel_rfl⟩
theorem mY:Ty prog 26 1 24 [.slice none 0 0] false:=⟨by kernel_rfl,by kernel_rfl⟩
theorem aia:∀ args w,(callFunc 150 args).run prog w=.ok (.enter 150 args) w:=enters func150 rfl (by kernel_rfl)
theorem vZ:dV prog 29 3 3:=⟨by kernel_rfl⟩
theorem wJ:Ty prog 27 1 24 [.slice none 0 0] false:=⟨by kernel_rfl,by kernel_rfl⟩
theorem aib:∀ args w,(callFunc 151 args).run prog w=.ok (.enter 151 args) w:=enters func151 rfl (by kernel_rfl)
theorem jH:prog.underlying 33=some (.slice 171):=by kernel_rfl
theorem iI:Ty prog 171 6 112 [.slice none 0 0,.int .i64 0,.int .i64 0,.slice none 0 0,.slice none 0 0,.slice none 0 0] true:=⟨by kernel_rfl,by kernel_rfl⟩
theorem kV:prog.underlying 169=some (.slice 174):=by kernel_rfl
theorem iy:Ty prog 174 7 120 [.int .i64 0,.slice none 0 0,.int .i64 0,.int .i64 0,.slice none 0 0,.slice none 0 0,.slice none 0 0] true:=⟨by kernel_rfl,by kernel_rfl⟩
theorem AO:dV prog 174 0 0:=⟨by kernel_rfl⟩
theorem KE:dV prog 174 1 1:=⟨by kernel_rfl⟩
theorem Ub:∀ args w,(callFunc 70 args).run prog w=.ok (.enter 70 args) w:=enters func70 rfl (by kernel_rfl)
theorem AQ:dV prog 174 2 6:=⟨by kernel_rfl⟩
theorem iM:Ty prog 32 1 24 [.slice none 0 0] false:=⟨by kernel_rfl,by kernel_rfl⟩
theorem P8:∀ args w,(callFunc 69 args).run prog w=.ok (.enter 69 args) w:=enters func69 rfl (by kernel_rfl)
theorem XL:uP prog 174 [(0,1),(1,5),(6,1)] [.int .i64 0,.slice none 0 0,.int .i64 0,.int .i64 0,.slice none 0 0,.slice none 0 0,.slice none 0 0]:=⟨by kernel_rfl,by kernel_rfl⟩
theorem FV:dV prog 171 0 0:=⟨by kernel_rfl⟩
theorem qG:dV prog 171 1 5:=⟨by kernel_rfl⟩
theorem qU:Ty prog 169 1 24 [.slice none 0 0] false:=⟨by kernel_rfl,by kernel_rfl⟩
theorem aiE:∀ args w,(callFunc 201 args).run prog w=.ok (.enter 201 args) w:=enters func201 rfl (by kernel_rfl)
theorem aen:uP prog 171 [(0,5),(5,1)] [.slice none 0 0,.int .i64 0,.int .i64 0,.slice none 0 0,.slice none 0 0,.slice none 0 0]:=⟨by kernel_rfl,by kernel_rfl⟩
theorem Ew:dV prog 35 4 4:=⟨by kernel_rfl⟩
theorem yI:dV prog 35 5 9:=⟨by kernel_rfl⟩
theorem rC:dV prog 35 6 10:=⟨by kernel_rfl⟩
theorem rR:Ty prog 33 1 24 [.slice none 0 0] false:=⟨by kernel_rfl,by kernel_rfl⟩
theorem ahY:∀ args w,(callFunc 148 args).run prog w=.ok (.enter 148 args) w:=enters func148 rfl (by kernel_rfl)
theorem ahW:∀ args w,(callFunc 146 args).run prog w=.ok (.enter 146 args) w:=enters func146 rfl (by kernel_rfl)
theorem aiF:∀ args w,(callFunc 202 args).run prog w=.ok (.enter 202 args) w:=enters func202 rfl (by kernel_rfl)
theorem ahZ:∀ args w,(callFunc 149 args).run prog w=.ok (.enter 149 args) w:=enters func149 rfl (by kernel_rfl)
theorem ahX:∀ args w,(callFunc 147 args).run prog w=.ok (.enter 147 args) w:=enters func147 rfl (by kernel_rfl)
def gP (x:ay):Nat:=if x.kind=1 then yE x.text else 1
def Bv (x:ay):Int:=if x.kind=1 then Mf x.text else 0
theorem arb (G:GH) (w0:World) (hG:Hold G w0) (x:ay) (i2 i3:Int) (p i5 i6 d l f r:aj) (hs:x.text.size < 4611686018427387904) :
  Calls prog 34 #[.agg #[vi x.kind,vi i2,vi i3,.string x.text,p,i5,i6,d,l,f,r]] w0 (bR w0 G fun v G'=>v=.tuple #[vi (gP x),vi (Bv x)]∧G=G'):=by
 refine eN [(0,_)] func34 rfl ntmps34 rfl rfl hG ?_;intro a H;refine dz (fun _ K1=>?_);refine eU (cs:=[_,_,_,_,_,_,_,_,_,_,_]) H wn rfl rfl rfl ?_;clear H;intro b1 a w hb1 H;refine kH H (Ra rfl (ak K1 rfl (SQ fun _ K2=>SR fun _ K3=>aW gG aD 0 rfl rfl (Rc rfl (Kz K3 (Cd rfl ?_ ?_)))))) <;> clear H K1 K3
 ·intro h6 a H
  try have p6:=dT h6
  refine kP H (SR fun _ K4=>Ra rfl (ak K4 rfl ?_));clear H K4;intro a H;refine dM ?_;refine (gN H results34 (.cons (bP H rfl) (.cons (bP H rfl) .nil)) ?_).1;exact H.rt ⟨by simp only [gP,Bv,ah p6];rfl,rfl⟩
 intro h6 a H
 try have p6:=dF h6
 refine kP H (Kc K2 (SR fun _ K5=>aW uz gX 0 rfl rfl ?_));clear H K2;intro a H;refine s_call Qa H wn rfl (PV _ _ H.ro _ hs) rfl ?_;clear H;rintro v9 _ a w ⟨rfl,rfl⟩ - H;(iterate 2 refine lD H wn rfl rfl rfl ?_;clear H;intro a H);refine kH H (Ra rfl (ak K5 rfl ?_));clear H K5;intro a H;refine dM ?_;refine (gN H results34 (.cons (bP H rfl) (.cons (bP H rfl) .nil)) ?_).1;exact H.rt ⟨by rw [gF] at p6;simp only [gP,Bv,au p6],rfl⟩
def yG (l:List ay):Bool:=l.all fun x=>decide (Bv x=0)
def vM:List ay→Nat
 | []=>0
 | x :: l=>gP x+vM l
def yT (l:List ay):Int:=if yG l then vM l else 0
def WU (l:List ay):Int:=if yG l then 0 else 12
def wH:List ay→Nat
 | []=>0
 | x :: l=>x.text.size+1+wH l
theorem aex:∀ l:List ay,vM l≤wH l
 | []=>dQ _
 | x :: l=>by
  have:=aex l;have h2:=FR x.text
  simp only [vM,wH,gP];split <;> omega
theorem aeF {x:ay}:∀ {l:List ay},x∈l→x.text.size < wH l
 | [],h=>by cases h
 | y :: l,h=>by
  simp only [wH]
  rcases nE.1 h with rfl|h
  ·omega
  have:=aeF h;omega
theorem aqJ (l m:List ay):vM (l++m)=vM l+vM m:=by
 induction l with
 | nil=>simp [vM]
 | cons x l ih=>simp [vM,ih];omega
theorem aqK {l:List ay} {k:Nat} (h:k < l.length):vM (l.take (k+1))=vM (l.take k)+gP l[k]:=by
 rw [jZ h,aqJ];simp [vM]
theorem aqQ (l m:List ay):wH (l++m)=wH l+wH m:=by
 induction l with
 | nil=>simp [wH]
 | cons x l ih=>simp [wH,ih];omega
theorem aqR (l:List ay) (k:Nat):wH (l.take k)≤wH l:=by
 have:=aqQ (l.take k) (l.drop k);rw [List.take_append_drop] at this;omega
theorem EB {G:GH} {l:List ay} {A:Option Addr} {k:Nat} (hk:k < l.length) (hg:∀ k r,(l.map ay.dat)[k]?=some r→∃ b o cs,A=some ⟨b,o,none⟩∧cs.length=11∧(∀ j u,cs[j]?=some u→aH G b (o+k*11+j)=some u)∧bH G r cs) :
  ∃ b o pA pn pc dA dn dc yA yn yc fA fn fc rA rn rc,A=some ⟨b,o,none⟩∧(∀ j u,[vi l[k].kind,vi l[k].code,vi l[k].id,.string l[k].text,.slice pA pn pc,vi l[k].head.marks.ins,vi l[k].head.marks.move,.slice dA dn dc,.slice yA yn yc,.slice fA fn fc,.slice rA rn rc][j]?=some u→aH G b (o+k*11+j)=some u) ∧
   mF G l[k].head (.slice pA pn pc) (.slice dA dn dc) (.slice yA yn yc)∧aB G (.sl 11 (l[k].flow.map ay.dat)) (.slice fA fn fc)∧aB G (.sl 6 (l[k].rows.map bJ.dat)) (.slice rA rn rc):=by
 obtain ⟨b,o,cs,h1,h2,h3,h4⟩:=hg k l[k].dat (by simp [hk]);obtain ⟨pA,pn,pc,dA,dn,dc,yA,yn,yc,fA,fn,fc,rA,rn,rc,rfl,h5,h6,h7⟩:=h4.item;exact ⟨b,o,pA,pn,pc,dA,dn,dc,yA,yn,yc,fA,fn,fc,rA,rn,rc,h1,h3,h5,h6,h7⟩
theorem aht {l:List ay} {k:Nat} (h:k < l.length):yG (l.take (k+1))=(yG (l.take k) && decide (Bv l[k]=0)):=by
 unfold yG
 rw [jZ h,List.all_append];simp
theorem ahs {l:List ay} {k:Nat} (h:k < l.length) (hn:¬ Bv l[k]=0):yG l=false:=by
 unfold yG
 rw [List.all_eq_false];exact ⟨l[k],jr h,by simpa using hn⟩
theorem acW:∀ l:List ay,l.length≤wH l
 | []=>dQ _
 | x :: l=>by have:=acW l;simp only [nG,wH];omega
theorem aeE:∀ l:List ay,wH l≤bM l
 | []=>dQ _
 | x :: l=>by
  have:=aeE l;have h2:=oK x
  simp only [wH,bM,fJ,fB] at *;omega
theorem Ou (G:GH) (w0:World) (hG:Hold G w0) (l:List ay) (v:aj) (hv:aB G (.sl 11 (l.map ay.dat)) v) (hz:bM l≤4294967296) :
  Calls prog 8 #[v] w0 (bR w0 G fun v G'=>v=.tuple #[vi (yT l),vi (WU l)]∧G=G'):=by
 obtain ⟨A,c,rfl,hc1,hc2,hg⟩:=hv.slice;rw [bZ] at *;have hll:=acW l;have htz:=aeE l;refine eN [(0,_)] func8 rfl ntmps8 rfl rfl hG ?_;intro a H;refine kP H (SR fun _ K1=>Ra rfl (ak K1 rfl (SR fun _ K2=>ak K2 rfl (SQ fun _ K3=>SR fun _ K4=>Rm rfl (Rl iN rfl (Rm rfl (Kz K4 (SB ?_))))))));clear H K1 K2 K4;intro a H;skip;refine fH (ι:=Nat) (Tc:=[(9,_),(10,_)]) (Lc:=[]) (fun gh=>[(4,vi (vM (l.take gh))),(11,vi gh)]) (fun gh=>[]) (fun gh=>G) (fun gh=>gh≤l.length∧yG (l.take gh)=true) (fun gh=>l.length - gh) (0) (by exact (H).sub ⟨rfl,rfl,rfl,rfl,av⟩) ?_ ?_
 ·exact ⟨by omega,by simp [yG]⟩
 clear H;intro gh a w hI H;obtain ⟨k,hgh⟩:∃ x,x=gh:=⟨_,rfl⟩;subst hgh;obtain ⟨hk,hd⟩:=hI;dsimp only [lca,aS] at H;refine kP H (SR fun _ K5=>Rc rfl (Kz K5 (SQ fun _ K6=>Cd rfl ?_ ?_))) <;> clear H K5
 ·intro h12 a H
  try have qM:=dT h12
  have hk2:k < l.length:=by omega
  obtain ⟨b,o,pA,pn,pc,dA,dn,dc,yA,yn,yc,fA,fn,fc,rA,rn,rc,rfl,hrow,-⟩:=EB hk2 hg;have hsm:=aqK hk2;have hle:=aex (l.take (k+1));have hle2:=aqR l (k+1);refine kP H (Kc K6 (SQ fun _ K7=>SB (SR fun _ K8=>Ri iN dB rfl rfl ?_)));clear H K6;intro a H;refine bD dB (cs:=[_,_,_,_,_,_,_,_,_,_,_]) H wn rfl rfl (fun j v hj=>H.hp.aH (hrow j v hj)) rfl ?_;clear H;intro a H;refine dR dB H wn rfl ?_;clear H;intro b6 a w hb6 H;refine bO dB 0 (vs:=[_,_,_,_,_,_,_,_,_,_,_]) _ H wn rfl rfl rfl rfl rfl rfl rfl rfl ?_;clear H;intro w H;dsimp only [List.set,setRow] at H;refine K8 _ _ ?_;clear K8;refine dz (fun _ K9=>?_);refine bD dB (cs:=[_,_,_,_,_,_,_,_,_,_,_]) H wn rfl rfl (H.hp.eu 0 rfl rfl) rfl ?_;clear H;intro a H;refine s_call aje H wn rfl (arb _ _ H.ro _ _ _ _ _ _ _ _ _ _ (by have:=aeF (jr hk2);omega)) rfl ?_;clear H;rintro v17 _ a w ⟨rfl,rfl⟩ - H;refine kH H (Rm rfl ?_);clear H;intro a H;(iterate 2 refine lD H wn rfl rfl rfl ?_;clear H;intro a H);refine kH H (Ra rfl (ak K9 rfl (SQ fun _ aZ=>SR fun _ bN=>Rm rfl (Rc rfl (Kz bN (Cd rfl ?_ ?_)))))) <;> clear H K9 bN
  ·intro h21 a H
   try have oV:=dT h21
   refine kP H (SR fun _ bQ=>Ra rfl (ak bQ rfl ?_));clear H bQ;intro a H;refine dM ?_;refine (gN H results8 (.cons (bP H rfl) (.cons (bP H rfl) .nil)) ?_).1;exact H.rt ⟨by simp [yT,WU,ahs hk2 oV],rfl⟩
  intro h21 a H
  try have oV:=dF h21
  refine kP H (Kc aZ (SC (Rm rfl (Rm rfl (Rd rfl ?_)))));clear H aZ;intro a H;rw [← Int.natCast_add,← hsm] at H;refine kH H (aM K7 rfl (SC (Rd rfl (Rm rfl ?_))));clear H K7;intro a H;refine aI ?_;refine dP ((k+1)) (by exact (H.dK (Pl:=[_]) (dw:=[]) [] (by decide) rfl).sub ⟨rfl,rfl,rfl,rfl,av⟩) ?_ ?_
  ·exact ⟨by omega,by rw [aht hk2,hd];simpa using oV⟩
  first|omega|(dsimp only;omega)
 intro h12 a H
 try have qM:=dF h12
 refine eD ?_;refine K3 _ _ ?_;clear K3;refine kP H (SR fun _ bT=>Rm rfl (Ra rfl (ak bT rfl ?_)));clear H bT;intro a H;refine dM ?_;refine (gN H results8 (.cons (bP H rfl) (.cons (bP H rfl) .nil)) ?_).1;exact H.rt ⟨by rw [show l.take k=l from kF (by omega)] at hd ⊢;simp [yT,WU,hd],rfl⟩
theorem ahb (G:GH) (w0:World) (hG:Hold G w0) (rows:List (List Dat)) (A:Option Addr) (n c:Nat) (hv:aB G (.sl 2 rows) (.slice A n c)) (hz:rows.length≤4294967296) :
  Calls prog 98 #[.slice A n c] w0 (bR w0 G fun v G'=>aB G' (.sl 2 rows) v):=by
 obtain ⟨hn,hc1,hc2,hnil,hx⟩:=hv.cells;refine eN [(0,_)] func98 rfl ntmps98 rfl rfl hG ?_;intro a H;refine kP H (SR fun _ K1=>ak K1 rfl (SQ fun _ K2=>SR fun _ K3=>Rm rfl ?_));clear H K1;intro a H;refine XF oh H wn rfl rfl ?_;clear H;intro a H;refine K3 _ _ ?_;clear K3;refine oN H rfl ?_ ?_
 ·intro h4
  exact kP H (SR fun _ K4=>ak K4 rfl (LR results98 rfl fun H=>H.rt (by rw [hnil (by simpa using h4)];exact aB.jP rfl (by simp [maxLen]))))
 intro h4
 try have p4:=dF h4
 refine fI ?_;refine K2 _ _ ?_;clear K2;refine aO (fun _ K5=>?_)
 have hA:¬ A=none:=by intro e;rw [e] at h4;cases h4
 refine oD ?_;refine XE oh oZ H wn rfl ?_;clear H;intro b5 a w hb5 H;refine kH H (Rm rfl ?_);clear H;intro a H
 by_cases hr0:rows=[]
 ·have hn0:n=0:=by rw [hn,hr0];rfl
  subst hn0;refine RN oh oZ H wn rfl rfl (dQ _) rfl ?_;clear H;intro a H;exact kH H (aM K5 rfl (LR results98 rfl fun H=>H.rt (by rw [hr0];exact aB.jP rfl (by simp [maxLen]))))
 obtain ⟨b,o,xs,rfl,hxl,hxc,hx1,kD⟩:=hx hr0;refine xS (Li:=[]) (Lo:=[_]) (news:=xs) oh oZ rfl rfl H wn rfl rfl iP.empty hxl (fun j u hj=>H.hp.aH (hxc j u hj)) hx1 (by omega) (by omega) rfl ?_;clear H;intro v7 Lo a w hrow H;obtain ⟨G',hm,hrep,H⟩:=H.zM hrow (rows:=rows) (by omega) (by simpa using kD)
 try clear hG
 obtain ⟨G2,hG2⟩:∃ g,g=G':=⟨_,rfl⟩;subst hG2;exact kH H (aM K5 rfl (LR results98 rfl fun H=>H.rt hrep))
theorem agZ (G:GH) (w0:World) (hG:Hold G w0) (rows:List (List Dat)) (A:Option Addr) (n c:Nat) (hv:aB G (.sl 2 rows) (.slice A n c)) (hz:rows.length≤4294967296) :
  Calls prog 150 #[.slice A n c] w0 (bR w0 G fun v G'=>aB G' (.sl 2 rows) v):=by
 obtain ⟨hn,hc1,hc2,hnil,hx⟩:=hv.cells;refine eN [(0,_)] func150 rfl ntmps150 rfl rfl hG ?_;intro a H;refine kP H (SR fun _ K1=>ak K1 rfl (SQ fun _ K2=>SR fun _ K3=>Rm rfl ?_));clear H K1;intro a H;refine XF lF H wn rfl rfl ?_;clear H;intro a H;refine K3 _ _ ?_;clear K3;refine oN H rfl ?_ ?_
 ·intro h4
  exact kP H (SR fun _ K4=>ak K4 rfl (LR results150 rfl fun H=>H.rt (by rw [hnil (by simpa using h4)];exact aB.jP rfl (by simp [maxLen]))))
 intro h4
 try have p4:=dF h4
 refine fI ?_;refine K2 _ _ ?_;clear K2;refine aO (fun _ K5=>?_)
 have hA:¬ A=none:=by intro e;rw [e] at h4;cases h4
 refine oD ?_;refine XE lF qV H wn rfl ?_;clear H;intro b5 a w hb5 H;refine kH H (Rm rfl ?_);clear H;intro a H
 by_cases hr0:rows=[]
 ·have hn0:n=0:=by rw [hn,hr0];rfl
  subst hn0;refine RN lF qV H wn rfl rfl (dQ _) rfl ?_;clear H;intro a H;exact kH H (aM K5 rfl (LR results150 rfl fun H=>H.rt (by rw [hr0];exact aB.jP rfl (by simp [maxLen]))))
 obtain ⟨b,o,xs,rfl,hxl,hxc,hx1,kD⟩:=hx hr0;refine xS (Li:=[]) (Lo:=[_]) (news:=xs) lF qV rfl rfl H wn rfl rfl iP.empty hxl (fun j u hj=>H.hp.aH (hxc j u hj)) hx1 (by omega) (by omega) rfl ?_;clear H;intro v7 Lo a w hrow H;obtain ⟨G',hm,hrep,H⟩:=H.zM hrow (rows:=rows) (by omega) (by simpa using kD)
 try clear hG
 obtain ⟨G2,hG2⟩:∃ g,g=G':=⟨_,rfl⟩;subst hG2;exact kH H (aM K5 rfl (LR results150 rfl fun H=>H.rt hrep))
theorem aha (G:GH) (w0:World) (hG:Hold G w0) (rows:List (List Dat)) (A:Option Addr) (n c:Nat) (hv:aB G (.sl 4 rows) (.slice A n c)) (hz:rows.length≤4294967296) :
  Calls prog 151 #[.slice A n c] w0 (bR w0 G fun v G'=>aB G' (.sl 4 rows) v):=by
 obtain ⟨hn,hc1,hc2,hnil,hx⟩:=hv.cells;refine eN [(0,_)] func151 rfl ntmps151 rfl rfl hG ?_;intro a H;refine kP H (SR fun _ K1=>ak K1 rfl (SQ fun _ K2=>SR fun _ K3=>Rm rfl ?_));clear H K1;intro a H;refine XF qy H wn rfl rfl ?_;clear H;intro a H;refine K3 _ _ ?_;clear K3;refine oN H rfl ?_ ?_
 ·intro h4
  exact kP H (SR fun _ K4=>ak K4 rfl (LR results151 rfl fun H=>H.rt (by rw [hnil (by simpa using h4)];exact aB.jP rfl (by simp [maxLen]))))
 intro h4
 try have p4:=dF h4
 refine fI ?_;refine K2 _ _ ?_;clear K2;refine aO (fun _ K5=>?_)
 have hA:¬ A=none:=by intro e;rw [e] at h4;cases h4
 refine oD ?_;refine XE qy um H wn rfl ?_;clear H;intro b5 a w hb5 H;refine kH H (Rm rfl ?_);clear H;intro a H
 by_cases hr0:rows=[]
 ·have hn0:n=0:=by rw [hn,hr0];rfl
  subst hn0;refine RN qy um H wn rfl rfl (dQ _) rfl ?_;clear H;intro a H;exact kH H (aM K5 rfl (LR results151 rfl fun H=>H.rt (by rw [hr0];exact aB.jP rfl (by simp [maxLen]))))
 obtain ⟨b,o,xs,rfl,hxl,hxc,hx1,kD⟩:=hx hr0;refine xS (Li:=[]) (Lo:=[_]) (news:=xs) qy um rfl rfl H wn rfl rfl iP.empty hxl (fun j u hj=>H.hp.aH (hxc j u hj)) hx1 (by omega) (by omega) rfl ?_;clear H;intro v7 Lo a w hrow H;obtain ⟨G',hm,hrep,H⟩:=H.zM hrow (rows:=rows) (by omega) (by simpa using kD)
 try clear hG
 obtain ⟨G2,hG2⟩:∃ g,g=G':=⟨_,rfl⟩;subst hG2;exact kH H (aM K5 rfl (LR results151 rfl fun H=>H.rt hrep))
theorem Tw (G:GH) (w0:World) (hG:Hold G w0) (h:jJ) (pA dA yA:Option Addr) (pn pc dn dc yn yc:Nat) (hv:mF G h (.slice pA pn pc) (.slice dA dn dc) (.slice yA yn yc)) (hz:pR h≤4294967296) :
  Calls prog 70 #[.agg #[.slice pA pn pc,vi h.marks.ins,vi h.marks.move,.slice dA dn dc,.slice yA yn yc]] w0 (bR w0 G fun v G'=>∃ p d l,v=.agg #[p,vi h.marks.ins,vi h.marks.move,d,l]∧mF G' h p d l):=by
 have he:=CP h;have h1:=nM (h.props.map jq.dat);have h2:=nM (h.marks.bU.map kK.dat);have h3:=nM (h.marks.layers.map ku.dat);refine eN [(0,_)] func70 rfl ntmps70 rfl rfl hG ?_;intro a H;refine dz (fun _ K1=>?_);refine eU (cs:=[_,_,_,_,_]) H wn rfl rfl rfl ?_;clear H;intro b1 a w hb1 H;refine dR nC H wn rfl ?_;clear H;intro b2 a w hb2 H;refine K1 _ _ ?_;clear K1;refine kP H (SR fun _ K2=>aW yH vN 1 rfl rfl ?_);clear H;intro a H;refine s_call ajv H wn rfl (ahb _ _ H.ro _ _ _ _ hv.props (by omega)) rfl ?_;clear H;rintro v5 G5 a w Bb QD H;obtain ⟨A5,n5,c5,rfl⟩:=Bb.form;refine kH H (Rf yH rfl ?_);clear H;intro a H;refine bO vN 1 (vs:=[_]) _ H wn rfl rfl rfl rfl rfl rfl rfl rfl ?_;clear H;intro w H;dsimp only [List.set,setRow] at H;refine K2 _ _ ?_;clear K2;refine aO (fun _ K3=>?_);obtain ⟨hvp,hvd,hvy⟩:=hv.mono QD;clear hv
 have rJ:∀ (bL:Nat) (v:aj) (G G':GH),(∀ k o,G k=some o→G' k=some o)→(fun (bL:Nat) (v:aj) (G:GH)=>match bL with|0=>v=(aK b1 1)|1=>v=(aK b1 3)|2=>v=.slice dA dn dc|3=>aB G (.sl 2 (h.marks.bU.map kK.dat)) v|4=>v=(aK b1 1)|5=>v=(aK b1 4)|6=>v=.slice yA yn yc|7=>aB G (.sl 4 (h.marks.layers.map ku.dat)) v|8=>v=(aK b1 1)|9=>v=(aK b1 3)|_=>True) bL v G→(fun (bL:Nat) (v:aj) (G:GH)=>match bL with|0=>v=(aK b1 1)|1=>v=(aK b1 3)|2=>v=.slice dA dn dc|3=>aB G (.sl 2 (h.marks.bU.map kK.dat)) v|4=>v=(aK b1 1)|5=>v=(aK b1 4)|6=>v=.slice yA yn yc|7=>aB G (.sl 4 (h.marks.layers.map ku.dat)) v|8=>v=(aK b1 1)|9=>v=(aK b1 3)|_=>True) bL v G':=by
  intro bL v G G' hm h
  match bL,h with
  | 0,h=>exact h
  | 1,h=>exact h
  | 2,h=>exact h
  | 3,h=>exact aB.mono hm h
  | 4,h=>exact h
  | 5,h=>exact h
  | 6,h=>exact h
  | 7,h=>exact aB.mono hm h
  | 8,h=>exact h
  | 9,h=>exact h
  | 10,h=>exact trivial
  | 11,h=>exact trivial
  | 12,h=>exact trivial
  | 13,h=>exact trivial
  | _+14,h=>exact trivial
 refine BH (hmx) [[],[0],[0,1],[0,1,2],[],[4],[4,5],(ra 0 7),(ra 0 7),(ra 0 7++[8]),(ra 0 10),(ra 0 11),(ra 0 12),(ra 0 13)] (ra 10 4) (by kernel_rfl) (by kernel_rfl) (fun (bL:Nat) (v:aj) (G:GH)=>match bL with|0=>v=(aK b1 1)|1=>v=(aK b1 3)|2=>v=.slice dA dn dc|3=>aB G (.sl 2 (h.marks.bU.map kK.dat)) v|4=>v=(aK b1 1)|5=>v=(aK b1 4)|6=>v=.slice yA yn yc|7=>aB G (.sl 4 (h.marks.layers.map ku.dat)) v|8=>v=(aK b1 1)|9=>v=(aK b1 3)|_=>True) rJ H ?_ ?_
 ·clear H;refine aG ?_ ?_ ?_ ?_ (aG ?_ ?_ ?_ ?_ (aG ?_ ?_ (cZ rfl) (cZ rfl) (bG (cZ rfl) (bG (cZ rfl) dU))))
  ·refine bC [] rfl trivial (by kernel_rfl) rJ rfl rfl ?_;intro aQ a w G1 hG HT H fin;exact kH H (Rf pG rfl fun _ H=>fin H iJ rfl)
  ·refine bC [(0,7,_)] rfl ⟨fun _ _ h=>h,av⟩ (by kernel_rfl) rJ rfl rfl ?_;intro aQ a w G1 hG HT H fin;exact kH H (Rf mV rfl fun _ H=>fin H iJ rfl)
  ·refine bC [(1,8,_)] rfl ⟨fun _ _ h=>h,av⟩ (by kernel_rfl) rJ rfl rfl ?_;intro aQ a w G1 hG HT H fin;exact kH H (Ro mY 1 rfl fun _ H=>fin H iJ rfl)
  ·refine bC [(2,9,_)] rfl ⟨fun _ _ h=>h,av⟩ (by kernel_rfl) rJ rfl rfl ?_;intro aQ a w G1 hG HT H fin;refine s_call aia H wn rfl (agZ _ _ H.ro _ _ _ _ (hvd.mono hG) (by omega)) rfl ?_;clear H;rintro v10 O9 a w Ci sH H;exact fin H sH (Ci)
  ·refine bC [] rfl trivial (by kernel_rfl) rJ rfl rfl ?_;intro aQ a w G1 hG HT H fin;exact kH H (Rf pG rfl fun _ H=>fin H iJ rfl)
  ·refine bC [(4,11,_)] rfl ⟨fun _ _ h=>h,av⟩ (by kernel_rfl) rJ rfl rfl ?_;intro aQ a w G1 hG HT H fin;exact kH H (Rf vZ rfl fun _ H=>fin H iJ rfl)
  ·refine bC [(5,12,_)] rfl ⟨fun _ _ h=>h,av⟩ (by kernel_rfl) rJ rfl rfl ?_;intro aQ a w G1 hG HT H fin;exact kH H (Ro wJ 1 rfl fun _ H=>fin H iJ rfl)
  ·refine bC [(6,13,_)] rfl ⟨fun _ _ h=>h,av⟩ (by kernel_rfl) rJ rfl rfl ?_;intro aQ a w G1 hG HT H fin;refine s_call aib H wn rfl (aha _ _ H.ro _ _ _ _ (hvy.mono hG) (by omega)) rfl ?_;clear H;rintro v14 Pb a w Ob Cb H;exact fin H Cb (Ob)
  ·refine bC [] rfl trivial (by kernel_rfl) rJ rfl rfl ?_;intro aQ a w G1 hG HT H fin;exact kH H (Rf pG rfl fun _ H=>fin H iJ rfl)
  refine bC [(8,15,_)] rfl ⟨fun _ _ h=>h,av⟩ (by kernel_rfl) rJ rfl rfl ?_;intro aQ a w G1 hG HT H fin;exact kH H (Rf mV rfl fun _ H=>fin H iJ rfl)
 clear H;intro a w G EK H hv;obtain ⟨u10,Wp,Ci⟩:=hv 3 10 (by decide) rfl;(try dsimp only at Ci);obtain ⟨A10,n10,c10,rfl⟩:=Ci.form;have H:=H.mh Wp;obtain ⟨u14,amO,Ob⟩:=hv 7 14 (by decide) rfl;(try dsimp only at Ob);obtain ⟨Sn,n14,c14,rfl⟩:=Ob.form;have H:=H.mh amO;have H:=H.aU (hv 9 16 rfl rfl) rfl;clear hv;refine bO mY 1 (vs:=[_]) _ H wn rfl rfl rfl rfl rfl rfl rfl rfl ?_;clear H;intro w H;dsimp only [List.set,setRow] at H;refine kH H (Rf pG rfl (Rf vZ rfl ?_));clear H;intro a H;refine bO wJ 1 (vs:=[_]) _ H wn rfl rfl rfl rfl rfl rfl rfl rfl ?_;clear H;intro w H;dsimp only [List.set,setRow] at H;refine aI ⟨rfl,?_⟩;refine K3 _ _ ?_;clear K3;refine dz (fun _ K4=>?_);refine bD nC (cs:=[_,_,_,_,_]) H wn rfl rfl (H.hp.eu 1 rfl rfl) rfl ?_;clear H;intro a H;refine bO nC 0 (vs:=[_,_,_,_,_]) _ H wn rfl rfl rfl rfl rfl rfl rfl rfl ?_;clear H;intro w H;dsimp only [List.set,setRow] at H;refine K4 _ _ ?_;clear K4;refine dM ?_;refine (leave1 H results70 (.cons (Cy nC (cs:=[_,_,_,_,_]) H rfl rfl (H.hp.eu 0 rfl rfl)) .nil) ?_).1;exact H.rt ⟨_,_,_,rfl,Bb.mono EK,Ci,Ob⟩
def J8 (fv:aj) (w0:World) (G:GH) (d:List Dat):Prop:=∀ (G1:GH) (w1:World) (cs:List aj),(∀ b o,G b=some o→G1 b=some o)→Hold G1 w1→bH G1 d cs →
 yg prog fv [.agg cs.toArray] w1 (bR w1 G1 fun u G'=>∃ cs',u=.agg cs'.toArray∧bH G' d cs')
theorem ahx (G:GH) (w0:World) (hG:Hold G w0) (l:List ay) (v fv:aj) (hv:aB G (.sl 11 (l.map ay.dat)) v) (hz:l.length≤4294967296) (hf:∀ x∈l,J8 fv w0 G x.dat) :
  Calls prog 146 #[v,fv] w0 (bR w0 G fun u G'=>aB G' (.sl 11 (l.map ay.dat)) u):=by
 obtain ⟨A,c,rfl,hc1,hc2,hg⟩:=hv.slice
 have hml:4294967297≤maxLen:=by decide
 rw [bZ] at *;refine eN [(0,_),(1,_)] func146 rfl ntmps146 rfl rfl hG ?_;intro a H;refine kP H (SR fun _ K1=>ak K1 rfl (SR fun _ K2=>ak K2 rfl (SQ fun _ K3=>SR fun _ K4=>Rm rfl (Rl iN rfl (Rm rfl (Kz K4 (SB ?_)))))));clear H K1 K2 K4;intro a H;skip;refine fH (ι:=Nat × aj × List aj × OL × GH) (Tc:=[(1,_),(8,_),(9,_)]) (Lc:=[]) (fun gh=>[(5,gh.2.1),(10,vi gh.1)]) (fun gh=>[]++gh.2.2.2.1) (fun gh=>gh.2.2.2.2) (fun gh=>gh.1≤l.length∧iP 35 11 gh.2.1 gh.1 gh.2.2.1 gh.2.2.2.1∧ji gh.2.2.2.2 11 ((l.map ay.dat).take gh.1) gh.2.2.1∧(∀ b o,G b=some o→gh.2.2.2.2 b=some o)) (fun gh=>l.length - gh.1) ((0,.slice none 0 0,[],[],G)) (by exact (H).sub ⟨rfl,rfl,rfl,rfl,rfl,av⟩) ?_ ?_
 ·exact ⟨by omega,iP.nil,by simpa using ji.nil,fun _ _ h=>h⟩
 clear H;intro gh a w hI H;obtain ⟨k,v,xs,Lo,g⟩:=gh;dsimp only at hI H;obtain ⟨hk,hrw,kD,hgm⟩:=hI;dsimp only [lca,aS] at H;refine kP H (SR fun _ K5=>Rc rfl (Kz K5 (SQ fun _ K6=>Cd rfl ?_ ?_))) <;> clear H K5
 ·intro h11 a H
  try have sN:=dT h11
  have hk2:k < l.length:=by omega
  obtain ⟨b,o,cs,rfl,hcl,hrow,hrep⟩:=hg k l[k].dat (by simp [hk2]);obtain ⟨pA,pn,pc,dA,dn,dc,yA,yn,yc,fA,fn,fc,rA,rn,rc,rfl,-⟩:=hrep.item;replace hrow:=fun j u hj=>aF hgm (hrow j u hj);refine kP H (Kc K6 (SQ fun _ K7=>SB (SR fun _ K8=>Ri iN dB rfl rfl ?_)));clear H K6;intro a H;refine bD dB (cs:=[_,_,_,_,_,_,_,_,_,_,_]) H wn rfl rfl (fun j v hj=>H.hp.aH (hrow j v hj)) rfl ?_;clear H;intro a H;refine dR dB H wn rfl ?_;clear H;intro b7 a w tV H;refine bO dB 0 (vs:=[_,_,_,_,_,_,_,_,_,_,_]) _ H wn rfl rfl rfl rfl rfl rfl rfl rfl ?_;clear H;intro w H;dsimp only [List.set,setRow] at H;refine K8 _ _ ?_;clear K8;refine kP H (SC (Rm rfl (Rm rfl ?_)));clear H;intro a H;refine bD dB (cs:=[_,_,_,_,_,_,_,_,_,_,_]) H wn rfl rfl (H.hp.eu 0 rfl rfl) rfl ?_;clear H;intro a H;refine qP H wn rfl rfl (hf _ (jr hk2) _ _ _ hgm H.ro (hrep.mono hgm)) rfl ?_;clear H;rintro v17 CU a w ⟨BK,rfl,dS⟩ tY H;obtain ⟨cs,hcs⟩:∃ cs,cs=BK:=⟨_,rfl⟩;obtain ⟨pA,pn,pc,dA,dn,dc,yA,yn,yc,fA,fn,fc,rA,rn,rc,yP,-⟩:=dS.item;rw [yP] at H;refine jF iN dB [_,_,_,_,_,_,_,_,_,_,_] [_,_,_,_,_,_,_,_,_,_,_] H wn rfl rfl rfl rfl rfl (by intro i q h;match i,h with|0,h=>exact h|n+1,h=>simp at h) rfl rfl ?_;clear H;intro b18 a w Qv H;refine xS (Li:=[_,_]) (Lo:=Lo) (news:=BK) iN dB rfl rfl H wn rfl rfl hrw (by rw [yP];rfl) (by rw [yP];exact H.hp.eu 0 rfl rfl) dS.one (by omega) (by omega) rfl ?_;clear H;intro v19 Ii a w Bd H;refine kH H (aM K7 rfl (SC (Rd rfl (Rm rfl ?_))));clear H K7;intro a H;refine aI ?_;refine dP ((k+1,v19,xs++BK,Ii,CU)) (by exact (H.dK (Pl:=[_,_]) (dw:=[]) [] (by decide) rfl).sub ⟨rfl,rfl,rfl,rfl,rfl,av⟩) ?_ ?_
  ·(try dsimp only);refine ⟨by omega,Bd,?_,fun b o h=>tY b o (hgm b o h)⟩;rw [jZ (by simpa using hk2)];exact (kD.mono tY).snoc (by simpa using dS) (by rw [yP];rfl)
  first|omega|(dsimp only;omega)
 intro h11 a H
 try have sN:=dF h11
 refine eD ?_;refine K3 _ _ ?_;clear K3;refine aO (fun _ K9=>?_);obtain ⟨G',hm,hrep,H⟩:=H.zM (Li:=[]) hrw (rows:=l.map ay.dat) (by simp;omega) (by rw [kF (by simp;omega)] at kD;exact kD);exact kP H (SC (Rm rfl (aM K9 rfl (LR results146 rfl fun H=>H.rt hrep))))
theorem ahy (G:GH) (w0:World) (hG:Hold G w0) (l:List bJ) (v fv:aj) (hv:aB G (.sl 6 (l.map bJ.dat)) v) (hz:l.length≤4294967296) (hf:∀ x∈l,J8 fv w0 G x.dat) :
  Calls prog 148 #[v,fv] w0 (bR w0 G fun u G'=>aB G' (.sl 6 (l.map bJ.dat)) u):=by
 obtain ⟨A,c,rfl,hc1,hc2,hg⟩:=hv.slice
 have hml:4294967297≤maxLen:=by decide
 rw [bZ] at *;refine eN [(0,_),(1,_)] func148 rfl ntmps148 rfl rfl hG ?_;intro a H;refine kP H (SR fun _ K1=>ak K1 rfl (SR fun _ K2=>ak K2 rfl (SQ fun _ K3=>SR fun _ K4=>Rm rfl (Rl jH rfl (Rm rfl (Kz K4 (SB ?_)))))));clear H K1 K2 K4;intro a H;skip;refine fH (ι:=Nat × aj × List aj × OL × GH) (Tc:=[(1,_),(8,_),(9,_)]) (Lc:=[]) (fun gh=>[(5,gh.2.1),(10,vi gh.1)]) (fun gh=>[]++gh.2.2.2.1) (fun gh=>gh.2.2.2.2) (fun gh=>gh.1≤l.length∧iP 171 6 gh.2.1 gh.1 gh.2.2.1 gh.2.2.2.1∧ji gh.2.2.2.2 6 ((l.map bJ.dat).take gh.1) gh.2.2.1∧(∀ b o,G b=some o→gh.2.2.2.2 b=some o)) (fun gh=>l.length - gh.1) ((0,.slice none 0 0,[],[],G)) (by exact (H).sub ⟨rfl,rfl,rfl,rfl,rfl,av⟩) ?_ ?_
 ·exact ⟨by omega,iP.nil,by simpa using ji.nil,fun _ _ h=>h⟩
 clear H;intro gh a w hI H;obtain ⟨k,v,xs,Lo,g⟩:=gh;dsimp only at hI H;obtain ⟨hk,hrw,kD,hgm⟩:=hI;dsimp only [lca,aS] at H;refine kP H (SR fun _ K5=>Rc rfl (Kz K5 (SQ fun _ K6=>Cd rfl ?_ ?_))) <;> clear H K5
 ·intro h11 a H
  try have sN:=dT h11
  have hk2:k < l.length:=by omega
  obtain ⟨b,o,cs,rfl,hcl,hrow,hrep⟩:=hg k l[k].dat (by simp [hk2]);obtain ⟨pA,pn,pc,dA,dn,dc,yA,yn,yc,fA,fn,fc,rfl,-⟩:=hrep.row;replace hrow:=fun j u hj=>aF hgm (hrow j u hj);refine kP H (Kc K6 (SQ fun _ K7=>SB (SR fun _ K8=>Ri jH iI rfl rfl ?_)));clear H K6;intro a H;refine bD iI (cs:=[_,_,_,_,_,_]) H wn rfl rfl (fun j v hj=>H.hp.aH (hrow j v hj)) rfl ?_;clear H;intro a H;refine dR iI H wn rfl ?_;clear H;intro b7 a w tV H;refine bO iI 0 (vs:=[_,_,_,_,_,_]) _ H wn rfl rfl rfl rfl rfl rfl rfl rfl ?_;clear H;intro w H;dsimp only [List.set,setRow] at H;refine K8 _ _ ?_;clear K8;refine kP H (SC (Rm rfl (Rm rfl ?_)));clear H;intro a H;refine bD iI (cs:=[_,_,_,_,_,_]) H wn rfl rfl (H.hp.eu 0 rfl rfl) rfl ?_;clear H;intro a H;refine qP H wn rfl rfl (hf _ (jr hk2) _ _ _ hgm H.ro (hrep.mono hgm)) rfl ?_;clear H;rintro v17 CU a w ⟨BK,rfl,dS⟩ tY H;obtain ⟨cs,hcs⟩:∃ cs,cs=BK:=⟨_,rfl⟩;obtain ⟨pA,pn,pc,dA,dn,dc,yA,yn,yc,fA,fn,fc,yP,-⟩:=dS.row;rw [yP] at H;refine jF jH iI [_,_,_,_,_,_] [_,_,_,_,_,_] H wn rfl rfl rfl rfl rfl (by intro i q h;match i,h with|0,h=>exact h|n+1,h=>simp at h) rfl rfl ?_;clear H;intro b18 a w Qv H;refine xS (Li:=[_,_]) (Lo:=Lo) (news:=BK) jH iI rfl rfl H wn rfl rfl hrw (by rw [yP];rfl) (by rw [yP];exact H.hp.eu 0 rfl rfl) dS.one (by omega) (by omega) rfl ?_;clear H;intro v19 Ii a w Bd H;refine kH H (aM K7 rfl (SC (Rd rfl (Rm rfl ?_))));clear H K7;intro a H;refine aI ?_;refine dP ((k+1,v19,xs++BK,Ii,CU)) (by exact (H.dK (Pl:=[_,_]) (dw:=[]) [] (by decide) rfl).sub ⟨rfl,rfl,rfl,rfl,rfl,av⟩) ?_ ?_
  ·(try dsimp only);refine ⟨by omega,Bd,?_,fun b o h=>tY b o (hgm b o h)⟩;rw [jZ (by simpa using hk2)];exact (kD.mono tY).snoc (by simpa using dS) (by rw [yP];rfl)
  first|omega|(dsimp only;omega)
 intro h11 a H
 try have sN:=dF h11
 refine eD ?_;refine K3 _ _ ?_;clear K3;refine aO (fun _ K9=>?_);obtain ⟨G',hm,hrep,H⟩:=H.zM (Li:=[]) hrw (rows:=l.map bJ.dat) (by simp;omega) (by rw [kF (by simp;omega)] at kD;exact kD);exact kP H (SC (Rm rfl (aM K9 rfl (LR results148 rfl fun H=>H.rt hrep))))
theorem ahw (G:GH) (w0:World) (hG:Hold G w0) (l:List bB) (v fv:aj) (hv:aB G (.sl 7 (l.map bB.dat)) v) (hz:l.length≤4294967296) (hf:∀ x∈l,J8 fv w0 G x.dat) :
  Calls prog 201 #[v,fv] w0 (bR w0 G fun u G'=>aB G' (.sl 7 (l.map bB.dat)) u):=by
 obtain ⟨A,c,rfl,hc1,hc2,hg⟩:=hv.slice
 have hml:4294967297≤maxLen:=by decide
 rw [bZ] at *;refine eN [(0,_),(1,_)] func201 rfl ntmps201 rfl rfl hG ?_;intro a H;refine kP H (SR fun _ K1=>ak K1 rfl (SR fun _ K2=>ak K2 rfl (SQ fun _ K3=>SR fun _ K4=>Rm rfl (Rl kV rfl (Rm rfl (Kz K4 (SB ?_)))))));clear H K1 K2 K4;intro a H;skip;refine fH (ι:=Nat × aj × List aj × OL × GH) (Tc:=[(1,_),(8,_),(9,_)]) (Lc:=[]) (fun gh=>[(5,gh.2.1),(10,vi gh.1)]) (fun gh=>[]++gh.2.2.2.1) (fun gh=>gh.2.2.2.2) (fun gh=>gh.1≤l.length∧iP 174 7 gh.2.1 gh.1 gh.2.2.1 gh.2.2.2.1∧ji gh.2.2.2.2 7 ((l.map bB.dat).take gh.1) gh.2.2.1∧(∀ b o,G b=some o→gh.2.2.2.2 b=some o)) (fun gh=>l.length - gh.1) ((0,.slice none 0 0,[],[],G)) (by exact (H).sub ⟨rfl,rfl,rfl,rfl,rfl,av⟩) ?_ ?_
 ·exact ⟨by omega,iP.nil,by simpa using ji.nil,fun _ _ h=>h⟩
 clear H;intro gh a w hI H;obtain ⟨k,v,xs,Lo,g⟩:=gh;dsimp only at hI H;obtain ⟨hk,hrw,kD,hgm⟩:=hI;dsimp only [lca,aS] at H;refine kP H (SR fun _ K5=>Rc rfl (Kz K5 (SQ fun _ K6=>Cd rfl ?_ ?_))) <;> clear H K5
 ·intro h11 a H
  try have sN:=dT h11
  have hk2:k < l.length:=by omega
  obtain ⟨b,o,cs,rfl,hcl,hrow,hrep⟩:=hg k l[k].dat (by simp [hk2]);obtain ⟨pA,pn,pc,dA,dn,dc,yA,yn,yc,fA,fn,fc,rfl,-⟩:=hrep.cell;replace hrow:=fun j u hj=>aF hgm (hrow j u hj);refine kP H (Kc K6 (SQ fun _ K7=>SB (SR fun _ K8=>Ri kV iy rfl rfl ?_)));clear H K6;intro a H;refine bD iy (cs:=[_,_,_,_,_,_,_]) H wn rfl rfl (fun j v hj=>H.hp.aH (hrow j v hj)) rfl ?_;clear H;intro a H;refine dR iy H wn rfl ?_;clear H;intro b7 a w tV H;refine bO iy 0 (vs:=[_,_,_,_,_,_,_]) _ H wn rfl rfl rfl rfl rfl rfl rfl rfl ?_;clear H;intro w H;dsimp only [List.set,setRow] at H;refine K8 _ _ ?_;clear K8;refine kP H (SC (Rm rfl (Rm rfl ?_)));clear H;intro a H;refine bD iy (cs:=[_,_,_,_,_,_,_]) H wn rfl rfl (H.hp.eu 0 rfl rfl) rfl ?_;clear H;intro a H;refine qP H wn rfl rfl (hf _ (jr hk2) _ _ _ hgm H.ro (hrep.mono hgm)) rfl ?_;clear H;rintro v17 CU a w ⟨BK,rfl,dS⟩ tY H;obtain ⟨cs,hcs⟩:∃ cs,cs=BK:=⟨_,rfl⟩;obtain ⟨pA,pn,pc,dA,dn,dc,yA,yn,yc,fA,fn,fc,yP,-⟩:=dS.cell;rw [yP] at H;refine jF kV iy [_,_,_,_,_,_,_] [_,_,_,_,_,_,_] H wn rfl rfl rfl rfl rfl (by intro i q h;match i,h with|0,h=>exact h|n+1,h=>simp at h) rfl rfl ?_;clear H;intro b18 a w Qv H;refine xS (Li:=[_,_]) (Lo:=Lo) (news:=BK) kV iy rfl rfl H wn rfl rfl hrw (by rw [yP];rfl) (by rw [yP];exact H.hp.eu 0 rfl rfl) dS.one (by omega) (by omega) rfl ?_;clear H;intro v19 Ii a w Bd H;refine kH H (aM K7 rfl (SC (Rd rfl (Rm rfl ?_))));clear H K7;intro a H;refine aI ?_;refine dP ((k+1,v19,xs++BK,Ii,CU)) (by exact (H.dK (Pl:=[_,_]) (dw:=[]) [] (by decide) rfl).sub ⟨rfl,rfl,rfl,rfl,rfl,av⟩) ?_ ?_
  ·(try dsimp only);refine ⟨by omega,Bd,?_,fun b o h=>tY b o (hgm b o h)⟩;rw [jZ (by simpa using hk2)];exact (kD.mono tY).snoc (by simpa using dS) (by rw [yP];rfl)
  first|omega|(dsimp only;omega)
 intro h11 a H
 try have sN:=dF h11
 refine eD ?_;refine K3 _ _ ?_;clear K3;refine aO (fun _ K9=>?_);obtain ⟨G',hm,hrep,H⟩:=H.zM (Li:=[]) hrw (rows:=l.map bB.dat) (by simp;omega) (by rw [kF (by simp;omega)] at kD;exact kD);exact kP H (SC (Rm rfl (aM K9 rfl (LR results201 rfl fun H=>H.rt hrep))))
def Hy (n:Nat):Prop:=∀ (G:GH) (w0:World),Hold G w0→∀ (l:List ay) (v:aj),aB G (.sl 11 (l.map ay.dat)) v→bM l < n →
 Calls prog 69 #[v] w0 (bR w0 G fun u G'=>aB G' (.sl 11 (l.map ay.dat)) u)
theorem agY {n:Nat} (ih:Hy n) (hn:n≤4294967296) (G:GH) (w0:World) (hG:Hold G w0) (x:bB) (cs:List aj) (hv:bH G x.dat cs) (hz:dG x.dat < n+1) :
  Calls prog 202 #[.agg cs.toArray] w0 (bR w0 G fun u G'=>∃ cs',u=.agg cs'.toArray∧bH G' x.dat cs'):=by
 have he:=uM x;obtain ⟨pA,pn,pc,dA,dn,dc,yA,yn,yc,fA,fn,fc,rfl,hh,hf⟩:=hv.cell;refine eN [(0,_)] func202 rfl ntmps202 rfl rfl hG ?_;intro a H;refine dz (fun _ K1=>?_);refine eU (cs:=[_,_,_,_,_,_,_]) H wn rfl rfl rfl ?_;clear H;intro b1 a w hb1 H;refine dR iy H wn rfl ?_;clear H;intro b2 a w hb2 H;refine K1 _ _ ?_;clear K1;refine aO (fun _ K2=>?_)
 have kI:∀ (bL:Nat) (v:aj) (G G':GH),(∀ k o,G k=some o→G' k=some o)→(fun (bL:Nat) (v:aj) (G:GH)=>match bL with|0=>v=(aK b1 0)|1=>v=vi x.id|2=>v=(aK b1 1)|3=>v=.agg #[.slice pA pn pc,vi x.head.marks.ins,vi x.head.marks.move,.slice dA dn dc,.slice yA yn yc]|4=>∃ p d l,v=.agg #[p,vi x.head.marks.ins,vi x.head.marks.move,d,l]∧mF G x.head p d l|5=>v=(aK b1 6)|6=>v=.slice fA fn fc|7=>aB G (.sl 11 (x.flow.map ay.dat)) v|_=>True) bL v G→(fun (bL:Nat) (v:aj) (G:GH)=>match bL with|0=>v=(aK b1 0)|1=>v=vi x.id|2=>v=(aK b1 1)|3=>v=.agg #[.slice pA pn pc,vi x.head.marks.ins,vi x.head.marks.move,.slice dA dn dc,.slice yA yn yc]|4=>∃ p d l,v=.agg #[p,vi x.head.marks.ins,vi x.head.marks.move,d,l]∧mF G x.head p d l|5=>v=(aK b1 6)|6=>v=.slice fA fn fc|7=>aB G (.sl 11 (x.flow.map ay.dat)) v|_=>True) bL v G':=by
  intro bL v G G' hm h
  match bL,h with
  | 0,h=>exact h
  | 1,h=>exact h
  | 2,h=>exact h
  | 3,h=>exact h
  | 4,h=>exact let ⟨p,d,l,h1,h2⟩:=h;⟨p,d,l,h1,h2.mono hm⟩
  | 5,h=>exact h
  | 6,h=>exact h
  | 7,h=>exact aB.mono hm h
  | 8,h=>exact trivial
  | 9,h=>exact trivial
  | _+10,h=>exact trivial
 refine BH (hmx) [[],[0],[],[2],[2,3],[],[5],(ra 2 5),(ra 0 8),(ra 0 9)] [8,9] (by kernel_rfl) (by kernel_rfl) (fun (bL:Nat) (v:aj) (G:GH)=>match bL with|0=>v=(aK b1 0)|1=>v=vi x.id|2=>v=(aK b1 1)|3=>v=.agg #[.slice pA pn pc,vi x.head.marks.ins,vi x.head.marks.move,.slice dA dn dc,.slice yA yn yc]|4=>∃ p d l,v=.agg #[p,vi x.head.marks.ins,vi x.head.marks.move,d,l]∧mF G x.head p d l|5=>v=(aK b1 6)|6=>v=.slice fA fn fc|7=>aB G (.sl 11 (x.flow.map ay.dat)) v|_=>True) kI H ?_ ?_
 ·clear H;refine aG ?_ ?_ ?_ ?_ (aG ?_ ?_ ?_ ?_ (bG (cZ rfl) (bG (cZ rfl) dU)))
  ·refine bC [] rfl trivial (by kernel_rfl) kI rfl rfl ?_;intro aQ a w G1 hG HT H fin;exact kH H (Rf AO rfl fun _ H=>fin H iJ rfl)
  ·refine bC [(0,3,_)] rfl ⟨fun _ _ h=>h,av⟩ (by kernel_rfl) kI rfl rfl ?_;intro aQ a w G1 hG HT H fin;exact kH H (Ro aD 1 rfl fun _ H=>fin H iJ rfl)
  ·refine bC [] rfl trivial (by kernel_rfl) kI rfl rfl ?_;intro aQ a w G1 hG HT H fin;exact kH H (Rf KE rfl fun _ H=>fin H iJ rfl)
  ·refine bC [(2,5,_)] rfl ⟨fun _ _ h=>h,av⟩ (by kernel_rfl) kI rfl rfl ?_;intro aQ a w G1 hG HT H fin;refine bD nC (cs:=[_,_,_,_,_]) H wn rfl rfl (H.hp.eu 1 rfl rfl) rfl ?_;clear H;intro a H;exact fin H iJ rfl
  ·refine bC [(3,6,_)] rfl ⟨fun _ _ h=>h,av⟩ (by kernel_rfl) kI rfl rfl ?_;intro aQ a w G1 hG HT H fin;refine s_call Ub H wn rfl (Tw _ _ H.ro x.head _ _ _ _ _ _ _ _ _ (hh.mono hG) (by omega)) rfl ?_;clear H;rintro v7 G7 a w QN Nw H;exact fin H Nw (QN)
  ·refine bC [] rfl trivial (by kernel_rfl) kI rfl rfl ?_;intro aQ a w G1 hG HT H fin;exact kH H (Rf AQ rfl fun _ H=>fin H iJ rfl)
  ·refine bC [(5,8,_)] rfl ⟨fun _ _ h=>h,av⟩ (by kernel_rfl) kI rfl rfl ?_;intro aQ a w G1 hG HT H fin;exact kH H (Ro iM 1 rfl fun _ H=>fin H iJ rfl)
  refine bC [(6,9,_)] rfl ⟨fun _ _ h=>h,av⟩ (by kernel_rfl) kI rfl rfl ?_;intro aQ a w G1 hG HT H fin;refine s_call P8 H wn rfl (ih _ _ H.ro x.flow _ (hf.mono hG) (by omega)) rfl ?_;clear H;rintro v10 O9 a w Ci sH H;exact fin H sH (Ci)
 clear H;intro a w G qK H hv;have H:=H.aU (hv 1 4 rfl rfl) rfl;obtain ⟨u7,hu7,QN⟩:=hv 4 7 (by decide) rfl;(try dsimp only at QN);obtain ⟨p7,d7,l7,rfl,Qz⟩:=QN;obtain ⟨a1,a2,a3,rfl⟩:=Qz.props.form;obtain ⟨a4,a5,a6,rfl⟩:=Qz.bU.form;obtain ⟨a7,a8,a9,rfl⟩:=Qz.layers.form;have H:=H.mh hu7;obtain ⟨u10,Wp,Ci⟩:=hv 7 10 (by decide) rfl;(try dsimp only at Ci);obtain ⟨A10,n10,c10,rfl⟩:=Ci.form;have H:=H.mh Wp;clear hv;refine lY XL [_,_,_,_,_,_,_] H wn rfl rfl rfl rfl ?_;clear H;intro a H;refine bO iy 0 (vs:=[_,_,_,_,_,_,_]) _ H wn rfl rfl rfl rfl rfl rfl rfl rfl ?_;clear H;intro w H;dsimp only [List.set,setRow] at H;refine aI ⟨rfl,?_⟩;refine K2 _ _ ?_;clear K2;refine dM ?_;refine (leave1 H results202 (.cons (Cy iy (cs:=[_,_,_,_,_,_,_]) H rfl rfl (H.hp.eu 0 rfl rfl)) .nil) ?_).1;exact H.rt ⟨_,rfl,bH.Ox Qz Ci⟩
theorem agX {n:Nat} (ih:Hy n) (hn:n≤4294967296) {G:GH} {w0:World} (x:bB) (hz:dG x.dat < n+1):J8 (.func (.func 202) #[] #[]) w0 G x.dat:=by
 intro G1 w1 cs hm1 hG1 hr;have h:=agY ih hn _ _ hG1 x cs hr hz;have h2:=mU (P:=prog) (caps:=[]) (args:=[.agg cs.toArray]) aiF h;exact h2
theorem ahd {n:Nat} (ih:Hy n) (hn:n≤4294967296) (G:GH) (w0:World) (hG:Hold G w0) (x:bJ) (cs:List aj) (hv:bH G x.dat cs) (hz:dG x.dat < n+1) :
  Calls prog 149 #[.agg cs.toArray] w0 (bR w0 G fun u G'=>∃ cs',u=.agg cs'.toArray∧bH G' x.dat cs'):=by
 have he:=uN x;have hl:=Fh x.cells;obtain ⟨pA,pn,pc,dA,dn,dc,yA,yn,yc,fA,fn,fc,rfl,hh,hf⟩:=hv.row;refine eN [(0,_)] func149 rfl ntmps149 rfl rfl hG ?_;intro a H;refine dz (fun _ K1=>?_);refine eU (cs:=[_,_,_,_,_,_]) H wn rfl rfl rfl ?_;clear H;intro b1 a w hb1 H;refine dR iI H wn rfl ?_;clear H;intro b2 a w hb2 H;refine K1 _ _ ?_;clear K1;refine aO (fun _ K2=>?_)
 have kI:∀ (bL:Nat) (v:aj) (G G':GH),(∀ k o,G k=some o→G' k=some o)→(fun (bL:Nat) (v:aj) (G:GH)=>match bL with|0=>v=(aK b1 0)|1=>v=.agg #[.slice pA pn pc,vi x.head.marks.ins,vi x.head.marks.move,.slice dA dn dc,.slice yA yn yc]|2=>∃ p d l,v=.agg #[p,vi x.head.marks.ins,vi x.head.marks.move,d,l]∧mF G x.head p d l|3=>v=(aK b1 5)|4=>v=.slice fA fn fc|5=>aB G (.sl 7 (x.cells.map bB.dat)) v|_=>True) bL v G→(fun (bL:Nat) (v:aj) (G:GH)=>match bL with|0=>v=(aK b1 0)|1=>v=.agg #[.slice pA pn pc,vi x.head.marks.ins,vi x.head.marks.move,.slice dA dn dc,.slice yA yn yc]|2=>∃ p d l,v=.agg #[p,vi x.head.marks.ins,vi x.head.marks.move,d,l]∧mF G x.head p d l|3=>v=(aK b1 5)|4=>v=.slice fA fn fc|5=>aB G (.sl 7 (x.cells.map bB.dat)) v|_=>True) bL v G':=by
  intro bL v G G' hm h
  match bL,h with
  | 0,h=>exact h
  | 1,h=>exact h
  | 2,h=>exact let ⟨p,d,l,h1,h2⟩:=h;⟨p,d,l,h1,h2.mono hm⟩
  | 3,h=>exact h
  | 4,h=>exact h
  | 5,h=>exact aB.mono hm h
  | 6,h=>exact trivial
  | 7,h=>exact trivial
  | _+8,h=>exact trivial
 refine BH (hmx) [[],[0],[0,1],[],[3],(ra 0 5),(ra 0 6),(ra 0 7)] [6,7] (by kernel_rfl) (by kernel_rfl) (fun (bL:Nat) (v:aj) (G:GH)=>match bL with|0=>v=(aK b1 0)|1=>v=.agg #[.slice pA pn pc,vi x.head.marks.ins,vi x.head.marks.move,.slice dA dn dc,.slice yA yn yc]|2=>∃ p d l,v=.agg #[p,vi x.head.marks.ins,vi x.head.marks.move,d,l]∧mF G x.head p d l|3=>v=(aK b1 5)|4=>v=.slice fA fn fc|5=>aB G (.sl 7 (x.cells.map bB.dat)) v|_=>True) kI H ?_ ?_
 ·clear H;refine aG ?_ ?_ ?_ ?_ (aG ?_ ?_ (cZ rfl) (cZ rfl) dU)
  ·refine bC [] rfl trivial (by kernel_rfl) kI rfl rfl ?_;intro aQ a w G1 hG HT H fin;exact kH H (Rf FV rfl fun _ H=>fin H iJ rfl)
  ·refine bC [(0,3,_)] rfl ⟨fun _ _ h=>h,av⟩ (by kernel_rfl) kI rfl rfl ?_;intro aQ a w G1 hG HT H fin;refine bD nC (cs:=[_,_,_,_,_]) H wn rfl rfl (H.hp.eu 1 rfl rfl) rfl ?_;clear H;intro a H;exact fin H iJ rfl
  ·refine bC [(1,4,_)] rfl ⟨fun _ _ h=>h,av⟩ (by kernel_rfl) kI rfl rfl ?_;intro aQ a w G1 hG HT H fin;refine s_call Ub H wn rfl (Tw _ _ H.ro x.head _ _ _ _ _ _ _ _ _ (hh.mono hG) (by omega)) rfl ?_;clear H;rintro v5 G5 a w Bb Gf H;exact fin H Gf (Bb)
  ·refine bC [] rfl trivial (by kernel_rfl) kI rfl rfl ?_;intro aQ a w G1 hG HT H fin;exact kH H (Rf qG rfl fun _ H=>fin H iJ rfl)
  ·refine bC [(3,6,_)] rfl ⟨fun _ _ h=>h,av⟩ (by kernel_rfl) kI rfl rfl ?_;intro aQ a w G1 hG HT H fin;exact kH H (Ro qU 1 rfl fun _ H=>fin H iJ rfl)
  refine bC [(4,7,_)] rfl ⟨fun _ _ h=>h,av⟩ (by kernel_rfl) kI rfl rfl ?_;intro aQ a w G1 hG HT H fin;refine s_call aiE H wn rfl (ahw _ _ H.ro x.cells _ _ (hf.mono hG) (by omega) (fun y hy=>agX ih hn y (by have:=Yo hy;omega))) rfl ?_;clear H;rintro v8 G8 a w Cj wu H;exact fin H wu (Cj)
 clear H;intro a w G qK H hv;obtain ⟨u5,Wu,Bb⟩:=hv 2 5 (by decide) rfl;(try dsimp only at Bb);obtain ⟨p5,d5,l5,rfl,EN⟩:=Bb;obtain ⟨a1,a2,a3,rfl⟩:=EN.props.form;obtain ⟨a4,a5,a6,rfl⟩:=EN.bU.form;obtain ⟨a7,a8,a9,rfl⟩:=EN.layers.form;have H:=H.mh Wu;obtain ⟨u8,Ww,Cj⟩:=hv 5 8 (by decide) rfl;(try dsimp only at Cj);obtain ⟨A8,n8,c8,rfl⟩:=Cj.form;have H:=H.mh Ww;clear hv;refine lY aen [_,_,_,_,_,_] H wn rfl rfl rfl rfl ?_;clear H;intro a H;refine bO iI 0 (vs:=[_,_,_,_,_,_]) _ H wn rfl rfl rfl rfl rfl rfl rfl rfl ?_;clear H;intro w H;dsimp only [List.set,setRow] at H;refine aI ⟨rfl,?_⟩;refine K2 _ _ ?_;clear K2;refine dM ?_;refine (leave1 H results149 (.cons (Cy iI (cs:=[_,_,_,_,_,_]) H rfl rfl (H.hp.eu 0 rfl rfl)) .nil) ?_).1;exact H.rt ⟨_,rfl,bH.WY EN Cj⟩
theorem ahc {n:Nat} (ih:Hy n) (hn:n≤4294967296) {G:GH} {w0:World} (x:bJ) (hz:dG x.dat < n+1):J8 (.func (.func 149) #[] #[]) w0 G x.dat:=by
 intro G1 w1 cs hm1 hG1 hr;have h:=ahd ih hn _ _ hG1 x cs hr hz;have h2:=mU (P:=prog) (caps:=[]) (args:=[.agg cs.toArray]) ahZ h;exact h2
theorem agW {n:Nat} (ih:Hy n) (hn:n≤4294967296) (G:GH) (w0:World) (hG:Hold G w0) (x:ay) (cs:List aj) (hv:bH G x.dat cs) (hz:dG x.dat < n+1) :
  Calls prog 147 #[.agg cs.toArray] w0 (bR w0 G fun u G'=>∃ cs',u=.agg cs'.toArray∧bH G' x.dat cs'):=by
 have he:=oK x;have hl:=Fp x.rows;obtain ⟨pA,pn,pc,dA,dn,dc,yA,yn,yc,fA,fn,fc,rA,rn,rc,rfl,hh,hf,hr⟩:=hv.item;refine eN [(0,_)] func147 rfl ntmps147 rfl rfl hG ?_;intro a H;refine dz (fun _ K1=>?_);refine eU (cs:=[_,_,_,_,_,_,_,_,_,_,_]) H wn rfl rfl rfl ?_;clear H;intro b1 a w hb1 H;refine dR dB H wn rfl ?_;clear H;intro b2 a w hb2 H;refine K1 _ _ ?_;clear K1;refine aO (fun _ K2=>?_)
 have kI:∀ (bL:Nat) (v:aj) (G G':GH),(∀ k o,G k=some o→G' k=some o)→(fun (bL:Nat) (v:aj) (G:GH)=>match bL with|0=>v=(aK b1 4)|1=>v=.agg #[.slice pA pn pc,vi x.head.marks.ins,vi x.head.marks.move,.slice dA dn dc,.slice yA yn yc]|2=>∃ p d l,v=.agg #[p,vi x.head.marks.ins,vi x.head.marks.move,d,l]∧mF G x.head p d l|3=>v=(aK b1 9)|4=>v=.slice fA fn fc|5=>aB G (.sl 11 (x.flow.map ay.dat)) v|6=>v=(aK b1 10)|7=>v=.slice rA rn rc|8=>aB G (.sl 6 (x.rows.map bJ.dat)) v|9=>v=(aK b1 4)|_=>True) bL v G→(fun (bL:Nat) (v:aj) (G:GH)=>match bL with|0=>v=(aK b1 4)|1=>v=.agg #[.slice pA pn pc,vi x.head.marks.ins,vi x.head.marks.move,.slice dA dn dc,.slice yA yn yc]|2=>∃ p d l,v=.agg #[p,vi x.head.marks.ins,vi x.head.marks.move,d,l]∧mF G x.head p d l|3=>v=(aK b1 9)|4=>v=.slice fA fn fc|5=>aB G (.sl 11 (x.flow.map ay.dat)) v|6=>v=(aK b1 10)|7=>v=.slice rA rn rc|8=>aB G (.sl 6 (x.rows.map bJ.dat)) v|9=>v=(aK b1 4)|_=>True) bL v G':=by
  intro bL v G G' hm h
  match bL,h with
  | 0,h=>exact h
  | 1,h=>exact h
  | 2,h=>exact let ⟨p,d,l,h1,h2⟩:=h;⟨p,d,l,h1,h2.mono hm⟩
  | 3,h=>exact h
  | 4,h=>exact h
  | 5,h=>exact aB.mono hm h
  | 6,h=>exact h
  | 7,h=>exact h
  | 8,h=>exact aB.mono hm h
  | 9,h=>exact h
  | 10,h=>exact trivial
  | 11,h=>exact trivial
  | 12,h=>exact trivial
  | 13,h=>exact trivial
  | 14,h=>exact trivial
  | _+15,h=>exact trivial
 refine BH (hmx) [[],[0],[0,1],[],[3],(ra 0 5),[],[6],(ra 0 8),[0,1,2,3,4,6,7],(ra 0 10),(ra 0 11),(ra 0 12),(ra 0 13),(ra 0 14)] (ra 10 5) (by kernel_rfl) (by kernel_rfl) (fun (bL:Nat) (v:aj) (G:GH)=>match bL with|0=>v=(aK b1 4)|1=>v=.agg #[.slice pA pn pc,vi x.head.marks.ins,vi x.head.marks.move,.slice dA dn dc,.slice yA yn yc]|2=>∃ p d l,v=.agg #[p,vi x.head.marks.ins,vi x.head.marks.move,d,l]∧mF G x.head p d l|3=>v=(aK b1 9)|4=>v=.slice fA fn fc|5=>aB G (.sl 11 (x.flow.map ay.dat)) v|6=>v=(aK b1 10)|7=>v=.slice rA rn rc|8=>aB G (.sl 6 (x.rows.map bJ.dat)) v|9=>v=(aK b1 4)|_=>True) kI H ?_ ?_
 ·clear H;refine aG ?_ ?_ ?_ ?_ (aG ?_ ?_ ?_ ?_ (aG ?_ ?_ (cZ rfl) (cZ rfl) (bG (cZ rfl) (bG (cZ rfl) (bG (cZ rfl) dU)))))
  ·refine bC [] rfl trivial (by kernel_rfl) kI rfl rfl ?_;intro aQ a w G1 hG HT H fin;exact kH H (Rf Ew rfl fun _ H=>fin H iJ rfl)
  ·refine bC [(0,3,_)] rfl ⟨fun _ _ h=>h,av⟩ (by kernel_rfl) kI rfl rfl ?_;intro aQ a w G1 hG HT H fin;refine bD nC (cs:=[_,_,_,_,_]) H wn rfl rfl (H.hp.eu 1 rfl rfl) rfl ?_;clear H;intro a H;exact fin H iJ rfl
  ·refine bC [(1,4,_)] rfl ⟨fun _ _ h=>h,av⟩ (by kernel_rfl) kI rfl rfl ?_;intro aQ a w G1 hG HT H fin;refine s_call Ub H wn rfl (Tw _ _ H.ro x.head _ _ _ _ _ _ _ _ _ (hh.mono hG) (by omega)) rfl ?_;clear H;rintro v5 G5 a w Bb Gf H;exact fin H Gf (Bb)
  ·refine bC [] rfl trivial (by kernel_rfl) kI rfl rfl ?_;intro aQ a w G1 hG HT H fin;exact kH H (Rf yI rfl fun _ H=>fin H iJ rfl)
  ·refine bC [(3,6,_)] rfl ⟨fun _ _ h=>h,av⟩ (by kernel_rfl) kI rfl rfl ?_;intro aQ a w G1 hG HT H fin;exact kH H (Ro iM 1 rfl fun _ H=>fin H iJ rfl)
  ·refine bC [(4,7,_)] rfl ⟨fun _ _ h=>h,av⟩ (by kernel_rfl) kI rfl rfl ?_;intro aQ a w G1 hG HT H fin;refine s_call P8 H wn rfl (ih _ _ H.ro x.flow _ (hf.mono hG) (by omega)) rfl ?_;clear H;rintro v8 G8 a w Cj wu H;exact fin H wu (Cj)
  ·refine bC [] rfl trivial (by kernel_rfl) kI rfl rfl ?_;intro aQ a w G1 hG HT H fin;exact kH H (Rf rC rfl fun _ H=>fin H iJ rfl)
  ·refine bC [(6,9,_)] rfl ⟨fun _ _ h=>h,av⟩ (by kernel_rfl) kI rfl rfl ?_;intro aQ a w G1 hG HT H fin;exact kH H (Ro rR 1 rfl fun _ H=>fin H iJ rfl)
  ·refine bC [(7,10,_)] rfl ⟨fun _ _ h=>h,av⟩ (by kernel_rfl) kI rfl rfl ?_;intro aQ a w G1 hG HT H fin;refine s_call ahY H wn rfl (ahy _ _ H.ro x.rows _ _ (hr.mono hG) (by omega) (fun y hy=>ahc ih hn y (by have:=Yt hy;omega))) rfl ?_;clear H;rintro v11 zx a w Oa xD H;exact fin H xD (Oa)
  refine bC [] rfl trivial (by kernel_rfl) kI rfl rfl ?_;intro aQ a w G1 hG HT H fin;exact kH H (Rf Ew rfl fun _ H=>fin H iJ rfl)
 clear H;intro a w G qK H hv;obtain ⟨u5,Wu,Bb⟩:=hv 2 5 (by decide) rfl;(try dsimp only at Bb);obtain ⟨p5,d5,l5,rfl,EN⟩:=Bb;obtain ⟨a1,a2,a3,rfl⟩:=EN.props.form;obtain ⟨a4,a5,a6,rfl⟩:=EN.bU.form;obtain ⟨a7,a8,a9,rfl⟩:=EN.layers.form;have H:=H.mh Wu;obtain ⟨u8,Ww,Cj⟩:=hv 5 8 (by decide) rfl;(try dsimp only at Cj);obtain ⟨A8,n8,c8,rfl⟩:=Cj.form;have H:=H.mh Ww;obtain ⟨u11,amL,Oa⟩:=hv 8 11 (by decide) rfl;(try dsimp only at Oa);obtain ⟨A11,n11,c11,rfl⟩:=Oa.form;have H:=H.mh amL;have H:=H.aU (hv 9 12 rfl rfl) rfl;clear hv;refine bO nC 1 (vs:=[_,_,_,_,_]) _ H wn rfl rfl rfl rfl rfl rfl rfl rfl ?_;clear H;intro w H;dsimp only [List.set,setRow] at H;refine kH H (Rf yI rfl ?_);clear H;intro a H;refine bO iM 1 (vs:=[_]) _ H wn rfl rfl rfl rfl rfl rfl rfl rfl ?_;clear H;intro w H;dsimp only [List.set,setRow] at H;refine kH H (Rf rC rfl ?_);clear H;intro a H;refine bO rR 1 (vs:=[_]) _ H wn rfl rfl rfl rfl rfl rfl rfl rfl ?_;clear H;intro w H;dsimp only [List.set,setRow] at H;refine aI ⟨rfl,?_⟩;refine K2 _ _ ?_;clear K2;refine dz (fun _ K3=>?_);refine bD dB (cs:=[_,_,_,_,_,_,_,_,_,_,_]) H wn rfl rfl (H.hp.eu 1 rfl rfl) rfl ?_;clear H;intro a H;refine bO dB 0 (vs:=[_,_,_,_,_,_,_,_,_,_,_]) _ H wn rfl rfl rfl rfl rfl rfl rfl rfl ?_;clear H;intro w H;dsimp only [List.set,setRow] at H;refine K3 _ _ ?_;clear K3;refine dM ?_;refine (leave1 H results147 (.cons (Cy dB (cs:=[_,_,_,_,_,_,_,_,_,_,_]) H rfl rfl (H.hp.eu 0 rfl rfl)) .nil) ?_).1;exact H.rt ⟨_,rfl,bH.mkItem EN Cj Oa⟩
theorem agV {n:Nat} (ih:Hy n) (hn:n≤4294967296) {G:GH} {w0:World} (x:ay) (hz:dG x.dat < n+1):J8 (.func (.func 147) #[] #[]) w0 G x.dat:=by
 intro G1 w1 cs hm1 hG1 hr;have h:=agW ih hn _ _ hG1 x cs hr hz;have h2:=mU (P:=prog) (caps:=[]) (args:=[.agg cs.toArray]) ahX h;exact h2
theorem Z8:∀ n:Nat,n≤4294967297→Hy n
 | 0,_=>fun _ _ _ _ _ _ h=>absurd h (by omega)
 | n+1,hn=>by
  intro G w0 hG l v hv hz;have ih:=Z8 n (by omega);have hl:=Fj l;refine eN [(0,_)] func69 rfl ntmps69 rfl rfl hG ?_;intro a H;refine kP H (SR fun _ K1=>ak K1 rfl (SR fun _ K2=>Rm rfl ?_));clear H K1;intro a H;refine s_call ahW H wn rfl (ahx _ _ H.ro l _ _ hv (by omega) (fun y hy=>agV ih (by omega) y (by have:=Mj hy;omega))) rfl ?_;clear H;rintro v4 G4 a w hp4 uE H;exact kH H (ak K2 rfl (LR results69 rfl fun H=>H.rt hp4))
theorem Z9 (G:GH) (w0:World) (hG:Hold G w0) (l:List ay) (v:aj) (hv:aB G (.sl 11 (l.map ay.dat)) v) (hz:bM l≤4294967296) :
  Calls prog 69 #[v] w0 (bR w0 G fun u G'=>aB G' (.sl 11 (l.map ay.dat)) u):=Z8 4294967297 (by omega) G w0 hG l v hv (by omega)
end
section
open Go.RowKit
section
variable {P:Program} {N:Nat} {D:List Deferred} {w0 w w':World} {F:Nat→Prop} {G0 G G':GH} {L L' Li Lo:OL} {T:List (Nat × aj)} {a a':Act} {Q:Exit→Act→World→Prop}
theorem St.cast (h:St N D w0 F G0 G L T a w) (e:L=L'):St N D w0 F G0 G L' T a w:=e ▸ h
theorem St.assoc {A B C:OL} (h:St N D w0 F G0 G ((A++B)++C) T a w):St N D w0 F G0 G (A++(B++C)) T a w:=h.cast (mG _ _ _)
theorem St.un {A B C:OL} (h:St N D w0 F G0 G (A++(B++C)) T a w):St N D w0 F G0 G ((A++B)++C) T a w:=h.cast (mG _ _ _).symm
theorem St.Rj {A B:OL} (h:St N D w0 F G0 G (A++B) T a w):St N D w0 F G0 G (A++(B++[])) T a w:=h.cast (by rw [pW])
theorem AA {ι κ:Type} {Lc:OL} {BR:Operand} {ps:List Nat} {assign body:Code} {gf:FuncId} {caps:List aj} {xs:List AP} {Gi:GH}
  (Lv:Nat→ι→OL) (Lt:Nat→ι→OL) (inv:Nat→ι→GH→Prop) (cx:κ→Code) (Lx Im:κ→OL) (Cr:κ→GH→Prop) (i0:ι)
  (H:St N D w0 F G0 G (Lc++Lv 0 i0++Lt 0 i0) T a w) (hg:ev T BR=some (.func (.func gf) #[] caps.toArray)) (en:∀ args w,(callFunc gf args).run P w=.ok (.enter gf args) w) (hit:Iter P Gi (.func (.func gf) #[] caps.toArray) xs) (hGi:∀ b o,Gi b=some o→G b=some o)
  (hps:ps.all (Nat.blt · N)=true) (hlen:∀ k args g,zu xs k args g→args.length=ps.length) (hinv:∀ k i (G G':GH),(∀ b o,G b=some o→G' b=some o)→inv k i G→inv k i G') (VL:∀ x (G G':GH),(∀ b o,G b=some o→G' b=some o)→Cr x G→Cr x G') (h0:inv 0 i0 G)
  (round:∀ (l:Nat) (uL sj:Obj) (bk:OL) (k:Nat) (args:List aj) (i:ι) (G1:GH) (w1:World) (F1:Nat→Prop) (B1:Code→Exit→Act→World→Prop) (a1:Act),zu xs k args G1→(∀ b o,G b=some o→G1 b=some o)→inv k i G1 →
   (∀ T' G2 L2 a2 w2 c,St N [] w1 F1 G1 G2 ((l,uL) :: L2) T' a2 w2→(∀ w3,St N [] w1 F1 G1 G2 ((l,sj) :: L2) T' a2 w3→WP (some l) P c (B1 c) a2 w3)→Exit.then (fun a2 w2=>∃ w3,(Instr.beginRound l).run P w2=.ok () w3∧c.wpIn (FW (some l)) 0 P (B1 c) a2 w3) (fun _ _ _=>False) .normal a2 w2) →
   (∀ i' T' G2 a2 w2 c,St N [] w1 F1 G1 G2 ((l,sj) :: (Lc++Lv (k+1) i'++(bk++Lt (k+1) i'))) T' a2 w2→inv (k+1) i' G2→B1 c .normal a2 w2) →
   (∀ x T' G2 a2 w2 c,St N [] w1 F1 G1 G2 ((l,sj) :: (Lc++Lx x++(bk++Im x))) T' a2 w2→Cr x G2→(cx x=.ret→B1 c .ret a2 w2)∧∀ n,cx x=.exit n→B1 c (.exit n) a2 w2) →
   St N [] w1 F1 G1 G1 ((l,uL) :: (Lc++Lv k i++(bk++Lt k i))) (ru ps args T) a1 w1 →
   WP (some l) P assign (Exit.then (fun a2 w2=>∃ w3,(Instr.beginRound l).run P w2=.ok () w3∧body.wpIn (FW (some l)) 0 P (B1 body) a2 w3) (fun _ _ _=>False)) a1 w1)
  (hdone:∀ Dk i G1 a1 w1,(∀ b o,G b=some o→G1 b=some o)→inv xs.length i G1→St N ({ target:=.collected Dk,args:=#[] } :: D) w0 F G0 G1 ((Dk,.deferred (some [])) :: (Lc++Lv xs.length i++Lt xs.length i)) T a1 w1→Q .normal a1 w1)
  (hstop:∀ Dk x G1 a1 w1,(∀ b o,G b=some o→G1 b=some o)→Cr x G1→St N ({ target:=.collected Dk,args:=#[] } :: D) w0 F G0 G1 ((Dk,.deferred (some [])) :: (Lc++Lx x++Im x)) T a1 w1→WP none P (cx x) Q a1 w1) :
  WP none P (.rangeFunc BR ps.toArray assign body) Q a w:=by
 refine ags (J:=fun k g L=>∃ i,L=Lc++Lv k i++Lt k i∧inv k i g) (Jx:=fun c g L=>∃ x,c=cx x∧L=Lc++Lx x++Im x∧Cr x g) H hg en hit hGi hps hlen (fun k G G' L hm ⟨i,e,h⟩=>⟨i,e,hinv k i G G' hm h⟩) (fun c G G' L hm ⟨x,e1,e2,h⟩=>⟨x,e1,e2,VL x G G' hm h⟩) ⟨i0,rfl,h0⟩ ?_ ?_ ?_
 ·rintro l q bk k args G1 L1 w1 a1 hk hm ⟨i,rfl,hi⟩ H1
  have pm:∀ A B:OL,(bk++(A++B)).Perm (A++(bk++B)):=fun A B=>by
   rw [← mG,← mG]
   exact List.Perm.append_right B Da
  refine round l (q.at .ready none) (q.at .busy none) bk k args i G1 w1 _ (fun _=>roundPost P l _) a1 hk hm hi ?_ ?_ ?_ (H1.perm (List.Perm.cons _ (pm _ _)))
  ·intro T' G2 L2 a2 w2 c H2 h
   exact ZQ H2 h
  ·intro i' T' G2 a2 w2 c H2 h2
   exact LU none (H2.perm (List.Perm.cons _ (pm _ _).symm)) ⟨_,rfl,i',rfl,h2⟩
  ·intro x T' G2 a2 w2 c H2 h2
   have H3:=H2.perm (List.Perm.cons _ (pm _ _).symm)
   refine ⟨fun e=>?_,fun n e=>?_⟩
   ·exact LU (some .ret) H3 ⟨_,_,rfl,x,e.symm,rfl,h2⟩
   ·exact LU (some (.exit n)) H3 ⟨_,_,rfl,x,e.symm,rfl,h2⟩
 ·rintro Dk G1 L1 a1 w1 hm ⟨i,rfl,hi⟩ H1
  exact hdone Dk i G1 a1 w1 hm hi H1
 ·rintro Dk c G1 L1 a1 w1 hm ⟨x,rfl,rfl,hx⟩ H1
  exact hstop Dk x G1 a1 w1 hm hx H1
def LJ (ds:List Nat):List Deferred:=ds.map fun b=>{ target:=.collected b,args:=#[] }
def nu (ds:List Nat):OL:=ds.map fun b=>(b,.deferred (some []))
theorem PN {r:Option Nat} {ι:Type} {c:Code} {Tc:List (Nat × aj)} {Lc:List (Nat × Obj)} (Dv:ι→List Deferred) (Tv:ι→List (Nat × aj)) (Lv:ι→List (Nat × Obj)) (Gv:ι→GH) (Pr:ι→Prop) (m:ι→Nat) (i0:ι)
  (H:St N (Dv i0) w0 F G0 (Gv i0) (Lc++Lv i0) (Tv i0++Tc) a w) (hP:Pr i0)
  (round:∀ i a w,Pr i→St N (Dv i) w0 F G0 (Gv i) (Lc++Lv i) (Tv i++Tc) a w →
   WP r P c (Exit.then (fun a' w'=>∃ i',(St N (Dv i') w0 F G0 (Gv i') (Lc++Lv i') (Tv i'++Tc) a' w'∧Pr i')∧m i' < m i) Q) a w):WP r P (.loop c) Q a w :=
 ZU (fun i a w=>St N (Dv i) w0 F G0 (Gv i) (Lc++Lv i) (Tv i++Tc) a w∧Pr i) m i0 ⟨H,hP⟩ fun i a w hI=>round i a w hI.2 hI.1
theorem JJ {ι:Type} {Dv:ι→List Deferred} {Tc:List (Nat × aj)} {Lc:List (Nat × Obj)} {Tv:ι→List (Nat × aj)} {Lv:ι→List (Nat × Obj)} {Gv:ι→GH} {Pr:ι→Prop} {m:ι→Nat} {i:ι} (i':ι)
  (H:St N (Dv i') w0 F G0 (Gv i') (Lc++Lv i') (Tv i'++Tc) a w) (hP:Pr i') (hm:m i' < m i) :
  ∃ i',(St N (Dv i') w0 F G0 (Gv i') (Lc++Lv i') (Tv i'++Tc) a w∧Pr i')∧m i' < m i:=⟨i',⟨H,hP⟩,hm⟩
theorem Bf {fn:Func} {R:Ending→World→Prop} {Lh Lt:OL}:∀ (ds:List Nat) {a:Act} {w:World},St N (LJ ds) w0 F G0 G (Lh++(nu ds++Lt)) T a w →
  (∀ a' w',St N [] w0 F G0 G (Lh++Lt) T a' w'→bodyPostM (FW none) 0 P fn R .ret a' w')→bodyPostM (FW none) 0 P fn R .ret a w∧bodyPostM (FW none) 0 P fn R .normal a w
 | [],a,w,H,k=>⟨k a w H,k a w H⟩
 | b :: ds,a,w,H,k=>by
  refine uK (b:=b) (D:=LJ ds) H Lh.length (by rw [BF (dQ _),Nat.sub_self];rfl) fun a' w' H'=>?_
  refine (Bf ds (Lh:=Lh) (Lt:=Lt) (H'.cast ?_) k).1
  rw [List.eraseIdx_append_of_length_le (dQ _),Nat.sub_self];rfl
end
end
section
open Go.RowKit
def n1 (x:ay):Nat:=if Bv x=0 then gP x else 0
theorem Q0 (x:ay):yT [x]=n1 x:=by
 simp only [yT,yG,n1,vM,List.all_cons,List.all_nil,Bool.and_true,uS]
 split <;> simp_all
theorem aB.len {G:GH} {sz:Nat} {rows:List (List Dat)} {A:Option Addr} {n c:Nat} (h:aB G (.sl sz rows) (.slice A n c)):n=rows.length:=h.cells.1
theorem aB.at_ {G:GH} {sz:Nat} {rows:List (List Dat)} {A:Option Addr} {n c:Nat} (h:aB G (.sl sz rows) (.slice A n c)):∀ k r,rows[k]?=some r→∃ b o cs,A=some ⟨b,o,none⟩∧cs.length=sz∧(∀ j u,cs[j]?=some u→aH G b (o+k*sz+j)=some u)∧bH G r cs:=by
 obtain ⟨A2,c2,e,_,_,hg⟩:=h.slice
 cases e;exact hg
theorem GV {G:GH} {l:List bJ} {A:Option Addr} {k:Nat} (hk:k < l.length) (hg:∀ k r,(l.map bJ.dat)[k]?=some r→∃ b o cs,A=some ⟨b,o,none⟩∧cs.length=6∧(∀ j u,cs[j]?=some u→aH G b (o+k*6+j)=some u)∧bH G r cs) :
  ∃ b o pA pn pc dA dn dc yA yn yc cA cn cc,A=some ⟨b,o,none⟩∧(∀ j u,[.slice pA pn pc,vi l[k].head.marks.ins,vi l[k].head.marks.move,.slice dA dn dc,.slice yA yn yc,.slice cA cn cc][j]?=some u→aH G b (o+k*6+j)=some u) ∧
   mF G l[k].head (.slice pA pn pc) (.slice dA dn dc) (.slice yA yn yc)∧aB G (.sl 7 (l[k].cells.map bB.dat)) (.slice cA cn cc):=by
 obtain ⟨b,o,cs,h1,h2,h3,h4⟩:=hg k l[k].dat (by simp [hk]);obtain ⟨pA,pn,pc,dA,dn,dc,yA,yn,yc,cA,cn,cc,rfl,h5,h6⟩:=h4.row;exact ⟨b,o,pA,pn,pc,dA,dn,dc,yA,yn,yc,cA,cn,cc,h1,h3,h5,h6⟩
theorem Eo {G:GH} {l:List bB} {A:Option Addr} {k:Nat} (hk:k < l.length) (hg:∀ k r,(l.map bB.dat)[k]?=some r→∃ b o cs,A=some ⟨b,o,none⟩∧cs.length=7∧(∀ j u,cs[j]?=some u→aH G b (o+k*7+j)=some u)∧bH G r cs) :
  ∃ b o pA pn pc dA dn dc yA yn yc fA fn fc,A=some ⟨b,o,none⟩∧(∀ j u,[vi l[k].id,.slice pA pn pc,vi l[k].head.marks.ins,vi l[k].head.marks.move,.slice dA dn dc,.slice yA yn yc,.slice fA fn fc][j]?=some u→aH G b (o+k*7+j)=some u) ∧
   mF G l[k].head (.slice pA pn pc) (.slice dA dn dc) (.slice yA yn yc)∧aB G (.sl 11 (l[k].flow.map ay.dat)) (.slice fA fn fc):=by
 obtain ⟨b,o,cs,h1,h2,h3,h4⟩:=hg k l[k].dat (by simp [hk]);obtain ⟨pA,pn,pc,dA,dn,dc,yA,yn,yc,fA,fn,fc,rfl,h5,h6⟩:=h4.cell;exact ⟨b,o,pA,pn,pc,dA,dn,dc,yA,yn,yc,fA,fn,fc,h1,h3,h5,h6⟩
end
section
open Go.RowKit
structure kN where
 (f p d y r s1 s2 s3 s4:Option Addr × Nat × Nat)
 (ins move:Int)
abbrev dD (x:Option Addr × Nat × Nat):aj:=.slice x.1 x.2.1 x.2.2
abbrev kN.cells (D:kN):List aj:=[dD D.f,dD D.p,vi D.ins,vi D.move,dD D.d,dD D.y,dD D.r,dD D.s1,dD D.s2,dD D.s3,dD D.s4]
abbrev kN.val (D:kN):aj:=.agg D.cells.toArray
end
section
open Go.RowKit
section
variable {N:Nat} {D:List Deferred} {w0:World} {F:Nat→Prop} {G0 G G1 G2:GH} {L L1 L2:OL} {T Xs:List (Nat × aj)}
variable {r:Option Nat} {P:Program} {Q:Exit→Act→World→Prop} {l:List Oper} {a a':Act} {w w':World}
theorem vV {x y:Nat} (h:x≠y):Nat.beq x y=false:=by
 cases h':Nat.beq x y with
 | false=>rfl
 | true=>exact absurd (FM h') h
theorem zI {i e:Nat} (h:fT l i=some e):i < l.length:=by
 unfold fT at h
 by_cases hl:i < l.length
 ·exact hl
 ·rw [List.getElem?_eq_none (by omega)] at h;cases h
theorem aej:∀ (vs c:List aj) (o:Nat),o+vs.length≤c.length→setRow c o vs=c.take o++vs++c.drop (o+vs.length)
 | [],c,o,_=>by simp [setRow]
 | v :: vs,c,o,h=>by
  simp only [nG] at h
  rw [setRow,aej vs (c.set o v) (o+1) (by simp;omega),List.take_set,List.drop_set,au (by omega),jZ (by omega)]
  have e:((c.take o++[c[o]]).set o v)=c.take o++[v]:=by
   have hl:(c.take o).length=o:=by simp;omega
   rw [List.set_append,ah (by omega),hl,Nat.sub_self];rfl
  rw [e,nG,show o+1+vs.length=o+(vs.length+1) by omega]
  simp
end
end
section
open Go.RowKit
structure Kj (P:Program) (t:TypeId):Prop where
 h:(P.info? t).map (fun j=>j.size == 0)=some false
theorem Kj.parts {P:Program} {t:TypeId} (h:Kj P t):∃ j,P.info? t=some j∧j.size≠0:=by
 obtain ⟨j,h1,h2⟩:=qC.1 h.h
 exact ⟨j,h1,by simpa using h2⟩
section
variable {N:Nat} {D:List Deferred} {w0:World} {F:Nat→Prop} {G0 G:GH} {L Li Lo:OL} {T:List (Nat × aj)}
variable {r:Option Nat} {P:Program} {ops:Array Oper} {Q:Exit→Act→World→Prop} {rest:List Oper} {a:Act} {w:World}
variable {d:Nat} {ty:TypeId} {pos:String} {aV:Array Edge} {g:Option (Nat × Bool)}
theorem Hp.shape (h:Hp w0 F G0 G L w) {i b:Nat} {c:Array aj} {e:TypeId} {fz:Nat × Nat} (hi:L[i]?=some (b,.cells c e fz)):w.shape? b=some (e,c.size):=by
 have:=h.own _ (oM hi)
 simp only at this
 simp [World.shape?,this]
theorem apX {t u te e:TypeId} {x:Operand} {b o:Nat} {c:Array aj} {fz:Nat × Nat} (hs:P.underlying t=some (.pointer te)) (hu:P.underlying u=some .unsafePointer) (hj:Kj P te) (H:St N D w0 F G0 G L T a w) (hw:Region.wanted ⟨some d,.convert t u x,ty,pos,aV,g⟩ (yielded ops a.tmps)=true)
  (hx:ev T x=some (aK b o)) (i:Nat) (hi:L[i]?=some (b,.cells c e fz)) (ho:Nat.blt o c.size=true) (hd:Nat.blt d N=true)
  (k:∀ a',St N D w0 F G0 G L ((d,(aK b o)) :: T) a' w→WL r P ops Q rest a' w):WL r P ops Q (⟨some d,.convert t u x,ty,pos,aV,g⟩ :: rest) a w:=by
 obtain ⟨j,h1,h2⟩:=hj.parts
 refine iB (v:=(aK b o)) (w':=w) hw rfl ?_ (k _ (H.put hd _ H.hp))
 have h:=Lib.run_to_unsafe (P:=P) w ⟨b,o,none⟩ hs hu h1 h2 (H.hp.shape hi) (Eq.mp Nat.blt_eq ho)
 simp only [execOp,H.ev hx,fG,h,oq,uR]
theorem apO {t u te e:TypeId} {x:Operand} {b o:Nat} {c:Array aj} {fz:Nat × Nat} (hs:P.underlying t=some .unsafePointer) (hu:P.underlying u=some (.pointer te)) (hj:Kj P te) (H:St N D w0 F G0 G L T a w) (hw:Region.wanted ⟨some d,.convert t u x,ty,pos,aV,g⟩ (yielded ops a.tmps)=true)
  (hx:ev T x=some (aK b o)) (i:Nat) (hi:L[i]?=some (b,.cells c e fz)) (hl:liesAt P P.depth e (c.size / P.cellsOf e) o te 1=true) (hd:Nat.blt d N=true)
  (k:∀ a',St N D w0 F G0 G L ((d,(aK b o)) :: T) a' w→WL r P ops Q rest a' w):WL r P ops Q (⟨some d,.convert t u x,ty,pos,aV,g⟩ :: rest) a w:=by
 obtain ⟨j,h1,h2⟩:=hj.parts
 refine iB (v:=(aK b o)) (w':=w) hw rfl ?_ (k _ (H.put hd _ H.hp))
 have h:=Lib.run_from_unsafe (P:=P) w ⟨b,o,none⟩ hs hu h1 (H.hp.shape hi) hl
 simp only [execOp,H.ev hx,fG,h,oq,uR]
theorem apR {f:FuncId} {xs:List Operand} {v:aj} {ts:Array TypeId} (hcf:∀ (w:World),(callFunc f #[v]).run P w=.ok (.value v) w) (H:St N D w0 F G0 G L T a w) (hw:Region.wanted ⟨some d,.call { callee:=.value (.func f),args:=xs.toArray,argTypes:=ts },ty,pos,aV,g⟩ (yielded ops a.tmps)=true)
  (hx:evs T xs=some [v]) (hd:Nat.blt d N=true)
  (k:∀ a',St N D w0 F G0 G L ((d,v) :: T) a' w→WL r P ops Q rest a' w):WL r P ops Q (⟨some d,.call { callee:=.value (.func f),args:=xs.toArray,argTypes:=ts },ty,pos,aV,g⟩ :: rest) a w:=by
 refine iB (v:=v) (w':=w) hw rfl ?_ (k _ (H.put hd _ H.hp))
 have h1:=H.evs hx
 simp [execOp,resolve,Act.eval,Deferred.ofValue,invoke,fG,h1,hcf]
theorem apF {f:FuncId} {fn:Func} (hf:P.funcs[f]?=some fn) (hname:(fn.name == "runtime.NumGoroutine")=false) (hb:fn.body.isNone=true) (hn:Extern.findNext fn=none) (he:Extern.find fn=some Extern.AbiNoEscape.same) (v:aj) (w:World):(callFunc f #[v]).run P w=.ok (.value v) w:=by
 rw [run_callFunc_extern hf hname hb hn he,Lib.run_noEscape]
 rfl
theorem aea {t u te:TypeId} (hs:P.underlying t=some (.pointer te)) {x:Operand} {p:Option Addr} (H:St N D w0 F G0 G L T a w) (hw:Region.wanted ⟨some d,.binOp .eql t x (.const (.pointer none)) u,ty,pos,aV,g⟩ (yielded ops a.tmps)=true) (hx:ev T x=some (.pointer p)) (hd:Nat.blt d N=true)
  (k:∀ a',St N D w0 F G0 G L ((d,.bool p.isNone) :: T) a' w→WL r P ops Q rest a' w):WL r P ops Q (⟨some d,.binOp .eql t x (.const (.pointer none)) u,ty,pos,aV,g⟩ :: rest) a w:=by
 refine iB (v:=.bool p.isNone) (w':=w) hw rfl ?_ (k _ (H.put hd _ H.hp))
 have h1:(Op.equal t (.pointer p) (.pointer none)).run P w=.ok p.isNone w:=by
  show (Op.equalIn (9999+1) t (.pointer p) (.pointer none)).run P w=_
  rw [Op.equalIn.eq_2,fG,rQ hs]
  cases p <;> simp
 have h2:(do eqGuard .eql t x (.const (.pointer none)) (.pointer p) (.pointer none);binOp .eql t (.pointer p) (.pointer none):Sem aj).run P w=.ok (.bool p.isNone) w:=by
  have e:(do eqGuard .eql t x (.const (.pointer none)) (.pointer p) (.pointer none);binOp .eql t (.pointer p) (.pointer none):Sem aj)=(do pure (.bool (← Op.equal t (.pointer p) (.pointer none))):Sem aj):=rfl
  rw [e,fG,h1];rfl
 have e0:execOp a.eval ⟨some d,.binOp .eql t x (.const (.pointer none)) u,ty,pos,aV,g⟩=(do pure (.value (← (do eqGuard .eql t x (.const (.pointer none)) (.pointer p) (.pointer none);binOp .eql t (.pointer p) (.pointer none):Sem aj))):Sem Next):=by
  simp only [execOp,H.ev hx];rfl
 rw [e0,fG,h2]
 rfl
theorem apQ {t u te:TypeId} (hs:P.underlying t=some (.pointer te)) (hj:Kj P te) {x y:Operand} {p:Addr} (H:St N D w0 F G0 G L T a w) (hw:Region.wanted ⟨some d,.binOp .neq t x y u,ty,pos,aV,g⟩ (yielded ops a.tmps)=true) (hx:ev T x=some (.pointer (some p))) (hy:ev T y=some (.pointer (some p))) (hd:Nat.blt d N=true)
  (k:∀ a',St N D w0 F G0 G L ((d,.bool false) :: T) a' w→WL r P ops Q rest a' w):WL r P ops Q (⟨some d,.binOp .neq t x y u,ty,pos,aV,g⟩ :: rest) a w:=by
 obtain ⟨j,h1,h2⟩:=hj.parts
 refine iB (v:=.bool false) (w':=w) hw rfl ?_ (k _ (H.put hd _ H.hp))
 have h:=Lib.run_neq_ptr_same (P:=P) (w:=w) p hs h1
 simp only [execOp,H.ev hx,H.ev hy]
 simp [fG,eqGuard,h]
theorem apU {t:TypeId} {x:Operand} {p:Addr} {n c:Nat} (H:St N D w0 F G0 G L T a w) (hw:Region.wanted ⟨some d,.call { callee:=.builtin .unsafeSliceData,args:=#[x],argTypes:=#[t] },ty,pos,aV,g⟩ (yielded ops a.tmps)=true) (hx:ev T x=some (.slice (some p) n c)) (hc:c≠0) (hd:Nat.blt d N=true)
  (k:∀ a',St N D w0 F G0 G L ((d,.pointer (some p)) :: T) a' w→WL r P ops Q rest a' w):WL r P ops Q (⟨some d,.call { callee:=.builtin .unsafeSliceData,args:=#[x],argTypes:=#[t] },ty,pos,aV,g⟩ :: rest) a w:=by
 refine iB (v:=.pointer (some p)) (w':=w) hw rfl ?_ (k _ (H.put hd _ H.hp))
 have h:=Lib.run_unsafeSliceData_row (P:=P) (w:=w) #[t] ty p n c hc
 simp [execOp,resolve,invoke,builtin,H.ev hx,fG,h]
theorem arh {w:World} {b n:Nat} {c:Array aj} {e:TypeId} {fz:Nat × Nat} (h:w.heap[b]?=some (.cells c e fz)) (hn:n≠0):∃ IX,yx b (.cells c e IX) w (w.freeze ⟨b,0,none⟩ n):=by
 unfold World.freeze
 rw [ah hn]
 refine ⟨if fz.1 == fz.2 then (0,0+n) else (min fz.1 0,max fz.2 (0+n)),rfl,rfl,rfl,by simp,?_,fun k hk=>?_⟩
 ·simp [Array.getElem?_modify,h]
 ·simp [Array.getElem?_modify,Ne.symm hk]
theorem apY {pt it e:TypeId} {x y:Operand} {b i:Nat} {cur:Array aj} {fz:Nat × Nat} (l:List UInt8) (hp:P.underlying pt=some (.pointer e)) (hc:P.cellsOf e=1) (h0:l≠[]) (h63:l.length≤9223372036854775807) (H:St N D w0 F G0 G L T a w)
  (hw:Region.wanted ⟨some d,.call { callee:=.builtin .unsafeString,args:=#[x,y],argTypes:=#[pt,it] },ty,pos,aV,g⟩ (yielded ops a.tmps)=true) (hx:ev T x=some (aK b 0)) (hy:ev T y=some (.int .i64 (l.length:Int)))
  (hi:L[i]?=some (b,.cells cur e fz)) (hl:cur.toList.take l.length=Lib.byteCells l) (hd:Nat.blt d N=true)
  (k:∀ IX a' w',St N D w0 F G0 G (L.set i (b,.cells cur e IX)) ((d,.string ⟨l.toArray⟩) :: T) a' w'→WL r P ops Q rest a' w'):WL r P ops Q (⟨some d,.call { callee:=.builtin .unsafeString,args:=#[x,y],argTypes:=#[pt,it] },ty,pos,aV,g⟩ :: rest) a w:=by
 have hb:=H.hp.own _ (oM hi)
 simp only at hb
 have hlen:l.length≤cur.size:=by
  have:=aC List.length hl
  simp only [List.length_take,Lib.byteCells_length,Az] at this
  omega
 obtain ⟨IX,hu⟩:=arh (n:=l.length) hb (by simpa using h0)
 have h:=Lib.run_unsafeString_row (P:=P) w pt it ty e hp hc b cur.size (H.hp.shape hi) l h0 hlen h63 (fun j x hj=>by
  rw [add_lit,pz]
  simp only [World.cell?,hb]
  have h2:(cur.toList.take l.length)[j]?=some (.int .u8 x.toNat):=by rw [hl];simp [Lib.byteCells,hj]
  rw [Ay] at h2
  split at h2
  ·simpa using h2
  ·cases h2)
 refine iB (v:=.string ⟨l.toArray⟩) (w':=w.freeze ⟨b,0,none⟩ l.length) hw rfl ?_ (k IX _ _ (H.put hd _ (H.hp.upd hi hu)))
 simp [execOp,resolve,invoke,builtin,H.ev hx,H.ev hy,fG,h]
theorem abf (sz n:Nat):∀ (css:List (List aj)) (k:Nat) (pre z:List aj),pre.length=k*sz→z.length=css.length*sz→(∀ c∈css,c.length=sz)→k+css.length=n →
  Dj ((List.range n).map fun i=>(i*sz,sz)) (pre++z) ((css.zipIdx k).map fun p=>(p.2,p.1))=some (pre++css.flatten)
 | [],k,pre,z,_,hz,_,_=>by
  have:z=[]:=List.eq_nil_of_length_eq_zero (by simpa using hz)
  subst this
  simp [Dj]
 | c :: css,k,pre,z,hp,hz,hc,hn=>by
  have hcl:=hc c jd
  simp only [nG] at hz hn
  have hpl:((List.range n).map fun i=>(i*sz,sz))[k]?=some (k*sz,sz):=by
   rw [qY,List.getElem?_range (by omega)];rfl
  have hz1:z.length=sz+css.length*sz:=by rw [hz,Nat.add_mul,Nat.one_mul,Nat.add_comm]
  have hle:k*sz+c.length≤(pre++z).length:=by rw [lJ,hp,hcl];omega
  have e1:Nat.beq c.length sz=true:=by rw [hcl];exact Nat.beq_refl sz
  have e2:Nat.ble (k*sz+c.length) (pre++z).length=true:=Eq.mpr Nat.ble_eq hle
  rw [List.zipIdx_cons,fJ]
  simp only [Dj,hpl,e1,e2,Bool.and_self,cond_true]
  have e3:setRow (pre++z) (k*sz) c=(pre++c)++z.drop sz:=by
   rw [aej _ _ _ hle,← hp,List.take_left' rfl,List.drop_append,gy (by omega),mo,hcl]
   congr 2;omega
  rw [e3,abf sz n css (k+1) (pre++c) (z.drop sz) (by rw [lJ,hp,hcl,Nat.succ_mul]) (by rw [List.length_drop];omega) (fun q hq=>hc q (lg _ hq)) (by omega)]
  simp
theorem apL {t e:TypeId} {sz bytes:Nat} {zero:List aj} {agg:Bool} (hs:P.underlying t=some (.slice e)) (ht:Ty P e sz bytes zero agg) {n:Nat} {xs:List (Nat × Operand)} {vs:List (Nat × aj)} (css:List (List aj)) (H:St N D w0 F G0 G L T a w) (hw:Region.wanted ⟨some d,.buildSlice t n xs.toArray,ty,pos,aV,g⟩ (yielded ops a.tmps)=true)
  (hx:pts T xs=some vs) (hv:vs.map (fun x=>(x.1,x.2.cells.toList))=(css.zipIdx 0).map fun p=>(p.2,p.1)) (hl:css.all (fun c=>Nat.beq c.length sz)=true) (hcn:Nat.beq css.length n=true) (hn:Nat.ble (n*sz) 1000=true) (hn0:Nat.beq (n*sz) 0=false) (hd:Nat.blt d N=true)
  (k:∀ b a' w',w0.heap.size≤b→St N D w0 F G0 G ((b,.cells css.flatten.toArray e (0,0)) :: L) ((d,.slice (some ⟨b,0,none⟩) n n) :: T) a' w'→WL r P ops Q rest a' w'):WL r P ops Q (⟨some d,.buildSlice t n xs.toArray,ty,pos,aV,g⟩ :: rest) a w:=by
 have hcn':css.length=n:=FM hcn
 refine jF (vs':=(css.zipIdx 0).map fun p=>(p.2,p.1)) hs ht ((List.range (n*sz)).map (fun i=>zero[i % zero.length]!)) css.flatten H hw hx hv hn hn0 rfl (fun i q h=>?_) ?_ hd k
 ·rw [qY] at h
  obtain ⟨j,hj,rfl⟩:=qC.1 h
  obtain ⟨h1,h2⟩:=mM.1 hj
  rw [List.getElem_range] at h2
  rw [h2]
 ·have h:=abf sz n css 0 [] ((List.range (n*sz)).map (fun i=>zero[i % zero.length]!)) (by simp) (by simp [hcn']) (fun c hc=>FM (pV.1 hl c hc)) (by omega)
  simpa using h
end
end
section
open Go.RowKit
theorem TS:∀ args w,(callFunc 204 args).run prog w=.ok (.enter 204 args) w:=enters func204 rfl (by kernel_rfl)
theorem R7:Ty prog 136 3 16 [.bool false,.bool false,.int .i64 0] true:=⟨by kernel_rfl,by kernel_rfl⟩
theorem aqB:uP prog 166 [(0,1),(1,3)] [.slice none 0 0,.bool false,.bool false,.int .i64 0]:=⟨by kernel_rfl,by kernel_rfl⟩
theorem qg:dV prog 35 2 2:=⟨by kernel_rfl⟩
theorem Nk:dV prog 136 2 2:=⟨by kernel_rfl⟩
theorem Hf:uP prog 136 [(0,1),(1,1),(2,1)] [.bool false,.bool false,.int .i64 0]:=⟨by kernel_rfl,by kernel_rfl⟩
theorem Un:dV prog 136 1 1:=⟨by kernel_rfl⟩
theorem nN:Ty prog 4 1 1 [.bool false] false:=⟨by kernel_rfl,by kernel_rfl⟩
theorem BP:dV prog 50 0 0:=⟨by kernel_rfl⟩
theorem aic:∀ args w,(callFunc 160 args).run prog w=.ok (.enter 160 args) w:=enters func160 rfl (by kernel_rfl)
theorem PZ:∀ args w,(callFunc 203 args).run prog w=.ok (.enter 203 args) w:=enters func203 rfl (by kernel_rfl)
structure jM where
 id:Int
 items:List ay
 body:Bool
 note:Bool
 tables:Int
mutual
def Al (note:Bool) (t:Int):ay→List jM
 | .mk k _ i _ _ f r=>if k=6 then ⟨i,f,false,true,t⟩ :: kJ true t f else if k=7 then qW note t r else []
def kJ (note:Bool) (t:Int):List ay→List jM
 | []=>[]
 | x :: l=>Al note t x++kJ note t l
def qW (note:Bool) (t:Int):List bJ→List jM
 | []=>[]
 | r :: l=>Am note t r++qW note t l
def Am (note:Bool) (t:Int):bJ→List jM
 | .mk _ cs=>rW note t cs
def rW (note:Bool) (t:Int):List bB→List jM
 | []=>[]
 | c :: l=>Ak note t c++rW note t l
def Ak (note:Bool) (t:Int):bB→List jM
 | .mk i _ f=>⟨i,f,false,note,t+1⟩ :: kJ note (t+1) f
end
theorem afd (note:Bool) (t:Int) (x:ay):Al note t x=if x.kind=6 then ⟨x.id,x.flow,false,true,t⟩ :: kJ true t x.flow else if x.kind=7 then qW note t x.rows else []:=by cases x;rw [Al];rfl
theorem afe (note:Bool) (t:Int) (x:bJ):Am note t x=rW note t x.cells:=by cases x;rw [Am];rfl
theorem afa (note:Bool) (t:Int) (x:bB):Ak note t x=⟨x.id,x.flow,false,note,t+1⟩ :: kJ note (t+1) x.flow:=by cases x;rw [Ak];rfl
def EA (a:jM):AP:=fun args g=>∃ v,args=[vi a.id,.agg #[v,.bool a.body,.bool a.note,vi a.tables]]∧aB g (.sl 11 (a.items.map ay.dat)) v
def Te (n:Nat):Prop:=∀ (fv:aj) (Gi:GH) (xs:List AP) (J:Nat→GH→OL→Prop) (Jx:GH→OL→Prop) (G:GH) (L:OL) (w0:World) (j:Nat) (l:List ay) (id:Int) (body note:Bool) (t:Int) (v:aj),
 (∀ b o,Gi b=some o→G b=some o)→Fq prog fv Gi xs J Jx→H7 J→Ip Jx→J j G L→jQ G L w0→aB G (.sl 11 (l.map ay.dat)) v→bM l < n→0≤t→t+bM l≤4294967296→(∀ i a,(⟨id,l,body,note,t⟩ :: kJ note t l)[i]?=some a→xs[j+i]?=some (EA a)) →
 Calls prog 204 #[vi id,v,.agg #[.bool body,.bool note,vi t],fv] w0 (jk w0 G L fun u G' L'=>∃ b,u=.bool b∧(b=true→J (j+((kJ note t l).length+1)) G' L')∧(b=false→Jx G' L'))
set_option maxHeartbeats 1000000 in
theorem arE {n:Nat} (ih:Te n) (hn:n≤4294967296):Te (n+1):=by
 intro fv Gi xs J Jx G L w0 j0 l id body note t v hGi hcb nk hJx hJ0 hO hv hz ht0 ht1 hx0;obtain ⟨A,c,rfl,hc1,hc2,hg⟩:=hv.slice;rw [bZ] at *;have hll:=Fj l;have V4:Now xs EA J (j0+((kJ note t l).length+1)) j0 (⟨id,l,body,note,t⟩ :: kJ note t l) G L:=⟨hJ0,hx0,rfl⟩;refine mH (N:=74) (T:=[(0,_),(1,_),(2,_),(3,_)]) func204 rfl ntmps204 rfl rfl hO ?_;intro a H;refine dz (fun _ K1=>?_);refine eU (cs:=[_,_,_]) H wn rfl rfl rfl ?_;clear H;intro b6 a w hb6 H;refine kH H (ak K1 rfl (SQ fun _ K2=>SR fun _ K3=>Rm rfl (Rm rfl (Rm rfl ?_))));clear H K1;intro a H;refine bD R7 (cs:=[_,_,_]) H wn rfl rfl (H.hp.eu 0 rfl rfl) rfl ?_;clear H;intro a H;refine lY aqB [_,_,_,_] H wn rfl rfl rfl rfl ?_;clear H;intro a H;refine xU (Li:=[_]) (L:=L) H wn rfl rfl (hcb _ _ _ _ _ ⟨_,V4.head,_,rfl,hv⟩ hGi V4.now (Hp.owns (Li:=[_]) H.hp)) rfl ?_;clear H;rintro v20 Ms ME a w ⟨b20,rfl,hb1,hb2⟩ KW H;refine kH H (Rn rfl (Kz K3 (Cd rfl ?_ ?_))) <;> clear H K3
 ·intro h21 a H
  try have oV:=dT h21
  refine kP H (SR fun _ K4=>ak K4 rfl ?_);clear H K4;intro a H;refine lr H results204 rfl ?_
  first
   | exact H.hp.dh (L':=ME) (by repeat (first|exact dx _|apply List.Sublist.cons)) ⟨_,rfl,fun e=>(by cases e),fun _=>hb2 (by simpa using h21)⟩
   | exact H.hp.dh (L':=MF) (by repeat (first|exact dx _|apply List.Sublist.cons)) ⟨_,rfl,fun e=>(by cases e),fun _=>hb4 (by simpa using nI)⟩
   | exact H.hp.dh (L':=MI) (by repeat (first|exact dx _|apply List.Sublist.cons)) ⟨_,rfl,fun e=>(by cases e),fun _=>hb6 (by simpa using pI)⟩
   | exact H.hp.dh (L':=Lt) (by repeat (first|exact dx _|apply List.Sublist.cons)) ⟨_,rfl,fun _=>(by rw [gy (by omega),kJ] at cO;have:=cO.len;simp only [List.length_nil,ou] at this;rw [← this];exact cO.now),fun e=>(by cases e)⟩
 intro h21 a H
 try have oV:=dF h21
 refine kP H (Kc K2 (SQ fun _ K5=>SR fun _ K6=>Rm rfl (Rl iN rfl (Rm rfl (Kz K6 (SB ?_))))));clear H K2 K6;intro a H;skip;refine fH (ι:=Nat × Nat × OL × GH) (Tc:=[(3,_),(6,_),(22,_),(23,_)]) (Lc:=[(_,_)]) (fun gh=>[(24,vi gh.1)]) (fun gh=>[]++gh.2.2.1) (fun gh=>gh.2.2.2) (fun gh=>gh.1≤l.length∧(∀ b o,G b=some o→gh.2.2.2 b=some o)∧Now xs EA J (j0+((kJ note t l).length+1)) gh.2.1 (kJ note t (l.drop gh.1)) gh.2.2.2 gh.2.2.1) (fun gh=>l.length - gh.1) ((0,j0+1,ME,Ms)) (by exact (H).sub ⟨rfl,rfl,rfl,rfl,rfl,av⟩) ?_ ?_
 ·exact ⟨by omega,KW,V4.step (hb1 (by simpa using h21))⟩
 clear H;intro gh a w hI H;obtain ⟨k,j1,Lt,g⟩:=gh;dsimp only at hI H;obtain ⟨hk,hgm,cO⟩:=hI;dsimp only [lca,aS] at H;refine kP H (SR fun _ K7=>Rc rfl (Kz K7 (SQ fun _ K8=>Cd rfl ?_ ?_))) <;> clear H K7
 ·intro gZ a H
  try have p25:=dT gZ
  have hk2:k < l.length:=by omega
  obtain ⟨b,o,pA,pn,pc,dA,dn,dc,yA,yn,yc,fA,fn,fc,rA,rn,rc,rfl,hrow,hhd,hfl,hrw⟩:=EB hk2 hg;replace hrow:=fun j u hj=>aF hgm (hrow j u hj);have hrn:=hrw.len;rw [bZ] at hrn;subst hrn;have hrs:=Fp l[k].rows;have hsz1:=Sl hk2;rw [kR hk2] at cO
  simp only [kJ,afd] at cO
  refine kP H (Kc K8 (SQ fun _ K9=>SB (SR fun _ aZ=>Ri iN dB rfl rfl ?_)));clear H K8;intro a H;refine bD dB (cs:=[_,_,_,_,_,_,_,_,_,_,_]) H wn rfl rfl (fun j v hj=>H.hp.aH (hrow j v hj)) rfl ?_;clear H;intro a H;refine dR dB H wn rfl ?_;clear H;intro b10 a w KP H;refine bO dB 0 (vs:=[_,_,_,_,_,_,_,_,_,_,_]) _ H wn rfl rfl rfl rfl rfl rfl rfl rfl ?_;clear H;intro w H;dsimp only [List.set,setRow] at H;refine aZ _ _ ?_;clear aZ;refine kP H (SR fun _ bN=>aW gG aD 0 rfl rfl (Kz bN (SB (SR fun _ bQ=>Rc rfl (ak bQ rfl (Cd rfl ?_ ?_)))))) <;> clear H bN bQ
  ·intro kG a H
   try have p30:=dT kG
   rw [au p30] at cO;refine kP H (SR fun _ bT=>aW qg aD 0 rfl rfl (aW yI iM 0 rfl rfl (aW Nk aD 1 rfl rfl ?_)));clear H;intro a H;refine lY Hf [_,_,_] H wn rfl rfl rfl rfl ?_;clear H;intro a H;refine kH H (Rm rfl ?_);clear H;intro a H;refine iH TS (Li:=[_,_]) (L:=Lt) H wn rfl (ih fv Gi xs J Jx _ _ _ j1 l[k].flow l[k].id false true t _ (fun b o h=>hgm b o (hGi b o h)) hcb nk hJx cO.now (Hp.owns (Li:=[_,_]) H.hp) (hfl.mono hgm) (by omega) ht0 (by omega) cO.part) rfl ?_;clear H;rintro v40 Pg MF a w ⟨b40,rfl,hb3,hb4⟩ KX H;refine kH H (Rn rfl (Kz bT (Cd rfl ?_ ?_))) <;> clear H bT
   ·intro nI a H
    try have p41:=dT nI
    refine kP H (SR fun _ cu=>ak cu rfl ?_);clear H cu;intro a H;refine lr H results204 rfl ?_
    first
     | exact H.hp.dh (L':=ME) (by repeat (first|exact dx _|apply List.Sublist.cons)) ⟨_,rfl,fun e=>(by cases e),fun _=>hb2 (by simpa using h21)⟩
     | exact H.hp.dh (L':=MF) (by repeat (first|exact dx _|apply List.Sublist.cons)) ⟨_,rfl,fun e=>(by cases e),fun _=>hb4 (by simpa using nI)⟩
     | exact H.hp.dh (L':=MI) (by repeat (first|exact dx _|apply List.Sublist.cons)) ⟨_,rfl,fun e=>(by cases e),fun _=>hb6 (by simpa using pI)⟩
     | exact H.hp.dh (L':=Lt) (by repeat (first|exact dx _|apply List.Sublist.cons)) ⟨_,rfl,fun _=>(by rw [gy (by omega),kJ] at cO;have:=cO.len;simp only [List.length_nil,ou] at this;rw [← this];exact cO.now),fun e=>(by cases e)⟩
   intro nI a H
   try have p41:=dF nI
   refine kP H (Kc K9 (SC (Rd rfl (Rm rfl ?_))));clear H K9;intro a H;refine aI ?_;refine dP ((k+1,j1+((kJ true t l[k].flow).length+1),MF,Pg)) (by exact (H.dK (Pl:=[_,_]) (dw:=[_]) [1] (by decide) rfl).sub ⟨rfl,rfl,rfl,rfl,rfl,av⟩) ?_ ?_
   ·(try dsimp only);exact ⟨by omega,fun b o h=>KX b o (hgm b o h),cO.jump (hb3 (by simpa using nI))⟩
   first|omega|(dsimp only;omega)
  intro kG a H
  try have p30:=dF kG
  refine kP H (SR fun _ dL=>Rc rfl (ak dL rfl (Cd rfl ?_ ?_))) <;> clear H dL
  ·intro Ca a H
   try have p42:=dT Ca
   rw [ah p30,au p42] at cO;refine kP H (SR fun _ dO=>aW rC rR 0 rfl rfl (Rl jH rfl (Rm rfl (Kz dO (SB ?_)))));clear H dO;intro a H;skip;refine fH (ι:=Nat × Nat × OL × GH) (Tc:=[(3,_),(6,_),(22,_),(23,_),(24,_),(45,_),(46,_)]) (Lc:=[(_,_),(_,_)]) (fun gh=>[(47,vi gh.1)]) (fun gh=>[]++gh.2.2.1) (fun gh=>gh.2.2.2) (fun gh=>gh.1≤l[k].rows.length∧(∀ b o,G b=some o→gh.2.2.2 b=some o)∧Now xs EA J (j0+((kJ note t l).length+1)) gh.2.1 (qW note t (l[k].rows.drop gh.1)++kJ note t (l.drop (k+1))) gh.2.2.2 gh.2.2.1) (fun gh=>l[k].rows.length - gh.1) ((0,j1,Lt,g)) (by exact (H).sub ⟨rfl,rfl,rfl,rfl,rfl,rfl,rfl,rfl,av⟩) ?_ ?_
   ·exact ⟨by omega,hgm,cO⟩
   clear H;intro gh a w hI H;obtain ⟨rk,j3,Lt3,g3⟩:=gh;dsimp only at hI H;obtain ⟨QT,sK,Ch⟩:=hI;dsimp only [lca,aS] at H;refine kP H (SR fun _ dJ=>Rc rfl (Kz dJ (SQ fun _ dW=>Cd rfl ?_ ?_))) <;> clear H dJ
   ·intro h48 a H
    try have p48:=dT h48
    have hk3:rk < l[k].rows.length:=by omega
    obtain ⟨b2,o2,qA,qn,qc,eA,en,ec,zA,zn,zc,cA,cn,cc,rfl,hrow,DJ,hcl⟩:=GV hk3 hrw.at_;replace hrow:=fun j u hj=>aF sK (hrow j u hj);have hcn:=hcl.len;rw [bZ] at hcn;subst hcn;have hsz2:=Mk hk3;have hcs:=Fh l[k].rows[rk].cells;rw [kR hk3] at Ch
    simp only [qW,afe,mG] at Ch
    refine kP H (Kc dW (SQ fun _ eG=>SB (SR fun _ eB=>Ri jH iI rfl rfl ?_)));clear H dW;intro a H;refine bD iI (cs:=[_,_,_,_,_,_]) H wn rfl rfl (fun j v hj=>H.hp.aH (hrow j v hj)) rfl ?_;clear H;intro a H;refine dR iI H wn rfl ?_;clear H;intro b12 a w Gp H;refine bO iI 0 (vs:=[_,_,_,_,_,_]) _ H wn rfl rfl rfl rfl rfl rfl rfl rfl ?_;clear H;intro w H;dsimp only [List.set,setRow] at H;refine eB _ _ ?_;clear eB;refine kP H (SR fun _ eH=>aW qG qU 0 rfl rfl (Rl kV rfl (Rm rfl (Kz eH (SB ?_)))));clear H eH;intro a H;skip;refine fH (ι:=Nat × Nat × OL × GH) (Tc:=[(3,_),(6,_),(22,_),(23,_),(24,_),(45,_),(46,_),(47,_),(52,_),(53,_)]) (Lc:=[(_,_),(_,_),(_,_)]) (fun gh=>[(54,vi gh.1)]) (fun gh=>[]++gh.2.2.1) (fun gh=>gh.2.2.2) (fun gh=>gh.1≤l[k].rows[rk].cells.length∧(∀ b o,G b=some o→gh.2.2.2 b=some o)∧Now xs EA J (j0+((kJ note t l).length+1)) gh.2.1 (rW note t (l[k].rows[rk].cells.drop gh.1)++(qW note t (l[k].rows.drop (rk+1))++kJ note t (l.drop (k+1)))) gh.2.2.2 gh.2.2.1) (fun gh=>l[k].rows[rk].cells.length - gh.1) ((0,j3,Lt3,g3)) (by exact (H).sub ⟨rfl,rfl,rfl,rfl,rfl,rfl,rfl,rfl,rfl,rfl,rfl,av⟩) ?_ ?_
    ·exact ⟨by omega,sK,Ch⟩
    clear H;intro gh a w hI H;obtain ⟨ck,j4,Lt4,g4⟩:=gh;dsimp only at hI H;obtain ⟨hck,wz,xI⟩:=hI;dsimp only [lca,aS] at H;refine kP H (SR fun _ fO=>Rc rfl (Kz fO (SQ fun _ gJ=>Cd rfl ?_ ?_))) <;> clear H fO
    ·intro nY a H
     try have p55:=dT nY
     have hk4:ck < l[k].rows[rk].cells.length:=by omega
     obtain ⟨b3,o3,sA,sn,sc,tA,tn,tc,uA,un,uc,gA,gn,gc,rfl,hrow,hch,hcf⟩:=Eo hk4 hcl.at_;replace hrow:=fun j u hj=>aF wz (hrow j u hj);have Ju:=Mi hk4;rw [kR hk4] at xI
     simp only [rW,afa,mG] at xI
     refine kP H (Kc gJ (SQ fun _ gT=>SB (SR fun _ gM=>Ri kV iy rfl rfl ?_)));clear H gJ;intro a H;refine bD iy (cs:=[_,_,_,_,_,_,_]) H wn rfl rfl (fun j v hj=>H.hp.aH (hrow j v hj)) rfl ?_;clear H;intro a H;refine dR iy H wn rfl ?_;clear H;intro b14 a w KS H;refine bO iy 0 (vs:=[_,_,_,_,_,_,_]) _ H wn rfl rfl rfl rfl rfl rfl rfl rfl ?_;clear H;intro w H;dsimp only [List.set,setRow] at H;refine gM _ _ ?_;clear gM;refine kP H (SR fun _ jh=>aW AO aD 0 rfl rfl (aW AQ iM 0 rfl rfl (aW Un nN 3 rfl rfl (aW Nk aD 3 rfl rfl (Rd rfl ?_)))));clear H;intro a H;refine lY Hf [_,_,_] H wn rfl rfl rfl rfl ?_;clear H;intro a H;refine kH H (Rm rfl ?_);clear H;intro a H;refine iH TS (Li:=[_,_,_,_]) (L:=Lt4) H wn rfl (ih fv Gi xs J Jx _ _ _ j4 l[k].rows[rk].cells[ck].flow l[k].rows[rk].cells[ck].id false note (t+1) _ (fun b o h=>wz b o (hGi b o h)) hcb nk hJx xI.now (Hp.owns (Li:=[_,_,_,_]) H.hp) (hcf.mono wz) (by omega) (by omega) (by omega) xI.part) rfl ?_;clear H;rintro v69 G69 MI a w ⟨b69,rfl,hb5,hb6⟩ amd H;refine kH H (Rn rfl (Kz jh (Cd rfl ?_ ?_))) <;> clear H jh
     ·intro pI a H
      try have p70:=dT pI
      refine kP H (SR fun _ jo=>ak jo rfl ?_);clear H jo;intro a H;refine lr H results204 rfl ?_
      first
       | exact H.hp.dh (L':=ME) (by repeat (first|exact dx _|apply List.Sublist.cons)) ⟨_,rfl,fun e=>(by cases e),fun _=>hb2 (by simpa using h21)⟩
       | exact H.hp.dh (L':=MF) (by repeat (first|exact dx _|apply List.Sublist.cons)) ⟨_,rfl,fun e=>(by cases e),fun _=>hb4 (by simpa using nI)⟩
       | exact H.hp.dh (L':=MI) (by repeat (first|exact dx _|apply List.Sublist.cons)) ⟨_,rfl,fun e=>(by cases e),fun _=>hb6 (by simpa using pI)⟩
       | exact H.hp.dh (L':=Lt) (by repeat (first|exact dx _|apply List.Sublist.cons)) ⟨_,rfl,fun _=>(by rw [gy (by omega),kJ] at cO;have:=cO.len;simp only [List.length_nil,ou] at this;rw [← this];exact cO.now),fun e=>(by cases e)⟩
     intro pI a H
     try have p70:=dF pI
     refine kP H (Kc gT (SC (Rd rfl (Rm rfl ?_))));clear H gT;intro a H;refine aI ?_;refine dP ((ck+1,j4+((kJ note (t+1) l[k].rows[rk].cells[ck].flow).length+1),MI,G69)) (by exact (H.dK (Pl:=[_,_,_,_]) (dw:=[_,_,_]) [1,2,3] (by decide) rfl).sub ⟨rfl,rfl,rfl,rfl,rfl,rfl,rfl,rfl,rfl,rfl,rfl,av⟩) ?_ ?_
     ·(try dsimp only);exact ⟨by omega,fun b o h=>amd b o (wz b o h),xI.jump (hb5 (by simpa using pI))⟩
     first|omega|(dsimp only;omega)
    intro nY a H
    try have p55:=dF nY
    refine eD ?_;refine eG _ _ ?_;clear eG;refine kP H (SC (Rd rfl (Rm rfl ?_)));clear H;intro a H;refine aI ?_;refine dP ((rk+1,j4,Lt4,g4)) (by exact (H.dK (Pl:=[_,_,_]) (dw:=[_,_]) [1,2] (by decide) rfl).sub ⟨rfl,rfl,rfl,rfl,rfl,rfl,rfl,rfl,av⟩) ?_ ?_
    ·(try dsimp only);exact ⟨by omega,wz,by rw [gy (by omega),rW,mo] at xI;exact xI⟩
    first|omega|(dsimp only;omega)
   intro h48 a H
   try have p48:=dF h48
   refine eD ?_;refine K9 _ _ ?_;clear K9;refine kP H (SC (Rd rfl (Rm rfl ?_)));clear H;intro a H;refine aI ?_;refine dP ((k+1,j3,Lt3,g3)) (by exact (H.dK (Pl:=[_,_]) (dw:=[_]) [1] (by decide) rfl).sub ⟨rfl,rfl,rfl,rfl,rfl,av⟩) ?_ ?_
   ·(try dsimp only);exact ⟨by omega,sK,by rw [gy (by omega),qW,mo] at Ch;exact Ch⟩
   first|omega|(dsimp only;omega)
  intro Ca a H
  try have p42:=dF Ca
  refine kP H (Kc K9 (SC (Rd rfl (Rm rfl ?_))));clear H K9;intro a H;refine aI ?_;refine dP ((k+1,j1,Lt,g)) (by exact (H.dK (Pl:=[_,_]) (dw:=[_]) [1] (by decide) rfl).sub ⟨rfl,rfl,rfl,rfl,rfl,av⟩) ?_ ?_
  ·(try dsimp only);exact ⟨by omega,hgm,by rw [ah p30,ah p42,mo] at cO;exact cO⟩
  first|omega|(dsimp only;omega)
 intro gZ a H
 try have p25:=dF gZ
 refine eD ?_;refine K5 _ _ ?_;clear K5;refine kP H (SR fun _ iU=>ak iU rfl ?_);clear H iU;intro a H;refine lr H results204 rfl ?_
 first
  | exact H.hp.dh (L':=ME) (by repeat (first|exact dx _|apply List.Sublist.cons)) ⟨_,rfl,fun e=>(by cases e),fun _=>hb2 (by simpa using h21)⟩
  | exact H.hp.dh (L':=MF) (by repeat (first|exact dx _|apply List.Sublist.cons)) ⟨_,rfl,fun e=>(by cases e),fun _=>hb4 (by simpa using nI)⟩
  | exact H.hp.dh (L':=MI) (by repeat (first|exact dx _|apply List.Sublist.cons)) ⟨_,rfl,fun e=>(by cases e),fun _=>hb6 (by simpa using pI)⟩
  | exact H.hp.dh (L':=Lt) (by repeat (first|exact dx _|apply List.Sublist.cons)) ⟨_,rfl,fun _=>(by rw [gy (by omega),kJ] at cO;have:=cO.len;simp only [List.length_nil,ou] at this;rw [← this];exact cO.now),fun e=>(by cases e)⟩
theorem afh:∀ n:Nat,n≤4294967297→Te n
 | 0,_=>fun _ _ _ _ _ _ _ _ _ _ _ _ _ _ _ _ _ _ _ _ _ _ h=>absurd h (by omega)
 | n+1,hn=>arE (afh n (by omega)) (by omega)
def jS (l:List ay):List jM:=⟨0,l,true,false,0⟩ :: kJ false 0 l
theorem akp {G:GH} {ba bl bp:Nat} {l:List ay} {v:aj} {id t:Int} {body note:Bool} (h1:aH G ba 0=some (vi id)) (h2:aH G bl 0=some v) (h3:G bp=some (.cells #[.bool body,.bool note,vi t] 136 (0,0))) (hv:aB G (.sl 11 (l.map ay.dat)) v) (hz:bM l≤4294967296) (ht0:0≤t) (ht1:t+bM l≤4294967296) :
  Iter prog G (.func (.func 203) #[] #[(aK ba 0),(aK bl 0),(aK bp 0)]) ((⟨id,l,body,note,t⟩ :: kJ note t l).map EA):=by
 intro J Jx fv G1 L w0 Ce hGi nk hJx hJ hO hcb;refine mU (caps:=[(aK ba 0),(aK bl 0),(aK bp 0)]) PZ ?_;replace h1:=aF hGi h1;replace h2:=aF hGi h2
 have hrow:∀ j u,[.bool body,.bool note,vi t][j]?=some u→aH G1 bp (0+j)=some u:=by
  intro j u hj;refine aF hGi ?_
  unfold aH;rw [h3];simpa using hj
 refine mH (N:=10) (T:=[(0,_),(1,_),(2,_),(3,_)]) func203 rfl ntmps203 rfl rfl hO ?_;intro a H;refine kP H (SC (Rg aD rfl (by assumption) ?_));clear H;intro a H;refine kH H (Rg iM rfl (by assumption) ?_);clear H;intro a H;refine bD R7 (cs:=[_,_,_]) H wn rfl rfl (fun j v hj=>H.hp.aH (hrow j v hj)) rfl ?_;clear H;intro a H;refine kH H (Rm rfl ?_);clear H;intro a H;refine iH TS (Li:=[]) (L:=L) H wn rfl (afh 4294967297 (by omega) _ G1 _ J Jx G1 _ _ 0 l id body note t _ (fun _ _ h=>h) hcb nk hJx hJ (Hp.owns (Li:=[]) H.hp) (hv.mono hGi) (by omega) ht0 ht1 (fun i a h=>by rw [pz,qY,h];rfl)) rfl ?_;clear H;rintro v9 G9 L9 a w ⟨b9,rfl,h1,h2⟩ Ba H;refine aI ?_;refine (leave0 H results203 ?_).2
 cases b9
 ·exact H.hp.gL (.inr (h2 rfl))
 exact H.hp.gL (.inl (by simpa using h1 rfl))
theorem akq (G:GH) (w0:World) (hG:Hold G w0) (l:List ay) (v:aj) (id t:Int) (body note:Bool) (hv:aB G (.sl 11 (l.map ay.dat)) v) (hz:bM l≤4294967296) (ht0:0≤t) (ht1:t+bM l≤4294967296) :
  Calls prog 160 #[vi id,v,.agg #[.bool body,.bool note,vi t]] w0 (bR w0 G fun u G'=>∃ ba bl bp,u=.func (.func 203) #[] #[(aK ba 0),(aK bl 0),(aK bp 0)]∧Iter prog G' u ((⟨id,l,body,note,t⟩ :: kJ note t l).map EA)):=by
 obtain ⟨A,c,rfl,hc1,hc2,hg⟩:=hv.slice;refine eN [(0,_),(1,_),(2,_)] func160 rfl ntmps160 rfl rfl hG ?_;intro a H;refine dz (fun _ K1=>?_);refine eU (cs:=[_]) H wn rfl rfl rfl ?_;clear H;intro b3 a w hb3 H;refine eU (cs:=[_]) H wn rfl rfl rfl ?_;clear H;intro b4 a w hb4 H;refine eU (cs:=[_,_,_]) H wn rfl rfl rfl ?_;clear H;intro b5 a w hb5 H;refine kH H (ak K1 rfl (SR fun _ K2=>?_));clear H K1;intro a H;refine qR H wn rfl rfl ?_;clear H;intro a H;refine kH H (ak K2 rfl ?_);clear H K2;intro a H;refine dM ?_;obtain ⟨G2,hm2,hb5,H⟩:=H.fD;obtain ⟨G3,sM,hb4,H⟩:=H.fD;obtain ⟨G4,VT,hb3,H⟩:=H.fD;refine lv H results160 rfl ?_;exact H.rt ⟨b3,b4,b5,rfl,akp (by unfold aH;rw [hb3];rfl) (aF VT (by unfold aH;rw [hb4];rfl)) (VT _ _ (sM _ _ hb5)) (hv.mono fun b o h=>VT _ _ (sM _ _ (hm2 _ _ h))) hz ht0 ht1⟩
theorem W9 (G:GH) (w0:World) (hG:Hold G w0) (D:kN) (l:List ay) (hv:aB G (.sl 11 (l.map ay.dat)) (dD D.f)) (hz:bM l≤4294967296) :
  Calls prog 81 #[D.val] w0 (bR w0 G fun u G'=>∃ ba bl bp,u=.func (.func 203) #[] #[(aK ba 0),(aK bl 0),(aK bp 0)]∧Iter prog G' u ((jS l).map EA)):=by
 refine eN [(0,_)] func81 rfl ntmps81 rfl rfl hG ?_;intro a H;refine dz (fun _ K1=>?_);refine eU (cs:=[_,_,_,_,_,_,_,_,_,_,_]) H wn rfl rfl rfl ?_;clear H;intro b1 a w hb1 H;refine kH H (ak K1 rfl (SR fun _ K2=>aW BP iM 0 rfl rfl ?_));clear H K1;intro a H;refine lY Hf [_,_,_] H wn rfl rfl rfl rfl ?_;clear H;intro a H;refine s_call aic H wn rfl (akq _ _ H.ro l _ 0 0 true false hv hz (by omega) (by omega)) rfl ?_;clear H;rintro v6 G6 a w ⟨ba,bl,bp,rfl,hit⟩ KY H;exact kH H (ak K2 rfl (LR results81 rfl fun H=>H.rt ⟨ba,bl,bp,rfl,hit⟩))
end
section
open Go.RowKit
theorem mZ:Ty prog 50 11 232 [.slice none 0 0,.slice none 0 0,.int .i64 0,.int .i64 0,.slice none 0 0,.slice none 0 0,.slice none 0 0,.slice none 0 0,.slice none 0 0,.slice none 0 0,.slice none 0 0] true:=⟨by kernel_rfl,by kernel_rfl⟩
theorem Uc:∀ args w,(callFunc 81 args).run prog w=.ok (.enter 81 args) w:=enters func81 rfl (by kernel_rfl)
theorem R8:Ty prog 166 4 40 [.slice none 0 0,.bool false,.bool false,.int .i64 0] true:=⟨by kernel_rfl,by kernel_rfl⟩
theorem aaZ:dV prog 166 0 0:=⟨by kernel_rfl⟩
mutual
theorem arB {note:Bool} {t:Int} {f:jM}:∀ {x:ay},f∈Al note t x→bM f.items < dG x.dat
 | .mk k c i tx h fl r,hf=>by
  have h4:=oK (.mk k c i tx h fl r)
  simp only [ay.text,ay.head,ay.flow,ay.rows] at h4
  rw [Al] at hf
  split at hf
  ·rcases nE.1 hf with rfl|hf
   ·show bM fl < _;omega
   have:=Sj hf;omega
  split at hf
  ·have:=afg hf;omega
  cases hf
theorem Sj {note:Bool} {t:Int} {f:jM}:∀ {l:List ay},f∈kJ note t l→bM f.items≤bM l
 | [],hf=>by simp [kJ] at hf
 | x :: l,hf=>by
  rw [kJ] at hf
  simp only [bM,fJ,fB]
  rcases gu.1 hf with hf|hf
  ·have:=arB hf;simp only [bM] at this;omega
  have:=Sj hf;simp only [bM] at this;omega
theorem afg {note:Bool} {t:Int} {f:jM}:∀ {l:List bJ},f∈qW note t l→bM f.items≤fq l
 | [],hf=>by simp [qW] at hf
 | x :: l,hf=>by
  rw [qW] at hf
  simp only [fq,fJ,fB]
  rcases gu.1 hf with hf|hf
  ·have:=arD hf;simp only [bM] at *;omega
  have:=afg hf;simp only [bM,fq] at *;omega
theorem arD {note:Bool} {t:Int} {f:jM}:∀ {x:bJ},f∈Am note t x→bM f.items≤dG x.dat
 | .mk h cs,hf=>by
  have h4:=uN (.mk h cs)
  simp only [bJ.head,bJ.cells] at h4
  rw [Am] at hf;have:=afc hf;omega
theorem afc {note:Bool} {t:Int} {f:jM}:∀ {l:List bB},f∈rW note t l→bM f.items≤iD l
 | [],hf=>by simp [rW] at hf
 | x :: l,hf=>by
  rw [rW] at hf
  simp only [iD,fJ,fB]
  rcases gu.1 hf with hf|hf
  ·have:=arz hf;simp only [bM] at *;omega
  have:=afc hf;simp only [bM,iD] at *;omega
theorem arz {note:Bool} {t:Int} {f:jM}:∀ {x:bB},f∈Ak note t x→bM f.items≤dG x.dat
 | .mk i h fl,hf=>by
  have h4:=uM (.mk i h fl)
  simp only [bB.head,bB.flow] at h4
  rw [Ak] at hf
  rcases nE.1 hf with rfl|hf
  ·show bM fl≤_;omega
  have:=Sj hf;omega
end
theorem UC {f:jM} {l:List ay} (h:f∈jS l):bM f.items≤bM l:=by
 rcases nE.1 h with rfl|h
 ·exact dQ _
 exact Sj h
def Dm (l:List ay) (id:Int):Option (List ay):=((jS l).find? fun f=>decide (f.id=id)).map jM.items
theorem Ux {α:Type} {p:α→Bool} {A:List α} {k:Nat} (hk:k < A.length) (h:(A.take k).find? p=none) (hp:p A[k]=false):(A.take (k+1)).find? p=none:=by
 rw [jZ hk,List.find?_append,h]
 simp [hp]
theorem Qh {α:Type} {p:α→Bool} {A:List α} {k:Nat} (hk:k < A.length) (h:(A.take k).find? p=none) (hp:p A[k]=true):A.find? p=some A[k]:=by
 have e:A.find? p=(A.take k++A.drop k).find? p:=by rw [List.take_append_drop]
 rw [e,List.find?_append,h,kR hk,List.find?_cons,hp]
 rfl
theorem Qg {α:Type} {p:α→Bool} {A:List α} (h:(A.take A.length).find? p=none):A.find? p=none:=by rwa [Db] at h
theorem KJ {A:List jM} {k:Nat} {args:List aj} {g:GH} (h:zu (A.map EA) k args g):∃ (hk:k < A.length) (a:Option Addr) (n c:Nat),args=[vi A[k].id,.agg #[.slice a n c,.bool A[k].body,.bool A[k].note,vi A[k].tables]]∧aB g (.sl 11 (A[k].items.map ay.dat)) (.slice a n c):=by
 obtain ⟨p,hp,hargs⟩:=h;rw [qY] at hp;obtain ⟨q,hq,rfl⟩:=qC.1 hp;obtain ⟨hk,rfl⟩:=mM.1 hq;obtain ⟨v,h1,h2⟩:=hargs;obtain ⟨a,n,c,rfl⟩:=h2.form;exact ⟨hk,a,n,c,h1,h2⟩
theorem abk (G:GH) (w0:World) (hG:Hold G w0) (D:kN) (l:List ay) (id:Int) (hv:aB G (.sl 11 (l.map ay.dat)) (dD D.f)) (hz:bM l≤4294967296) :
  Calls prog 29 #[D.val,vi id] w0 (bR w0 G fun u G'=>∃ v,u=.tuple #[v,.bool (Dm l id).isSome]∧aB G' (.sl 11 (((Dm l id).getD []).map ay.dat)) v):=by
 refine eN [(0,_),(1,_)] func29 rfl ntmps29 rfl rfl hG ?_;intro a H;refine dz (fun _ K1=>?_);refine eU (cs:=[_,_,_,_,_,_,_,_,_,_,_]) H wn rfl rfl rfl ?_;clear H;intro b2 a w hb2 H;refine eU (cs:=[_]) H wn rfl rfl rfl ?_;clear H;intro b3 a w hb3 H;refine dR iM H wn rfl ?_;clear H;intro b4 a w hb4 H;refine dR nN H wn rfl ?_;clear H;intro b5 a w hb5 H;refine K1 _ _ ?_;clear K1;refine aO (fun _ K2=>?_);refine dz (fun _ K3=>?_);refine bD mZ (cs:=[_,_,_,_,_,_,_,_,_,_,_]) H wn rfl rfl (H.hp.eu 3 rfl rfl) rfl ?_;clear H;intro a H;refine s_call Uc H wn rfl (W9 _ _ H.ro D l hv hz) rfl ?_;clear H;rintro v9 G9 a w ⟨ba,bl,bp,rfl,hit⟩ Ba H;refine K3 _ _ ?_;clear K3;refine sw ?_;skip;refine AA (ι:=Unit) (κ:=aj) (Lc:=[(_,_),(_,_)]) (fun (k:Nat) (gh:Unit)=>[(b4,.cells #[.slice none 0 0] 32 (0,0)),(b5,.cells #[.bool false] 4 (0,0))]) (fun (k:Nat) (gh:Unit)=>[]) (fun (k:Nat) (gh:Unit) (g:GH)=>((jS l).take k).find? (fun f=>decide (f.id=id))=none) (fun (gx:aj)=>Code.ret) (fun (gx:aj)=>[(b4,.cells #[gx] 32 (0,0)),(b5,.cells #[.bool true] 4 (0,0))]) (fun (gx:aj)=>[]) (fun (gx:aj) (g:GH)=>∃ f,Dm l id=some f∧aB g (.sl 11 (f.map ay.dat)) gx) (()) (by exact H.dK (Pl:=[_,_,_,_]) (dw:=[_,_,_,_]) [2,3,1,0] (by decide) rfl) rfl PZ (hit) (fun _ _ h=>h) rfl (fun k args g h=>by obtain ⟨_,_,_,_,rfl,_⟩:=KJ h;rfl) (fun _ _ _ _ _ h=>h) (fun x G G' hm h=>let ⟨f,h1,h2⟩:=h;⟨f,h1,h2.mono hm⟩) (rfl) ?_ ?_ ?_
 ·clear H;intro l2 uL sj bk k args gh G2 w2 F2 B2 a hk2 hm2 hI Jb GD GJ H;obtain ⟨hk,vA,vn,vc,rfl,hrep⟩:=KJ hk2;dsimp only [ru,List.cons_append,List.nil_append] at H;refine kP H (SR fun _ K4=>ak K4 rfl (SC ?_));clear H K4;intro a H;refine dR R8 H wn rfl ?_;clear H;intro b7 a w tV H;refine bO R8 0 (vs:=[_,_,_,_]) _ H wn rfl rfl rfl rfl rfl rfl rfl rfl ?_;clear H;intro w H;dsimp only [List.set,setRow] at H;refine aI ?_;refine Jb _ _ _ _ _ _ (by exact H.dK (Pl:=[_,_,_,_,_,_]) (dw:=[_,_,_,_,_,_]) [1,0,2,3,4,5] (by decide) rfl) ?_;clear H;intro w H;refine kP H (SB (SR fun _ K5=>Rm rfl (Ro aD 2 rfl (Rc rfl (Kz K5 (Cd rfl ?_ ?_)))))) <;> clear H K5
  ·intro eO a H
   try have ny:=dT eO
   refine kP H (SR fun _ K6=>aW aaZ iM 1 rfl rfl ?_);clear H;intro a H;refine s_call P8 H wn rfl (Z9 _ _ H.ro _ _ hrep (by have:=UC (jr hk);omega)) rfl ?_;clear H;rintro v17 CU a w ace tY H;obtain ⟨A17,n17,c17,rfl⟩:=ace.form;refine bO iM 4 (vs:=[_]) _ H wn rfl rfl rfl rfl rfl rfl rfl rfl ?_;clear H;intro w H;dsimp only [List.set,setRow] at H;refine bO nN 5 (vs:=[_]) _ H wn rfl rfl rfl rfl rfl rfl rfl rfl ?_;clear H;intro w H;dsimp only [List.set,setRow] at H;refine K6 _ _ ?_;clear K6;refine dM ?_;refine (GJ (.slice A17 n17 c17) _ _ _ _ _ (by exact H.dK (Pl:=[_,_,_,_,_,_]) (dw:=[_,_,_,_,_]) [0,2,3,4,5] (by decide) rfl) ?_).1 rfl;exact ⟨_,by unfold Dm;rw [Qh hk hI eO];rfl,ace⟩
  intro eO a H
  refine fI ?_;refine GD (()) _ _ _ _ _ (by exact H.dK (Pl:=[_,_,_,_,_,_]) (dw:=[_,_,_,_,_]) [0,2,3,4,5] (by decide) rfl) ?_;exact Ux hk hI eO
 ·clear H;intro Hz gh H6 a w hm2 hI H;dsimp only [lca,aS] at H;refine K2 _ _ ?_;clear K2;refine dz (fun _ K7=>?_);refine bO iM 3 (vs:=[_]) _ H wn rfl rfl rfl rfl rfl rfl rfl rfl ?_;clear H;intro w H;dsimp only [List.set,setRow] at H;refine bO nN 4 (vs:=[_]) _ H wn rfl rfl rfl rfl rfl rfl rfl rfl ?_;clear H;intro w H;dsimp only [List.set,setRow] at H;refine K7 _ _ ?_;clear K7;refine dM ?_;refine (uK H 0 rfl ?_).1;clear H;intro a w H;dsimp only [List.eraseIdx_cons_succ,List.eraseIdx_cons_zero] at H;refine (gN H results29 (.cons (vJ iM H rfl (H.hp.pQ 2 rfl rfl)) (.cons (vJ nN H rfl (H.hp.pQ 3 rfl rfl)) .nil)) ?_).1;exact H.rt ⟨_,by unfold Dm;rw [Qg (by simpa using hI)];rfl,by unfold Dm;rw [Qg (by simpa using hI)];exact aB.jP rfl (by decide)⟩
 clear H;intro Hz gx H6 a w hm2 hI H;obtain ⟨x,hgh⟩:∃ x,x=gx:=⟨_,rfl⟩;subst hgh;dsimp only [lca,aS] at H;obtain ⟨f,hf,hrep⟩:=hI;obtain ⟨xA,xn,xc,rfl⟩:=hrep.form;refine dM ?_;refine (uK H 0 rfl ?_).1;clear H;intro a w H;dsimp only [List.eraseIdx_cons_succ,List.eraseIdx_cons_zero] at H;refine (gN H results29 (.cons (vJ iM H rfl (H.hp.pQ 2 rfl rfl)) (.cons (vJ nN H rfl (H.hp.pQ 3 rfl rfl)) .nil)) ?_).1;exact H.rt ⟨_,by rw [hf];rfl,by rw [hf];exact hrep⟩
end
section
open Go.RowKit
def sF (xs:Array aj) (o:Nat):Option Int:=match xs[o]? with|some (.int .i64 n)=>some n|_=>none
def WM (u:Option TypeDesc):Bool:=match u with|some (.int .i64)=>true|_=>false
structure Yz (P:Program) (t:TypeId) (Aa:List Nat):Prop where
 und:P.underlying t=some (.struct (P.fieldsOf t))
 held:P.stoodInHeld t=false
 guard:P.eqGuardType P.depth t=false
 F5:(P.fieldsOf t).toList.map (·.offset)=Aa
 ok:(P.fieldsOf t).toList.all (fun f=>decide (f.name ≠ "_") && P.plainKey f.type && WM (P.underlying f.type))=true
theorem adV {P:Program} {w:World} {d:Nat} {xs ys:Array aj}:∀ fs:List Field,fs.all (fun f=>decide (f.name ≠ "_") && P.plainKey f.type && WM (P.underlying f.type))=true →
  (fs.map (·.offset)).all (fun o=>(sF xs o).isSome && (sF ys o).isSome)=true→(Op.eqFields (d+1) xs ys fs).run P w=.ok ((fs.map (·.offset)).all fun o=>sF xs o == sF ys o) w
 | [],_,_=>by simp [Op.eqFields]
 | f :: fs,h1,h2=>by
  simp only [List.all_cons,qD,uS,fJ] at h1 h2
  obtain ⟨⟨⟨hn,hp⟩,hi⟩,h1⟩:=h1
  obtain ⟨⟨hx,hy⟩,h2⟩:=h2
  have ih:=adV (w:=w) (d:=d) fs (by simpa using h1) h2
  unfold WM at hi
  split at hi
  ·rename_i hu
   unfold sF at hx hy
   split at hx
   ·rename_i m hxm
    split at hy
    ·rename_i m2 hym
     have e1:sF xs f.offset=some m:=by unfold sF;rw [hxm]
     have e2:sF ys f.offset=some m2:=by unfold sF;rw [hym]
     simp only [Op.eqFields,hn,ne_eq,not_false_eq_true,if_true,fG,run_part_plain w hp hxm,run_part_plain w hp hym,oq,run_equalIn_int w d f.type .i64 .i64 m m2 hu,fJ,List.all_cons,e1,e2]
     by_cases e:m=m2
     ·subst e;simp [ih,List.all_map]
     ·simp [e]
    ·simp at hy
   ·simp at hx
  ·simp at hi
def mW (xs:Array aj) (o:Nat × Bool):Option (Int × Bool):=match xs[o.1]?,o.2 with|some (.int .i64 n),false=>some (n,false)|some (.bool b),true=>some (0,b)|_,_=>none
def DL (u:Option TypeDesc) (b:Bool):Bool:=match u,b with|some (.int .i64),false=>true|some .bool,true=>true|_,_=>false
structure Mr (P:Program) (t:TypeId) (Aa:List (Nat × Bool)):Prop where
 und:P.underlying t=some (.struct (P.fieldsOf t))
 held:P.stoodInHeld t=false
 guard:P.eqGuardType P.depth t=false
 F5:(P.fieldsOf t).toList.map (fun f=>(f.offset,DL (P.underlying f.type) true))=Aa
 ok:(P.fieldsOf t).toList.all (fun f=>decide (f.name ≠ "_") && P.plainKey f.type && DL (P.underlying f.type) (DL (P.underlying f.type) true))=true
theorem adW {P:Program} {w:World} {d:Nat} {xs ys:Array aj}:∀ fs:List Field,fs.all (fun f=>decide (f.name ≠ "_") && P.plainKey f.type && DL (P.underlying f.type) (DL (P.underlying f.type) true))=true →
  (fs.map (fun f=>(f.offset,DL (P.underlying f.type) true))).all (fun o=>(mW xs o).isSome && (mW ys o).isSome)=true→(Op.eqFields (d+1) xs ys fs).run P w=.ok ((fs.map (fun f=>(f.offset,DL (P.underlying f.type) true))).all fun o=>mW xs o == mW ys o) w
 | [],_,_=>by simp [Op.eqFields]
 | f :: fs,h1,h2=>by
  simp only [List.all_cons,qD,uS,fJ] at h1 h2
  obtain ⟨⟨⟨hn,hp⟩,hi⟩,h1⟩:=h1
  obtain ⟨⟨hx,hy⟩,h2⟩:=h2
  have ih:=adW (w:=w) (d:=d) fs (by simpa using h1) h2
  obtain ⟨kb,hkb⟩:∃ kb,kb=DL (P.underlying f.type) true:=⟨_,rfl⟩
  rw [← hkb] at hi hx hy
  cases kb with
  | false =>
   have hu:P.underlying f.type=some (.int .i64):=by clear hkb ih h1 h2 hx hy;unfold DL at hi;split at hi <;> simp_all
   obtain ⟨m,hxm⟩:∃ m,xs[f.offset]?=some (.int .i64 m):=by clear hkb ih h1 h2 hi hy;unfold mW at hx;split at hx <;> simp_all
   obtain ⟨m2,hym⟩:∃ m,ys[f.offset]?=some (.int .i64 m):=by clear hkb ih h1 h2 hi hx;unfold mW at hy;split at hy <;> simp_all
   have e1:mW xs (f.offset,false)=some (m,false):=by unfold mW;rw [hxm]
   have e2:mW ys (f.offset,false)=some (m2,false):=by unfold mW;rw [hym]
   simp only [Op.eqFields,hn,ne_eq,not_false_eq_true,if_true,fG,run_part_plain w hp hxm,run_part_plain w hp hym,oq,run_equalIn_int w d f.type .i64 .i64 m m2 hu,fJ,List.all_cons,← hkb,e1,e2]
   by_cases e:m=m2
   ·subst e;simp [ih,List.all_map]
   ·simp [e]
  | true =>
   have hu:P.underlying f.type=some .bool:=by clear hkb ih h1 h2 hx hy;unfold DL at hi;split at hi <;> simp_all
   obtain ⟨m,hxm⟩:∃ m,xs[f.offset]?=some (.bool m):=by clear hkb ih h1 h2 hi hy;unfold mW at hx;split at hx <;> simp_all
   obtain ⟨m2,hym⟩:∃ m,ys[f.offset]?=some (.bool m):=by clear hkb ih h1 h2 hi hx;unfold mW at hy;split at hy <;> simp_all
   have e1:mW xs (f.offset,true)=some (0,m):=by unfold mW;rw [hxm]
   have e2:mW ys (f.offset,true)=some (0,m2):=by unfold mW;rw [hym]
   simp only [Op.eqFields,hn,ne_eq,not_false_eq_true,if_true,fG,run_part_plain w hp hxm,run_part_plain w hp hym,oq,run_equalIn_bool' w d f.type m m2 hu,fJ,List.all_cons,← hkb,e1,e2]
   by_cases e:m=m2
   ·subst e;simp [ih,List.all_map]
   ·simp [e]
section
variable {N:Nat} {D:List Deferred} {w0:World} {F:Nat→Prop} {G0 G:GH} {L:List (Nat × Obj)} {T:List (Nat × aj)}
variable {r:Option Nat} {P:Program} {ops:Array Oper} {Q:Exit→Act→World→Prop} {rest:List Oper} {a:Act} {w:World}
variable {d:Nat} {ty:TypeId} {pos:String} {aV:Array Edge} {g:Option (Nat × Bool)}
theorem apN {t yt:TypeId} {Aa:List Nat} (he:Yz P t Aa) {x y:Operand} {xs ys:Array aj} (H:St N D w0 F G0 G L T a w) (hw:Region.wanted ⟨some d,.binOp .eql t x y yt,ty,pos,aV,g⟩ (yielded ops a.tmps)=true) (hx:ev T x=some (.agg xs)) (hy:ev T y=some (.agg ys))
  (hi:Aa.all (fun o=>(sF xs o).isSome && (sF ys o).isSome)=true) (hd:Nat.blt d N=true)
  (k:∀ a',St N D w0 F G0 G L ((d,.bool (Aa.all fun o=>sF xs o == sF ys o)) :: T) a' w→WL r P ops Q rest a' w):WL r P ops Q (⟨some d,.binOp .eql t x y yt,ty,pos,aV,g⟩ :: rest) a w:=by
 refine iB (v:=.bool (Aa.all fun o=>sF xs o == sF ys o)) (w':=w) hw rfl ?_ (k _ (H.put hd _ H.hp))
 have h1:=adV (P:=P) (w:=w) (d:=9998) (xs:=xs) (ys:=ys) _ he.ok (by rw [he.F5];exact hi)
 rw [he.F5] at h1
 simp only [execOp,H.ev hx,H.ev hy,fG,run_eqGuard_agg w .eql t x y xs ys he.guard,oq,run_eql_struct,run_equalIn_struct w 9999 t xs ys he.und he.held,h1]
 rfl
theorem XG {t yt:TypeId} (hu:P.underlying t=some .bool) {x y:Operand} {p q:Bool} (H:St N D w0 F G0 G L T a w) (hw:Region.wanted ⟨some d,.binOp .neq t x y yt,ty,pos,aV,g⟩ (yielded ops a.tmps)=true) (hx:ev T x=some (.bool p)) (hy:ev T y=some (.bool q)) (hd:Nat.blt d N=true)
  (k:∀ a',St N D w0 F G0 G L ((d,.bool (!(p == q))) :: T) a' w→WL r P ops Q rest a' w):WL r P ops Q (⟨some d,.binOp .neq t x y yt,ty,pos,aV,g⟩ :: rest) a w:=by
 refine iB (v:=.bool (!(p == q))) (w':=w) hw rfl ?_ (k _ (H.put hd _ H.hp))
 simp [execOp,H.ev hx,H.ev hy,fG,eqGuard,binOp,Op.equal,Op.maxDepth,run_equalIn_bool' w 9999 t p q hu]
theorem GY {t yt:TypeId} {x y:Operand} {p q:ByteArray} (H:St N D w0 F G0 G L T a w) (hw:Region.wanted ⟨some d,.binOp .eql t x y yt,ty,pos,aV,g⟩ (yielded ops a.tmps)=true) (hx:ev T x=some (.string p)) (hy:ev T y=some (.string q)) (hd:Nat.blt d N=true)
  (k:∀ a',St N D w0 F G0 G L ((d,.bool (p.toList == q.toList)) :: T) a' w→WL r P ops Q rest a' w):WL r P ops Q (⟨some d,.binOp .eql t x y yt,ty,pos,aV,g⟩ :: rest) a w:=by
 refine iB (v:=.bool (p.toList == q.toList)) (w':=w) hw rfl ?_ (k _ (H.put hd _ H.hp))
 simp [execOp,H.ev hx,H.ev hy,fG,eqGuard,binOp,Op.stringOp]
theorem E9 {t yt:TypeId} {x y:Operand} {p q:Int} (z:Int) (H:St N D w0 F G0 G L T a w) (hw:Region.wanted ⟨some d,.binOp .quo t x y yt,ty,pos,aV,g⟩ (yielded ops a.tmps)=true) (hx:ev T x=some (.int .i64 p)) (hy:ev T y=some (.int .i64 q)) (hq:¬ q=0) (hz:p.tdiv q=z) (h1:-9223372036854775808≤z) (h2:z < 9223372036854775808) (hd:Nat.blt d N=true)
  (k:∀ a',St N D w0 F G0 G L ((d,.int .i64 z) :: T) a' w→WL r P ops Q rest a' w):WL r P ops Q (⟨some d,.binOp .quo t x y yt,ty,pos,aV,g⟩ :: rest) a w:=by
 subst hz
 refine iB (v:=.int .i64 (p.tdiv q)) (w':=w) hw rfl ?_ (k _ (H.put hd _ H.hp))
 simp [execOp,H.ev hx,H.ev hy,fG,eqGuard,binOp,Op.intDiv,hq,Ls h1 h2]
theorem LY {op:BinOp} {t yt:TypeId} {Aa:List (Nat × Bool)} (ho:op=.eql∨op=.neq) (he:Mr P t Aa) {x y:Operand} {xs ys:Array aj} (H:St N D w0 F G0 G L T a w) (hw:Region.wanted ⟨some d,.binOp op t x y yt,ty,pos,aV,g⟩ (yielded ops a.tmps)=true) (hx:ev T x=some (.agg xs)) (hy:ev T y=some (.agg ys))
  (hi:Aa.all (fun o=>(mW xs o).isSome && (mW ys o).isSome)=true) (hd:Nat.blt d N=true)
  (k:∀ a',St N D w0 F G0 G L ((d,.bool (if op=.eql then Aa.all fun o=>mW xs o == mW ys o else !(Aa.all fun o=>mW xs o == mW ys o))) :: T) a' w→WL r P ops Q rest a' w):WL r P ops Q (⟨some d,.binOp op t x y yt,ty,pos,aV,g⟩ :: rest) a w:=by
 have h1:=adW (P:=P) (w:=w) (d:=9998) (xs:=xs) (ys:=ys) _ he.ok (by rw [he.F5];exact hi)
 rw [he.F5] at h1
 rcases ho with rfl|rfl
 ·refine iB (v:=_) (w':=w) hw rfl ?_ (k _ (H.put hd _ H.hp))
  simp only [execOp,H.ev hx,H.ev hy,fG,run_eqGuard_agg w .eql t x y xs ys he.guard,oq,run_eql_struct,run_equalIn_struct w 9999 t xs ys he.und he.held,h1]
  rfl
 ·refine iB (v:=_) (w':=w) hw rfl ?_ (k _ (H.put hd _ H.hp))
  simp only [execOp,H.ev hx,H.ev hy,fG,run_eqGuard_agg w .neq t x y xs ys he.guard,oq,run_neq_struct,run_equalIn_struct w 9999 t xs ys he.und he.held,h1]
  rfl
end
end
section
open Go.RowKit
theorem JB {α:Type} {p:α→Bool} {A:List α} {k:Nat} (hk:k < A.length) (h:(A.take k).findIdx? p=none) (hp:p A[k]=false):(A.take (k+1)).findIdx? p=none:=by
 rw [List.findIdx?_eq_none_iff] at h ⊢;rw [jZ hk];intro x hx
 rcases gu.1 hx with hx|hx
 ·exact h x hx
 rw [uo.1 hx];exact hp
theorem zW {α:Type} {p:α→Bool} {A:List α} {k:Nat} (hk:k < A.length) (h:(A.take k).findIdx? p=none) (hp:p A[k]=true):A.findIdx? p=some k:=by
 have e:A.findIdx? p=(A.take k++A.drop k).findIdx? p:=by rw [List.take_append_drop]
 rw [e,List.findIdx?_append,h,kR hk,List.findIdx?_cons,hp]
 simp;omega
end
section
open Go.RowKit
theorem XJ:Kj prog 265:=⟨by kernel_rfl⟩
theorem agG:prog.cellsOf 5=1:=by kernel_rfl
theorem aot (v:aj) (w:World):(callFunc 231 #[v]).run prog w=.ok (.value v) w:=apF func231 (by kernel_rfl) (by kernel_rfl) (by kernel_rfl) (by kernel_rfl) v w
theorem OV:prog.underlying 262=some (.pointer 265):=by kernel_rfl
theorem aeL:prog.underlying 327=some .unsafePointer:=by kernel_rfl
theorem Np:dV prog 265 0 0:=⟨by kernel_rfl⟩
theorem OQ:Ty prog 262 1 8 [.pointer none] false:=⟨by kernel_rfl,by kernel_rfl⟩
theorem aiH:∀ args w,(callFunc 210 args).run prog w=.ok (.enter 210 args) w:=enters func210 rfl (by kernel_rfl)
theorem J6:prog.underlying 263=some (.slice 5):=by kernel_rfl
theorem KG:dV prog 265 1 1:=⟨by kernel_rfl⟩
theorem Mc:Ty prog 263 1 24 [.slice none 0 0] false:=⟨by kernel_rfl,by kernel_rfl⟩
theorem aqZ:prog.underlying 306=some (.pointer 5):=by kernel_rfl
end
section
open Go.RowKit
def Cm (p:Nat→Bool):Nat→Nat→Nat→Nat
 | 0,i,_=>i
 | f+1,i,j=>if i < j then (if p ((i+j) / 2) then Cm p f i ((i+j) / 2) else Cm p f ((i+j) / 2+1) j) else i
theorem amZ {p:Nat→Bool} {f i j:Nat} (hf:j - i≤f) (h:i < j):Cm p f i j=if p ((i+j) / 2) then Cm p (f - 1) i ((i+j) / 2) else Cm p (f - 1) ((i+j) / 2+1) j:=by
 match f,hf with
 | 0,hf=>omega
 | f+1,_=>rw [Cm,au h];rfl
theorem amX {p:Nat→Bool} {f i j:Nat} (h:¬ i < j):Cm p f i j=i:=by
 match f with
 | 0=>rfl
 | f+1=>rw [Cm,ah h]
theorem ana {z:Int} (h1:0≤z) (h2:z < 18446744073709551616):IntKind.u64.wrap z=z:=by
 simp only [IntKind.wrap,IntKind.bits,IntKind.signed,uT,Aw,if_false]
 omega
theorem amY (n:Nat):((n:Nat):Int).fdiv (2 ^ 1)=((n / 2:Nat):Int):=by
 rw [Int.fdiv_eq_ediv_of_nonneg _ (by decide)];omega
def Er (a b:Int):Int:=if a < b then -1 else if b < a then 1 else 0
theorem aad {a b:Int}:Er a b < 0↔a < b:=by
 unfold Er
 split
 ·simp [*]
 ·split <;> simp_all
theorem ahg {a b:Int}:Er a b=0↔a=b:=by
 unfold Er
 split
 ·omega
 ·split <;> omega
def Df (ks:List Int) (t:Int):Nat:=Cm (fun h=>decide (¬ ks.getD h 0 < t)) ks.length 0 ks.length
def Gn (ks:List Int) (t:Int):Bool:=decide (ks[Df ks t]?=some t)
theorem akZ {ks:List Int} {t:Int} (h:Gn ks t=true):Df ks t < ks.length:=by
 have:=pE h
 exact (mM.1 this).1
theorem akY {ks:List Int} {t:Int} {n:Nat} (e:Df ks t=n) (h:n < ks.length):Gn ks t=decide (Er ks[n] t=0):=by
 unfold Gn
 rw [e,gD h]
 simp [ahg]
theorem ala {ks:List Int} {t:Int} {n:Nat} (e:Df ks t=n) (h:¬ n < ks.length):Gn ks t=false:=by
 unfold Gn
 rw [e,List.getElem?_eq_none (by omega)]
 simp
theorem getD_map {α:Type} {f:α→Int} {l:List α} {n:Nat} (h:n < l.length):(l.map f).getD n 0=f l[n]:=by
 simp [List.getD,h]
end
section
open Go.RowKit
structure Zr (P:Program) (s n off:Nat):Prop where
 h:(match P.underlying s with|some (.struct fs)=>(fs[n]?).bind fun f=>((P.underlying f.type).map (fun|.struct _=>true|.array _ _=>true|_=>false)).map fun g=>(f.offset,g)|_=>none)=some (off,false)
theorem Zr.parts {P:Program} {s n off:Nat} (h:Zr P s n off):∃ fs fl u,P.underlying s=some (.struct fs)∧fs[n]?=some fl∧P.underlying fl.type=some u∧(match u with|.struct _=>true|.array _ _=>true|_=>false)=false∧fl.offset=off:=by
 obtain ⟨h⟩:=h
 split at h
 ·rename_i fs hs
  obtain ⟨fl,hf,h2⟩:=Option.bind_eq_some_iff.1 h
  obtain ⟨b,hb,h3⟩:=qC.1 h2
  obtain ⟨u,hu,h4⟩:=qC.1 hb
  simp only [jc] at h3
  refine ⟨fs,fl,u,hs,hf,hu,?_,h3.1⟩
  rw [← h3.2,← h4]
  cases u <;> rfl
 ·cases h
section
variable {N:Nat} {D:List Deferred} {w0:World} {F:Nat→Prop} {G0 G:GH} {L Li Lo:OL} {T:List (Nat × aj)}
variable {r:Option Nat} {P:Program} {ops:Array Oper} {Q:Exit→Act→World→Prop} {rest:List Oper} {a:Act} {w:World}
variable {d:Nat} {ty:TypeId} {pos:String} {aV:Array Edge} {g:Option (Nat × Bool)}
theorem XH {t:TypeId} {x y:Operand} {s:ByteArray} {ky:IntKind} {p:Int} (lo:Nat) (ht:P.underlying t=some .string) (H:St N D w0 F G0 G L T a w) (hw:Region.wanted ⟨some d,.slice t x (some y) none none,ty,pos,aV,g⟩ (yielded ops a.tmps)=true) (hx:ev T x=some (.string s)) (hy:ev T y=some (.int ky p)) (hp:p=(lo:Int)) (h1:lo≤s.size) (hd:Nat.blt d N=true)
  (k:∀ a',St N D w0 F G0 G L ((d,.string (s.extract lo s.size)) :: T) a' w→WL r P ops Q rest a' w):WL r P ops Q (⟨some d,.slice t x (some y) none none,ty,pos,aV,g⟩ :: rest) a w:=by
 subst hp
 have hr:=run_slice_string_l (P:=P) w t s ht ky (lo:Int) (by omega) (by omega)
 rw [Int.toNat_natCast] at hr
 refine iB (v:=.string (s.extract lo s.size)) (w':=w) hw rfl ?_ (k _ (H.put hd _ H.hp))
 simp only [execOp,H.ev hx,zD,Option.map_none,H.ev hy,fG,run_sliceAt_string w t _ _ _ _ ht,hr,oq,uR]
end
end
section
open Go.RowKit
theorem OW:prog.underlying 309=some (.slice 279):=by kernel_rfl
theorem wI:Ty prog 279 6 56 [.int .i64 0,.int .i64 0,.int .i64 0,.int .i64 0,.int .i64 0,.string ⟨#[]⟩] true:=⟨by kernel_rfl,by kernel_rfl⟩
theorem aeo:uP prog 279 [(0,1),(1,1),(2,1),(3,1),(4,1),(5,1)] [.int .i64 0,.int .i64 0,.int .i64 0,.int .i64 0,.int .i64 0,.string ⟨#[]⟩]:=⟨by kernel_rfl,by kernel_rfl⟩
theorem aaA:∀ args w,(callFunc 232 args).run prog w=.ok (.enter 232 args) w:=enters func232 rfl (by kernel_rfl)
structure lI where
 num:Int
 Dp:Int
 low:Int
 high:Int
 std:Int
 name:ByteArray
def lI.dat (x:lI):List Dat:=[li x.num,li x.Dp,li x.low,li x.high,li x.std,.lf (.string x.name)]
def lI.cells (x:lI):List aj:=[vi x.num,vi x.Dp,vi x.low,vi x.high,vi x.std,.string x.name]
def jq.cells (x:jq):List aj:=[vi x.key,vi x.value]
theorem anG (G:GH) (x:lI):bH G x.dat x.cells:=by
 simp only [lI.dat,lI.cells,bH]
 exact ⟨_,_,rfl,by simp [aB,Value.oneCell'],_,_,rfl,by simp [aB,Value.oneCell'],_,_,rfl,by simp [aB,Value.oneCell'],_,_,rfl,by simp [aB,Value.oneCell'],_,_,rfl,by simp [aB,Value.oneCell'],_,_,rfl,by simp [aB,Value.oneCell'],rfl⟩
theorem anF {G:GH} {x:lI} {cs:List aj} (h:bH G x.dat cs):cs=x.cells:=by
 simp only [lI.dat,bH,aB] at h
 obtain ⟨v1,_,rfl,⟨rfl,-⟩,v2,_,rfl,⟨rfl,-⟩,v3,_,rfl,⟨rfl,-⟩,v4,_,rfl,⟨rfl,-⟩,v5,_,rfl,⟨rfl,-⟩,v6,_,rfl,⟨rfl,-⟩,rfl⟩:=h
 rfl
theorem Xx {G:GH} {x:jq} {cs:List aj} (h:bH G x.dat cs):cs=x.cells:=by
 simp only [jq.dat,bH,aB] at h
 obtain ⟨v1,_,rfl,⟨rfl,-⟩,v2,_,rfl,⟨rfl,-⟩,rfl⟩:=h
 rfl
theorem acV (G:GH):∀ (B A:List lI),ji G 6 (A.map lI.dat) (A.map lI.cells).flatten→ji G 6 ((A++B).map lI.dat) ((A++B).map lI.cells).flatten
 | [],A,h=>by rw [pW];exact h
 | x :: B,A,h=>by
  have h2:=h.snoc (anG G x) rfl;have h3:=acV G B (A++[x]) (by simpa using h2)
  simpa using h3
theorem anH (G:GH) (A:List lI):ji G 6 (A.map lI.dat) (A.map lI.cells).flatten:=acV G A [] ji.nil
theorem WR {G:GH} {l:List lI} {A:Option Addr} {n c k:Nat} (hv:aB G (.sl 6 (l.map lI.dat)) (.slice A n c)) (hk:k < l.length):∃ b o,A=some ⟨b,o,none⟩∧(∀ j u,[vi l[k].num,vi l[k].Dp,vi l[k].low,vi l[k].high,vi l[k].std,.string l[k].name][j]?=some u→aH G b (o+k*6+j)=some u):=by
 obtain ⟨A',c',he,_,_,hg⟩:=hv.slice
 injection he with e1 e2 e3
 subst e1;obtain ⟨b,o,cs,h1,h2,h3,h4⟩:=hg k l[k].dat (by simp [hk]);obtain rfl:=anF h4;exact ⟨b,o,h1,h3⟩
theorem OI {G:GH} {l:List jq} {A:Option Addr} {n c k:Nat} (hv:aB G (.sl 2 (l.map jq.dat)) (.slice A n c)) (hk:k < l.length):∃ b o,A=some ⟨b,o,none⟩∧(∀ j u,[vi l[k].key,vi l[k].value][j]?=some u→aH G b (o+k*2+j)=some u):=by
 obtain ⟨A',c',he,_,_,hg⟩:=hv.slice
 injection he with e1 e2 e3
 subst e1;obtain ⟨b,o,cs,h1,h2,h3,h4⟩:=hg k l[k].dat (by simp [hk]);obtain rfl:=Xx h4;exact ⟨b,o,h1,h3⟩
def JG:List lI:=[⟨1,1,0,1073741824,0,⟨#[99,104,97,114,97,99,116,101,114,45,115,116,121,108,101]⟩⟩,⟨2,1,0,1,0,⟨#[98,111,108,100]⟩⟩,⟨3,1,0,1,0,⟨#[105,116,97,108,105,99]⟩⟩,⟨4,1,0,3,0,⟨#[117,110,100,101,114,108,105,110,101]⟩⟩,⟨5,1,2,1638,22,⟨#[115,105,122,101]⟩⟩,⟨6,1,0,16777215,0,⟨#[99,111,108,111,114]⟩⟩,⟨7,1,0,63,0,⟨#[102,111,110,116]⟩⟩,⟨8,1,0,255,0,⟨#[108,97,110,103,117,97,103,101]⟩⟩,⟨9,1,-400,400,0,⟨#[114,97,105,115,101]⟩⟩,⟨10,1,0,1,0,⟨#[104,105,100,100,101,110]⟩⟩,⟨20,2,0,1073741824,0,⟨#[112,97,114,97,103,114,97,112,104,45,115,116,121,108,101]⟩⟩,⟨21,2,0,3,0,⟨#[97,108,105,103,110]⟩⟩,⟨22,2,-31680,31680,0,⟨#[108,101,102,116]⟩⟩,⟨23,2,-31680,31680,0,⟨#[114,105,103,104,116]⟩⟩,⟨24,2,-31680,31680,0,⟨#[102,105,114,115,116]⟩⟩,⟨25,2,0,31680,0,⟨#[98,101,102,111,114,101]⟩⟩,⟨26,2,0,31680,0,⟨#[97,102,116,101,114]⟩⟩,⟨27,2,0,31680,0,⟨#[108,101,97,100,105,110,103]⟩⟩,⟨28,2,0,1,0,⟨#[107,101,101,112,45,110,101,120,116]⟩⟩,⟨29,2,0,1,0,⟨#[107,101,101,112,45,108,105,110,101,115]⟩⟩,⟨30,2,0,1,1,⟨#[119,105,100,111,119]⟩⟩,⟨31,2,0,1,0,⟨#[112,97,103,101,45,98,101,102,111,114,101]⟩⟩,⟨32,2,0,9,0,⟨#[111,117,116,108,105,110,101]⟩⟩,⟨33,2,0,1073741824,0,⟨#[108,105,115,116]⟩⟩,⟨34,2,1,9,1,⟨#[108,101,118,101,108]⟩⟩,⟨35,2,0,32767,0,⟨#[114,101,115,116,97,114,116]⟩⟩,⟨36,2,1,31680,720,⟨#[116,97,98,45,115,116,111,112]⟩⟩,⟨37,2,0,1,0,⟨#[104,121,112,104,101,110,97,116,101]⟩⟩,⟨40,3,720,31680,12240,⟨#[112,97,103,101,45,119,105,100,116,104]⟩⟩,⟨41,3,720,31680,15840,⟨#[112,97,103,101,45,104,101,105,103,104,116]⟩⟩,⟨42,3,0,31680,1440,⟨#[116,111,112]⟩⟩,⟨43,3,0,31680,1440,⟨#[98,111,116,116,111,109]⟩⟩,⟨44,3,0,31680,1440,⟨#[105,110,110,101,114]⟩⟩,⟨45,3,0,31680,1440,⟨#[111,117,116,101,114]⟩⟩,⟨46,3,0,32767,0,⟨#[102,105,114,115,116,45,112,97,103,101]⟩⟩,⟨47,3,1,6,1,⟨#[112,97,103,101,45,102,111,114,109,97,116]⟩⟩,⟨50,4,0,1,0,⟨#[104,101,97,100,101,114]⟩⟩,⟨51,4,0,1,0,⟨#[99,97,110,116,45,115,112,108,105,116]⟩⟩,⟨52,4,0,31680,0,⟨#[114,111,119,45,104,101,105,103,104,116]⟩⟩,⟨60,5,1,32,1,⟨#[99,111,108,117,109,110,45,115,112,97,110]⟩⟩,⟨61,5,0,2,0,⟨#[118,101,114,116,105,99,97,108,45,109,101,114,103,101]⟩⟩,⟨62,5,0,31680,0,⟨#[99,101,108,108,45,119,105,100,116,104]⟩⟩,⟨63,5,0,16777215,16777215,⟨#[115,104,97,100,101]⟩⟩,⟨70,6,0,31680,0,⟨#[116,97,98,108,101,45,119,105,100,116,104]⟩⟩,⟨71,6,0,2,0,⟨#[116,97,98,108,101,45,97,108,105,103,110]⟩⟩]
set_option maxRecDepth 20000 in
theorem anI (G:GH) (w0:World) (hG:Hold G w0):Calls prog 215 #[] w0 (bR w0 G fun u G'=>aB G' (.sl 6 (JG.map lI.dat)) u):=by
 refine eN [] func215 rfl ntmps215 rfl rfl hG ?_;intro a H;refine kP H (SR fun _ K1=>ak K1 rfl (SR fun _ K2=>?_));clear H K1;intro a H;(iterate 45 refine lY aeo [_,_,_,_,_,_] H wn rfl rfl rfl rfl ?_;clear H;intro a H);refine apL OW wI (JG.map lI.cells) H wn rfl rfl rfl rfl rfl rfl rfl ?_;clear H;intro b46 a w asI H;refine kH H (ak K2 rfl ?_);clear H K2;intro a H;refine lr H results215 rfl ?_;obtain ⟨Gz,hmz,hbz,H⟩:=H.fD;exact H.rt (aB.fZ (n:=45) (cap:=45) hbz rfl (dQ _) (show 45≤maxLen by decide) (kF (dQ _)) (anH _ _))
theorem acS (G:GH) (w0:World) (hG:Hold G w0) (x:Int):Calls prog 232 #[vi x] w0 (bR w0 G fun u G'=>u=.bool false∧G=G'):=by
 refine eN [(0,_)] func232 rfl ntmps232 rfl rfl hG ?_;intro a H;exact kP H (SR fun _ K1=>ak K1 rfl (SR fun _ K2=>Rm rfl (Rm rfl (Rc rfl (ak K2 rfl (LR results232 rfl fun H=>H.rt ⟨by simp,rfl⟩))))))
theorem Tx {x y z:Int} (h:(x < y∧z=-1)∨(y < x∧z=1)∨(x=y∧z=0)):z=Er x y:=by
 unfold Er;split
 ·omega
 split <;> omega
theorem ahi (G:GH) (w0:World) (hG:Hold G w0) (x y:Int):Calls prog 218 #[vi x,vi y] w0 (bR w0 G fun u G'=>u=vi (Er x y)):=by
 refine eN [(0,_),(1,_)] func218 rfl ntmps218 rfl rfl hG ?_;intro a H;refine kP H (SR fun _ K1=>ak K1 rfl (SR fun _ K2=>Rm rfl ?_));clear H K1;intro a H;refine s_call aaA H wn rfl (acS _ _ H.ro x) rfl ?_;clear H;rintro v8 G8 a w ⟨rfl,-⟩ AZ H;refine kH H (ak K2 rfl (SR fun _ K3=>Rm rfl ?_));clear H K2;intro a H;refine s_call aaA H wn rfl (acS _ _ H.ro y) rfl ?_;clear H;rintro v10 O9 a w ⟨rfl,-⟩ QB H;refine kH H (ak K3 rfl (SQ fun _ K4=>SR fun _ K5=>Rm rfl (Kz K5 (Cd rfl ?_ ?_)))) <;> clear H K3 K5
 ·intro h11 a H
  cases h11
 intro h11 a H
 try have sN:=dF h11
 refine kP H (Kc K4 (SQ fun _ K6=>SR fun _ K7=>Rm rfl (Kz K7 (Cd rfl ?_ ?_)))) <;> clear H K4 K7
 ·intro fP a H
  cases fP
 intro fP a H
 try have qN:=dF fP
 refine kP H (Kc K6 (SQ fun _ K8=>SR fun _ K9=>Rm rfl (Rm rfl (Rc rfl (Kz K9 (Cd rfl ?_ ?_)))))) <;> clear H K6 K9
 ·intro h16 a H
  try have p16:=dT h16
  exact kP H (SR fun _ aZ=>ak aZ rfl (LR results218 rfl fun H=>H.rt (aC vi (Tx (by omega)))))
 intro h16 a H
 try have p16:=dF h16
 refine kP H (Kc K8 (SQ fun _ bN=>SR fun _ bQ=>Rm rfl (Rm rfl (Rc rfl (Kz bQ (Cd rfl ?_ ?_)))))) <;> clear H K8 bQ
 ·intro h19 a H
  try have xM:=dT h19
  exact kP H (SR fun _ bT=>ak bT rfl (LR results218 rfl fun H=>H.rt (aC vi (Tx (by omega)))))
 intro h19 a H
 try have xM:=dF h19
 exact kP H (Kc bN (SR fun _ cu=>ak cu rfl (LR results218 rfl fun H=>H.rt (aC vi (Tx (by omega))))))
end
section
open Go.RowKit
theorem ajW:dV prog 279 0 0:=⟨by kernel_rfl⟩
theorem aiN:∀ args w,(callFunc 218 args).run prog w=.ok (.enter 218 args) w:=enters func218 rfl (by kernel_rfl)
theorem aeM:prog.underlying 329=some (.int .u64):=by kernel_rfl
theorem yJ:dV prog 40 0 0:=⟨by kernel_rfl⟩
theorem aiM:∀ args w,(callFunc 217 args).run prog w=.ok (.enter 217 args) w:=enters func217 rfl (by kernel_rfl)
theorem ZW (G:GH) (w0:World) (hG:Hold G w0) (x:lI) (t:Int):yg prog (.func (.func 217) #[] #[]) [.agg x.cells.toArray,vi t] w0 (bR w0 G fun u G'=>u=vi (Er x.num t)):=by
 refine mU (caps:=[]) aiM ?_;refine eN [(0,_),(1,_)] func217 rfl ntmps217 rfl rfl hG ?_;intro a H;refine dz (fun _ K1=>?_);refine eU (cs:=[_,_,_,_,_,_]) H wn rfl rfl rfl ?_;clear H;intro b2 a w hb2 H;refine kH H (ak K1 rfl (SR fun _ K2=>aW ajW aD 0 rfl rfl (Rm rfl ?_)));clear H K1;intro a H;refine s_call aiN H wn rfl (ahi _ _ H.ro x.num t) rfl ?_;clear H;rintro v8 G8 a w rfl AZ H;exact kH H (ak K2 rfl (LR results217 rfl fun H=>H.rt rfl))
theorem agi (G:GH) (w0:World) (hG:Hold G w0) (l:List lI) (t:Int) (v:aj) (hv:aB G (.sl 6 (l.map lI.dat)) v) (hl:l.length≤4294967296) :
  Calls prog 216 #[v,vi t,.func (.func 217) #[] #[]] w0 (bR w0 G fun u G'=>u=.tuple #[vi (Df (l.map lI.num) t),.bool (Gn (l.map lI.num) t)]):=by
 obtain ⟨A,c,rfl,hc1,hc2,-⟩:=hv.slice;rw [bZ] at *;obtain ⟨p,hp⟩:∃ p:Nat→Bool,p=fun h=>decide (¬ (l.map lI.num).getD h 0 < t):=⟨_,rfl⟩
 have hbs:Df (l.map lI.num) t=Cm p l.length 0 l.length:=by rw [hp,Df,bZ]
 refine eN [(0,_),(1,_),(2,_)] func216 rfl ntmps216 rfl rfl hG ?_;intro a H;refine kP H (SR fun _ K1=>Ra rfl (ak K1 rfl (SR fun _ K2=>Rm rfl (Rl OW rfl (ak K2 rfl (SR fun _ K3=>Rm rfl (Ra rfl (ak K3 rfl (SQ fun _ K4=>SB ?_)))))))));clear H K1 K2 K3;intro a H;skip;refine fH (ι:=Nat × Nat × Nat × GH) (Tc:=[(0,_),(1,_),(2,_),(8,_)]) (Lc:=[]) (fun gh=>[(9,vi gh.1),(10,vi gh.2.1)]) (fun gh=>[]) (fun gh=>gh.2.2.2) (fun gh=>gh.1≤gh.2.1∧gh.2.1≤l.length∧gh.2.1 - gh.1≤gh.2.2.1∧Cm p gh.2.2.1 gh.1 gh.2.1=Df (l.map lI.num) t∧(∀ b o,G b=some o→gh.2.2.2 b=some o)) (fun gh=>gh.2.1 - gh.1) ((0,l.length,l.length,G)) (by exact (H).sub ⟨rfl,rfl,rfl,rfl,rfl,rfl,av⟩) ?_ ?_
 ·exact ⟨iK _,dQ _,Nat.sub_le _ _,hbs.symm,fun _ _ h=>h⟩
 clear H;intro gh a w hI H;obtain ⟨i,j,f,g⟩:=gh;dsimp only at hI H;obtain ⟨hij,hj,hf1,heq,hgm⟩:=hI;have Jv:=hv.mono hgm;dsimp only [lca,aS] at H;refine kP H (SQ fun _ K5=>SR fun _ K6=>Rm rfl (Rm rfl (Rc rfl (Kz K6 (Cd rfl ?_ ?_))))) <;> clear H K6
 ·intro dS a H
  try have mJ:=dT dS
  have hlt:i < j:=by omega
  rw [amZ hf1 hlt] at heq;obtain ⟨m,hm⟩:∃ m,m=(i+j) / 2:=⟨_,rfl⟩;rw [← hm] at heq
  have hml:m < l.length:=by omega
  obtain ⟨b,o,rfl,hrow⟩:=WR Jv hml
  have hpm:p m=decide (¬ l[m].num < t):=by rw [hp];dsimp only;rw [getD_map hml]
  rw [hpm] at heq;refine kP H (Kc K5 (SB (SR fun _ K7=>Rm rfl (Rm rfl (Rd rfl ?_)))));clear H K5;intro a H;rw [show ((i:Int)+(j:Int))=((i+j:Nat):Int) by push_cast;rfl] at H;refine LX ((i+j:Nat):Int) aeM qz H wn rfl (ana (by omega) (by omega)) rfl ?_;clear H;intro a H;refine aef _ H wn rfl rfl rfl (by decide) rfl ?_;clear H;intro a H;rw [amY,← hm] at H;refine LX (m:Int) qz aeM H wn rfl (Ls (by omega) (by omega)) rfl ?_;clear H;intro a H;refine kH H (ak K7 rfl (SR fun _ K8=>Rm rfl (Rm rfl (Rm rfl (Ri OW wI rfl rfl ?_)))));clear H K7;intro a H;refine bD wI (cs:=[_,_,_,_,_,_]) H wn rfl rfl (fun j v hj=>H.hp.aH (hrow j v hj)) rfl ?_;clear H;intro a H;refine kH H (Rm rfl ?_);clear H;intro a H;refine qP H wn rfl rfl (ZW _ _ H.ro l[m] t) rfl ?_;clear H;rintro v30 Fv a w rfl Gx H;refine kH H (Rc rfl (Kz K8 (Cd rfl ?_ ?_))) <;> clear H K8
  ·intro h31 a H
   try have p31:=dT h31
   rw [ah (by simpa using aad.1 p31)] at heq;refine kP H (SC (Rm rfl (Rd rfl (Ra rfl ?_))));clear H;intro a H;refine aI ?_;refine dP ((m+1,j,f - 1,Fv)) (by exact (H).sub ⟨rfl,rfl,rfl,rfl,rfl,rfl,av⟩) ?_ ?_
   ·(try dsimp only);exact ⟨by omega,hj,by omega,heq,fun b o h=>Gx b o (hgm b o h)⟩
   first|omega|(dsimp only;omega)
  intro h31 a H
  try have p31:=dF h31
  rw [au (by simpa using fun h=>p31 (aad.2 h))] at heq;refine kP H (SC (Rm rfl (Ra rfl ?_)));clear H;intro a H;refine aI ?_;refine dP ((i,m,f - 1,Fv)) (by exact (H).sub ⟨rfl,rfl,rfl,rfl,rfl,rfl,av⟩) ?_ ?_
  ·(try dsimp only);exact ⟨by omega,by omega,by omega,heq,fun b o h=>Gx b o (hgm b o h)⟩
  first|omega|(dsimp only;omega)
 intro dS a H
 try have mJ:=dF dS
 refine eD ?_;refine K4 _ _ ?_;clear K4;refine aO (fun _ K9=>?_);rw [amX (by omega)] at heq;refine kP H (SC (Rm rfl (Rm rfl (Rm rfl (Rc rfl (Rm rfl (Sp 39 rfl ?_ ?_))))))) <;> clear H
 ·intro kT a H
  try have p39:=dT kT
  have hil:i < l.length:=by omega
  obtain ⟨b,o,rfl,hrow⟩:=WR Jv hil;refine kH H (YM kT rfl (YM kT rfl (YM kT rfl (YI OW wI kT rfl rfl ?_))));clear H;intro a H;refine bD wI (cs:=[_,_,_,_,_,_]) H (wg H rfl rfl kT) rfl rfl (fun j v hj=>H.hp.aH (hrow j v hj)) rfl ?_;clear H;intro a H;refine kH H (YM kT rfl ?_);clear H;intro a H;refine qP H (wg H rfl rfl kT) rfl rfl (ZW _ _ H.ro l[i] t) rfl ?_;clear H;rintro v46 Ph a w rfl yQ H;refine kH H (YC kT rfl (Pt kT rfl (Ra rfl (aM K9 rfl ?_))));clear H K9;intro a H;refine dM ?_;refine (gN H results216 (.cons (bP H rfl) (.cons (bP H rfl) .nil)) ?_).1;exact H.rt (by rw [akY heq.symm (by rw [bZ];omega),← heq];simp)
 intro kT a H
 try have p39:=dF kT
 refine kH H (aT kT rfl (aT kT rfl (aP kT rfl (Pf kT rfl (Ra rfl (aM K9 rfl ?_))))));clear H K9;intro a H;refine dM ?_;refine (gN H results216 (.cons (bP H rfl) (.cons (bP H rfl) .nil)) ?_).1;exact H.rt (by rw [ala heq.symm (by rw [bZ];omega),← heq])
end
section
open Go.RowKit
theorem P9:∀ args w,(callFunc 85 args).run prog w=.ok (.enter 85 args) w:=enters func85 rfl (by kernel_rfl)
theorem Nb:∀ args w,(callFunc 162 args).run prog w=.ok (.enter 162 args) w:=enters func162 rfl (by kernel_rfl)
theorem iW:Ty prog 54 2 16 [.int .i64 0,.int .i64 0] true:=⟨by kernel_rfl,by kernel_rfl⟩
theorem J4:Ty prog 251 1 8 [.nilFunc] false:=⟨by kernel_rfl,by kernel_rfl⟩
theorem JZ:uP prog 54 [(0,1),(1,1)] [.int .i64 0,.int .i64 0]:=⟨by kernel_rfl,by kernel_rfl⟩
theorem aau:∀ args w,(callFunc 163 args).run prog w=.ok (.enter 163 args) w:=enters func163 rfl (by kernel_rfl)
theorem TT:∀ args w,(callFunc 205 args).run prog w=.ok (.enter 205 args) w:=enters func205 rfl (by kernel_rfl)
def sZ (x:ay):Nat:=if x.kind=1 then yE x.text else 1
mutual
def vI (flow at_:Int):ay→List ((Int × Int) × ay)
 | .mk k c i t h f r=>if k=6 then ((flow,at_),.mk k c i t h f r) :: eZ i 0 f else if k=7 then ((flow,at_),.mk k c i t h f r) :: nL r else []
/-- The notes and tables of a flow, and those in them, with their positions. -/
def eZ (flow:Int):Int→List ay→List ((Int × Int) × ay)
 | _,[]=>[]
 | at_,x :: l=>vI flow at_ x++eZ flow (at_+sZ x) l
def nL:List bJ→List ((Int × Int) × ay)
 | []=>[]
 | r :: l=>xP r++nL l
def xP:bJ→List ((Int × Int) × ay)
 | .mk _ cs=>jm cs
def jm:List bB→List ((Int × Int) × ay)
 | []=>[]
 | c :: l=>wC c++jm l
def wC:bB→List ((Int × Int) × ay)
 | .mk i _ f=>eZ i 0 f
end
def lS (x:ay):List bB:=if x.kind=7 then x.rows.flatMap bJ.cells else [.mk x.id ⟨[],⟨0,0,[],[]⟩⟩ x.flow]
theorem adz (x:bB):wC x=eZ x.id 0 x.flow:=by cases x;simp [wC,bB.id,bB.flow]
theorem adC (x:bJ):xP x=jm x.cells:=by cases x;simp [xP,bJ.cells]
theorem adA:∀ a b:List bB,jm (a++b)=jm a++jm b
 | [],b=>by simp [jm]
 | x :: a,b=>by simp [jm,adA a b]
theorem adD:∀ l:List bJ,nL l=jm (l.flatMap bJ.cells)
 | []=>by simp [nL,jm]
 | x :: l=>by simp [nL,adC,adA,adD l]
theorem LP (flow at_:Int) (x:ay):vI flow at_ x=if x.kind=6∨x.kind=7 then ((flow,at_),x) :: jm (lS x) else []:=by
 obtain ⟨k,c,i,t,h,f,r⟩:=x
 simp only [vI,lS,ay.kind,ay.rows,ay.id,ay.flow]
 by_cases h6:k=6
 ·subst h6;simp [jm,wC]
 by_cases h7:k=7
 ·subst h7;simp [adD]
 simp [h6,h7]
theorem acQ {x:ay} {c:bB} (h:c∈lS x):bM c.flow < dG x.dat:=by
 have h4:=oK x
 unfold lS at h
 split at h
 ·obtain ⟨r,hr,hc⟩:=List.mem_flatMap.1 h;have h1:=Yt hr;have h2:=Yo hc;have h3:=uN r;have h5:=uM c
  omega
 rw [uo.1 h];show bM x.flow < _;omega
def xQ (a:(Int × Int) × ay):AP:=fun args g=>∃ cs,args=[.agg #[vi a.1.1,vi a.1.2],.agg cs.toArray]∧bH g a.2.dat cs
theorem wD {A:List ((Int × Int) × ay)} {k:Nat} {args:List aj} {g:GH} (h:zu (A.map xQ) k args g):∃ (hk:k < A.length) (cs:List aj),args=[.agg #[vi A[k].1.1,vi A[k].1.2],.agg cs.toArray]∧bH g A[k].2.dat cs:=by
 obtain ⟨p,hp,hargs⟩:=h;rw [qY] at hp;obtain ⟨q,hq,rfl⟩:=qC.1 hp;obtain ⟨hk,rfl⟩:=mM.1 hq;exact ⟨hk,hargs⟩
def Ki (n:Nat):Prop:=∀ (G:GH) (l:List ay) (id:Int) (bl bi:Nat) (v:aj),bM l < n→aH G bl 0=some v→aH G bi 0=some (vi id)→aB G (.sl 11 (l.map ay.dat)) v →
 Iter prog G (.func (.func 162) #[] #[(aK bl 0),(aK bi 0)]) ((eZ id 0 l).map xQ)
theorem Xv {n:Nat} (ih:Ki n) (G:GH) (w0:World) (hG:Hold G w0) (l:List ay) (id:Int) (v:aj) (hz:bM l < n) (hv:aB G (.sl 11 (l.map ay.dat)) v) :
  Calls prog 85 #[vi id,v] w0 (bR w0 G fun u G'=>∃ bl bi,u=.func (.func 162) #[] #[(aK bl 0),(aK bi 0)]∧Iter prog G' u ((eZ id 0 l).map xQ)):=by
 obtain ⟨A,c,rfl,hc1,hc2,hg⟩:=hv.slice;refine eN [(0,_),(1,_)] func85 rfl ntmps85 rfl rfl hG ?_;intro a H;refine dz (fun _ K1=>?_);refine eU (cs:=[_]) H wn rfl rfl rfl ?_;clear H;intro b2 a w hb2 H;refine eU (cs:=[_]) H wn rfl rfl rfl ?_;clear H;intro b3 a w hb3 H;refine kH H (ak K1 rfl (SR fun _ K2=>?_));clear H K1;intro a H;refine qR H wn rfl rfl ?_;clear H;intro a H;refine kH H (ak K2 rfl ?_);clear H K2;intro a H;refine dM ?_;obtain ⟨G2,hm2,hb3,H⟩:=H.fD;obtain ⟨G3,sM,hb2,H⟩:=H.fD;refine lv H results85 rfl ?_;exact H.rt ⟨b3,b2,rfl,ih _ _ _ _ _ _ hz (aF sM (by unfold aH;rw [hb3];rfl)) (by unfold aH;rw [hb2];rfl) (hv.mono fun b o h=>sM _ _ (hm2 _ _ h))⟩
theorem UA:∀ l:List bJ,(l.flatMap bJ.cells).length≤fq l
 | []=>dQ _
 | x :: l=>by
  have h1:=UA l;have h2:=Fh x.cells;have h3:=uN x
  simp only [List.flatMap_cons,lJ,fq,fJ,fB] at *;omega
theorem arT (l:List bJ) (k:Nat):fq (l.take k)≤fq l:=by
 have h:fq l=fq (l.take k++l.drop k):=by rw [List.take_append_drop]
 rw [h];simp only [fq,nP,RX];omega
theorem Xr (c:bB) (l:List bB):jm (c :: l)=eZ c.id 0 c.flow++jm l:=by rw [jm,adz]
set_option maxHeartbeats 1000000 in
theorem arI {n:Nat} (ih:Ki n) (hn:n≤4294967296) {G:GH} {x:ay} {bx:Nat} {cs:List aj} (hsz:dG x.dat≤n) (hb:G bx=some (.cells cs.toArray 35 (0,0))) (hv:bH G x.dat cs) :
  Iter prog G (.func (.func 205) #[] #[(aK bx 0)]) ((jm (lS x)).map xQ):=by
 intro J Jx fv G1 L w0 Ce hGi nk hJx hJ hO hcb;refine mU (caps:=[(aK bx 0)]) TT ?_;obtain ⟨pA,pn,pc,dA,dn,dc,yA,yn,yc,fA,fn,fc,rA,rn,rc,rfl,hh,hf,hr⟩:=hv.item;have hsz1:=oK x;have hrn:=hr.len;rw [bZ] at hrn;subst hrn;have hrs:=Fp x.rows
 have hrow:∀ j u,[vi x.kind,vi x.code,vi x.id,.string x.text,.slice pA pn pc,vi x.head.marks.ins,vi x.head.marks.move,.slice dA dn dc,.slice yA yn yc,.slice fA fn fc,.slice rA x.rows.length rc][j]?=some u→aH G1 bx (0+j)=some u:=by
  intro j u hj;refine aF hGi ?_
  unfold aH;rw [hb];simpa using hj
 have hfc:aH G1 bx 0=some (vi x.kind)∧aH G1 bx 2=some (vi x.id)∧aH G1 bx 9=some (.slice fA fn fc)∧aH G1 bx 10=some (.slice rA x.rows.length rc):=⟨hrow 0 _ rfl,hrow 2 _ rfl,hrow 9 _ rfl,hrow 10 _ rfl⟩;obtain ⟨hc0,hc2,hc9,asM⟩:=hfc
 have hml:4294967297≤maxLen:=by decide
 refine mH (N:=50) (T:=[(0,_),(1,_)]) func205 rfl ntmps205 rfl rfl hO ?_;intro a H;refine dz (fun _ K1=>?_);refine eU (cs:=[fv]) H wn rfl Ce rfl ?_;clear H;intro b2 a w hb2 H;refine K1 _ _ ?_;clear K1;refine kP H (SR fun _ K2=>Rf qg rfl (Rg aD rfl (by assumption) ?_));clear H;intro a H;refine kH H (Rf yI rfl (Rg iM rfl (by assumption) ?_));clear H;intro a H;refine lY XL [_,_,_,_,_,_,_] H wn rfl rfl rfl rfl ?_;clear H;intro a H;refine jF kV iy [_,_,_,_,_,_,_] [_,_,_,_,_,_,_] H wn rfl rfl rfl rfl rfl (by intro i q h;match i,h with|0,h=>exact h|n+1,h=>simp at h) rfl rfl ?_;clear H;intro b15 a w Vv H;refine kH H (ak K2 rfl (SQ fun _ K3=>SR fun _ K4=>Rf gG rfl (Rg aD rfl (by assumption) ?_)));clear H K2;intro a H;refine kH H (Rc rfl (Kz K4 (Cd rfl ?_ ?_))) <;> clear H K4
 ·intro h18 a H
  try have sO:=dT h18
  refine kP H (SR fun _ K5=>ak K5 rfl (SR fun _ K6=>Rf rC rfl (Rg rR rfl (by assumption) ?_)));clear H K5;intro a H;refine kH H (Rl jH rfl (Rm rfl (Kz K6 (SB ?_))));clear H K6;intro a H;skip;refine fH (ι:=Nat × aj × List aj × OL) (Tc:=[(2,_),(20,_),(21,_)]) (Lc:=[(_,_)]) (fun gh=>[(3,gh.2.1),(22,vi gh.1)]) (fun gh=>[]++(L++gh.2.2.2)) (fun gh=>G1) (fun gh=>gh.1≤x.rows.length∧iP 174 7 gh.2.1 ((x.rows.take gh.1).flatMap bJ.cells).length gh.2.2.1 gh.2.2.2∧ji G1 7 (((x.rows.take gh.1).flatMap bJ.cells).map bB.dat) gh.2.2.1) (fun gh=>x.rows.length - gh.1) ((0,.slice none 0 0,[],[])) (by exact (St.Rj (A:=[_]) (H.dK (Pl:=[_,_]) (dw:=[_]) [1] (by decide) rfl)).sub ⟨rfl,rfl,rfl,rfl,rfl,av⟩) ?_ ?_
  ·exact ⟨by omega,iP.nil,by simpa using ji.nil⟩
  clear H;intro gh a w hI H;obtain ⟨rk,v3,xs,Lo⟩:=gh;dsimp only at hI H;obtain ⟨QT,hrw3,kD⟩:=hI;dsimp only [lca,aS] at H;refine kP H (SR fun _ K7=>Rc rfl (Kz K7 (SQ fun _ K8=>Cd rfl ?_ ?_))) <;> clear H K7
  ·intro h23 a H
   try have DU:=dT h23
   have hk2:rk < x.rows.length:=by omega
   obtain ⟨b,o,qA,qn,qc,eA,en,ec,zA,zn,zc,cA,cn,cc,rfl,hrow,DJ,hcl⟩:=GV hk2 hr.at_;replace hrow:=fun j u hj=>aF hGi (hrow j u hj);have abE:=hcl.len;rw [bZ] at abE;subst abE;have hsz2:=UA (x.rows.take (rk+1));have Ju:=arT x.rows (rk+1);rw [jZ hk2,List.flatMap_append,lJ,List.flatMap_singleton] at hsz2;rw [jZ hk2] at Ju;refine kP H (Kc K8 (SQ fun _ K9=>SB (SR fun _ aZ=>Ri jH iI rfl rfl ?_)));clear H K8;intro a H;refine bD iI (cs:=[_,_,_,_,_,_]) H wn rfl rfl (fun j v hj=>H.hp.aH (hrow j v hj)) rfl ?_;clear H;intro a H;refine dR iI H wn rfl ?_;clear H;intro b5 a w hb5 H;refine bO iI 0 (vs:=[_,_,_,_,_,_]) _ H wn rfl rfl rfl rfl rfl rfl rfl rfl ?_;clear H;intro w H;dsimp only [List.set,setRow] at H;refine aZ _ _ ?_;clear aZ;refine kP H (SC (Rm rfl (aW qG qU 0 rfl rfl ?_)));clear H;intro a H;refine JW (Li:=[_,_]++L) (Lo:=Lo) kV iy rfl rfl (St.un (A:=[_,_]) H) wn rfl rfl hrw3 (hcl.mono hGi) (by omega) (by omega) rfl ?_;clear H;intro v29 afG news a w amx hcn H;refine kH H (Ra rfl ?_);clear H;intro a H;refine aI ?_;replace H:=H.assoc.dK (Pl:=[_,_]) (dw:=[_]) [1] (by decide) rfl;refine K9 _ _ ?_;clear K9;refine kP H (SC (Rd rfl (Rm rfl ?_)));clear H;intro a H;refine aI ?_;refine dP ((rk+1,v29,xs++news,afG)) (by exact H.sub ⟨rfl,rfl,rfl,rfl,rfl,av⟩) ?_ ?_
   ·(try dsimp only);exact ⟨by omega,by rw [jZ hk2,List.flatMap_append,lJ,List.flatMap_singleton];exact amx,by rw [jZ hk2,List.flatMap_append,nP,List.flatMap_singleton];exact kD.append hcn⟩
   first|omega|(dsimp only;omega)
  intro h23 a H
  try have DU:=dF h23
  have amt:rk=x.rows.length:=by omega
  subst amt;rw [Db] at hrw3 kD;obtain ⟨G3,sM,hin,H⟩:=(St.un (A:=[_]) H).zM (rows:=((x.rows.flatMap bJ.cells)).map bB.dat) hrw3 (by simp) kD
  replace hin:aB G3 (.sl 7 ((lS x).map bB.dat)) v3:=by rw [lS,au sO];exact hin
  obtain ⟨iA,ni,ic,rfl⟩:=hin.form;have V3:=hin.len;rw [bZ] at V3
  have hisz:(lS x).length≤4294967296:=by
   have h1:=UA x.rows;rw [lS,au sO];omega
  refine eD ?_;refine K3 _ _ ?_;clear K3;refine kP H (SR fun _ bN=>Rm rfl (Rl kV rfl (Rm rfl (Kz bN (SB ?_)))));clear H bN;intro a H;skip;refine PN (ι:=Nat × Nat × OL × GH × List Nat) (Tc:=[(2,_),(31,_),(32,_)]) (Lc:=[(_,_)]) (fun gh=>LJ gh.2.2.2.2) (fun gh=>[(33,vi gh.1)]) (fun gh=>[]++(nu gh.2.2.2.2++gh.2.2.1)) (fun gh=>gh.2.2.2.1) (fun gh=>gh.1≤(lS x).length∧(∀ b o,G3 b=some o→gh.2.2.2.1 b=some o)∧Now ((jm (lS x)).map xQ) xQ J (jm (lS x)).length gh.2.1 (jm ((lS x).drop gh.1)) gh.2.2.2.1 gh.2.2.1) (fun gh=>(lS x).length - gh.1) ((0,0,L,G3,[])) (by exact (H).sub ⟨rfl,rfl,rfl,rfl,av⟩) ?_ ?_
  ·exact ⟨by omega,fun _ _ h=>h,⟨nk _ _ _ _ sM hJ,fun i a h=>by rw [pz,qY];rw [lK] at h;rw [h];rfl,by simp⟩⟩
  clear H;intro gh a w hI H;obtain ⟨ck,j1,Lt,g,ds⟩:=gh;dsimp only at hI H;obtain ⟨hck,hgm,cO⟩:=hI;dsimp only [lca,aS] at H;refine kP H (SR fun _ bQ=>Rc rfl (Kz bQ (SQ fun _ bT=>Cd rfl ?_ ?_))) <;> clear H bQ
  ·intro fQ a H
   try have p34:=dT fQ
   have hk3:ck < (lS x).length:=by omega
   obtain ⟨b,o,sA,sn,sc,tA,tn,tc,uA,un,uc,gA,gn,gc,VK,hrow,hch,hcf⟩:=Eo hk3 hin.at_;subst VK;replace hrow:=fun j u hj=>aF hgm (hrow j u hj);rw [kR hk3,Xr] at cO;refine kP H (Kc bT (SQ fun _ cu=>SB (SR fun _ dL=>Ri kV iy rfl rfl ?_)));clear H bT;intro a H;refine bD iy (cs:=[_,_,_,_,_,_,_]) H wn rfl rfl (fun j v hj=>H.hp.aH (hrow j v hj)) rfl ?_;clear H;intro a H;refine dR iy H wn rfl ?_;clear H;intro b7 a w tV H;refine bO iy 0 (vs:=[_,_,_,_,_,_,_]) _ H wn rfl rfl rfl rfl rfl rfl rfl rfl ?_;clear H;intro w H;dsimp only [List.set,setRow] at H;refine dL _ _ ?_;clear dL;refine kP H (SR fun _ dO=>aW AO aD 0 rfl rfl (aW AQ iM 0 rfl rfl ?_));clear H;intro a H;refine s_call P9 H wn rfl (Xv ih _ _ H.ro (lS x)[ck].flow (lS x)[ck].id _ (by have:=acQ (jr hk3);omega) (hcf.mono hgm)) rfl ?_;clear H;rintro v41 Mt a w ⟨bl,bi,rfl,hit⟩ Dx H;refine dO _ _ ?_;clear dO;refine sw ?_;skip;refine AA (ι:=OL) (κ:=OL) (Lc:=[(_,_),(_,_)]) (fun (k:Nat) (gh:OL)=>[]) (fun (k:Nat) (gh:OL)=>(nu ds++gh)) (fun (k:Nat) (gh:OL) (g:GH)=>J (j1+k) g gh) (fun (gx:OL)=>Code.ret) (fun (gx:OL)=>[]) (fun (gx:OL)=>(nu ds++gx)) (fun (gx:OL) (g:GH)=>Jx g gx) (Lt) (by exact H) rfl Nb (hit) (fun _ _ h=>h) rfl (fun k args g h=>by obtain ⟨_,_,rfl,_⟩:=wD h;rfl) (fun k i G G' hm h=>nk _ _ _ _ hm h) (fun x G G' hm h=>hJx _ _ _ hm h) (nk _ _ _ _ Dx cO.now) ?_ ?_ ?_
   ·clear H;intro l13 uL sj bk k args gh CQ w13 F13 B13 a VN uI hI Vy VY Wm H;obtain ⟨qX,hgh⟩:∃ x,x=gh:=⟨_,rfl⟩;subst hgh;obtain ⟨hk,Iw,rfl,rM⟩:=wD VN;obtain ⟨aA,an,ac,bA,bn,bc,Iy,IB,Iz,IC,II,IE,Jz,JC,JA,rfl,-⟩:=rM.item;dsimp only [ru,List.cons_append,List.nil_append] at H;refine dz (fun _ dJ=>?_);refine dR iW H wn rfl ?_;clear H;intro b8 a w xE H;refine bO iW 0 (vs:=[_,_]) _ H wn rfl rfl rfl rfl rfl rfl rfl rfl ?_;clear H;intro w H;dsimp only [List.set,setRow] at H;refine dJ _ _ ?_;clear dJ;refine oD ?_;refine dR dB H wn rfl ?_;clear H;intro b9 a w uG H;refine bO dB 0 (vs:=[_,_,_,_,_,_,_,_,_,_,_]) _ H wn rfl rfl rfl rfl rfl rfl rfl rfl ?_;clear H;intro w H;dsimp only [List.set,setRow] at H;refine aI ?_;refine Vy _ _ _ _ _ _ (by exact H.dK (Pl:=[_,_,_,_,_]) (dw:=[_,_,_,_,_]) [2,0,1,3,4] (by decide) rfl) ?_;clear H;intro w H;refine kP H (SB (SR fun _ dW=>Ro J4 4 rfl ?_));clear H;intro a H;refine bD iW (cs:=[_,_]) H wn rfl rfl (H.hp.eu 2 rfl rfl) rfl ?_;clear H;intro a H;refine bD dB (cs:=[_,_,_,_,_,_,_,_,_,_,_]) H wn rfl rfl (H.hp.eu 1 rfl rfl) rfl ?_;clear H;intro a H;refine xU (Li:=([_,_,_,_,_]++bk)++nu ds) (L:=qX) (St.un (A:=[_,_,_,_,_]++bk) (St.un (A:=[_,_,_,_,_]) H)) wn rfl rfl (hcb (j1+k) _ _ _ _ ⟨_,cO.part k _ (gD hk),_,rfl,rM⟩ (fun b o h=>uI b o (Dx b o (hgm b o (sM b o h)))) hI (Hp.owns (Li:=([_,_,_,_,_]++bk)++nu ds) (St.un (A:=[_,_,_,_,_]++bk) (St.un (A:=[_,_,_,_,_]) H)).hp)) rfl ?_;clear H;rintro v47 Sy MG a w ⟨b47,rfl,hb1,hb2⟩ alY H
    simp only [mG,nV,mo] at H
    refine kH H (Rn rfl (Kz dW (Cd rfl ?_ ?_))) <;> clear H dW
    ·intro h48 a H
     refine dM ?_;refine (Wm (MG) _ _ _ _ _ (by exact H.dK (Pl:=[_,_,_,_,_]) (dw:=[_,_,_]) [0,3,4] (by decide) rfl) ?_).1 rfl;exact hb2 (by simpa using h48)
    intro h48 a H
    refine fI ?_;refine VY (MG) _ _ _ _ _ (by exact H.dK (Pl:=[_,_,_,_,_]) (dw:=[_,_,_]) [0,3,4] (by decide) rfl) ?_;exact hb1 (by simpa using h48)
   ·clear H;intro Ml gh Mv a w uI hI H;obtain ⟨qX,hgh⟩:∃ x,x=gh:=⟨_,rfl⟩;subst hgh;dsimp only [lca,aS] at H;refine cu _ _ ?_;clear cu;refine kP H (SC (Rd rfl (Rm rfl ?_)));clear H;intro a H;refine aI ?_;refine JJ ((ck+1,j1+(eZ (lS x)[ck].id 0 (lS x)[ck].flow).length,qX,Mv,Ml :: ds)) (by exact (H.dK (Pl:=[_,_,_]) (dw:=[_,_]) [2,0] (by decide) rfl).sub ⟨rfl,rfl,rfl,rfl,av⟩) ?_ ?_
    ·(try dsimp only);exact ⟨by omega,fun b o h=>uI b o (Dx b o (hgm b o h)),cO.jump (by simpa using hI)⟩
    first|omega|(dsimp only;omega)
   clear H;intro Ml gx Mv a w uI hI H;obtain ⟨Lx,hgh⟩:∃ x,x=gx:=⟨_,rfl⟩;subst hgh;dsimp only [lca,aS] at H;refine dM ?_;refine (uK H 0 rfl ?_).1;clear H;intro a w H;dsimp only [List.eraseIdx_cons_succ,List.eraseIdx_cons_zero] at H;refine (Bf (Lh:=[_,_]) _ H ?_).1;clear H;intro a w H;dsimp only [lca,aS] at H;refine (leave0 H results205 ?_).1
   first
    | exact H.hp.dh (L':=Lx) (by repeat (first|exact dx _|apply List.Sublist.cons)) (.inr hI)
    | exact H.hp.dh (L':=Lt) (by repeat (first|exact dx _|apply List.Sublist.cons)) (.inl (by rw [gy (by omega),jm] at cO;have:=cO.len;simp only [List.length_nil,ou] at this;rw [bZ,← this];exact cO.now))
  intro fQ a H
  try have p34:=dF fQ
  refine eD ?_;refine (Bf (Lh:=[_]) _ H ?_).2;clear H;intro a w H;dsimp only [lca,aS] at H;refine (leave0 H results205 ?_).1
  first
   | exact H.hp.dh (L':=Lx) (by repeat (first|exact dx _|apply List.Sublist.cons)) (.inr hI)
   | exact H.hp.dh (L':=Lt) (by repeat (first|exact dx _|apply List.Sublist.cons)) (.inl (by rw [gy (by omega),jm] at cO;have:=cO.len;simp only [List.length_nil,ou] at this;rw [bZ,← this];exact cO.now))
 intro h18 a H
 try have sO:=dF h18
 obtain ⟨G3,sM,hin,H⟩:=H.Nt (sz:=7) (d:=(bB.mk x.id ⟨[],⟨0,0,[],[]⟩⟩ x.flow).dat) rfl (bH.Ox (x:=bB.mk x.id ⟨[],⟨0,0,[],[]⟩⟩ x.flow) ⟨aB.jP rfl (by decide),aB.jP rfl (by decide),aB.jP rfl (by decide)⟩ (hf.mono hGi))
 replace hin:aB G3 (.sl 7 ((lS x).map bB.dat)) (.slice (some ⟨b15,0,none⟩) 1 1):=by rw [lS,ah sO];exact hin
 obtain ⟨iA,hiA⟩:∃ z,z=some (Addr.mk b15 0 none):=⟨_,rfl⟩;obtain ⟨ni,hni⟩:∃ z,z=1:=⟨_,rfl⟩;obtain ⟨ic,hic⟩:∃ z,z=1:=⟨_,rfl⟩;rw [← hiA] at hin H;have V3:=hin.len;rw [bZ] at V3
 have hisz:(lS x).length≤4294967296:=by omega
 refine kP H (Kc K3 (SR fun _ eG=>Rm rfl (Rl kV rfl (Rm rfl (Kz eG (SB ?_))))));clear H K3 eG;intro a H;skip;refine PN (ι:=Nat × Nat × OL × GH × List Nat) (Tc:=[(2,_),(31,_),(32,_)]) (Lc:=[(_,_)]) (fun gh=>LJ gh.2.2.2.2) (fun gh=>[(33,vi gh.1)]) (fun gh=>[]++(nu gh.2.2.2.2++gh.2.2.1)) (fun gh=>gh.2.2.2.1) (fun gh=>gh.1≤(lS x).length∧(∀ b o,G3 b=some o→gh.2.2.2.1 b=some o)∧Now ((jm (lS x)).map xQ) xQ J (jm (lS x)).length gh.2.1 (jm ((lS x).drop gh.1)) gh.2.2.2.1 gh.2.2.1) (fun gh=>(lS x).length - gh.1) ((0,0,L,G3,[])) (by exact (H).sub ⟨rfl,rfl,rfl,rfl,av⟩) ?_ ?_
 ·exact ⟨by omega,fun _ _ h=>h,⟨nk _ _ _ _ sM hJ,fun i a h=>by rw [pz,qY];rw [lK] at h;rw [h];rfl,by simp⟩⟩
 clear H;intro gh a w hI H;obtain ⟨ck,j1,Lt,g,ds⟩:=gh;dsimp only at hI H;obtain ⟨hck,hgm,cO⟩:=hI;dsimp only [lca,aS] at H;refine kP H (SR fun _ eB=>Rc rfl (Kz eB (SQ fun _ eH=>Cd rfl ?_ ?_))) <;> clear H eB
 ·intro fQ a H
  try have p34:=dT fQ
  have hk3:ck < (lS x).length:=by omega
  obtain ⟨b,o,sA,sn,sc,tA,tn,tc,uA,un,uc,gA,gn,gc,VK,hrow,hch,hcf⟩:=Eo hk3 hin.at_;subst VK;replace hrow:=fun j u hj=>aF hgm (hrow j u hj);rw [kR hk3,Xr] at cO;refine kP H (Kc eH (SQ fun _ fO=>SB (SR fun _ gJ=>Ri kV iy rfl rfl ?_)));clear H eH;intro a H;refine bD iy (cs:=[_,_,_,_,_,_,_]) H wn rfl rfl (fun j v hj=>H.hp.aH (hrow j v hj)) rfl ?_;clear H;intro a H;refine dR iy H wn rfl ?_;clear H;intro b7 a w tV H;refine bO iy 0 (vs:=[_,_,_,_,_,_,_]) _ H wn rfl rfl rfl rfl rfl rfl rfl rfl ?_;clear H;intro w H;dsimp only [List.set,setRow] at H;refine gJ _ _ ?_;clear gJ;refine kP H (SR fun _ gT=>aW AO aD 0 rfl rfl (aW AQ iM 0 rfl rfl ?_));clear H;intro a H;refine s_call P9 H wn rfl (Xv ih _ _ H.ro (lS x)[ck].flow (lS x)[ck].id _ (by have:=acQ (jr hk3);omega) (hcf.mono hgm)) rfl ?_;clear H;rintro v41 Mt a w ⟨bl,bi,rfl,hit⟩ Dx H;refine gT _ _ ?_;clear gT;refine sw ?_;skip;refine AA (ι:=OL) (κ:=OL) (Lc:=[(_,_),(_,_)]) (fun (k:Nat) (gh:OL)=>[]) (fun (k:Nat) (gh:OL)=>(nu ds++gh)) (fun (k:Nat) (gh:OL) (g:GH)=>J (j1+k) g gh) (fun (gx:OL)=>Code.ret) (fun (gx:OL)=>[]) (fun (gx:OL)=>(nu ds++gx)) (fun (gx:OL) (g:GH)=>Jx g gx) (Lt) (by exact H) rfl Nb (hit) (fun _ _ h=>h) rfl (fun k args g h=>by obtain ⟨_,_,rfl,_⟩:=wD h;rfl) (fun k i G G' hm h=>nk _ _ _ _ hm h) (fun x G G' hm h=>hJx _ _ _ hm h) (nk _ _ _ _ Dx cO.now) ?_ ?_ ?_
  ·clear H;intro l13 uL sj bk k args gh CQ w13 F13 B13 a VN uI hI Vy VY Wm H;obtain ⟨qX,hgh⟩:∃ x,x=gh:=⟨_,rfl⟩;subst hgh;obtain ⟨hk,Iw,rfl,rM⟩:=wD VN;obtain ⟨aA,an,ac,bA,bn,bc,Iy,IB,Iz,IC,II,IE,Jz,JC,JA,rfl,-⟩:=rM.item;dsimp only [ru,List.cons_append,List.nil_append] at H;refine dz (fun _ gM=>?_);refine dR iW H wn rfl ?_;clear H;intro b8 a w xE H;refine bO iW 0 (vs:=[_,_]) _ H wn rfl rfl rfl rfl rfl rfl rfl rfl ?_;clear H;intro w H;dsimp only [List.set,setRow] at H;refine gM _ _ ?_;clear gM;refine oD ?_;refine dR dB H wn rfl ?_;clear H;intro b9 a w uG H;refine bO dB 0 (vs:=[_,_,_,_,_,_,_,_,_,_,_]) _ H wn rfl rfl rfl rfl rfl rfl rfl rfl ?_;clear H;intro w H;dsimp only [List.set,setRow] at H;refine aI ?_;refine Vy _ _ _ _ _ _ (by exact H.dK (Pl:=[_,_,_,_,_]) (dw:=[_,_,_,_,_]) [2,0,1,3,4] (by decide) rfl) ?_;clear H;intro w H;refine kP H (SB (SR fun _ jh=>Ro J4 4 rfl ?_));clear H;intro a H;refine bD iW (cs:=[_,_]) H wn rfl rfl (H.hp.eu 2 rfl rfl) rfl ?_;clear H;intro a H;refine bD dB (cs:=[_,_,_,_,_,_,_,_,_,_,_]) H wn rfl rfl (H.hp.eu 1 rfl rfl) rfl ?_;clear H;intro a H;refine xU (Li:=([_,_,_,_,_]++bk)++nu ds) (L:=qX) (St.un (A:=[_,_,_,_,_]++bk) (St.un (A:=[_,_,_,_,_]) H)) wn rfl rfl (hcb (j1+k) _ _ _ _ ⟨_,cO.part k _ (gD hk),_,rfl,rM⟩ (fun b o h=>uI b o (Dx b o (hgm b o (sM b o h)))) hI (Hp.owns (Li:=([_,_,_,_,_]++bk)++nu ds) (St.un (A:=[_,_,_,_,_]++bk) (St.un (A:=[_,_,_,_,_]) H)).hp)) rfl ?_;clear H;rintro v47 Sy MG a w ⟨b47,rfl,hb1,hb2⟩ alY H
   simp only [mG,nV,mo] at H
   refine kH H (Rn rfl (Kz jh (Cd rfl ?_ ?_))) <;> clear H jh
   ·intro h48 a H
    refine dM ?_;refine (Wm (MG) _ _ _ _ _ (by exact H.dK (Pl:=[_,_,_,_,_]) (dw:=[_,_,_]) [0,3,4] (by decide) rfl) ?_).1 rfl;exact hb2 (by simpa using h48)
   intro h48 a H
   refine fI ?_;refine VY (MG) _ _ _ _ _ (by exact H.dK (Pl:=[_,_,_,_,_]) (dw:=[_,_,_]) [0,3,4] (by decide) rfl) ?_;exact hb1 (by simpa using h48)
  ·clear H;intro Ml gh Mv a w uI hI H;obtain ⟨qX,hgh⟩:∃ x,x=gh:=⟨_,rfl⟩;subst hgh;dsimp only [lca,aS] at H;refine fO _ _ ?_;clear fO;refine kP H (SC (Rd rfl (Rm rfl ?_)));clear H;intro a H;refine aI ?_;refine JJ ((ck+1,j1+(eZ (lS x)[ck].id 0 (lS x)[ck].flow).length,qX,Mv,Ml :: ds)) (by exact (H.dK (Pl:=[_,_,_]) (dw:=[_,_]) [2,0] (by decide) rfl).sub ⟨rfl,rfl,rfl,rfl,av⟩) ?_ ?_
   ·(try dsimp only);exact ⟨by omega,fun b o h=>uI b o (Dx b o (hgm b o h)),cO.jump (by simpa using hI)⟩
   first|omega|(dsimp only;omega)
  clear H;intro Ml gx Mv a w uI hI H;obtain ⟨Lx,hgh⟩:∃ x,x=gx:=⟨_,rfl⟩;subst hgh;dsimp only [lca,aS] at H;refine dM ?_;refine (uK H 0 rfl ?_).1;clear H;intro a w H;dsimp only [List.eraseIdx_cons_succ,List.eraseIdx_cons_zero] at H;refine (Bf (Lh:=[_,_]) _ H ?_).1;clear H;intro a w H;dsimp only [lca,aS] at H;refine (leave0 H results205 ?_).1
  first
   | exact H.hp.dh (L':=Lx) (by repeat (first|exact dx _|apply List.Sublist.cons)) (.inr hI)
   | exact H.hp.dh (L':=Lt) (by repeat (first|exact dx _|apply List.Sublist.cons)) (.inl (by rw [gy (by omega),jm] at cO;have:=cO.len;simp only [List.length_nil,ou] at this;rw [bZ,← this];exact cO.now))
 intro fQ a H
 try have p34:=dF fQ
 refine eD ?_;refine (Bf (Lh:=[_]) _ H ?_).2;clear H;intro a w H;dsimp only [lca,aS] at H;refine (leave0 H results205 ?_).1
 first
  | exact H.hp.dh (L':=Lx) (by repeat (first|exact dx _|apply List.Sublist.cons)) (.inr hI)
  | exact H.hp.dh (L':=Lt) (by repeat (first|exact dx _|apply List.Sublist.cons)) (.inl (by rw [gy (by omega),jm] at cO;have:=cO.len;simp only [List.length_nil,ou] at this;rw [bZ,← this];exact cO.now))
theorem afl {n:Nat} (ih:Ki n) (hn:n≤4294967296) (G:GH) (w0:World) (hG:Hold G w0) (x:ay) (cs:List aj) (hsz:dG x.dat≤n) (hv:bH G x.dat cs) :
  Calls prog 163 #[.agg cs.toArray] w0 (bR w0 G fun u G'=>∃ bx,u=.func (.func 205) #[] #[(aK bx 0)]∧Iter prog G' u ((jm (lS x)).map xQ)):=by
 obtain ⟨pA,pn,pc,dA,dn,dc,yA,yn,yc,fA,fn,fc,rA,rn,rc,hcs,-⟩:=hv.item;have hv2:=hv;rw [hcs] at hv2 ⊢;refine eN [(0,_)] func163 rfl ntmps163 rfl rfl hG ?_;intro a H;refine dz (fun _ K1=>?_);refine eU (cs:=[_,_,_,_,_,_,_,_,_,_,_]) H wn rfl rfl rfl ?_;clear H;intro b1 a w hb1 H;refine kH H (ak K1 rfl (SR fun _ K2=>?_));clear H K1;intro a H;refine qR H wn rfl rfl ?_;clear H;intro a H;refine kH H (ak K2 rfl ?_);clear H K2;intro a H;refine dM ?_;obtain ⟨G2,hm2,hb1,H⟩:=H.fD;refine lv H results163 rfl ?_;exact H.rt ⟨b1,rfl,arI ih hn hsz hb1 (hv2.mono hm2)⟩
theorem afM (x:ay):sZ x < dG x.dat:=by
 have h1:=oK x;have h2:=FR x.text
 unfold sZ;split <;> omega
set_option maxHeartbeats 1000000 in
theorem aoV {n:Nat} (ih:Ki n) (hn:n≤4294967296):Ki (n+1):=by
 intro G l id bl bi v hz hbl hbi hv J Jx fv G1 L w0 Ce hGi nk hJx hJ hO hcb;refine mU (caps:=[(aK bl 0),(aK bi 0)]) Nb ?_;obtain ⟨A,c,rfl,hc1,hc2,hg⟩:=hv.slice;rw [bZ] at *;have hll:=Fj l;replace hbl:=aF hGi hbl;replace hbi:=aF hGi hbi;refine mH (N:=55) (T:=[(0,_),(1,_),(2,_)]) func162 rfl ntmps162 rfl rfl hO ?_;intro a H;refine dz (fun _ K1=>?_);refine eU (cs:=[fv]) H wn rfl Ce rfl ?_;clear H;intro b3 a w hb3 H;refine K1 _ _ ?_;clear K1;refine kP H (SR fun _ K2=>ak K2 rfl (SR fun _ K3=>Rg iM rfl (by assumption) ?_));clear H K2;intro a H;refine kH H (Rl iN rfl (Rm rfl (Kz K3 (SB ?_))));clear H K3;intro a H;skip;refine PN (ι:=Nat × Int × Nat × OL × GH × List Nat) (Tc:=[(2,_),(3,_),(12,_),(13,_)]) (Lc:=[(_,_)]) (fun gh=>LJ gh.2.2.2.2.2) (fun gh=>[(4,vi gh.2.1),(14,vi gh.1)]) (fun gh=>[]++(nu gh.2.2.2.2.2++gh.2.2.2.1)) (fun gh=>gh.2.2.2.2.1) (fun gh=>gh.1≤l.length∧(∀ b o,G1 b=some o→gh.2.2.2.2.1 b=some o)∧Now ((eZ id 0 l).map xQ) xQ J (eZ id 0 l).length gh.2.2.1 (eZ id gh.2.1 (l.drop gh.1)) gh.2.2.2.2.1 gh.2.2.2.1∧0≤gh.2.1∧gh.2.1+bM (l.drop gh.1)≤n) (fun gh=>l.length - gh.1) ((0,0,0,L,G1,[])) (by exact (H).sub ⟨rfl,rfl,rfl,rfl,rfl,rfl,av⟩) ?_ ?_
 ·exact ⟨by omega,fun _ _ h=>h,⟨hJ,fun i a h=>by rw [pz,qY];rw [lK] at h;rw [h];rfl,by simp⟩,Int.le_refl _,by simp;omega⟩
 clear H;intro gh a w hI H;obtain ⟨k,at_,j1,Lt,g,ds⟩:=gh;dsimp only at hI H;obtain ⟨hk,hgm,cO,asw,hat⟩:=hI;dsimp only [lca,aS] at H;refine kP H (SR fun _ K4=>Rc rfl (Kz K4 (SQ fun _ K5=>Cd rfl ?_ ?_))) <;> clear H K4
 ·intro jO a H
  try have qw:=dT jO
  have hk2:k < l.length:=by omega
  obtain ⟨b,o,pA,pn,pc,dA,dn,dc,yA,yn,yc,fA,fn,fc,rA,rn,rc,rfl,hrow,hhd,hfl,hrw⟩:=EB hk2 hg;have qo:∀ b o,G b=some o→g b=some o:=fun b o h=>hgm b o (hGi b o h);replace hrow:=fun j u hj=>aF qo (hrow j u hj);have asL:=aF hgm hbi;have hsz1:=oK l[k];have hsz2:=Mj (jr hk2);have asv:=afM l[k];rw [kR hk2] at cO hat;rw [bM,fJ,fB] at hat;rw [eZ] at cO;refine kP H (Kc K5 (SQ fun _ K6=>SB (SR fun _ K7=>Ri iN dB rfl rfl ?_)));clear H K5;intro a H;refine bD dB (cs:=[_,_,_,_,_,_,_,_,_,_,_]) H wn rfl rfl (fun j v hj=>H.hp.aH (hrow j v hj)) rfl ?_;clear H;intro a H;refine dR dB H wn rfl ?_;clear H;intro b6 a w hb6 H;refine bO dB 0 (vs:=[_,_,_,_,_,_,_,_,_,_,_]) _ H wn rfl rfl rfl rfl rfl rfl rfl rfl ?_;clear H;intro w H;dsimp only [List.set,setRow] at H;refine K7 _ _ ?_;clear K7;refine kP H (SR fun _ K8=>Rg aD rfl (by assumption) ?_);clear H;intro a H;refine kH H (Rm rfl ?_);clear H;intro a H;refine lY JZ [_,_] H wn rfl rfl rfl rfl ?_;clear H;intro a H;refine dR iW H wn rfl ?_;clear H;intro b7 a w tV H;refine bO iW 0 (vs:=[_,_]) _ H wn rfl rfl rfl rfl rfl rfl rfl rfl ?_;clear H;intro w H;dsimp only [List.set,setRow] at H;refine K8 _ _ ?_;clear K8;refine kP H (SR fun _ K9=>Rm rfl (Rd rfl (ak K9 rfl (SR fun _ aZ=>aW gG aD 1 rfl rfl (Kz aZ (SB (SR fun _ bN=>Rc rfl (ak bN rfl (Cd rfl ?_ ?_))))))))) <;> clear H K9 aZ bN
  ·intro gZ a H
   try have p25:=dT gZ
   have hcl:=FR l[k].text;refine kP H (SR fun _ bQ=>aW uz gX 1 rfl rfl ?_);clear H;intro a H;refine s_call Qa H wn rfl (PV _ _ H.ro _ (by omega)) rfl ?_;clear H;rintro v30 Fv a w ⟨rfl,rfl⟩ Gx H;refine kH H (Rm rfl ?_);clear H;intro a H;(iterate 2 refine lD H wn rfl rfl rfl ?_;clear H;intro a H);refine kH H (Ra rfl (ak bQ rfl (SC (Rm rfl (Rm rfl (Rs rfl (Rd rfl (Ra rfl ?_))))))));clear H bQ;intro a H
   have e:at_+1+((yE l[k].text:Int) - 1)=at_+(sZ l[k]:Int):=by rw [sZ,au p25];omega
   rw [e] at H;refine kH H (Kn K6 (SC (Rd rfl (Rm rfl ?_))));clear H K6;intro a H;refine aI ?_;refine JJ ((k+1,at_+sZ l[k],j1,Lt,g,ds)) (by exact (H.dK (Pl:=[_,_,_]) (dw:=[_]) [2] (by decide) rfl).sub ⟨rfl,rfl,rfl,rfl,rfl,rfl,av⟩) ?_ ?_
   ·(try dsimp only);exact ⟨by omega,hgm,by rw [LP,ah (by omega),mo] at cO;exact cO,by omega,by show at_+(sZ l[k]:Int)+(fB ((l.drop (k+1)).map ay.dat):Nat)≤n;omega⟩
   first|omega|(dsimp only;omega)
  intro gZ a H
  try have p25:=dF gZ
  have e:at_+1=at_+(sZ l[k]:Int):=by rw [sZ,ah p25];rfl
  rw [e] at H;refine kP H (SQ fun _ bT=>SR fun _ cu=>Rc rfl (ak cu rfl (Cd rfl ?_ ?_))) <;> clear H cu
  ·intro h37 a H
   try have p37:=dT h37
   have xC:l[k].kind=6∨l[k].kind=7:=by first|exact .inl p37|exact .inr p37
   rw [LP,au xC] at cO;refine kP H (Kc bT (Ct rfl h37 (SQ fun _ dL=>SR fun _ dO=>Ro J4 2 rfl ?_)));clear H bT;intro a H;refine bD iW (cs:=[_,_]) H wn rfl rfl (H.hp.eu 0 rfl rfl) rfl ?_;clear H;intro a H;refine bD dB (cs:=[_,_,_,_,_,_,_,_,_,_,_]) H wn rfl rfl (H.hp.eu 1 rfl rfl) rfl ?_;clear H;intro a H;refine xU (Li:=[_,_,_]++nu ds) (L:=Lt) (St.un (A:=[_,_,_]) H) wn rfl rfl (hcb j1 _ _ _ _ ⟨_,cO.head,_,rfl,bH.mkItem (hhd.mono qo) (hfl.mono qo) (hrw.mono qo)⟩ hgm cO.now (Hp.owns (Li:=[_,_,_]++nu ds) (St.un (A:=[_,_,_]) H).hp)) rfl ?_;clear H;rintro v43 CV FI a w ⟨Pz,rfl,hb1,hb2⟩ oU H
   simp only [mG,nV,mo] at H
   refine kH H (Rn rfl (Kz dO (Cd rfl ?_ ?_))) <;> clear H dO
   ·intro lX a H
    try have p44:=dT lX
    refine dM ?_;refine (Bf (Lh:=[_,_,_]) _ H ?_).1;clear H;intro a w H;dsimp only [lca,aS] at H;refine (leave0 H results162 ?_).1
    first
     | exact H.hp.dh (L':=Lx) (by repeat (first|exact dx _|apply List.Sublist.cons)) (.inr hI)
     | exact H.hp.dh (L':=FI) (by repeat (first|exact dx _|apply List.Sublist.cons)) (.inr (hb2 (by simpa using lX)))
     | exact H.hp.dh (L':=Lt) (by repeat (first|exact dx _|apply List.Sublist.cons)) (.inl (by rw [gy (by omega),eZ] at cO;have:=cO.len;simp only [List.length_nil,ou] at this;(try rw [bZ]);rw [← this];exact cO.now))
   intro lX a H
   try have p44:=dF lX
   have zT:=cO.step (hb1 (by simpa using lX));refine fI ?_;refine dL _ _ ?_;clear dL;refine dz (fun _ dJ=>?_);refine bD dB (cs:=[_,_,_,_,_,_,_,_,_,_,_]) H wn rfl rfl (H.hp.eu 1 rfl rfl) rfl ?_;clear H;intro a H;refine s_call aau H wn rfl (afl ih hn _ _ H.ro l[k] _ (by omega) (bH.mkItem (hhd.mono fun b o h=>oU b o (qo b o h)) (hfl.mono fun b o h=>oU b o (qo b o h)) (hrw.mono fun b o h=>oU b o (qo b o h)))) rfl ?_;clear H;rintro v46 Ph a w ⟨bx,rfl,hit⟩ yQ H;refine dJ _ _ ?_;clear dJ;refine sw ?_;skip;refine AA (ι:=OL) (κ:=OL) (Lc:=[(_,_),(_,_),(_,_)]) (fun (k:Nat) (gh:OL)=>[]) (fun (k:Nat) (gh:OL)=>(nu ds++gh)) (fun (k:Nat) (gh:OL) (g:GH)=>J (j1+1+k) g gh) (fun (gx:OL)=>Code.ret) (fun (gx:OL)=>[]) (fun (gx:OL)=>(nu ds++gx)) (fun (gx:OL) (g:GH)=>Jx g gx) (FI) (by exact H) rfl TT (hit) (fun _ _ h=>h) rfl (fun k args g h=>by obtain ⟨_,_,rfl,_⟩:=wD h;rfl) (fun k i G G' hm h=>nk _ _ _ _ hm h) (fun x G G' hm h=>hJx _ _ _ hm h) (nk _ _ _ _ yQ zT.now) ?_ ?_ ?_
   ·clear H;intro l15 uL sj bk k args gh HY w15 F15 B15 a VO zQ hI Vz VZ Wn H;obtain ⟨qX,hgh⟩:∃ x,x=gh:=⟨_,rfl⟩;subst hgh;obtain ⟨VQ,Iw,rfl,rM⟩:=wD VO;obtain ⟨aA,an,ac,bA,bn,bc,Iy,IB,Iz,IC,II,IE,Jz,JC,JA,rfl,-⟩:=rM.item;dsimp only [ru,List.cons_append,List.nil_append] at H;refine dz (fun _ dW=>?_);refine dR iW H wn rfl ?_;clear H;intro b10 a w KP H;refine bO iW 0 (vs:=[_,_]) _ H wn rfl rfl rfl rfl rfl rfl rfl rfl ?_;clear H;intro w H;dsimp only [List.set,setRow] at H;refine dW _ _ ?_;clear dW;refine oD ?_;refine dR dB H wn rfl ?_;clear H;intro b11 a w I8 H;refine bO dB 0 (vs:=[_,_,_,_,_,_,_,_,_,_,_]) _ H wn rfl rfl rfl rfl rfl rfl rfl rfl ?_;clear H;intro w H;dsimp only [List.set,setRow] at H;refine aI ?_;refine Vz _ _ _ _ _ _ (by exact H.dK (Pl:=[_,_,_,_,_,_]) (dw:=[_,_,_,_,_,_]) [2,0,1,3,4,5] (by decide) rfl) ?_;clear H;intro w H;refine kP H (SB (SR fun _ eG=>Ro J4 5 rfl ?_));clear H;intro a H;refine bD iW (cs:=[_,_]) H wn rfl rfl (H.hp.eu 2 rfl rfl) rfl ?_;clear H;intro a H;refine bD dB (cs:=[_,_,_,_,_,_,_,_,_,_,_]) H wn rfl rfl (H.hp.eu 1 rfl rfl) rfl ?_;clear H;intro a H;refine xU (Li:=([_,_,_,_,_,_]++bk)++nu ds) (L:=qX) (St.un (A:=[_,_,_,_,_,_]++bk) (St.un (A:=[_,_,_,_,_,_]) H)) wn rfl rfl (hcb (j1+1+k) _ _ _ _ ⟨_,zT.part k _ (gD VQ),_,rfl,rM⟩ (fun b o h=>zQ b o (yQ b o (oU b o (hgm b o h)))) hI (Hp.owns (Li:=([_,_,_,_,_,_]++bk)++nu ds) (St.un (A:=[_,_,_,_,_,_]++bk) (St.un (A:=[_,_,_,_,_,_]) H)).hp)) rfl ?_;clear H;rintro v52 Sz MH a w ⟨b52,rfl,hb3,hb4⟩ VU H
    simp only [mG,nV,mo] at H
    refine kH H (Rn rfl (Kz eG (Cd rfl ?_ ?_))) <;> clear H eG
    ·intro gV a H
     refine dM ?_;refine (Wn (MH) _ _ _ _ _ (by exact H.dK (Pl:=[_,_,_,_,_,_]) (dw:=[_,_,_,_]) [0,3,4,5] (by decide) rfl) ?_).1 rfl;exact hb4 (by simpa using gV)
    intro gV a H
    refine fI ?_;refine VZ (MH) _ _ _ _ _ (by exact H.dK (Pl:=[_,_,_,_,_,_]) (dw:=[_,_,_,_]) [0,3,4,5] (by decide) rfl) ?_;exact hb3 (by simpa using gV)
   ·clear H;intro Mq gh Mw a w zQ hI H;obtain ⟨qX,hgh⟩:∃ x,x=gh:=⟨_,rfl⟩;subst hgh;dsimp only [lca,aS] at H;refine K6 _ _ ?_;clear K6;refine kP H (SC (Rd rfl (Rm rfl ?_)));clear H;intro a H;refine aI ?_;refine JJ ((k+1,at_+sZ l[k],j1+1+(jm (lS l[k])).length,qX,Mw,Mq :: ds)) (by exact (H.dK (Pl:=[_,_,_,_]) (dw:=[_,_]) [3,0] (by decide) rfl).sub ⟨rfl,rfl,rfl,rfl,rfl,rfl,av⟩) ?_ ?_
    ·(try dsimp only);exact ⟨by omega,fun b o h=>zQ b o (yQ b o (oU b o (hgm b o h))),zT.jump (by simpa using hI),by omega,by show at_+(sZ l[k]:Int)+(fB ((l.drop (k+1)).map ay.dat):Nat)≤n;omega⟩
    first|omega|(dsimp only;omega)
   clear H;intro Mq gx Mw a w zQ hI H;obtain ⟨Lx,hgh⟩:∃ x,x=gx:=⟨_,rfl⟩;subst hgh;dsimp only [lca,aS] at H;refine dM ?_;refine (uK H 0 rfl ?_).1;clear H;intro a w H;dsimp only [List.eraseIdx_cons_succ,List.eraseIdx_cons_zero] at H;refine (Bf (Lh:=[_,_,_]) _ H ?_).1;clear H;intro a w H;dsimp only [lca,aS] at H;refine (leave0 H results162 ?_).1
   first
    | exact H.hp.dh (L':=Lx) (by repeat (first|exact dx _|apply List.Sublist.cons)) (.inr hI)
    | exact H.hp.dh (L':=FI) (by repeat (first|exact dx _|apply List.Sublist.cons)) (.inr (hb2 (by simpa using lX)))
    | exact H.hp.dh (L':=Lt) (by repeat (first|exact dx _|apply List.Sublist.cons)) (.inl (by rw [gy (by omega),eZ] at cO;have:=cO.len;simp only [List.length_nil,ou] at this;(try rw [bZ]);rw [← this];exact cO.now))
  intro h37 a H
  try have p37:=dF h37
  first
   | (have QI:¬ l[k].kind=6:=p37)
   | (have QJ:¬ l[k].kind=7:=p37)
  refine kP H (SC (Rc rfl (aM bT rfl (Cd rfl ?_ ?_)))) <;> clear H bT
  ·intro h37 a H
   try have p37:=dT h37
   have xC:l[k].kind=6∨l[k].kind=7:=by first|exact .inl p37|exact .inr p37
   rw [LP,au xC] at cO;refine kP H (SQ fun _ eB=>SR fun _ eH=>Ro J4 2 rfl ?_);clear H;intro a H;refine bD iW (cs:=[_,_]) H wn rfl rfl (H.hp.eu 0 rfl rfl) rfl ?_;clear H;intro a H;refine bD dB (cs:=[_,_,_,_,_,_,_,_,_,_,_]) H wn rfl rfl (H.hp.eu 1 rfl rfl) rfl ?_;clear H;intro a H;refine xU (Li:=[_,_,_]++nu ds) (L:=Lt) (St.un (A:=[_,_,_]) H) wn rfl rfl (hcb j1 _ _ _ _ ⟨_,cO.head,_,rfl,bH.mkItem (hhd.mono qo) (hfl.mono qo) (hrw.mono qo)⟩ hgm cO.now (Hp.owns (Li:=[_,_,_]++nu ds) (St.un (A:=[_,_,_]) H).hp)) rfl ?_;clear H;rintro v43 CV FI a w ⟨Pz,rfl,hb1,hb2⟩ oU H
   simp only [mG,nV,mo] at H
   refine kH H (Rn rfl (Kz eH (Cd rfl ?_ ?_))) <;> clear H eH
   ·intro lX a H
    try have p44:=dT lX
    refine dM ?_;refine (Bf (Lh:=[_,_,_]) _ H ?_).1;clear H;intro a w H;dsimp only [lca,aS] at H;refine (leave0 H results162 ?_).1
    first
     | exact H.hp.dh (L':=Lx) (by repeat (first|exact dx _|apply List.Sublist.cons)) (.inr hI)
     | exact H.hp.dh (L':=FI) (by repeat (first|exact dx _|apply List.Sublist.cons)) (.inr (hb2 (by simpa using lX)))
     | exact H.hp.dh (L':=Lt) (by repeat (first|exact dx _|apply List.Sublist.cons)) (.inl (by rw [gy (by omega),eZ] at cO;have:=cO.len;simp only [List.length_nil,ou] at this;(try rw [bZ]);rw [← this];exact cO.now))
   intro lX a H
   try have p44:=dF lX
   have zT:=cO.step (hb1 (by simpa using lX));refine fI ?_;refine eB _ _ ?_;clear eB;refine dz (fun _ fO=>?_);refine bD dB (cs:=[_,_,_,_,_,_,_,_,_,_,_]) H wn rfl rfl (H.hp.eu 1 rfl rfl) rfl ?_;clear H;intro a H;refine s_call aau H wn rfl (afl ih hn _ _ H.ro l[k] _ (by omega) (bH.mkItem (hhd.mono fun b o h=>oU b o (qo b o h)) (hfl.mono fun b o h=>oU b o (qo b o h)) (hrw.mono fun b o h=>oU b o (qo b o h)))) rfl ?_;clear H;rintro v46 Ph a w ⟨bx,rfl,hit⟩ yQ H;refine fO _ _ ?_;clear fO;refine sw ?_;skip;refine AA (ι:=OL) (κ:=OL) (Lc:=[(_,_),(_,_),(_,_)]) (fun (k:Nat) (gh:OL)=>[]) (fun (k:Nat) (gh:OL)=>(nu ds++gh)) (fun (k:Nat) (gh:OL) (g:GH)=>J (j1+1+k) g gh) (fun (gx:OL)=>Code.ret) (fun (gx:OL)=>[]) (fun (gx:OL)=>(nu ds++gx)) (fun (gx:OL) (g:GH)=>Jx g gx) (FI) (by exact H) rfl TT (hit) (fun _ _ h=>h) rfl (fun k args g h=>by obtain ⟨_,_,rfl,_⟩:=wD h;rfl) (fun k i G G' hm h=>nk _ _ _ _ hm h) (fun x G G' hm h=>hJx _ _ _ hm h) (nk _ _ _ _ yQ zT.now) ?_ ?_ ?_
   ·clear H;intro l15 uL sj bk k args gh HY w15 F15 B15 a VO zQ hI Vz VZ Wn H;obtain ⟨qX,hgh⟩:∃ x,x=gh:=⟨_,rfl⟩;subst hgh;obtain ⟨VQ,Iw,rfl,rM⟩:=wD VO;obtain ⟨aA,an,ac,bA,bn,bc,Iy,IB,Iz,IC,II,IE,Jz,JC,JA,rfl,-⟩:=rM.item;dsimp only [ru,List.cons_append,List.nil_append] at H;refine dz (fun _ gJ=>?_);refine dR iW H wn rfl ?_;clear H;intro b10 a w KP H;refine bO iW 0 (vs:=[_,_]) _ H wn rfl rfl rfl rfl rfl rfl rfl rfl ?_;clear H;intro w H;dsimp only [List.set,setRow] at H;refine gJ _ _ ?_;clear gJ;refine oD ?_;refine dR dB H wn rfl ?_;clear H;intro b11 a w I8 H;refine bO dB 0 (vs:=[_,_,_,_,_,_,_,_,_,_,_]) _ H wn rfl rfl rfl rfl rfl rfl rfl rfl ?_;clear H;intro w H;dsimp only [List.set,setRow] at H;refine aI ?_;refine Vz _ _ _ _ _ _ (by exact H.dK (Pl:=[_,_,_,_,_,_]) (dw:=[_,_,_,_,_,_]) [2,0,1,3,4,5] (by decide) rfl) ?_;clear H;intro w H;refine kP H (SB (SR fun _ gT=>Ro J4 5 rfl ?_));clear H;intro a H;refine bD iW (cs:=[_,_]) H wn rfl rfl (H.hp.eu 2 rfl rfl) rfl ?_;clear H;intro a H;refine bD dB (cs:=[_,_,_,_,_,_,_,_,_,_,_]) H wn rfl rfl (H.hp.eu 1 rfl rfl) rfl ?_;clear H;intro a H;refine xU (Li:=([_,_,_,_,_,_]++bk)++nu ds) (L:=qX) (St.un (A:=[_,_,_,_,_,_]++bk) (St.un (A:=[_,_,_,_,_,_]) H)) wn rfl rfl (hcb (j1+1+k) _ _ _ _ ⟨_,zT.part k _ (gD VQ),_,rfl,rM⟩ (fun b o h=>zQ b o (yQ b o (oU b o (hgm b o h)))) hI (Hp.owns (Li:=([_,_,_,_,_,_]++bk)++nu ds) (St.un (A:=[_,_,_,_,_,_]++bk) (St.un (A:=[_,_,_,_,_,_]) H)).hp)) rfl ?_;clear H;rintro v52 Sz MH a w ⟨b52,rfl,hb3,hb4⟩ VU H
    simp only [mG,nV,mo] at H
    refine kH H (Rn rfl (Kz gT (Cd rfl ?_ ?_))) <;> clear H gT
    ·intro gV a H
     refine dM ?_;refine (Wn (MH) _ _ _ _ _ (by exact H.dK (Pl:=[_,_,_,_,_,_]) (dw:=[_,_,_,_]) [0,3,4,5] (by decide) rfl) ?_).1 rfl;exact hb4 (by simpa using gV)
    intro gV a H
    refine fI ?_;refine VZ (MH) _ _ _ _ _ (by exact H.dK (Pl:=[_,_,_,_,_,_]) (dw:=[_,_,_,_]) [0,3,4,5] (by decide) rfl) ?_;exact hb3 (by simpa using gV)
   ·clear H;intro Mq gh Mw a w zQ hI H;obtain ⟨qX,hgh⟩:∃ x,x=gh:=⟨_,rfl⟩;subst hgh;dsimp only [lca,aS] at H;refine K6 _ _ ?_;clear K6;refine kP H (SC (Rd rfl (Rm rfl ?_)));clear H;intro a H;refine aI ?_;refine JJ ((k+1,at_+sZ l[k],j1+1+(jm (lS l[k])).length,qX,Mw,Mq :: ds)) (by exact (H.dK (Pl:=[_,_,_,_]) (dw:=[_,_]) [3,0] (by decide) rfl).sub ⟨rfl,rfl,rfl,rfl,rfl,rfl,av⟩) ?_ ?_
    ·(try dsimp only);exact ⟨by omega,fun b o h=>zQ b o (yQ b o (oU b o (hgm b o h))),zT.jump (by simpa using hI),by omega,by show at_+(sZ l[k]:Int)+(fB ((l.drop (k+1)).map ay.dat):Nat)≤n;omega⟩
    first|omega|(dsimp only;omega)
   clear H;intro Mq gx Mw a w zQ hI H;obtain ⟨Lx,hgh⟩:∃ x,x=gx:=⟨_,rfl⟩;subst hgh;dsimp only [lca,aS] at H;refine dM ?_;refine (uK H 0 rfl ?_).1;clear H;intro a w H;dsimp only [List.eraseIdx_cons_succ,List.eraseIdx_cons_zero] at H;refine (Bf (Lh:=[_,_,_]) _ H ?_).1;clear H;intro a w H;dsimp only [lca,aS] at H;refine (leave0 H results162 ?_).1
   first
    | exact H.hp.dh (L':=Lx) (by repeat (first|exact dx _|apply List.Sublist.cons)) (.inr hI)
    | exact H.hp.dh (L':=FI) (by repeat (first|exact dx _|apply List.Sublist.cons)) (.inr (hb2 (by simpa using lX)))
    | exact H.hp.dh (L':=Lt) (by repeat (first|exact dx _|apply List.Sublist.cons)) (.inl (by rw [gy (by omega),eZ] at cO;have:=cO.len;simp only [List.length_nil,ou] at this;(try rw [bZ]);rw [← this];exact cO.now))
  intro h37 a H
  try have p37:=dF h37
  first
   | (have QI:¬ l[k].kind=6:=p37)
   | (have QJ:¬ l[k].kind=7:=p37)
  refine kP H (Kc K6 (SC (Rd rfl (Rm rfl ?_))));clear H K6;intro a H;refine aI ?_;refine JJ ((k+1,at_+sZ l[k],j1,Lt,g,ds)) (by exact (H.dK (Pl:=[_,_,_]) (dw:=[_]) [2] (by decide) rfl).sub ⟨rfl,rfl,rfl,rfl,rfl,rfl,av⟩) ?_ ?_
  ·(try dsimp only);exact ⟨by omega,hgm,by rw [LP,ah (by omega),mo] at cO;exact cO,by omega,by show at_+(sZ l[k]:Int)+(fB ((l.drop (k+1)).map ay.dat):Nat)≤n;omega⟩
  first|omega|(dsimp only;omega)
 intro jO a H
 try have qw:=dF jO
 refine eD ?_;refine (Bf (Lh:=[_]) _ H ?_).2;clear H;intro a w H;dsimp only [lca,aS] at H;refine (leave0 H results162 ?_).1
 first
  | exact H.hp.dh (L':=Lx) (by repeat (first|exact dx _|apply List.Sublist.cons)) (.inr hI)
  | exact H.hp.dh (L':=FI) (by repeat (first|exact dx _|apply List.Sublist.cons)) (.inr (hb2 (by simpa using lX)))
  | exact H.hp.dh (L':=Lt) (by repeat (first|exact dx _|apply List.Sublist.cons)) (.inl (by rw [gy (by omega),eZ] at cO;have:=cO.len;simp only [List.length_nil,ou] at this;(try rw [bZ]);rw [← this];exact cO.now))
theorem adN:∀ n:Nat,n≤4294967297→Ki n
 | 0,_=>fun _ _ _ _ _ _ h=>absurd h (by omega)
 | n+1,hn=>aoV (adN n (by omega)) (by omega)
theorem adO (G:GH) (w0:World) (hG:Hold G w0) (l:List ay) (id:Int) (v:aj) (hz:bM l≤4294967296) (hv:aB G (.sl 11 (l.map ay.dat)) v) :
  Calls prog 85 #[vi id,v] w0 (bR w0 G fun u G'=>∃ bl bi,u=.func (.func 162) #[] #[(aK bl 0),(aK bi 0)]∧Iter prog G' u ((eZ id 0 l).map xQ)) :=
 Xv (adN 4294967297 (by omega)) G w0 hG l id v (by omega) hv
end
section
open Go.RowKit
theorem aie:∀ args w,(callFunc 164 args).run prog w=.ok (.enter 164 args) w:=enters func164 rfl (by kernel_rfl)
theorem aif:∀ args w,(callFunc 165 args).run prog w=.ok (.enter 165 args) w:=enters func165 rfl (by kernel_rfl)
theorem ajq:∀ args w,(callFunc 88 args).run prog w=.ok (.enter 88 args) w:=enters func88 rfl (by kernel_rfl)
theorem ajo:∀ args w,(callFunc 86 args).run prog w=.ok (.enter 86 args) w:=enters func86 rfl (by kernel_rfl)
theorem ajr:∀ args w,(callFunc 89 args).run prog w=.ok (.enter 89 args) w:=enters func89 rfl (by kernel_rfl)
theorem ajp:∀ args w,(callFunc 87 args).run prog w=.ok (.enter 87 args) w:=enters func87 rfl (by kernel_rfl)
def wP (fv:aj) (G:GH) (d:List Dat) (b:Bool):Prop:=∀ (G1:GH) (w1:World) (cs:List aj),(∀ b o,G b=some o→G1 b=some o)→Hold G1 w1→bH G1 d cs →
 yg prog fv [.agg cs.toArray] w1 (bR w1 G1 fun u G'=>u=.bool b)
def rO (o:Option Nat):Int:=match o with|some i=>i|none=>-1
theorem anr (G:GH) (w0:World) (hG:Hold G w0) (l:List bJ) (p:bJ→Bool) (v fv:aj) (hv:aB G (.sl 6 (l.map bJ.dat)) v) (hf:∀ x∈l,wP fv G x.dat (p x)) :
  Calls prog 164 #[v,fv] w0 (bR w0 G fun u G'=>u=vi (rO (l.findIdx? p))):=by
 obtain ⟨A,c,rfl,hc1,hc2,hg⟩:=hv.slice;have hml:maxLen=9223372036854775807:=rfl;rw [bZ] at *;refine eN [(0,_),(1,_)] func164 rfl ntmps164 rfl rfl hG ?_;intro a H;refine kP H (SR fun _ K1=>ak K1 rfl (SQ fun _ K2=>SR fun _ K3=>Rm rfl (Rl jH rfl (Rm rfl (Kz K3 (SB ?_))))));clear H K1 K3;intro a H;skip;refine fH (ι:=Nat × GH) (Tc:=[(0,_),(1,_),(7,_)]) (Lc:=[]) (fun gh=>[(8,vi gh.1)]) (fun gh=>[]) (fun gh=>gh.2) (fun gh=>gh.1≤l.length∧(l.take gh.1).findIdx? p=none∧(∀ b o,G b=some o→gh.2 b=some o)) (fun gh=>l.length - gh.1) ((0,G)) (by exact (H).sub ⟨rfl,rfl,rfl,rfl,av⟩) ?_ ?_
 ·exact ⟨by omega,rfl,fun _ _ h=>h⟩
 clear H;intro gh a w hI H;obtain ⟨k,g⟩:=gh;dsimp only at hI H;obtain ⟨hk,hno,hgm⟩:=hI;dsimp only [lca,aS] at H;refine kP H (SR fun _ K4=>Rc rfl (Kz K4 (SQ fun _ K5=>Cd rfl ?_ ?_))) <;> clear H K4
 ·intro h9 a H
  try have p9:=dT h9
  have hk2:k < l.length:=by omega
  obtain ⟨b,o,cs,rfl,hcl,hrow,hrep⟩:=hg k l[k].dat (by simp [hk2]);obtain ⟨pA,pn,pc,dA,dn,dc,yA,yn,yc,fA,fn,fc,rfl,-⟩:=hrep.row;replace hrow:=fun j u hj=>aF hgm (hrow j u hj);refine kP H (Kc K5 (SQ fun _ K6=>SB (SR fun _ K7=>Rm rfl (ak K7 rfl (SR fun _ K8=>Rm rfl (Rm rfl (Rm rfl (Ri jH iI rfl rfl ?_))))))));clear H K5 K7;intro a H;refine bD iI (cs:=[_,_,_,_,_,_]) H wn rfl rfl (fun j v hj=>H.hp.aH (hrow j v hj)) rfl ?_;clear H;intro a H;refine qP H wn rfl rfl (hf _ (jr hk2) _ _ _ hgm H.ro (hrep.mono hgm)) rfl ?_;clear H;rintro v16 Aq a w rfl AY H;refine K8 _ _ ?_;clear K8;refine oN H rfl ?_ ?_
  ·intro h16
   try have p16:=dT h16
   refine kP H (SR fun _ K9=>Rm rfl (ak K9 rfl ?_));clear H K9;intro a H;refine lr H results164 rfl ?_
   first
    | exact H.rt (by rw [zW hk2 hno h16];rfl)
    | exact H.rt (by rw [show l.take k=l from kF (by omega)] at hno;rw [hno];rfl)
  intro h16
  try have p16:=dF h16
  refine kP H (Kc K6 (SC (Rd rfl (Rm rfl ?_))));clear H K6;intro a H;refine aI ?_;refine dP ((k+1,Aq)) (by exact (H).sub ⟨rfl,rfl,rfl,rfl,av⟩) ?_ ?_
  ·(try dsimp only);exact ⟨by omega,JB hk2 hno h16,fun b o h=>AY b o (hgm b o h)⟩
  first|omega|(dsimp only;omega)
 intro h9 a H
 try have p9:=dF h9
 refine eD ?_;refine K2 _ _ ?_;clear K2;refine kP H (SR fun _ aZ=>ak aZ rfl ?_);clear H aZ;intro a H;refine lr H results164 rfl ?_
 first
  | exact H.rt (by rw [zW hk2 hno h16];rfl)
  | exact H.rt (by rw [show l.take k=l from kF (by omega)] at hno;rw [hno];rfl)
theorem ahl (G:GH) (w0:World) (hG:Hold G w0) (l:List bJ) (p:bJ→Bool) (v fv:aj) (hv:aB G (.sl 6 (l.map bJ.dat)) v) (hf:∀ x∈l,wP fv G x.dat (p x)) :
  Calls prog 86 #[v,fv] w0 (bR w0 G fun u G'=>u=.bool (l.findIdx? p).isSome):=by
 refine eN [(0,_),(1,_)] func86 rfl ntmps86 rfl rfl hG ?_;intro a H;refine kP H (SR fun _ K1=>ak K1 rfl (SR fun _ K2=>Rm rfl (Rm rfl ?_)));clear H K1;intro a H;refine s_call aie H wn rfl (anr _ _ H.ro l p _ _ hv hf) rfl ?_;clear H;rintro v7 G7 a w rfl uJ H;refine kH H (Rc rfl (ak K2 rfl ?_));clear H K2;intro a H;refine lr H results86 rfl ?_
 exact H.rt (by cases h:l.findIdx? p <;> simp [rO])
theorem anq (G:GH) (w0:World) (hG:Hold G w0) (l:List bB) (p:bB→Bool) (v fv:aj) (hv:aB G (.sl 7 (l.map bB.dat)) v) (hf:∀ x∈l,wP fv G x.dat (p x)) :
  Calls prog 165 #[v,fv] w0 (bR w0 G fun u G'=>u=vi (rO (l.findIdx? p))):=by
 obtain ⟨A,c,rfl,hc1,hc2,hg⟩:=hv.slice;have hml:maxLen=9223372036854775807:=rfl;rw [bZ] at *;refine eN [(0,_),(1,_)] func165 rfl ntmps165 rfl rfl hG ?_;intro a H;refine kP H (SR fun _ K1=>ak K1 rfl (SQ fun _ K2=>SR fun _ K3=>Rm rfl (Rl kV rfl (Rm rfl (Kz K3 (SB ?_))))));clear H K1 K3;intro a H;skip;refine fH (ι:=Nat × GH) (Tc:=[(0,_),(1,_),(7,_)]) (Lc:=[]) (fun gh=>[(8,vi gh.1)]) (fun gh=>[]) (fun gh=>gh.2) (fun gh=>gh.1≤l.length∧(l.take gh.1).findIdx? p=none∧(∀ b o,G b=some o→gh.2 b=some o)) (fun gh=>l.length - gh.1) ((0,G)) (by exact (H).sub ⟨rfl,rfl,rfl,rfl,av⟩) ?_ ?_
 ·exact ⟨by omega,rfl,fun _ _ h=>h⟩
 clear H;intro gh a w hI H;obtain ⟨k,g⟩:=gh;dsimp only at hI H;obtain ⟨hk,hno,hgm⟩:=hI;dsimp only [lca,aS] at H;refine kP H (SR fun _ K4=>Rc rfl (Kz K4 (SQ fun _ K5=>Cd rfl ?_ ?_))) <;> clear H K4
 ·intro h9 a H
  try have p9:=dT h9
  have hk2:k < l.length:=by omega
  obtain ⟨b,o,cs,rfl,hcl,hrow,hrep⟩:=hg k l[k].dat (by simp [hk2]);obtain ⟨pA,pn,pc,dA,dn,dc,yA,yn,yc,fA,fn,fc,rfl,-⟩:=hrep.cell;replace hrow:=fun j u hj=>aF hgm (hrow j u hj);refine kP H (Kc K5 (SQ fun _ K6=>SB (SR fun _ K7=>Rm rfl (ak K7 rfl (SR fun _ K8=>Rm rfl (Rm rfl (Rm rfl (Ri kV iy rfl rfl ?_))))))));clear H K5 K7;intro a H;refine bD iy (cs:=[_,_,_,_,_,_,_]) H wn rfl rfl (fun j v hj=>H.hp.aH (hrow j v hj)) rfl ?_;clear H;intro a H;refine qP H wn rfl rfl (hf _ (jr hk2) _ _ _ hgm H.ro (hrep.mono hgm)) rfl ?_;clear H;rintro v16 Aq a w rfl AY H;refine K8 _ _ ?_;clear K8;refine oN H rfl ?_ ?_
  ·intro h16
   try have p16:=dT h16
   refine kP H (SR fun _ K9=>Rm rfl (ak K9 rfl ?_));clear H K9;intro a H;refine lr H results165 rfl ?_
   first
    | exact H.rt (by rw [zW hk2 hno h16];rfl)
    | exact H.rt (by rw [show l.take k=l from kF (by omega)] at hno;rw [hno];rfl)
  intro h16
  try have p16:=dF h16
  refine kP H (Kc K6 (SC (Rd rfl (Rm rfl ?_))));clear H K6;intro a H;refine aI ?_;refine dP ((k+1,Aq)) (by exact (H).sub ⟨rfl,rfl,rfl,rfl,av⟩) ?_ ?_
  ·(try dsimp only);exact ⟨by omega,JB hk2 hno h16,fun b o h=>AY b o (hgm b o h)⟩
  first|omega|(dsimp only;omega)
 intro h9 a H
 try have p9:=dF h9
 refine eD ?_;refine K2 _ _ ?_;clear K2;refine kP H (SR fun _ aZ=>ak aZ rfl ?_);clear H aZ;intro a H;refine lr H results165 rfl ?_
 first
  | exact H.rt (by rw [zW hk2 hno h16];rfl)
  | exact H.rt (by rw [show l.take k=l from kF (by omega)] at hno;rw [hno];rfl)
theorem ahk (G:GH) (w0:World) (hG:Hold G w0) (l:List bB) (p:bB→Bool) (v fv:aj) (hv:aB G (.sl 7 (l.map bB.dat)) v) (hf:∀ x∈l,wP fv G x.dat (p x)) :
  Calls prog 88 #[v,fv] w0 (bR w0 G fun u G'=>u=.bool (l.findIdx? p).isSome):=by
 refine eN [(0,_),(1,_)] func88 rfl ntmps88 rfl rfl hG ?_;intro a H;refine kP H (SR fun _ K1=>ak K1 rfl (SR fun _ K2=>Rm rfl (Rm rfl ?_)));clear H K1;intro a H;refine s_call aif H wn rfl (anq _ _ H.ro l p _ _ hv hf) rfl ?_;clear H;rintro v7 G7 a w rfl uJ H;refine kH H (Rc rfl (ak K2 rfl ?_));clear H K2;intro a H;refine lr H results88 rfl ?_
 exact H.rt (by cases h:l.findIdx? p <;> simp [rO])
def LD (id:Int) (r:bJ):Bool:=(r.cells.findIdx? fun c=>decide (c.id=id)).isSome
def pK (id:Int) (x:ay):Bool:=decide (x.id=id) || (x.rows.findIdx? (LD id)).isSome
theorem aoS {G:GH} {bi:Nat} {id:Int} (hb:aH G bi 0=some (vi id)) (c:bB):wP (.func (.func 89) #[] #[(aK bi 0)]) G c.dat (decide (c.id=id)):=by
 intro G1 w0 cs hm hG hr;refine mU (caps:=[(aK bi 0)]) ajr ?_;obtain ⟨pA,pn,pc,dA,dn,dc,yA,yn,yc,fA,fn,fc,rfl,-⟩:=hr.cell;replace hb:=aF hm hb;refine eN [(0,_),(1,_)] func89 rfl ntmps89 rfl rfl hG ?_;intro a H;refine dz (fun _ K1=>?_);refine eU (cs:=[_,_,_,_,_,_,_]) H wn rfl rfl rfl ?_;clear H;intro b2 a w hb2 H;refine kH H (ak K1 rfl (SR fun _ K2=>aW AO aD 0 rfl rfl (Rg aD rfl (by assumption) ?_)));clear H K1;intro a H;exact kH H (Rc rfl (ak K2 rfl (LR results89 rfl fun H=>H.rt rfl)))
theorem aoR {G:GH} {bi:Nat} {id:Int} (hb:aH G bi 0=some (vi id)) (r:bJ):wP (.func (.func 87) #[] #[(aK bi 0)]) G r.dat (LD id r):=by
 intro G1 w0 cs hm hG hr;refine mU (caps:=[(aK bi 0)]) ajp ?_;obtain ⟨pA,pn,pc,dA,dn,dc,yA,yn,yc,fA,fn,fc,rfl,-,hcl⟩:=hr.row;replace hb:=aF hm hb;refine eN [(0,_),(1,_)] func87 rfl ntmps87 rfl rfl hG ?_;intro a H;refine dz (fun _ K1=>?_);refine eU (cs:=[_,_,_,_,_,_]) H wn rfl rfl rfl ?_;clear H;intro b2 a w hb2 H;refine kH H (ak K1 rfl (SR fun _ K2=>aW qG qU 0 rfl rfl ?_));clear H K1;intro a H;refine qR H wn rfl rfl ?_;clear H;intro a H;refine s_call ajq H wn rfl (ahk _ _ H.ro r.cells (fun c=>decide (c.id=id)) _ _ hcl (fun c _=>aoS hb c)) rfl ?_;clear H;rintro v7 G7 a w rfl uJ H;exact kH H (ak K2 rfl (LR results87 rfl fun H=>H.rt rfl))
def sP (l:List ay) (id:Int):Option (Int × Int):=((eZ 0 0 l).find? fun a=>pK id a.2).map (·.1)
theorem Rz (G:GH) (w0:World) (hG:Hold G w0) (D:kN) (l:List ay) (id:Int) (hv:aB G (.sl 11 (l.map ay.dat)) (dD D.f)) (hz:bM l≤4294967296) :
  Calls prog 30 #[D.val,vi id] w0 (bR w0 G fun u G'=>u=.tuple #[.agg #[vi ((sP l id).getD (0,0)).1,vi ((sP l id).getD (0,0)).2],.bool (sP l id).isSome]):=by
 refine eN [(0,_),(1,_)] func30 rfl ntmps30 rfl rfl hG ?_;intro a H;refine dz (fun _ K1=>?_);refine eU (cs:=[_,_,_,_,_,_,_,_,_,_,_]) H wn rfl rfl rfl ?_;clear H;intro b2 a w hb2 H;refine eU (cs:=[_]) H wn rfl rfl rfl ?_;clear H;intro b3 a w hb3 H;refine dR iW H wn rfl ?_;clear H;intro b4 a w hb4 H;refine dR nN H wn rfl ?_;clear H;intro b5 a w hb5 H;refine K1 _ _ ?_;clear K1;refine aO (fun _ K2=>?_);refine aO (fun _ K3=>?_);have H:=H.dK (Pl:=[_,_,_,_]) (dw:=[_,_,_,_]) [2,0,1,3] (by decide) rfl;obtain ⟨Ga,hma,hb3,H⟩:=H.fD
 have hbi:aH Ga b3 0=some (vi id):=by unfold aH;rw [hb3];rfl
 refine kP H (SC (aW BP iM 2 rfl rfl ?_));clear H;intro a H;refine s_call P9 H wn rfl (adO _ _ H.ro l 0 _ hz (hv.mono hma)) rfl ?_;clear H;rintro v11 zx a w ⟨bl,bi,rfl,hit⟩ Ji H;refine aI ?_;refine K3 _ _ ?_;clear K3;refine sw ?_;skip;refine AA (ι:=Unit) (κ:=Int × Int) (Lc:=[(_,_)]) (fun (k:Nat) (gh:Unit)=>[(b4,.cells #[vi 0,vi 0] 54 (0,0)),(b5,.cells #[.bool false] 4 (0,0))]) (fun (k:Nat) (gh:Unit)=>[]) (fun (k:Nat) (gh:Unit) (g:GH)=>((eZ 0 0 l).take k).find? (fun a=>pK id a.2)=none) (fun (gx:Int × Int)=>Code.ret) (fun (gx:Int × Int)=>[(b4,.cells #[vi gx.1,vi gx.2] 54 (0,0)),(b5,.cells #[.bool true] 4 (0,0))]) (fun (gx:Int × Int)=>[]) (fun (gx:Int × Int) (g:GH)=>sP l id=some gx) (()) (by exact H.dK (Pl:=[_,_,_]) (dw:=[_,_,_]) [2,1,0] (by decide) rfl) rfl Nb (hit) (fun _ _ h=>h) rfl (fun k args g h=>by obtain ⟨_,_,rfl,_⟩:=wD h;rfl) (fun _ _ _ _ _ h=>h) (fun _ _ _ _ h=>h) (rfl) ?_ ?_ ?_
 ·clear H;intro l2 uL sj bk k args gh G2 w2 F2 B2 a hk2 hm2 hI Jb GD GJ H;obtain ⟨hk,Iw,rfl,rM⟩:=wD hk2;obtain ⟨aA,an,ac,bA,bn,bc,Iy,IB,Iz,IC,II,IE,Jz,JC,JA,rfl,hh8,hf8,hr8⟩:=rM.item;dsimp only [ru,List.cons_append,List.nil_append] at H;replace hbi:=aF hm2 (aF Ji hbi);refine dz (fun _ K4=>?_);refine dR iW H wn rfl ?_;clear H;intro b6 a w hb6 H;refine bO iW 0 (vs:=[_,_]) _ H wn rfl rfl rfl rfl rfl rfl rfl rfl ?_;clear H;intro w H;dsimp only [List.set,setRow] at H;refine K4 _ _ ?_;clear K4;refine oD ?_;refine dR dB H wn rfl ?_;clear H;intro b7 a w tV H;refine bO dB 0 (vs:=[_,_,_,_,_,_,_,_,_,_,_]) _ H wn rfl rfl rfl rfl rfl rfl rfl rfl ?_;clear H;intro w H;dsimp only [List.set,setRow] at H;refine aI ?_;refine Jb _ _ _ _ _ _ (by exact H.dK (Pl:=[_,_,_,_,_,_]) (dw:=[_,_,_,_,_,_]) [2,0,1,3,4,5] (by decide) rfl) ?_;clear H;intro w H;refine kP H (SB (SR fun _ K5=>aW rC rR 1 rfl rfl ?_));clear H;intro a H;refine qR H wn rfl rfl ?_;clear H;intro a H;refine s_call ajo H wn rfl (ahl _ _ H.ro _ (LD id) _ _ hr8 (fun r _=>aoR hbi r)) rfl ?_;clear H;rintro v17 CU a w rfl tY H;replace hbi:=aF tY hbi;refine kH H (ak K5 rfl (SR fun _ K6=>aW qg aD 1 rfl rfl (Rg aD rfl (by assumption) ?_)));clear H K5;intro a H;refine kH H (Rc rfl (Rm rfl (Sp 22 rfl ?_ ?_))) <;> clear H
  ·intro h22 a H
   try have kr:=dT h22
   refine kH H (Ks h22 rfl (Pt h22 rfl (Kz K6 (Ct rfl rfl (SR fun _ K7=>?_)))));clear H K6;intro a H;refine bD iW (cs:=[_,_]) H wn rfl rfl (H.hp.eu 2 rfl rfl) rfl ?_;clear H;intro a H;refine bO iW 4 (vs:=[_,_]) _ H wn rfl rfl rfl rfl rfl rfl rfl rfl ?_;clear H;intro w H;dsimp only [List.set,setRow] at H;refine bO nN 5 (vs:=[_]) _ H wn rfl rfl rfl rfl rfl rfl rfl rfl ?_;clear H;intro w H;dsimp only [List.set,setRow] at H;refine K7 _ _ ?_;clear K7;refine dM ?_;refine (GJ ((eZ 0 0 l)[k].1) _ _ _ _ _ (by exact H.dK (Pl:=[_,_,_,_,_,_]) (dw:=[_,_,_,_]) [0,3,4,5] (by decide) rfl) ?_).1 rfl;exact (by unfold sP;rw [Qh hk hI (by unfold pK;simp_all)];rfl)
  intro h22 a H
  try have kr:=dF h22
  refine kH H (YM h22 rfl (Pf h22 rfl (Kz K6 (Cd rfl ?_ ?_)))) <;> clear H K6
  ·intro eP a H
   try have nA:=dT eP
   refine dz (fun _ K8=>?_);refine bD iW (cs:=[_,_]) H wn rfl rfl (H.hp.eu 2 rfl rfl) rfl ?_;clear H;intro a H;refine bO iW 4 (vs:=[_,_]) _ H wn rfl rfl rfl rfl rfl rfl rfl rfl ?_;clear H;intro w H;dsimp only [List.set,setRow] at H;refine bO nN 5 (vs:=[_]) _ H wn rfl rfl rfl rfl rfl rfl rfl rfl ?_;clear H;intro w H;dsimp only [List.set,setRow] at H;refine K8 _ _ ?_;clear K8;refine dM ?_;refine (GJ ((eZ 0 0 l)[k].1) _ _ _ _ _ (by exact H.dK (Pl:=[_,_,_,_,_,_]) (dw:=[_,_,_,_]) [0,3,4,5] (by decide) rfl) ?_).1 rfl;exact (by unfold sP;rw [Qh hk hI (by unfold pK;simp_all)];rfl)
  intro eP a H
  try have nA:=dF eP
  refine fI ?_;refine GD (()) _ _ _ _ _ (by exact H.dK (Pl:=[_,_,_,_,_,_]) (dw:=[_,_,_,_]) [0,3,4,5] (by decide) rfl) ?_;exact Ux hk hI (by unfold pK;simp_all)
 ·clear H;intro Hz gh H6 a w hm2 hI H;dsimp only [lca,aS] at H;refine K2 _ _ ?_;clear K2;refine dz (fun _ K9=>?_);refine lY JZ [_,_] H wn rfl rfl rfl rfl ?_;clear H;intro a H;refine bO iW 2 (vs:=[_,_]) _ H wn rfl rfl rfl rfl rfl rfl rfl rfl ?_;clear H;intro w H;dsimp only [List.set,setRow] at H;refine bO nN 3 (vs:=[_]) _ H wn rfl rfl rfl rfl rfl rfl rfl rfl ?_;clear H;intro w H;dsimp only [List.set,setRow] at H;refine K9 _ _ ?_;clear K9;refine dM ?_;refine (uK H 0 rfl ?_).1;clear H;intro a w H;dsimp only [List.eraseIdx_cons_succ,List.eraseIdx_cons_zero] at H;refine (gN H results30 (.cons (Cy iW (cs:=[_,_]) H rfl rfl (H.hp.eu 1 rfl rfl)) (.cons (vJ nN H rfl (H.hp.pQ 2 rfl rfl)) .nil)) ?_).1
  have h:sP l id=none:=by unfold sP;rw [Qg (by simpa using hI)];rfl
  exact H.rt (by rw [h];rfl)
 clear H;intro Hz gx H6 a w hm2 hI H;obtain ⟨x,hgh⟩:∃ x,x=gx:=⟨_,rfl⟩;subst hgh;dsimp only [lca,aS] at H;refine dM ?_;refine (uK H 0 rfl ?_).1;clear H;intro a w H;dsimp only [List.eraseIdx_cons_succ,List.eraseIdx_cons_zero] at H;refine (gN H results30 (.cons (Cy iW (cs:=[_,_]) H rfl rfl (H.hp.eu 1 rfl rfl)) (.cons (vJ nN H rfl (H.hp.pQ 2 rfl rfl)) .nil)) ?_).1;exact H.rt (by rw [hI];rfl)
end
section
open Go.RowKit
theorem aiK:∀ args w,(callFunc 215 args).run prog w=.ok (.enter 215 args) w:=enters func215 rfl (by kernel_rfl)
theorem aiL:∀ args w,(callFunc 216 args).run prog w=.ok (.enter 216 args) w:=enters func216 rfl (by kernel_rfl)
theorem aaw:∀ args w,(callFunc 182 args).run prog w=.ok (.enter 182 args) w:=enters func182 rfl (by kernel_rfl)
theorem ajX:dV prog 279 1 1:=⟨by kernel_rfl⟩
theorem om:prog.underlying 38=some (.slice 3):=by kernel_rfl
theorem aiO:∀ args w,(callFunc 219 args).run prog w=.ok (.enter 219 args) w:=enters func219 rfl (by kernel_rfl)
theorem ais:∀ args w,(callFunc 184 args).run prog w=.ok (.enter 184 args) w:=enters func184 rfl (by kernel_rfl)
theorem air:∀ args w,(callFunc 183 args).run prog w=.ok (.enter 183 args) w:=enters func183 rfl (by kernel_rfl)
theorem ajY:dV prog 279 2 2:=⟨by kernel_rfl⟩
theorem ajZ:dV prog 279 3 3:=⟨by kernel_rfl⟩
def kz:lI:=⟨0,0,0,0,0,⟨#[]⟩⟩
def JF:List Int:=JG.map lI.num
def oF (k:Int):lI × Bool:=if Gn JF k=true then (JG.getD (Df JF k) kz,true) else (kz,false)
theorem find_spec (G:GH) (w0:World) (hG:Hold G w0) (k:Int):Calls prog 182 #[vi k] w0 (bR w0 G fun u G'=>u=.tuple #[.agg (oF k).1.cells.toArray,.bool (oF k).2]):=by
 refine eN [(0,_)] func182 rfl ntmps182 rfl rfl hG ?_;intro a H;refine dz (fun _ K1=>?_);refine dR wI H wn rfl ?_;clear H;intro b2 a w hb2 H;refine kH H (ak K1 rfl (SR fun _ K2=>?_));clear H K1;intro a H;refine s_call aiK H wn rfl (anI _ _ H.ro) rfl ?_;clear H;rintro v7 G7 a w hv7 uJ H;obtain ⟨A,c,rfl,hc1,hc2,-⟩:=hv7.slice;rw [bZ] at *;refine kH H (ak K2 rfl (SR fun _ K3=>Rm rfl (Rm rfl ?_)));clear H K2;intro a H;refine s_call aiL H wn rfl (agi _ _ H.ro JG k _ hv7 (by decide)) rfl ?_;clear H;rintro v11 zx a w rfl Ji H;have hv7:=hv7.mono Ji;have hkn:JG.map lI.num=JF:=rfl;rw [hkn] at H;obtain ⟨n,hn⟩:∃ n,n=Df JF k:=⟨_,rfl⟩;obtain ⟨q,hq⟩:∃ q,q=Gn JF k:=⟨_,rfl⟩;rw [← hn,← hq] at H;refine kH H (Rm rfl ?_);clear H;intro a H;(iterate 2 refine lD H wn rfl rfl rfl ?_;clear H;intro a H);refine kH H (Ra rfl (ak K3 rfl (SQ fun _ K4=>SR fun _ K5=>Rm rfl (Rn rfl (Kz K5 (Cd rfl ?_ ?_)))))) <;> clear H K3 K5
 ·intro jO a H
  refine dz (fun _ K6=>?_);refine lY aeo [_,_,_,_,_,_] H wn rfl rfl rfl rfl ?_;clear H;intro a H;refine bO wI 0 (vs:=[_,_,_,_,_,_]) _ H wn rfl rfl rfl rfl rfl rfl rfl rfl ?_;clear H;intro w H;dsimp only [List.set,setRow] at H;refine kH H (ak K6 rfl ?_);clear H K6;intro a H;refine dM ?_;refine (gN H results182 (.cons (Cy wI (cs:=[_,_,_,_,_,_]) H rfl rfl (H.hp.eu 0 rfl rfl)) (.cons (bP H rfl) .nil)) ?_).1;exact H.rt (by rw [oF,ah (by rw [← hq];simpa using jO)];rfl)
 intro jO a H
 try have qw:=dF jO
 have hlt:n < JG.length:=by have:=akZ (ks:=JF) (t:=k) (by rw [← hq];simpa using jO);rw [← hn] at this;simpa [JF] using this
 obtain ⟨b,o,rfl,hrow⟩:=WR hv7 hlt;refine kP H (Kc K4 (SR fun _ K7=>Rm rfl (Rm rfl (Ri OW wI rfl rfl ?_))));clear H K4;intro a H;refine bD wI (cs:=[_,_,_,_,_,_]) H wn rfl rfl (fun j v hj=>H.hp.aH (hrow j v hj)) rfl ?_;clear H;intro a H;refine bO wI 0 (vs:=[_,_,_,_,_,_]) _ H wn rfl rfl rfl rfl rfl rfl rfl rfl ?_;clear H;intro w H;dsimp only [List.set,setRow] at H;refine kH H (ak K7 rfl ?_);clear H K7;intro a H;refine dM ?_;refine (gN H results182 (.cons (Cy wI (cs:=[_,_,_,_,_,_]) H rfl rfl (H.hp.eu 0 rfl rfl)) (.cons (bP H rfl) .nil)) ?_).1;exact H.rt (by rw [oF,au (by rw [← hq];simpa using jO),← hn,List.getD_eq_getElem?_getD,gD hlt];rfl)
def fE (e:Int):List Int:=if e=1∨e=4∨e=5∨e=6 then [1] else if e=2 then [1,2] else if e=3 then [3] else if e=7 then [6] else if e=9 then [4] else if e=10 then [5] else []
theorem gH (G:GH) (A:List Int):ji G 1 (A.map fun k=>[li k]) (A.map vi):=by
 refine ⟨A.map fun k=>[vi k],?_,by simp,fun j r cs hr hc=>?_⟩
 ·induction A with
  | nil=>rfl
  | cons a A ih=>simpa using ih
 rw [qY] at hr hc
 cases h:A[j]? with
 | none=>rw [h] at hr;cases hr
 | some x =>
  rw [h] at hr hc
  cases hr;cases hc
  exact ⟨by simp only [bH];exact ⟨_,_,rfl,by simp [aB,Value.oneCell'],rfl⟩,rfl⟩
theorem akx (G:GH) (w0:World) (hG:Hold G w0) (e:Int):Calls prog 184 #[vi e] w0 (bR w0 G fun u G'=>aB G' (.sl 1 ((fE e).map fun k=>[li k])) u):=by
  refine eN [(0,_)] func184 rfl ntmps184 rfl rfl hG ?_;intro a H;refine kP H (SR fun _ K1=>ak K1 rfl (SQ fun _ K2=>SR fun _ K3=>Rm rfl (Kz K3 (SB (SQ fun _ K4=>SR fun _ K5=>Rc rfl (ak K5 rfl (Cd rfl ?_ ?_))))))) <;> clear H K1 K3 K5
  · intro h4 a H
    try have p4:=dT h4
    refine kP H (Kc K4 (Ct rfl h4 (SR fun _ K6=>?_)));clear H K4;intro a H;refine jF om aD [_] [_] H wn rfl rfl rfl rfl rfl (by intro i q h;match i,h with|0,h=>exact h|n+1,h=>simp at h) rfl rfl ?_;clear H;intro b9 a w uG H;refine kH H (ak K6 rfl ?_);clear H K6;intro a H;refine lr H results184 rfl ?_
    first
      | exact H.rt (by rw [fE,ah (by omega),ah (by omega),ah (by omega),ah (by omega),ah (by omega),ah (by omega)];exact aB.jP rfl (by decide))
      | (obtain ⟨Gz,hmz,hbz,H⟩:=H.fD
         first
           | exact H.rt (by rw [fE,au (by omega)];exact aB.fZ (n:=1) (cap:=1) hbz rfl (dQ _) (show 1≤maxLen by decide) rfl (gH _ [1]))
           | exact H.rt (by rw [fE,ah (by omega),au (by omega)];exact aB.fZ (n:=2) (cap:=2) hbz rfl (dQ _) (show 2≤maxLen by decide) rfl (gH _ [1,2]))
           | exact H.rt (by rw [fE,ah (by omega),ah (by omega),au (by omega)];exact aB.fZ (n:=1) (cap:=1) hbz rfl (dQ _) (show 1≤maxLen by decide) rfl (gH _ [3]))
           | exact H.rt (by rw [fE,ah (by omega),ah (by omega),ah (by omega),au (by omega)];exact aB.fZ (n:=1) (cap:=1) hbz rfl (dQ _) (show 1≤maxLen by decide) rfl (gH _ [6]))
           | exact H.rt (by rw [fE,ah (by omega),ah (by omega),ah (by omega),ah (by omega),au (by omega)];exact aB.fZ (n:=1) (cap:=1) hbz rfl (dQ _) (show 1≤maxLen by decide) rfl (gH _ [4]))
           | exact H.rt (by rw [fE,ah (by omega),ah (by omega),ah (by omega),ah (by omega),ah (by omega),au (by omega)];exact aB.fZ (n:=1) (cap:=1) hbz rfl (dQ _) (show 1≤maxLen by decide) rfl (gH _ [5])))
  intro h4 a H
  try have p4:=dF h4
  refine kP H (SR fun _ K7=>Rc rfl (ak K7 rfl (Cd rfl ?_ ?_))) <;> clear H K7
  · intro h4 a H
    try have p4:=dT h4
    refine kP H (Kc K4 (Ct rfl h4 (SR fun _ K8=>?_)));clear H K4;intro a H;refine jF om aD [_] [_] H wn rfl rfl rfl rfl rfl (by intro i q h;match i,h with|0,h=>exact h|n+1,h=>simp at h) rfl rfl ?_;clear H;intro b9 a w uG H;refine kH H (ak K8 rfl ?_);clear H K8;intro a H;refine lr H results184 rfl ?_
    first
      | exact H.rt (by rw [fE,ah (by omega),ah (by omega),ah (by omega),ah (by omega),ah (by omega),ah (by omega)];exact aB.jP rfl (by decide))
      | (obtain ⟨Gz,hmz,hbz,H⟩:=H.fD
         first
           | exact H.rt (by rw [fE,au (by omega)];exact aB.fZ (n:=1) (cap:=1) hbz rfl (dQ _) (show 1≤maxLen by decide) rfl (gH _ [1]))
           | exact H.rt (by rw [fE,ah (by omega),au (by omega)];exact aB.fZ (n:=2) (cap:=2) hbz rfl (dQ _) (show 2≤maxLen by decide) rfl (gH _ [1,2]))
           | exact H.rt (by rw [fE,ah (by omega),ah (by omega),au (by omega)];exact aB.fZ (n:=1) (cap:=1) hbz rfl (dQ _) (show 1≤maxLen by decide) rfl (gH _ [3]))
           | exact H.rt (by rw [fE,ah (by omega),ah (by omega),ah (by omega),au (by omega)];exact aB.fZ (n:=1) (cap:=1) hbz rfl (dQ _) (show 1≤maxLen by decide) rfl (gH _ [6]))
           | exact H.rt (by rw [fE,ah (by omega),ah (by omega),ah (by omega),ah (by omega),au (by omega)];exact aB.fZ (n:=1) (cap:=1) hbz rfl (dQ _) (show 1≤maxLen by decide) rfl (gH _ [4]))
           | exact H.rt (by rw [fE,ah (by omega),ah (by omega),ah (by omega),ah (by omega),ah (by omega),au (by omega)];exact aB.fZ (n:=1) (cap:=1) hbz rfl (dQ _) (show 1≤maxLen by decide) rfl (gH _ [5])))
  intro h4 a H
  try have p4:=dF h4
  refine kP H (SR fun _ K9=>Rc rfl (ak K9 rfl (Cd rfl ?_ ?_))) <;> clear H K9
  · intro h4 a H
    try have p4:=dT h4
    refine kP H (Kc K4 (Ct rfl h4 (SR fun _ aZ=>?_)));clear H K4;intro a H;refine jF om aD [_] [_] H wn rfl rfl rfl rfl rfl (by intro i q h;match i,h with|0,h=>exact h|n+1,h=>simp at h) rfl rfl ?_;clear H;intro b9 a w uG H;refine kH H (ak aZ rfl ?_);clear H aZ;intro a H;refine lr H results184 rfl ?_
    first
      | exact H.rt (by rw [fE,ah (by omega),ah (by omega),ah (by omega),ah (by omega),ah (by omega),ah (by omega)];exact aB.jP rfl (by decide))
      | (obtain ⟨Gz,hmz,hbz,H⟩:=H.fD
         first
           | exact H.rt (by rw [fE,au (by omega)];exact aB.fZ (n:=1) (cap:=1) hbz rfl (dQ _) (show 1≤maxLen by decide) rfl (gH _ [1]))
           | exact H.rt (by rw [fE,ah (by omega),au (by omega)];exact aB.fZ (n:=2) (cap:=2) hbz rfl (dQ _) (show 2≤maxLen by decide) rfl (gH _ [1,2]))
           | exact H.rt (by rw [fE,ah (by omega),ah (by omega),au (by omega)];exact aB.fZ (n:=1) (cap:=1) hbz rfl (dQ _) (show 1≤maxLen by decide) rfl (gH _ [3]))
           | exact H.rt (by rw [fE,ah (by omega),ah (by omega),ah (by omega),au (by omega)];exact aB.fZ (n:=1) (cap:=1) hbz rfl (dQ _) (show 1≤maxLen by decide) rfl (gH _ [6]))
           | exact H.rt (by rw [fE,ah (by omega),ah (by omega),ah (by omega),ah (by omega),au (by omega)];exact aB.fZ (n:=1) (cap:=1) hbz rfl (dQ _) (show 1≤maxLen by decide) rfl (gH _ [4]))
           | exact H.rt (by rw [fE,ah (by omega),ah (by omega),ah (by omega),ah (by omega),ah (by omega),au (by omega)];exact aB.fZ (n:=1) (cap:=1) hbz rfl (dQ _) (show 1≤maxLen by decide) rfl (gH _ [5])))
  intro h4 a H
  try have p4:=dF h4
  refine kP H (SC (Rc rfl (aM K4 rfl (Cd rfl ?_ ?_)))) <;> clear H K4
  · intro h4 a H
    try have p4:=dT h4
    refine dz (fun _ bN=>?_);refine jF om aD [_] [_] H wn rfl rfl rfl rfl rfl (by intro i q h;match i,h with|0,h=>exact h|n+1,h=>simp at h) rfl rfl ?_;clear H;intro b9 a w uG H;refine kH H (ak bN rfl ?_);clear H bN;intro a H;refine lr H results184 rfl ?_
    first
      | exact H.rt (by rw [fE,ah (by omega),ah (by omega),ah (by omega),ah (by omega),ah (by omega),ah (by omega)];exact aB.jP rfl (by decide))
      | (obtain ⟨Gz,hmz,hbz,H⟩:=H.fD
         first
           | exact H.rt (by rw [fE,au (by omega)];exact aB.fZ (n:=1) (cap:=1) hbz rfl (dQ _) (show 1≤maxLen by decide) rfl (gH _ [1]))
           | exact H.rt (by rw [fE,ah (by omega),au (by omega)];exact aB.fZ (n:=2) (cap:=2) hbz rfl (dQ _) (show 2≤maxLen by decide) rfl (gH _ [1,2]))
           | exact H.rt (by rw [fE,ah (by omega),ah (by omega),au (by omega)];exact aB.fZ (n:=1) (cap:=1) hbz rfl (dQ _) (show 1≤maxLen by decide) rfl (gH _ [3]))
           | exact H.rt (by rw [fE,ah (by omega),ah (by omega),ah (by omega),au (by omega)];exact aB.fZ (n:=1) (cap:=1) hbz rfl (dQ _) (show 1≤maxLen by decide) rfl (gH _ [6]))
           | exact H.rt (by rw [fE,ah (by omega),ah (by omega),ah (by omega),ah (by omega),au (by omega)];exact aB.fZ (n:=1) (cap:=1) hbz rfl (dQ _) (show 1≤maxLen by decide) rfl (gH _ [4]))
           | exact H.rt (by rw [fE,ah (by omega),ah (by omega),ah (by omega),ah (by omega),ah (by omega),au (by omega)];exact aB.fZ (n:=1) (cap:=1) hbz rfl (dQ _) (show 1≤maxLen by decide) rfl (gH _ [5])))
  intro h4 a H
  try have p4:=dF h4
  refine kP H (SR fun _ bQ=>Rc rfl (ak bQ rfl (Cd rfl ?_ ?_))) <;> clear H bQ
  · intro h10 a H
    try have mX:=dT h10
    refine dz (fun _ bT=>?_);refine jF om aD [_,_] [_,_] H wn rfl rfl rfl rfl rfl (by intro i q h;match i,h with|0,h=>exact h|1,h=>exact h|n+2,h=>simp at h) rfl rfl ?_;clear H;intro b12 a w Gp H;refine kH H (ak bT rfl ?_);clear H bT;intro a H;refine lr H results184 rfl ?_
    first
      | exact H.rt (by rw [fE,ah (by omega),ah (by omega),ah (by omega),ah (by omega),ah (by omega),ah (by omega)];exact aB.jP rfl (by decide))
      | (obtain ⟨Gz,hmz,hbz,H⟩:=H.fD
         first
           | exact H.rt (by rw [fE,au (by omega)];exact aB.fZ (n:=1) (cap:=1) hbz rfl (dQ _) (show 1≤maxLen by decide) rfl (gH _ [1]))
           | exact H.rt (by rw [fE,ah (by omega),au (by omega)];exact aB.fZ (n:=2) (cap:=2) hbz rfl (dQ _) (show 2≤maxLen by decide) rfl (gH _ [1,2]))
           | exact H.rt (by rw [fE,ah (by omega),ah (by omega),au (by omega)];exact aB.fZ (n:=1) (cap:=1) hbz rfl (dQ _) (show 1≤maxLen by decide) rfl (gH _ [3]))
           | exact H.rt (by rw [fE,ah (by omega),ah (by omega),ah (by omega),au (by omega)];exact aB.fZ (n:=1) (cap:=1) hbz rfl (dQ _) (show 1≤maxLen by decide) rfl (gH _ [6]))
           | exact H.rt (by rw [fE,ah (by omega),ah (by omega),ah (by omega),ah (by omega),au (by omega)];exact aB.fZ (n:=1) (cap:=1) hbz rfl (dQ _) (show 1≤maxLen by decide) rfl (gH _ [4]))
           | exact H.rt (by rw [fE,ah (by omega),ah (by omega),ah (by omega),ah (by omega),ah (by omega),au (by omega)];exact aB.fZ (n:=1) (cap:=1) hbz rfl (dQ _) (show 1≤maxLen by decide) rfl (gH _ [5])))
  intro h10 a H
  try have mX:=dF h10
  refine kP H (SR fun _ cu=>Rc rfl (ak cu rfl (Cd rfl ?_ ?_))) <;> clear H cu
  · intro fP a H
    try have qN:=dT fP
    refine dz (fun _ dL=>?_);refine jF om aD [_] [_] H wn rfl rfl rfl rfl rfl (by intro i q h;match i,h with|0,h=>exact h|n+1,h=>simp at h) rfl rfl ?_;clear H;intro b15 a w Vv H;refine kH H (ak dL rfl ?_);clear H dL;intro a H;refine lr H results184 rfl ?_
    first
      | exact H.rt (by rw [fE,ah (by omega),ah (by omega),ah (by omega),ah (by omega),ah (by omega),ah (by omega)];exact aB.jP rfl (by decide))
      | (obtain ⟨Gz,hmz,hbz,H⟩:=H.fD
         first
           | exact H.rt (by rw [fE,au (by omega)];exact aB.fZ (n:=1) (cap:=1) hbz rfl (dQ _) (show 1≤maxLen by decide) rfl (gH _ [1]))
           | exact H.rt (by rw [fE,ah (by omega),au (by omega)];exact aB.fZ (n:=2) (cap:=2) hbz rfl (dQ _) (show 2≤maxLen by decide) rfl (gH _ [1,2]))
           | exact H.rt (by rw [fE,ah (by omega),ah (by omega),au (by omega)];exact aB.fZ (n:=1) (cap:=1) hbz rfl (dQ _) (show 1≤maxLen by decide) rfl (gH _ [3]))
           | exact H.rt (by rw [fE,ah (by omega),ah (by omega),ah (by omega),au (by omega)];exact aB.fZ (n:=1) (cap:=1) hbz rfl (dQ _) (show 1≤maxLen by decide) rfl (gH _ [6]))
           | exact H.rt (by rw [fE,ah (by omega),ah (by omega),ah (by omega),ah (by omega),au (by omega)];exact aB.fZ (n:=1) (cap:=1) hbz rfl (dQ _) (show 1≤maxLen by decide) rfl (gH _ [4]))
           | exact H.rt (by rw [fE,ah (by omega),ah (by omega),ah (by omega),ah (by omega),ah (by omega),au (by omega)];exact aB.fZ (n:=1) (cap:=1) hbz rfl (dQ _) (show 1≤maxLen by decide) rfl (gH _ [5])))
  intro fP a H
  try have qN:=dF fP
  refine kP H (SR fun _ dO=>Rc rfl (ak dO rfl (Cd rfl ?_ ?_))) <;> clear H dO
  · intro h16 a H
    try have p16:=dT h16
    refine dz (fun _ dJ=>?_);refine jF om aD [_] [_] H wn rfl rfl rfl rfl rfl (by intro i q h;match i,h with|0,h=>exact h|n+1,h=>simp at h) rfl rfl ?_;clear H;intro b18 a w Qv H;refine kH H (ak dJ rfl ?_);clear H dJ;intro a H;refine lr H results184 rfl ?_
    first
      | exact H.rt (by rw [fE,ah (by omega),ah (by omega),ah (by omega),ah (by omega),ah (by omega),ah (by omega)];exact aB.jP rfl (by decide))
      | (obtain ⟨Gz,hmz,hbz,H⟩:=H.fD
         first
           | exact H.rt (by rw [fE,au (by omega)];exact aB.fZ (n:=1) (cap:=1) hbz rfl (dQ _) (show 1≤maxLen by decide) rfl (gH _ [1]))
           | exact H.rt (by rw [fE,ah (by omega),au (by omega)];exact aB.fZ (n:=2) (cap:=2) hbz rfl (dQ _) (show 2≤maxLen by decide) rfl (gH _ [1,2]))
           | exact H.rt (by rw [fE,ah (by omega),ah (by omega),au (by omega)];exact aB.fZ (n:=1) (cap:=1) hbz rfl (dQ _) (show 1≤maxLen by decide) rfl (gH _ [3]))
           | exact H.rt (by rw [fE,ah (by omega),ah (by omega),ah (by omega),au (by omega)];exact aB.fZ (n:=1) (cap:=1) hbz rfl (dQ _) (show 1≤maxLen by decide) rfl (gH _ [6]))
           | exact H.rt (by rw [fE,ah (by omega),ah (by omega),ah (by omega),ah (by omega),au (by omega)];exact aB.fZ (n:=1) (cap:=1) hbz rfl (dQ _) (show 1≤maxLen by decide) rfl (gH _ [4]))
           | exact H.rt (by rw [fE,ah (by omega),ah (by omega),ah (by omega),ah (by omega),ah (by omega),au (by omega)];exact aB.fZ (n:=1) (cap:=1) hbz rfl (dQ _) (show 1≤maxLen by decide) rfl (gH _ [5])))
  intro h16 a H
  try have p16:=dF h16
  refine kP H (SR fun _ dW=>Rc rfl (ak dW rfl (Cd rfl ?_ ?_))) <;> clear H dW
  · intro h19 a H
    try have xM:=dT h19
    refine dz (fun _ eG=>?_);refine jF om aD [_] [_] H wn rfl rfl rfl rfl rfl (by intro i q h;match i,h with|0,h=>exact h|n+1,h=>simp at h) rfl rfl ?_;clear H;intro b21 a w asA H;refine kH H (ak eG rfl ?_);clear H eG;intro a H;refine lr H results184 rfl ?_
    first
      | exact H.rt (by rw [fE,ah (by omega),ah (by omega),ah (by omega),ah (by omega),ah (by omega),ah (by omega)];exact aB.jP rfl (by decide))
      | (obtain ⟨Gz,hmz,hbz,H⟩:=H.fD
         first
           | exact H.rt (by rw [fE,au (by omega)];exact aB.fZ (n:=1) (cap:=1) hbz rfl (dQ _) (show 1≤maxLen by decide) rfl (gH _ [1]))
           | exact H.rt (by rw [fE,ah (by omega),au (by omega)];exact aB.fZ (n:=2) (cap:=2) hbz rfl (dQ _) (show 2≤maxLen by decide) rfl (gH _ [1,2]))
           | exact H.rt (by rw [fE,ah (by omega),ah (by omega),au (by omega)];exact aB.fZ (n:=1) (cap:=1) hbz rfl (dQ _) (show 1≤maxLen by decide) rfl (gH _ [3]))
           | exact H.rt (by rw [fE,ah (by omega),ah (by omega),ah (by omega),au (by omega)];exact aB.fZ (n:=1) (cap:=1) hbz rfl (dQ _) (show 1≤maxLen by decide) rfl (gH _ [6]))
           | exact H.rt (by rw [fE,ah (by omega),ah (by omega),ah (by omega),ah (by omega),au (by omega)];exact aB.fZ (n:=1) (cap:=1) hbz rfl (dQ _) (show 1≤maxLen by decide) rfl (gH _ [4]))
           | exact H.rt (by rw [fE,ah (by omega),ah (by omega),ah (by omega),ah (by omega),ah (by omega),au (by omega)];exact aB.fZ (n:=1) (cap:=1) hbz rfl (dQ _) (show 1≤maxLen by decide) rfl (gH _ [5])))
  intro h19 a H
  try have xM:=dF h19
  refine kP H (SR fun _ eB=>Rc rfl (ak eB rfl (Cd rfl ?_ ?_))) <;> clear H eB
  · intro h22 a H
    try have kr:=dT h22
    refine dz (fun _ eH=>?_);refine jF om aD [_] [_] H wn rfl rfl rfl rfl rfl (by intro i q h;match i,h with|0,h=>exact h|n+1,h=>simp at h) rfl rfl ?_;clear H;intro b24 a w ali H;refine kH H (ak eH rfl ?_);clear H eH;intro a H;refine lr H results184 rfl ?_
    first
      | exact H.rt (by rw [fE,ah (by omega),ah (by omega),ah (by omega),ah (by omega),ah (by omega),ah (by omega)];exact aB.jP rfl (by decide))
      | (obtain ⟨Gz,hmz,hbz,H⟩:=H.fD
         first
           | exact H.rt (by rw [fE,au (by omega)];exact aB.fZ (n:=1) (cap:=1) hbz rfl (dQ _) (show 1≤maxLen by decide) rfl (gH _ [1]))
           | exact H.rt (by rw [fE,ah (by omega),au (by omega)];exact aB.fZ (n:=2) (cap:=2) hbz rfl (dQ _) (show 2≤maxLen by decide) rfl (gH _ [1,2]))
           | exact H.rt (by rw [fE,ah (by omega),ah (by omega),au (by omega)];exact aB.fZ (n:=1) (cap:=1) hbz rfl (dQ _) (show 1≤maxLen by decide) rfl (gH _ [3]))
           | exact H.rt (by rw [fE,ah (by omega),ah (by omega),ah (by omega),au (by omega)];exact aB.fZ (n:=1) (cap:=1) hbz rfl (dQ _) (show 1≤maxLen by decide) rfl (gH _ [6]))
           | exact H.rt (by rw [fE,ah (by omega),ah (by omega),ah (by omega),ah (by omega),au (by omega)];exact aB.fZ (n:=1) (cap:=1) hbz rfl (dQ _) (show 1≤maxLen by decide) rfl (gH _ [4]))
           | exact H.rt (by rw [fE,ah (by omega),ah (by omega),ah (by omega),ah (by omega),ah (by omega),au (by omega)];exact aB.fZ (n:=1) (cap:=1) hbz rfl (dQ _) (show 1≤maxLen by decide) rfl (gH _ [5])))
  intro h22 a H
  try have kr:=dF h22
  refine kP H (Kc K2 (SR fun _ fO=>ak fO rfl ?_));clear H K2 fO;intro a H;refine lr H results184 rfl ?_
  first
    | exact H.rt (by rw [fE,ah (by omega),ah (by omega),ah (by omega),ah (by omega),ah (by omega),ah (by omega)];exact aB.jP rfl (by decide))
    | (obtain ⟨Gz,hmz,hbz,H⟩:=H.fD
       first
         | exact H.rt (by rw [fE,au (by omega)];exact aB.fZ (n:=1) (cap:=1) hbz rfl (dQ _) (show 1≤maxLen by decide) rfl (gH _ [1]))
         | exact H.rt (by rw [fE,ah (by omega),au (by omega)];exact aB.fZ (n:=2) (cap:=2) hbz rfl (dQ _) (show 2≤maxLen by decide) rfl (gH _ [1,2]))
         | exact H.rt (by rw [fE,ah (by omega),ah (by omega),au (by omega)];exact aB.fZ (n:=1) (cap:=1) hbz rfl (dQ _) (show 1≤maxLen by decide) rfl (gH _ [3]))
         | exact H.rt (by rw [fE,ah (by omega),ah (by omega),ah (by omega),au (by omega)];exact aB.fZ (n:=1) (cap:=1) hbz rfl (dQ _) (show 1≤maxLen by decide) rfl (gH _ [6]))
         | exact H.rt (by rw [fE,ah (by omega),ah (by omega),ah (by omega),ah (by omega),au (by omega)];exact aB.fZ (n:=1) (cap:=1) hbz rfl (dQ _) (show 1≤maxLen by decide) rfl (gH _ [4]))
         | exact H.rt (by rw [fE,ah (by omega),ah (by omega),ah (by omega),ah (by omega),ah (by omega),au (by omega)];exact aB.fZ (n:=1) (cap:=1) hbz rfl (dQ _) (show 1≤maxLen by decide) rfl (gH _ [5])))
theorem anx {G:GH} {l:List Int} {A:Option Addr} {n c k:Nat} (hv:aB G (.sl 1 (l.map fun k=>[li k])) (.slice A n c)) (hk:k < l.length):∃ b o,A=some ⟨b,o,none⟩∧aH G b (o+k*1)=some (vi l[k]):=by
 obtain ⟨A',c',he,_,_,hg⟩:=hv.slice
 injection he with e1 e2 e3
 subst e1;obtain ⟨b,o,cs,h1,h2,h3,h4⟩:=hg k [li l[k]] (by simp [hk])
 simp only [bH,aB] at h4
 obtain ⟨v1,_,rfl,⟨rfl,-⟩,rfl⟩:=h4;exact ⟨b,o,h1,h3 0 _ rfl⟩
theorem ant (G:GH) (w0:World) (hG:Hold G w0) (l:List Int) (t:Int) (v:aj) (hv:aB G (.sl 1 (l.map fun k=>[li k])) v) :
  Calls prog 219 #[v,vi t] w0 (bR w0 G fun u G'=>u=vi (rO (l.findIdx? fun x=>decide (t=x)))):=by
 obtain ⟨A,c,rfl,hc1,hc2,-⟩:=hv.slice;have hml:maxLen=9223372036854775807:=rfl;rw [bZ] at *;refine eN [(0,_),(1,_)] func219 rfl ntmps219 rfl rfl hG ?_;intro a H;refine kP H (SR fun _ K1=>ak K1 rfl (SQ fun _ K2=>SR fun _ K3=>Rm rfl (Rl om rfl (Rm rfl (Kz K3 (SB ?_))))));clear H K1 K3;intro a H;skip;refine fH (ι:=Nat) (Tc:=[(0,_),(1,_),(7,_)]) (Lc:=[]) (fun gh=>[(8,vi gh)]) (fun gh=>[]) (fun gh=>G) (fun gh=>gh≤l.length∧(l.take gh).findIdx? (fun x=>decide (t=x))=none) (fun gh=>l.length - gh) (0) (by exact (H).sub ⟨rfl,rfl,rfl,rfl,av⟩) ?_ ?_
 ·exact ⟨iK _,rfl⟩
 clear H;intro gh a w hI H;obtain ⟨k,hgh⟩:∃ x,x=gh:=⟨_,rfl⟩;subst hgh;obtain ⟨hk,hno⟩:=hI;dsimp only [lca,aS] at H;refine kP H (SR fun _ K4=>Rc rfl (Kz K4 (SQ fun _ K5=>Cd rfl ?_ ?_))) <;> clear H K4
 ·intro h9 a H
  try have p9:=dT h9
  have hk2:k < l.length:=by omega
  obtain ⟨b,o,rfl,hrow⟩:=anx hv hk2;refine kP H (Kc K5 (SQ fun _ K6=>SB (SR fun _ K7=>Rm rfl (ak K7 rfl (SR fun _ K8=>Rm rfl (Rm rfl (Rm rfl (Ri om aD rfl rfl (Rg aD rfl (by assumption) ?_)))))))));clear H K5 K7;intro a H;refine kH H (Rc rfl (Kz K8 (Cd rfl ?_ ?_))) <;> clear H K8
  ·intro h16 a H
   try have p16:=dT h16
   exact kP H (SR fun _ K9=>Rm rfl (ak K9 rfl (LR results219 rfl fun H=>H.rt (by rw [zW hk2 hno (by simpa using p16)];rfl))))
  intro h16 a H
  try have p16:=dF h16
  refine kP H (Kc K6 (SC (Rd rfl (Rm rfl ?_))));clear H K6;intro a H;refine aI ?_;refine dP ((k+1)) (by exact (H).sub ⟨rfl,rfl,rfl,rfl,av⟩) ?_ ?_
  ·exact ⟨by omega,JB hk2 hno (by simpa using p16)⟩
  first|omega|(dsimp only;omega)
 intro h9 a H
 try have p9:=dF h9
 refine eD ?_;refine K2 _ _ ?_;clear K2;exact kP H (SR fun _ aZ=>ak aZ rfl (LR results219 rfl fun H=>H.rt (by rw [show l.take k=l from kF (by omega)] at hno;rw [hno];rfl)))
theorem ahm (G:GH) (w0:World) (hG:Hold G w0) (l:List Int) (t:Int) (v:aj) (hv:aB G (.sl 1 (l.map fun k=>[li k])) v) :
  Calls prog 183 #[v,vi t] w0 (bR w0 G fun u G'=>u=.bool (decide (t∈l))):=by
 obtain ⟨A,c,rfl,hc1,hc2,-⟩:=hv.slice;rw [bZ] at *;refine eN [(0,_),(1,_)] func183 rfl ntmps183 rfl rfl hG ?_;intro a H;refine kP H (SR fun _ K1=>ak K1 rfl (SR fun _ K2=>Rm rfl (Rm rfl ?_)));clear H K1;intro a H;refine s_call aiO H wn rfl (ant _ _ H.ro l t _ hv) rfl ?_;clear H;rintro v7 G7 a w rfl uJ H;refine kH H (Rc rfl (ak K2 rfl ?_));clear H K2;intro a H;refine lr H results183 rfl ?_
 exact H.rt (by
  congr 1
  cases h:l.findIdx? (fun x=>decide (t=x)) with
  | none =>
   rw [List.findIdx?_eq_none_iff] at h;have:t∉l:=fun hm=>absurd (h t hm) (by simp)
   simp [rO,this]
  | some i =>
   obtain ⟨hi,he,-⟩:=List.findIdx?_eq_some_iff_getElem.1 h
   have:t∈l:=by rw [pE he];exact jr _
   simp [rO,this])
def BQ (e k:Int):Bool:=(oF k).2 && decide ((oF k).1.Dp∈fE e)
theorem Uy (G:GH) (w0:World) (hG:Hold G w0) (e k:Int):Calls prog 106 #[vi e,vi k] w0 (bR w0 G fun u G'=>u=.bool (BQ e k)):=by
 refine eN [(0,_),(1,_)] func106 rfl ntmps106 rfl rfl hG ?_;intro a H;refine kP H (SR fun _ K1=>ak K1 rfl (SR fun _ K2=>Rm rfl ?_));clear H K1;intro a H;refine s_call aaw H wn rfl (find_spec _ _ H.ro k) rfl ?_;clear H;rintro v9 G9 a w rfl Ba H;dsimp only [lI.cells] at H;refine kH H (Rm rfl ?_);clear H;intro a H;(iterate 2 refine lD H wn rfl rfl rfl ?_;clear H;intro a H);refine dR wI H wn rfl ?_;clear H;intro b5 a w hb5 H;refine bO wI 0 (vs:=[_,_,_,_,_,_]) _ H wn rfl rfl rfl rfl rfl rfl rfl rfl ?_;clear H;intro w H;dsimp only [List.set,setRow] at H;refine kH H (ak K2 rfl (SQ fun _ K3=>?_));clear H K2;intro a H
 by_cases c0:(oF k).2=true
 ·skip
  have rJ:∀ (bL:Nat) (v:aj) (G G':GH),(∀ k o,G k=some o→G' k=some o)→(fun (bL:Nat) (v:aj) (G:GH)=>match bL with|0=>v=.bool (oF k).2|1=>v=.bool (decide ((oF k).2=true))|2=>v=vi e|3=>(oF k).2=true→aB G (.sl 1 ((fE e).map fun k=>[li k])) v|4=>v=(aK b5 1)|5=>v=vi (oF k).1.Dp|6=>v=.bool (decide ((oF k).1.Dp∈fE e))|7=>v=.bool (BQ e k)|_=>True) bL v G→(fun (bL:Nat) (v:aj) (G:GH)=>match bL with|0=>v=.bool (oF k).2|1=>v=.bool (decide ((oF k).2=true))|2=>v=vi e|3=>(oF k).2=true→aB G (.sl 1 ((fE e).map fun k=>[li k])) v|4=>v=(aK b5 1)|5=>v=vi (oF k).1.Dp|6=>v=.bool (decide ((oF k).1.Dp∈fE e))|7=>v=.bool (BQ e k)|_=>True) bL v G':=by
   intro bL v G G' hm h
   match bL,h with
   | 0,h=>exact h
   | 1,h=>exact h
   | 2,h=>exact h
   | 3,h=>exact fun hf=>(h hf).mono hm
   | 4,h=>exact h
   | 5,h=>exact h
   | 6,h=>exact h
   | 7,h=>exact h
   | 8,h=>exact trivial
   | _+9,h=>exact trivial
  refine BH (hmx) [[],[0],[0,1],[0,1,2],[0,1],[0,1,4],(ra 0 6),(ra 0 7),(ra 0 8)] [8] (by kernel_rfl) (by kernel_rfl) (fun (bL:Nat) (v:aj) (G:GH)=>match bL with|0=>v=.bool (oF k).2|1=>v=.bool (decide ((oF k).2=true))|2=>v=vi e|3=>(oF k).2=true→aB G (.sl 1 ((fE e).map fun k=>[li k])) v|4=>v=(aK b5 1)|5=>v=vi (oF k).1.Dp|6=>v=.bool (decide ((oF k).1.Dp∈fE e))|7=>v=.bool (BQ e k)|_=>True) rJ H ?_ ?_
  ·clear H;refine aG ?_ ?_ ?_ ?_ (aG ?_ ?_ ?_ ?_ (bG (cZ rfl) dU))
   ·refine bC [] rfl trivial (by kernel_rfl) rJ rfl rfl ?_;intro aQ a w G1 hG HT H fin;exact kH H (Rm rfl fun _ H=>fin H iJ rfl)
   ·refine bC [(0,12,_)] rfl ⟨fun _ _ h=>h,av⟩ (by kernel_rfl) rJ rfl rfl ?_;intro aQ a w G1 hG HT H fin;refine kH H (Rm rfl ?_);clear H;intro a H;exact fin H iJ (by simp)
   ·refine bC [(1,13,_)] rfl ⟨fun _ _ h=>h,av⟩ (by kernel_rfl) rJ rfl rfl ?_;intro aQ a w G1 hG HT H fin;exact kH H (YM (aJ c0) rfl fun _ H=>fin H iJ rfl)
   ·refine bC [(2,14,_),(1,13,_)] rfl ⟨fun _ _ h=>h,fun _ _ h=>h,av⟩ (by kernel_rfl) rJ rfl rfl ?_;intro aQ a w G1 hG HT H fin;refine s_call ais H (wg H rfl rfl (aJ c0)) rfl (akx _ _ H.ro e) rfl ?_;clear H;rintro v15 HY a w GI I5 H;exact fin H I5 (by first|exact fun _=>GI|rfl)
   ·refine bC [(1,13,_)] rfl ⟨fun _ _ h=>h,av⟩ (by kernel_rfl) rJ rfl rfl ?_;intro aQ a w G1 hG HT H fin;exact kH H (YF ajX (aJ c0) rfl fun _ H=>fin H iJ rfl)
   ·refine bC [(4,16,_),(1,13,_)] rfl ⟨fun _ _ h=>h,fun _ _ h=>h,av⟩ (by kernel_rfl) rJ rfl rfl ?_;intro aQ a w G1 hG HT H fin;exact kH H (YO aD 0 (aJ c0) rfl fun _ H=>fin H iJ rfl)
   ·intro aQ a w G1 _ bK hc hG HT hv;have H:=HT;clear bK;obtain ⟨u15,amP,GI⟩:=hv 3 15 (hc 3 (by decide)) rfl;(try dsimp only at GI);have H:=H.mh amP;have H:=H.aU (hv 5 17 (hc 5 (by decide)) rfl) rfl;have H:=H.aU (hv 1 13 (hc 1 (by decide)) rfl) rfl;have Hb:=H.full;have H:=Hb;clear hc;refine s_call air H (wg H rfl rfl (aJ c0)) rfl (ahm _ _ H.ro _ _ _ (GI c0)) rfl ?_;clear H;rintro v18 YA a w rfl akB H;refine aI ⟨rfl,?_⟩;exact iL (by kernel_rfl) rJ rfl rfl HT Hb hG hv akB (rfl) H
   refine bC [(1,13,_),(6,18,_)] rfl ⟨fun _ _ h=>h,fun _ _ h=>h,av⟩ (by kernel_rfl) rJ rfl rfl ?_;intro aQ a w G1 hG HT H fin;refine kH H (Pt (aJ c0) rfl ?_);clear H;intro a H;exact fin H iJ (by unfold BQ;simp_all)
  clear H;intro a w G EK H hv;have H:=H.aU (hv 7 19 rfl rfl) rfl;clear hv;refine kH H (Ra rfl ?_);clear H;intro a H;refine aI ⟨rfl,?_⟩;refine K3 _ _ ?_;clear K3;refine lr H results106 rfl ?_;exact H.rt rfl
 skip;refine dI hmx [[],[0],[0,1],[0,1,2],[0,1],[0,1,4],(ra 0 6),(ra 0 7),(ra 0 8)] [8] (by kernel_rfl) [_,.bool (decide ((oF k).2=true)),undef,undef,undef,undef,undef,.bool (BQ e k)] H (aG (Z0 rfl (Rm rfl)) ?_ (bg (j:=1) (by kernel_rfl) (fun _ _ _ _ _ h=>h) rfl rfl rfl rfl rfl (fun _ _ h=>bq h (aL (aR c0))) rfl (fun _=>rfl)) ?_ (aG (bg (j:=1) (by kernel_rfl) (fun _ _ _ _ _ h=>h) rfl rfl rfl rfl rfl (fun _ _ h=>bq h (aL (aR c0))) rfl (fun _=>rfl)) (bg (j:=1) (by kernel_rfl) (fun _ _ _ _ _ h=>h) rfl rfl rfl rfl rfl (fun _ _ h=>bq h (aL (aR c0))) rfl (fun _=>rfl)) (bg (j:=1) (by kernel_rfl) (fun _ _ _ _ _ h=>h) rfl rfl rfl rfl rfl (fun _ _ h=>bq h (aL (aR c0))) rfl (fun _=>rfl)) ?_ (bG (cZ rfl) dU))) ?_
 ·refine eF 0 12 rfl rfl fun _ a w G1 hG HT H fin=>?_;refine kH H (Rm rfl ?_);clear H;intro a H;exact fin H iJ (by show _=_;simp)
 ·intro aQ a w G1 _ bK hc hG HT hv;have H:=HT;clear bK;have H:=H.aU (hv 2 14 (hc 2 (by decide)) rfl) rfl;have H:=H.aU (hv 1 13 (hc 1 (by decide)) rfl) rfl;have Hb:=H.full;have H:=Hb;clear hc;refine kH H (Ks (aR c0) rfl ?_);clear H;intro a H;refine aI ⟨rfl,?_⟩;exact iL (by kernel_rfl) (fun _ _ _ _ _ h=>h) rfl rfl HT Hb hG hv (fun _ _ h=>h) (by first|exact fun _=>GI|rfl) H
 ·refine fu 1 13 6 18 rfl rfl fun _ a w G1 hG HT H fin=>?_;refine kH H (Pf (aR c0) rfl ?_);clear H;intro a H;exact fin H iJ (by show _=_;unfold BQ;simp_all)
 clear H;intro a w G EK H hv;have H:=H.aU (hv 7 19 rfl rfl) rfl;clear hv;refine kH H (Ra rfl ?_);clear H;intro a H;refine aI ⟨rfl,?_⟩;refine K3 _ _ ?_;clear K3;refine lr H results106 rfl ?_;exact H.rt rfl
def uy (k v:Int):Int:=if (oF k).2=false then 4 else if v < (oF k).1.low∨(oF k).1.high < v then 5 else 0
theorem Ir (G:GH) (w0:World) (hG:Hold G w0) (k x:Int):Calls prog 107 #[vi k,vi x] w0 (bR w0 G fun u G'=>u=vi (uy k x)):=by
 refine eN [(0,_),(1,_)] func107 rfl ntmps107 rfl rfl hG ?_;intro a H;refine kP H (SR fun _ K1=>ak K1 rfl (SR fun _ K2=>Rm rfl ?_));clear H K1;intro a H;refine s_call aaw H wn rfl (find_spec _ _ H.ro k) rfl ?_;clear H;rintro v9 G9 a w rfl Ba H;dsimp only [lI.cells] at H;refine kH H (Rm rfl ?_);clear H;intro a H;(iterate 2 refine lD H wn rfl rfl rfl ?_;clear H;intro a H);refine dR wI H wn rfl ?_;clear H;intro b5 a w hb5 H;refine bO wI 0 (vs:=[_,_,_,_,_,_]) _ H wn rfl rfl rfl rfl rfl rfl rfl rfl ?_;clear H;intro w H;dsimp only [List.set,setRow] at H;refine kH H (ak K2 rfl (SQ fun _ K3=>SB (SR fun _ K4=>Rm rfl (Rn rfl (ak K4 rfl (Cd rfl ?_ ?_)))))) <;> clear H K2 K4
 ·intro h12 a H
  try have qM:=dT h12
  exact kP H (SR fun _ K5=>ak K5 rfl (LR results107 rfl fun H=>H.rt (by unfold uy;simp_all)))
 intro h12 a H
 try have qM:=dF h12
 refine kP H (SR fun _ K6=>Rm rfl (aW ajY aD 0 rfl rfl (Rc rfl (Rm rfl (Sp 20 rfl ?_ ?_))))) <;> clear H
 ·intro h20 a H
  try have rP:=dT h20
  exact kH H (aP h20 rfl (aP h20 rfl (Pt h20 rfl (ak K6 rfl (Ct rfl rfl (SR fun _ K7=>ak K7 rfl (LR results107 rfl fun H=>H.rt (by unfold uy;simp_all))))))))
 intro h20 a H
 try have rP:=dF h20
 refine kH H (YM h20 rfl (YF ajZ h20 rfl (YO aD 0 h20 rfl (YC h20 rfl (Pf h20 rfl (ak K6 rfl (Cd rfl ?_ ?_))))))) <;> clear H K6
 ·intro jO a H
  try have qw:=dT jO
  exact kP H (SR fun _ K8=>ak K8 rfl (LR results107 rfl fun H=>H.rt (by unfold uy;simp_all)))
 intro jO a H
 try have qw:=dF jO
 exact kP H (Kc K3 (SR fun _ K9=>ak K9 rfl (LR results107 rfl fun H=>H.rt (by unfold uy;simp_all))))
end
section
open Go.RowKit
theorem TH:∀ args w,(callFunc 106 args).run prog w=.ok (.enter 106 args) w:=enters func106 rfl (by kernel_rfl)
theorem Us:dV prog 40 1 1:=⟨by kernel_rfl⟩
theorem IG:∀ args w,(callFunc 107 args).run prog w=.ok (.enter 107 args) w:=enters func107 rfl (by kernel_rfl)
def LH (q:Option Int) (k:Int):Bool:=match q with|some j=>decide (k < j)|none=>false
def Ep (e:Int):Option Int→List jq→Int
 | _,[]=>0
 | q,p :: r=>if BQ e p.key=false then 4 else if q=some p.key then 7 else if LH q p.key=true then 6 else if uy p.key p.value=0 then Ep e (some p.key) r else uy p.key p.value
def Cw (l:List jq) (k:Nat):Option Int:=if k=0 then none else l[k - 1]?.map jq.key
def jf (e:Int) (l:List jq):Int:=if e < 1∨10 < e then 3 else Ep e none l
theorem agU {e:Int} {l:List jq} {k:Nat} (h:k < l.length):Ep e (Cw l k) (l.drop k)=if BQ e l[k].key=false then 4 else if Cw l k=some l[k].key then 7 else if LH (Cw l k) l[k].key=true then 6 else if uy l[k].key l[k].value=0 then Ep e (Cw l (k+1)) (l.drop (k+1)) else uy l[k].key l[k].value:=by
 rw [kR h,Ep]
 have:Cw l (k+1)=some l[k].key:=by rw [Cw,ah (by omega),Nat.add_sub_cancel,gD h];rfl
 rw [this]
theorem RA {l:List jq} {k:Nat} (h:k=0):Cw l k=none:=au h
theorem Xw (G:GH) (w0:World) (hG:Hold G w0) (e:Int) (l:List jq) (v:aj) (hv:aB G (.sl 2 (l.map jq.dat)) v) :
  Calls prog 44 #[vi e,v] w0 (bR w0 G fun u G'=>u=vi (jf e l)):=by
 obtain ⟨A,c,rfl,hc1,hc2,-⟩:=hv.slice;have hml:maxLen=9223372036854775807:=rfl;rw [bZ] at *;refine eN [(0,_),(1,_)] func44 rfl ntmps44 rfl rfl hG ?_;intro a H;refine kP H (SR fun _ K1=>ak K1 rfl (SQ fun _ K2=>SR fun _ K3=>Rm rfl (Rc rfl (Rm rfl (Sp 10 rfl ?_ ?_))))) <;> clear H K1
 ·intro h10 a H
  try have mX:=dT h10
  refine kH H (aP h10 rfl (Pt h10 rfl (Kz K3 (Ct rfl rfl (SR fun _ K4=>ak K4 rfl ?_)))));clear H K3 K4;intro a H;refine lr H results44 rfl ?_
  first
   | exact H.rt (aC vi (by rw [ah (by simpa using p61)] at heq;rw [jf,ah (by omega)];exact heq))
   | exact H.rt (aC vi (by rw [au (by simpa using h21)] at heq;rw [jf,ah (by omega)];exact heq))
   | exact H.rt (aC vi (by rw [jf,ah (by omega)];exact heq))
   | exact H.rt (aC vi (by rw [jf,ah (by omega),← heq,show l.drop k=[] from gy (by omega)];rfl))
   | exact H.rt (aC vi (by rw [jf,au (by omega)]))
 intro h10 a H
 try have mX:=dF h10
 refine kH H (YM h10 rfl (YC h10 rfl (Pf h10 rfl (Kz K3 (Cd rfl ?_ ?_))))) <;> clear H K3
 ·intro fP a H
  try have qN:=dT fP
  refine kP H (SR fun _ K5=>ak K5 rfl ?_);clear H K5;intro a H;refine lr H results44 rfl ?_
  first
   | exact H.rt (aC vi (by rw [ah (by simpa using p61)] at heq;rw [jf,ah (by omega)];exact heq))
   | exact H.rt (aC vi (by rw [au (by simpa using h21)] at heq;rw [jf,ah (by omega)];exact heq))
   | exact H.rt (aC vi (by rw [jf,ah (by omega)];exact heq))
   | exact H.rt (aC vi (by rw [jf,ah (by omega),← heq,show l.drop k=[] from gy (by omega)];rfl))
   | exact H.rt (aC vi (by rw [jf,au (by omega)]))
 intro fP a H
 try have qN:=dF fP
 refine kP H (Kc K2 (SQ fun _ K6=>SR fun _ K7=>Rm rfl (Rl oh rfl (Rm rfl (Kz K7 (SB ?_))))));clear H K2 K7;intro a H;skip;refine fH (ι:=Nat × GH) (Tc:=[(0,_),(1,_),(14,_),(15,_)]) (Lc:=[]) (fun gh=>[(16,vi gh.1)]) (fun gh=>[]) (fun gh=>gh.2) (fun gh=>gh.1≤l.length∧Ep e (Cw l gh.1) (l.drop gh.1)=Ep e none l∧(∀ b o,G b=some o→gh.2 b=some o)) (fun gh=>l.length - gh.1) ((0,G)) (by exact (H).sub ⟨rfl,rfl,rfl,rfl,rfl,av⟩) ?_ ?_
 ·exact ⟨iK _,rfl,fun _ _ h=>h⟩
 clear H;intro gh a w hI H;obtain ⟨k,g⟩:=gh;dsimp only at hI H;obtain ⟨hk,heq,hgm⟩:=hI;dsimp only [lca,aS] at H;refine kP H (SR fun _ K8=>Rc rfl (Kz K8 (SQ fun _ K9=>Cd rfl ?_ ?_))) <;> clear H K8
 ·intro dS a H
  try have mJ:=dT dS
  have hk2:k < l.length:=by omega
  have Jv:=hv.mono hgm;obtain ⟨b,o,rfl,hrow⟩:=OI Jv hk2
  obtain ⟨pk,hpk⟩:∃ pk,0 < k→aH g b (o+(k - 1)*2+0)=some (vi pk)∧Cw l k=some pk:=by
   by_cases h0:0 < k
   ·obtain ⟨b',o',he,hr'⟩:=OI Jv (show k - 1 < l.length by omega)
    injection he with he
    injection he with e1 e2 e3
    subst e1;subst e2;exact ⟨_,fun _=>⟨hr' 0 _ rfl,by rw [Cw,ah (by omega),gD (by omega)];rfl⟩⟩
   exact ⟨0,fun h=>absurd h h0⟩
  rw [agU hk2] at heq;have asR:=heq;refine kP H (Kc K9 (SQ fun _ aZ=>SB (SR fun _ bN=>Rm rfl (Ri oh oZ rfl rfl ?_))));clear H K9;intro a H;refine bD oZ (cs:=[_,_]) H wn rfl rfl (fun j v hj=>H.hp.aH (hrow j v hj)) rfl ?_;clear H;intro a H;refine dR oZ H wn rfl ?_;clear H;intro b6 a w hb6 H;refine kH H (Ra rfl ?_);clear H;intro a H;refine bO oZ 0 (vs:=[_,_]) _ H wn rfl rfl rfl rfl rfl rfl rfl rfl ?_;clear H;intro w H;dsimp only [List.set,setRow] at H;refine bN _ _ ?_;clear bN;refine oO (ι:=GH) (Tc:=[(0,_),(1,_),(6,_),(14,_),(15,_),(16,_)]) (Lc:=[(_,_)]) (fun gh=>[]) (fun gh=>[]) (fun gh=>gh) (fun gh=>(if uy l[k].key l[k].value=0 then Ep e (Cw l (k+1)) (l.drop (k+1)) else uy l[k].key l[k].value)=Ep e none l∧(∀ b o,g b=some o→gh b=some o)) (by exact (H).sub ⟨rfl,rfl,rfl,rfl,rfl,rfl,av⟩) ?_ ?_
  ·skip;refine kP H (SB (SR fun _ bQ=>Rm rfl (aW yJ aD 0 rfl rfl ?_)));clear H;intro a H;refine s_call TH H wn rfl (Uy _ _ H.ro e l[k].key) rfl ?_;clear H;rintro v25 G25 a w rfl Jl H;replace hrow:=fun j u hj=>aF Jl (hrow j u hj);refine kH H (Rn rfl (ak bQ rfl (Cd rfl ?_ ?_))) <;> clear H bQ
   ·intro h21 a H
    try have oV:=dT h21
    refine kP H (SR fun _ bT=>ak bT rfl ?_);clear H bT;intro a H;refine lr H results44 rfl ?_
    first
     | exact H.rt (aC vi (by rw [ah (by simpa using p61)] at heq;rw [jf,ah (by omega)];exact heq))
     | exact H.rt (aC vi (by rw [au (by simpa using h21)] at heq;rw [jf,ah (by omega)];exact heq))
     | exact H.rt (aC vi (by rw [jf,ah (by omega)];exact heq))
     | exact H.rt (aC vi (by rw [jf,ah (by omega),← heq,show l.drop k=[] from gy (by omega)];rfl))
     | exact H.rt (aC vi (by rw [jf,au (by omega)]))
   intro h21 a H
   try have oV:=dF h21
   rw [ah (by simpa using h21)] at heq;refine aO (fun _ cu=>?_)
   by_cases c0:0 < (k:Int)
   ·skip
    by_cases c1:l[k].key=pk
    ·skip;refine dI hmx [[],[0],[0,1],[0,1,2],(ra 0 4),[0,1,2],[0,1,2],[0,1,2,6],[0,1,2,5,6,7],[0,1,2,5,6,7,8],[0,1,2,5,6,7,8,9],(ra 0 11),(ra 0 12),(ra 0 13)] [13] (by kernel_rfl) [_,_,_,_,vi l[k].key,_,_,vi ((k - 1:Nat):Int),_,_,_,_,_] H (aG (Z0 rfl (Rm rfl)) (Z1 0 28 rfl (Rc rfl)) (Z1 1 29 rfl (Rm rfl)) (Z1 2 30 rfl (YF yJ (aJ c0) rfl)) (aG (Z2 3 31 2 30 rfl (YO aD 0 (aJ c0) rfl)) (Z1 2 30 rfl (YM (aJ c0) rfl)) (Z1 2 30 rfl (YM (aJ c0) rfl)) ?_ (aG (Z3 5 33 7 35 2 30 rfl (YI oh oZ (aJ c0) rfl rfl)) (Z2 8 36 2 30 rfl (YF yJ (aJ c0) rfl)) (X2 9 37 2 30 rfl fun hG=>YR aD (aJ c0) rfl (aF hG (aF Jl (hpk (by omega)).1))) (Z3 4 32 10 38 2 30 rfl (YC (aJ c0) rfl)) (bG (Z2 2 30 11 39 rfl (Pt (aJ c0) rfl)) (bG (cZ rfl) dU))))) ?_
     ·refine fu 6 34 2 30 rfl rfl fun _ a w G1 hG HT H fin=>?_;refine og _ H (wg H rfl rfl (aJ c0)) rfl rfl rfl (by omega) (by omega) rfl ?_;clear H;intro a H;exact fin H iJ (by show _=_;first|rfl|exact aC vi (by omega))
     clear H;intro a w G wu H hv;have H:=H.aU (hv 12 40 rfl rfl) rfl;clear hv;refine kH H (Ra rfl ?_);clear H;intro a H;refine aI ⟨rfl,?_⟩;refine cu _ _ ?_;clear cu;refine BG H rfl (aJ c1) ?_;refine aO (fun _ dL=>?_);rw [au (by rw [(hpk (by omega)).2,c1])] at heq;refine kP H (SC (aM dL rfl ?_));clear H dL;intro a H;refine lr H results44 rfl ?_
     first
      | exact H.rt (aC vi (by rw [ah (by simpa using p61)] at heq;rw [jf,ah (by omega)];exact heq))
      | exact H.rt (aC vi (by rw [au (by simpa using h21)] at heq;rw [jf,ah (by omega)];exact heq))
      | exact H.rt (aC vi (by rw [jf,ah (by omega)];exact heq))
      | exact H.rt (aC vi (by rw [jf,ah (by omega),← heq,show l.drop k=[] from gy (by omega)];rfl))
      | exact H.rt (aC vi (by rw [jf,au (by omega)]))
    skip;refine dI hmx [[],[0],[0,1],[0,1,2],(ra 0 4),[0,1,2],[0,1,2],[0,1,2,6],[0,1,2,5,6,7],[0,1,2,5,6,7,8],[0,1,2,5,6,7,8,9],(ra 0 11),(ra 0 12),(ra 0 13)] [13] (by kernel_rfl) [_,_,_,_,vi l[k].key,_,_,vi ((k - 1:Nat):Int),_,_,_,_,_] H (aG (Z0 rfl (Rm rfl)) (Z1 0 28 rfl (Rc rfl)) (Z1 1 29 rfl (Rm rfl)) (Z1 2 30 rfl (YF yJ (aJ c0) rfl)) (aG (Z2 3 31 2 30 rfl (YO aD 0 (aJ c0) rfl)) (Z1 2 30 rfl (YM (aJ c0) rfl)) (Z1 2 30 rfl (YM (aJ c0) rfl)) ?_ (aG (Z3 5 33 7 35 2 30 rfl (YI oh oZ (aJ c0) rfl rfl)) (Z2 8 36 2 30 rfl (YF yJ (aJ c0) rfl)) (X2 9 37 2 30 rfl fun hG=>YR aD (aJ c0) rfl (aF hG (aF Jl (hpk (by omega)).1))) (Z3 4 32 10 38 2 30 rfl (YC (aJ c0) rfl)) (bG (Z2 2 30 11 39 rfl (Pt (aJ c0) rfl)) (bG (cZ rfl) dU))))) ?_
    ·refine fu 6 34 2 30 rfl rfl fun _ a w G1 hG HT H fin=>?_;refine og _ H (wg H rfl rfl (aJ c0)) rfl rfl rfl (by omega) (by omega) rfl ?_;clear H;intro a H;exact fin H iJ (by show _=_;first|rfl|exact aC vi (by omega))
    clear H;intro a w G wu H hv;have H:=H.aU (hv 12 40 rfl rfl) rfl;clear hv;refine kH H (Ra rfl ?_);clear H;intro a H;refine aI ⟨rfl,?_⟩;refine cu _ _ ?_;clear cu;refine nW H rfl (aR c1) ?_;refine aO (fun _ dO=>?_)
    have q1:¬ (0 < (k:Int)∧l[k].key=pk):=by first|exact fun h=>c1 h.2|exact fun h=>c0 h.1
    rw [ah (fun h=>q1 (by
     by_cases h0:0 < k
     ·rw [(hpk h0).2] at h
      injection h with h
      exact ⟨by omega,h.symm⟩
     rw [RA (by omega)] at h
     cases h))] at heq
    by_cases c3:l[k].key < pk
    ·skip;refine dI hmx [[],[0],[0,1],[0,1,2],(ra 0 4),[0,1,2],[0,1,2],[0,1,2,6],[0,1,2,5,6,7],[0,1,2,5,6,7,8],[0,1,2,5,6,7,8,9],(ra 0 11),(ra 0 12),(ra 0 13)] [13] (by kernel_rfl) [_,_,_,_,vi l[k].key,_,_,vi ((k - 1:Nat):Int),_,_,vi pk,_,_] H (aG (Z0 rfl (Rm rfl)) (Z1 0 42 rfl (Rc rfl)) (Z1 1 43 rfl (Rm rfl)) (Z1 2 44 rfl (YF yJ (aJ c0) rfl)) (aG (Z2 3 45 2 44 rfl (YO aD 0 (aJ c0) rfl)) (Z1 2 44 rfl (YM (aJ c0) rfl)) (Z1 2 44 rfl (YM (aJ c0) rfl)) ?_ (aG (Z3 5 47 7 49 2 44 rfl (YI oh oZ (aJ c0) rfl rfl)) (Z2 8 50 2 44 rfl (YF yJ (aJ c0) rfl)) ?_ (Z3 4 46 10 52 2 44 rfl (YC (aJ c0) rfl)) (bG (Z2 2 44 11 53 rfl (Pt (aJ c0) rfl)) (bG (cZ rfl) dU))))) ?_
     ·refine fu 6 48 2 44 rfl rfl fun _ a w G1 hG HT H fin=>?_;refine og _ H (wg H rfl rfl (aJ c0)) rfl rfl rfl (by omega) (by omega) rfl ?_;clear H;intro a H;exact fin H iJ (by show _=_;first|rfl|exact aC vi (by omega))
     ·refine fu 9 51 2 44 rfl rfl fun _ a w G1 hG HT H fin=>?_;refine Af aD H (wg H rfl rfl (aJ c0)) rfl (H.hp.aH (aF hG (aF wu (aF Jl (hpk (by omega)).1)))) rfl ?_;clear H;intro a H;exact fin H iJ rfl
     clear H;intro a w G sH H hv;have H:=H.aU (hv 12 54 rfl rfl) rfl;clear hv;refine kH H (Ra rfl ?_);clear H;intro a H;refine aI ⟨rfl,?_⟩;refine dO _ _ ?_;clear dO;refine BG H rfl (aJ c3) ?_;refine aO (fun _ dJ=>?_);rw [au (by rw [(hpk (by omega)).2];exact aJ c3)] at heq;refine kP H (SC (aM dJ rfl ?_));clear H dJ;intro a H;refine lr H results44 rfl ?_
     first
      | exact H.rt (aC vi (by rw [ah (by simpa using p61)] at heq;rw [jf,ah (by omega)];exact heq))
      | exact H.rt (aC vi (by rw [au (by simpa using h21)] at heq;rw [jf,ah (by omega)];exact heq))
      | exact H.rt (aC vi (by rw [jf,ah (by omega)];exact heq))
      | exact H.rt (aC vi (by rw [jf,ah (by omega),← heq,show l.drop k=[] from gy (by omega)];rfl))
      | exact H.rt (aC vi (by rw [jf,au (by omega)]))
    skip;refine dI hmx [[],[0],[0,1],[0,1,2],(ra 0 4),[0,1,2],[0,1,2],[0,1,2,6],[0,1,2,5,6,7],[0,1,2,5,6,7,8],[0,1,2,5,6,7,8,9],(ra 0 11),(ra 0 12),(ra 0 13)] [13] (by kernel_rfl) [_,_,_,_,vi l[k].key,_,_,vi ((k - 1:Nat):Int),_,_,vi pk,_,_] H (aG (Z0 rfl (Rm rfl)) (Z1 0 42 rfl (Rc rfl)) (Z1 1 43 rfl (Rm rfl)) (Z1 2 44 rfl (YF yJ (aJ c0) rfl)) (aG (Z2 3 45 2 44 rfl (YO aD 0 (aJ c0) rfl)) (Z1 2 44 rfl (YM (aJ c0) rfl)) (Z1 2 44 rfl (YM (aJ c0) rfl)) ?_ (aG (Z3 5 47 7 49 2 44 rfl (YI oh oZ (aJ c0) rfl rfl)) (Z2 8 50 2 44 rfl (YF yJ (aJ c0) rfl)) ?_ (Z3 4 46 10 52 2 44 rfl (YC (aJ c0) rfl)) (bG (Z2 2 44 11 53 rfl (Pt (aJ c0) rfl)) (bG (cZ rfl) dU))))) ?_
    ·refine fu 6 48 2 44 rfl rfl fun _ a w G1 hG HT H fin=>?_;refine og _ H (wg H rfl rfl (aJ c0)) rfl rfl rfl (by omega) (by omega) rfl ?_;clear H;intro a H;exact fin H iJ (by show _=_;first|rfl|exact aC vi (by omega))
    ·refine fu 9 51 2 44 rfl rfl fun _ a w G1 hG HT H fin=>?_;refine Af aD H (wg H rfl rfl (aJ c0)) rfl (H.hp.aH (aF hG (aF wu (aF Jl (hpk (by omega)).1)))) rfl ?_;clear H;intro a H;exact fin H iJ rfl
    clear H;intro a w G sH H hv;have H:=H.aU (hv 12 54 rfl rfl) rfl;clear hv;refine kH H (Ra rfl ?_);clear H;intro a H;refine aI ⟨rfl,?_⟩;refine dO _ _ ?_;clear dO;refine nW H rfl (aR c3) ?_;refine fI ?_;refine ⟨_,by exact (H).sub ⟨rfl,rfl,rfl,rfl,rfl,rfl,av⟩,?_⟩
    have q2:¬ (0 < (k:Int)∧l[k].key < pk):=by first|exact fun h=>c3 h.2|exact fun h=>c0 h.1
    rw [ah (fun h=>q2 (by
     by_cases h0:0 < k
     ·rw [(hpk h0).2] at h;exact ⟨by omega,pE h⟩
     rw [RA (by omega)] at h
     cases h))] at heq
    exact ⟨heq,fun b o h=>sH b o (wu b o (Jl b o h))⟩
   skip;refine dI hmx [[],[0],[0,1],[0,1,2],(ra 0 4),[0,1,2],[0,1,2],[0,1,2,6],[0,1,2,5,6,7],[0,1,2,5,6,7,8],[0,1,2,5,6,7,8,9],(ra 0 11),(ra 0 12),(ra 0 13)] [13] (by kernel_rfl) [_,_,_,undef,undef,undef,undef,undef,undef,undef,undef,undef,_] H (aG (Z0 rfl (Rm rfl)) (Z1 0 28 rfl (Rc rfl)) (Z1 1 29 rfl (Rm rfl)) (bg (j:=2) (by kernel_rfl) (fun _ _ _ _ _ h=>h) rfl rfl rfl rfl rfl (fun _ _ h=>bq h (aL (aR c0))) rfl (fun _=>rfl)) (aG (bg (j:=2) (by kernel_rfl) (fun _ _ _ _ _ h=>h) rfl rfl rfl rfl rfl (fun _ _ h=>bq h (aL (aR c0))) rfl (fun _=>rfl)) (bg (j:=2) (by kernel_rfl) (fun _ _ _ _ _ h=>h) rfl rfl rfl rfl rfl (fun _ _ h=>bq h (aL (aR c0))) rfl (fun _=>rfl)) (bg (j:=2) (by kernel_rfl) (fun _ _ _ _ _ h=>h) rfl rfl rfl rfl rfl (fun _ _ h=>bq h (aL (aR c0))) rfl (fun _=>rfl)) (bg (j:=2) (by kernel_rfl) (fun _ _ _ _ _ h=>h) rfl rfl rfl rfl rfl (fun _ _ h=>bq h (aL (aR c0))) rfl (fun _=>rfl)) (aG (bg (j:=2) (by kernel_rfl) (fun _ _ _ _ _ h=>h) rfl rfl rfl rfl rfl (fun _ _ h=>bq h (aL (aR c0))) rfl (fun _=>rfl)) (bg (j:=2) (by kernel_rfl) (fun _ _ _ _ _ h=>h) rfl rfl rfl rfl rfl (fun _ _ h=>bq h (aL (aR c0))) rfl (fun _=>rfl)) (bg (j:=2) (by kernel_rfl) (fun _ _ _ _ _ h=>h) rfl rfl rfl rfl rfl (fun _ _ h=>bq h (aL (aR c0))) rfl (fun _=>rfl)) (bg (j:=2) (by kernel_rfl) (fun _ _ _ _ _ h=>h) rfl rfl rfl rfl rfl (fun _ _ h=>bq h (aL (aR c0))) rfl (fun _=>rfl)) (bG (Z2 2 30 11 39 rfl (Pf (aR c0) rfl)) (bG (cZ rfl) dU))))) ?_
   clear H;intro a w G wu H hv;have H:=H.aU (hv 12 40 rfl rfl) rfl;clear hv;refine kH H (Ra rfl ?_);clear H;intro a H;refine aI ⟨rfl,?_⟩;refine cu _ _ ?_;clear cu;refine nW H rfl rfl ?_;refine aO (fun _ dW=>?_)
   have q1:¬ (0 < (k:Int)∧l[k].key=pk):=by first|exact fun h=>c1 h.2|exact fun h=>c0 h.1
   rw [ah (fun h=>q1 (by
    by_cases h0:0 < k
    ·rw [(hpk h0).2] at h
     injection h with h
     exact ⟨by omega,h.symm⟩
    rw [RA (by omega)] at h
    cases h))] at heq
   refine dI hmx [[],[0],[0,1],[0,1,2],(ra 0 4),[0,1,2],[0,1,2],[0,1,2,6],[0,1,2,5,6,7],[0,1,2,5,6,7,8],[0,1,2,5,6,7,8,9],(ra 0 11),(ra 0 12),(ra 0 13)] [13] (by kernel_rfl) [_,_,_,undef,undef,undef,undef,undef,undef,undef,undef,undef,_] H (aG (Z0 rfl (Rm rfl)) (Z1 0 42 rfl (Rc rfl)) (Z1 1 43 rfl (Rm rfl)) (bg (j:=2) (by kernel_rfl) (fun _ _ _ _ _ h=>h) rfl rfl rfl rfl rfl (fun _ _ h=>bq h (aL (aR c0))) rfl (fun _=>rfl)) (aG (bg (j:=2) (by kernel_rfl) (fun _ _ _ _ _ h=>h) rfl rfl rfl rfl rfl (fun _ _ h=>bq h (aL (aR c0))) rfl (fun _=>rfl)) (bg (j:=2) (by kernel_rfl) (fun _ _ _ _ _ h=>h) rfl rfl rfl rfl rfl (fun _ _ h=>bq h (aL (aR c0))) rfl (fun _=>rfl)) (bg (j:=2) (by kernel_rfl) (fun _ _ _ _ _ h=>h) rfl rfl rfl rfl rfl (fun _ _ h=>bq h (aL (aR c0))) rfl (fun _=>rfl)) (bg (j:=2) (by kernel_rfl) (fun _ _ _ _ _ h=>h) rfl rfl rfl rfl rfl (fun _ _ h=>bq h (aL (aR c0))) rfl (fun _=>rfl)) (aG (bg (j:=2) (by kernel_rfl) (fun _ _ _ _ _ h=>h) rfl rfl rfl rfl rfl (fun _ _ h=>bq h (aL (aR c0))) rfl (fun _=>rfl)) (bg (j:=2) (by kernel_rfl) (fun _ _ _ _ _ h=>h) rfl rfl rfl rfl rfl (fun _ _ h=>bq h (aL (aR c0))) rfl (fun _=>rfl)) (bg (j:=2) (by kernel_rfl) (fun _ _ _ _ _ h=>h) rfl rfl rfl rfl rfl (fun _ _ h=>bq h (aL (aR c0))) rfl (fun _=>rfl)) (bg (j:=2) (by kernel_rfl) (fun _ _ _ _ _ h=>h) rfl rfl rfl rfl rfl (fun _ _ h=>bq h (aL (aR c0))) rfl (fun _=>rfl)) (bG (Z2 2 44 11 53 rfl (Pf (aR c0) rfl)) (bG (cZ rfl) dU))))) ?_
   clear H;intro a w G sH H hv;have H:=H.aU (hv 12 54 rfl rfl) rfl;clear hv;refine kH H (Ra rfl ?_);clear H;intro a H;refine aI ⟨rfl,?_⟩;refine dW _ _ ?_;clear dW;refine nW H rfl rfl ?_;refine fI ?_;refine ⟨_,by exact (H).sub ⟨rfl,rfl,rfl,rfl,rfl,rfl,av⟩,?_⟩
   have q2:¬ (0 < (k:Int)∧l[k].key < pk):=by first|exact fun h=>c3 h.2|exact fun h=>c0 h.1
   rw [ah (fun h=>q2 (by
    by_cases h0:0 < k
    ·rw [(hpk h0).2] at h;exact ⟨by omega,pE h⟩
    rw [RA (by omega)] at h
    cases h))] at heq
   exact ⟨heq,fun b o h=>sH b o (wu b o (Jl b o h))⟩
  clear H;intro gh a w hI H;obtain ⟨g2,hgh⟩:∃ x,x=gh:=⟨_,rfl⟩;subst hgh;obtain ⟨heq,jX⟩:=hI;replace hrow:=fun j u hj=>aF jX (hrow j u hj);dsimp only [lca,aS] at H;refine kP H (SR fun _ eG=>aW yJ aD 0 rfl rfl (aW Us aD 0 rfl rfl ?_));clear H;intro a H;refine s_call IG H wn rfl (Ir _ _ H.ro l[k].key l[k].value) rfl ?_;clear H;rintro v59 G59 a w rfl amb H;refine kH H (ak eG rfl (SR fun _ eB=>Rm rfl (Rc rfl (Kz eB (Cd rfl ?_ ?_))))) <;> clear H eG eB
  ·intro ql a H
   try have p61:=dT ql
   refine kP H (SR fun _ eH=>Rm rfl (ak eH rfl ?_));clear H eH;intro a H;refine lr H results44 rfl ?_
   first
    | exact H.rt (aC vi (by rw [ah (by simpa using p61)] at heq;rw [jf,ah (by omega)];exact heq))
    | exact H.rt (aC vi (by rw [au (by simpa using h21)] at heq;rw [jf,ah (by omega)];exact heq))
    | exact H.rt (aC vi (by rw [jf,ah (by omega)];exact heq))
    | exact H.rt (aC vi (by rw [jf,ah (by omega),← heq,show l.drop k=[] from gy (by omega)];rfl))
    | exact H.rt (aC vi (by rw [jf,au (by omega)]))
  intro ql a H
  try have p61:=dF ql
  refine kP H (Kc aZ (SC (Rd rfl (Rm rfl ?_))));clear H aZ;intro a H;refine aI ?_;refine dP ((k+1,G59)) (by exact (H.dK (Pl:=[_]) (dw:=[]) [] (by decide) rfl).sub ⟨rfl,rfl,rfl,rfl,rfl,av⟩) ?_ ?_
  ·(try dsimp only);exact ⟨by omega,by rw [au (by simpa using p61)] at heq;exact heq,fun b o h=>amb b o (jX b o (hgm b o h))⟩
  first|omega|(dsimp only;omega)
 intro dS a H
 try have mJ:=dF dS
 refine eD ?_;refine K6 _ _ ?_;clear K6;refine kP H (SR fun _ fO=>ak fO rfl ?_);clear H fO;intro a H;refine lr H results44 rfl ?_
 first
  | exact H.rt (aC vi (by rw [ah (by simpa using p61)] at heq;rw [jf,ah (by omega)];exact heq))
  | exact H.rt (aC vi (by rw [au (by simpa using h21)] at heq;rw [jf,ah (by omega)];exact heq))
  | exact H.rt (aC vi (by rw [jf,ah (by omega)];exact heq))
  | exact H.rt (aC vi (by rw [jf,ah (by omega),← heq,show l.drop k=[] from gy (by omega)];rfl))
  | exact H.rt (aC vi (by rw [jf,au (by omega)]))
end
end Go.Proofs.YtlnhhlighgaapaaGreat
