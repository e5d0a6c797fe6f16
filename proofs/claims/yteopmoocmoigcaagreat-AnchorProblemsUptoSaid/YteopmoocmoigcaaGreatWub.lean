/-
  What the claim stands on, part 2: Run Rg Pos Pq Doc Dq Eq Idx Bld Hv Ut Prk Prp Plc Plr Prq Prc Fst Nam Pn De Dj Mp Dk Dw Lsc Dm Dl.
-/
import Derived.Test.YteopmoocmoigcaaGreatWua
import Derived.Laws.StructEq
import Derived.ChangeKeysEq
import Derived.Lib.OthersKept
import Derived.Laws.IdiomStrings
import Derived.Laws.Cover4
import Derived.Laws.Slices
import Derived.Laws.Strings2
import Derived.MapKept
namespace Go.Proofs.YteopmoocmoigcaaGreat
open Go.Proofs.Tryz
section
open Go.RowKit
theorem hmx:prog.follows .mixedOrders=true:=by kernel_rfl
theorem jB:bW prog 63 0 0:=⟨by kernel_rfl⟩
theorem aC:Ty prog 3 1 8 [.int .i64 0] false:=⟨by kernel_rfl,by kernel_rfl⟩
theorem uj:bW prog 63 3 3:=⟨by kernel_rfl⟩
theorem fZ:Ty prog 9 1 16 [.string ⟨#[]⟩] false:=⟨by kernel_rfl,by kernel_rfl⟩
theorem Np:∀ args w,(callFunc 61 args).run prog w=.ok (.enter 61 args) w:=enters func61 rfl (by kernel_rfl)
theorem gV:prog.underlying 22=some (.slice 63):=by kernel_rfl
theorem dM:Ty prog 63 11 176 [.int .i64 0,.int .i64 0,.int .i64 0,.string ⟨#[]⟩,.slice none 0 0,.int .i64 0,.int .i64 0,.slice none 0 0,.slice none 0 0,.slice none 0 0,.slice none 0 0] true:=⟨by kernel_rfl,by kernel_rfl⟩
theorem Nn:∀ args w,(callFunc 41 args).run prog w=.ok (.enter 41 args) w:=enters func41 rfl (by kernel_rfl)
theorem oQ:prog.underlying 23=some (.slice 187):=by kernel_rfl
theorem nD:Ty prog 187 2 16 [.int .i64 0,.int .i64 0] true:=⟨by kernel_rfl,by kernel_rfl⟩
theorem qG:prog.underlying 24=some (.slice 190):=by kernel_rfl
theorem vG:Ty prog 190 2 16 [.int .i64 0,.int .i64 0] true:=⟨by kernel_rfl,by kernel_rfl⟩
theorem uJ:prog.underlying 25=some (.slice 199):=by kernel_rfl
theorem vH:Ty prog 199 4 32 [.int .i64 0,.int .i64 0,.int .i64 0,.bool false] true:=⟨by kernel_rfl,by kernel_rfl⟩
theorem qD:Ty prog 29 5 88 [.slice none 0 0,.int .i64 0,.int .i64 0,.slice none 0 0,.slice none 0 0] true:=⟨by kernel_rfl,by kernel_rfl⟩
theorem Dn:bW prog 29 0 0:=⟨by kernel_rfl⟩
theorem Bt:Ty prog 23 1 24 [.slice none 0 0] false:=⟨by kernel_rfl,by kernel_rfl⟩
theorem adC:∀ args w,(callFunc 98 args).run prog w=.ok (.enter 98 args) w:=enters func98 rfl (by kernel_rfl)
theorem ug:bW prog 29 1 1:=⟨by kernel_rfl⟩
theorem vU:bW prog 27 2 2:=⟨by kernel_rfl⟩
theorem wF:Ty prog 24 1 24 [.slice none 0 0] false:=⟨by kernel_rfl,by kernel_rfl⟩
theorem adD:∀ args w,(callFunc 99 args).run prog w=.ok (.enter 99 args) w:=enters func99 rfl (by kernel_rfl)
theorem Dm:bW prog 27 3 3:=⟨by kernel_rfl⟩
theorem En:Ty prog 25 1 24 [.slice none 0 0] false:=⟨by kernel_rfl,by kernel_rfl⟩
theorem abI:∀ args w,(callFunc 100 args).run prog w=.ok (.enter 100 args) w:=enters func100 rfl (by kernel_rfl)
theorem mU:prog.underlying 61=some (.slice 96):=by kernel_rfl
theorem kE:Ty prog 96 6 112 [.slice none 0 0,.int .i64 0,.int .i64 0,.slice none 0 0,.slice none 0 0,.slice none 0 0] true:=⟨by kernel_rfl,by kernel_rfl⟩
theorem qH:prog.underlying 94=some (.slice 98):=by kernel_rfl
theorem mF:Ty prog 98 7 120 [.int .i64 0,.slice none 0 0,.int .i64 0,.int .i64 0,.slice none 0 0,.slice none 0 0,.slice none 0 0] true:=⟨by kernel_rfl,by kernel_rfl⟩
theorem GU:bW prog 98 0 0:=⟨by kernel_rfl⟩
theorem Uw:bW prog 98 1 1:=⟨by kernel_rfl⟩
theorem JD:∀ args w,(callFunc 65 args).run prog w=.ok (.enter 65 args) w:=enters func65 rfl (by kernel_rfl)
theorem ET:bW prog 98 2 6:=⟨by kernel_rfl⟩
theorem iD:Ty prog 22 1 24 [.slice none 0 0] false:=⟨by kernel_rfl,by kernel_rfl⟩
theorem Nl:∀ args w,(callFunc 40 args).run prog w=.ok (.enter 40 args) w:=enters func40 rfl (by kernel_rfl)
theorem ajN:pq prog 98 [(0,1),(1,5),(6,1)] [.int .i64 0,.slice none 0 0,.int .i64 0,.int .i64 0,.slice none 0 0,.slice none 0 0,.slice none 0 0]:=⟨by kernel_rfl,by kernel_rfl⟩
theorem Uv:bW prog 96 0 0:=⟨by kernel_rfl⟩
theorem vV:bW prog 96 1 5:=⟨by kernel_rfl⟩
theorem wI:Ty prog 94 1 24 [.slice none 0 0] false:=⟨by kernel_rfl,by kernel_rfl⟩
theorem abJ:∀ args w,(callFunc 101 args).run prog w=.ok (.enter 101 args) w:=enters func101 rfl (by kernel_rfl)
theorem ajM:pq prog 96 [(0,5),(5,1)] [.slice none 0 0,.int .i64 0,.int .i64 0,.slice none 0 0,.slice none 0 0,.slice none 0 0]:=⟨by kernel_rfl,by kernel_rfl⟩
theorem BO:bW prog 63 4 4:=⟨by kernel_rfl⟩
theorem yV:bW prog 63 5 9:=⟨by kernel_rfl⟩
theorem qN:bW prog 63 6 10:=⟨by kernel_rfl⟩
theorem rz:Ty prog 61 1 24 [.slice none 0 0] false:=⟨by kernel_rfl,by kernel_rfl⟩
theorem TV:∀ args w,(callFunc 66 args).run prog w=.ok (.enter 66 args) w:=enters func66 rfl (by kernel_rfl)
theorem adk:∀ args w,(callFunc 63 args).run prog w=.ok (.enter 63 args) w:=enters func63 rfl (by kernel_rfl)
theorem abK:∀ args w,(callFunc 102 args).run prog w=.ok (.enter 102 args) w:=enters func102 rfl (by kernel_rfl)
theorem adn:∀ args w,(callFunc 67 args).run prog w=.ok (.enter 67 args) w:=enters func67 rfl (by kernel_rfl)
theorem adl:∀ args w,(callFunc 64 args).run prog w=.ok (.enter 64 args) w:=enters func64 rfl (by kernel_rfl)
def dY (x:aA):Nat:=if x.kind=1 then vR x.text else 1
def rC (x:aA):Int:=if x.kind=1 then FQ x.text else 0
theorem QJ (G:GH) (w0:World) (hG:Hold G w0) (x:aA) (i2 i3:Int) (p i5 i6 d l f r:aj) (hs:x.text.size < 4611686018427387904) :
  Calls prog 41 #[.agg #[vi x.kind,vi i2,vi i3,.string x.text,p,i5,i6,d,l,f,r]] w0 (bE w0 G fun v G'=>v=.tuple #[vi (dY x),vi (rC x)]∧G=G'):=by
 refine eN [(0,_)] func41 rfl ntmps41 rfl rfl hG ?_;intro a H;refine dB (fun _ K1=>?_);refine eU (cs:=[_,_,_,_,_,_,_,_,_,_,_]) H wn rfl rfl rfl ?_;clear H;intro b1 a w hb1 H;refine kH H (Ra rfl (ak K1 rfl (SQ fun _ K2=>SR fun _ K3=>aP jB aC 0 rfl rfl (Rc rfl (Kz K3 (Cd rfl ?_ ?_)))))) <;> clear H K1 K3
 ·intro h6 a H
  try have p6:=dT h6
  refine kP H (SR fun _ K4=>Ra rfl (ak K4 rfl ?_));clear H K4;intro a H;refine cZ ?_;refine (fG H results41 (.cons (aW H rfl) (.cons (aW H rfl) .nil)) ?_).1;exact H.rt ⟨by simp only [dY,rC,ah p6];rfl,rfl⟩
 intro h6 a H
 try have p6:=dF h6
 refine kP H (Kc K2 (SR fun _ K5=>aP uj fZ 0 rfl rfl ?_));clear H K2;intro a H;refine s_call Np H wn rfl (MX _ _ H.ro _ hs) rfl ?_;clear H;rintro v9 _ a w ⟨rfl,rfl⟩ - H;(iterate 2 refine kN H wn rfl rfl rfl ?_;clear H;intro a H);refine kH H (Ra rfl (ak K5 rfl ?_));clear H K5;intro a H;refine cZ ?_;refine (fG H results41 (.cons (aW H rfl) (.cons (aW H rfl) .nil)) ?_).1;exact H.rt ⟨by rw [mY] at p6;simp only [dY,rC,au p6],rfl⟩
def uT (l:List aA):Bool:=l.all fun x=>decide (rC x=0)
def nW:List aA→Nat
 | []=>0
 | x :: l=>dY x+nW l
def wu (l:List aA):Int:=if uT l then nW l else 0
def xW (l:List aA):Int:=if uT l then 0 else 12
def sj:List aA→Nat
 | []=>0
 | x :: l=>x.text.size+1+sj l
theorem Ya:∀ l:List aA,nW l≤sj l
 | []=>bU _
 | x :: l=>by
  have:=Ya l;have h2:=Gw x.text
  simp only [nW,sj,dY];split <;> omega
theorem Yc {x:aA}:∀ {l:List aA},x∈l→x.text.size < sj l
 | [],h=>by cases h
 | y :: l,h=>by
  simp only [sj]
  rcases kZ.1 h with rfl|h
  ·omega
  have:=Yc h;omega
theorem ajS (l m:List aA):nW (l++m)=nW l+nW m:=by
 induction l with
 | nil=>simp [nW]
 | cons x l ih=>simp [nW,ih];omega
theorem ajT {l:List aA} {k:Nat} (h:k < l.length):nW (l.take (k+1))=nW (l.take k)+dY l[k]:=by
 rw [jq h,ajS];simp [nW]
theorem ajW (l m:List aA):sj (l++m)=sj l+sj m:=by
 induction l with
 | nil=>simp [sj]
 | cons x l ih=>simp [sj,ih];omega
theorem ajX (l:List aA) (k:Nat):sj (l.take k)≤sj l:=by
 have:=ajW (l.take k) (l.drop k);rw [List.take_append_drop] at this;omega
theorem Ai {G:GH} {l:List aA} {A:Option Addr} {k:Nat} (hk:k < l.length) (hg:∀ k r,(l.map aA.dat)[k]?=some r→∃ b o cs,A=some ⟨b,o,none⟩∧cs.length=11∧(∀ j u,cs[j]?=some u→aI G b (o+k*11+j)=some u)∧aZ G r cs) :
  ∃ b o pA pn pc dA dn dc yA yn yc fA fn fc rA rn rc,A=some ⟨b,o,none⟩∧(∀ j u,[vi l[k].kind,vi l[k].code,vi l[k].id,.string l[k].text,.slice pA pn pc,vi l[k].head.marks.ins,vi l[k].head.marks.move,.slice dA dn dc,.slice yA yn yc,.slice fA fn fc,.slice rA rn rc][j]?=some u→aI G b (o+k*11+j)=some u) ∧
   jF G l[k].head (.slice pA pn pc) (.slice dA dn dc) (.slice yA yn yc)∧av G (.sl 11 (l[k].flow.map aA.dat)) (.slice fA fn fc)∧av G (.sl 6 (l[k].rows.map bO.dat)) (.slice rA rn rc):=by
 obtain ⟨b,o,cs,h1,h2,h3,h4⟩:=hg k l[k].dat (by simp [hk]);obtain ⟨pA,pn,pc,dA,dn,dc,yA,yn,yc,fA,fn,fc,rA,rn,rc,rfl,h5,h6,h7⟩:=h4.item;exact ⟨b,o,pA,pn,pc,dA,dn,dc,yA,yn,yc,fA,fn,fc,rA,rn,rc,h1,h3,h5,h6,h7⟩
theorem abD {l:List aA} {k:Nat} (h:k < l.length):uT (l.take (k+1))=(uT (l.take k) && decide (rC l[k]=0)):=by
 unfold uT
 rw [jq h,List.all_append];simp
theorem abC {l:List aA} {k:Nat} (h:k < l.length) (hn:¬ rC l[k]=0):uT l=false:=by
 unfold uT
 rw [List.all_eq_false];exact ⟨l[k],iL h,by simpa using hn⟩
theorem Py:∀ l:List aA,l.length≤sj l
 | []=>bU _
 | x :: l=>by have:=Py l;simp only [nL,sj];omega
theorem QE:∀ l:List aA,sj l≤bC l
 | []=>bU _
 | x :: l=>by
  have:=QE l;have h2:=oU x
  simp only [sj,bC,eZ,eX] at *;omega
theorem V9 (G:GH) (w0:World) (hG:Hold G w0) (l:List aA) (v:aj) (hv:av G (.sl 11 (l.map aA.dat)) v) (hz:bC l≤4294967296) :
  Calls prog 18 #[v] w0 (bE w0 G fun v G'=>v=.tuple #[vi (wu l),vi (xW l)]∧G=G'):=by
 obtain ⟨A,c,rfl,hc1,hc2,hg⟩:=hv.slice;rw [bQ] at *;have hll:=Py l;have htz:=QE l;refine eN [(0,_)] func18 rfl ntmps18 rfl rfl hG ?_;intro a H;refine kP H (SR fun _ K1=>Ra rfl (ak K1 rfl (SR fun _ K2=>ak K2 rfl (SQ fun _ K3=>SR fun _ K4=>Rm rfl (Rl gV rfl (Rm rfl (Kz K4 (SB ?_))))))));clear H K1 K2 K4;intro a H;skip;refine eT (ι:=Nat) (Tc:=[(9,_),(10,_)]) (Lc:=[]) (fun gh=>[(4,vi (nW (l.take gh))),(11,vi gh)]) (fun gh=>[]) (fun gh=>G) (fun gh=>gh≤l.length∧uT (l.take gh)=true) (fun gh=>l.length - gh) (0) (by exact (H).sub ⟨rfl,rfl,rfl,rfl,aD⟩) ?_ ?_
 ·exact ⟨by omega,by simp [uT]⟩
 clear H;intro gh a w hI H;obtain ⟨k,hgh⟩:∃ x,x=gh:=⟨_,rfl⟩;subst hgh;obtain ⟨hk,hd⟩:=hI;dsimp only [lca,bg] at H;refine kP H (SR fun _ K5=>Rc rfl (Kz K5 (SQ fun _ K6=>Cd rfl ?_ ?_))) <;> clear H K5
 ·intro h12 a H
  try have qX:=dT h12
  have hk2:k < l.length:=by omega
  obtain ⟨b,o,pA,pn,pc,dA,dn,dc,yA,yn,yc,fA,fn,fc,rA,rn,rc,rfl,hrow,-⟩:=Ai hk2 hg;have hsm:=ajT hk2;have hle:=Ya (l.take (k+1));have hle2:=ajX l (k+1);refine kP H (Kc K6 (SQ fun _ K7=>SB (SR fun _ K8=>Ri gV dM rfl rfl ?_)));clear H K6;intro a H;refine bD dM (cs:=[_,_,_,_,_,_,_,_,_,_,_]) H wn rfl rfl (fun j v hj=>H.hp.aI (hrow j v hj)) rfl ?_;clear H;intro a H;refine eB dM H wn rfl ?_;clear H;intro b6 a w hb6 H;refine bH dM 0 (vs:=[_,_,_,_,_,_,_,_,_,_,_]) _ H wn rfl rfl rfl rfl rfl rfl rfl rfl ?_;clear H;intro w H;dsimp only [List.set,setRow] at H;refine K8 _ _ ?_;clear K8;refine dB (fun _ K9=>?_);refine bD dM (cs:=[_,_,_,_,_,_,_,_,_,_,_]) H wn rfl rfl (H.hp.dS 0 rfl rfl) rfl ?_;clear H;intro a H;refine s_call Nn H wn rfl (QJ _ _ H.ro _ _ _ _ _ _ _ _ _ _ (by have:=Yc (iL hk2);omega)) rfl ?_;clear H;rintro v17 _ a w ⟨rfl,rfl⟩ - H;refine kH H (Rm rfl ?_);clear H;intro a H;(iterate 2 refine kN H wn rfl rfl rfl ?_;clear H;intro a H);refine kH H (Ra rfl (ak K9 rfl (SQ fun _ aT=>SR fun _ bq=>Rm rfl (Rc rfl (Kz bq (Cd rfl ?_ ?_)))))) <;> clear H K9 bq
  ·intro h21 a H
   try have pV:=dT h21
   refine kP H (SR fun _ bF=>Ra rfl (ak bF rfl ?_));clear H bF;intro a H;refine cZ ?_;refine (fG H results18 (.cons (aW H rfl) (.cons (aW H rfl) .nil)) ?_).1;exact H.rt ⟨by simp [wu,xW,abC hk2 pV],rfl⟩
  intro h21 a H
  try have pV:=dF h21
  refine kP H (Kc aT (SC (Rm rfl (Rm rfl (Rd rfl ?_)))));clear H aT;intro a H;rw [← Int.natCast_add,← hsm] at H;refine kH H (aU K7 rfl (SC (Rd rfl (Rm rfl ?_))));clear H K7;intro a H;refine aH ?_;refine cu ((k+1)) (by exact (H.dK (Pl:=[_]) (cB:=[]) [] (by decide) rfl).sub ⟨rfl,rfl,rfl,rfl,aD⟩) ?_ ?_
  ·exact ⟨by omega,by rw [abD hk2,hd];simpa using pV⟩
  first|omega|(dsimp only;omega)
 intro h12 a H
 try have qX:=dF h12
 refine dU ?_;refine K3 _ _ ?_;clear K3;refine kP H (SR fun _ bJ=>Rm rfl (Ra rfl (ak bJ rfl ?_)));clear H bJ;intro a H;refine cZ ?_;refine (fG H results18 (.cons (aW H rfl) (.cons (aW H rfl) .nil)) ?_).1;exact H.rt ⟨by rw [show l.take k=l from jH (by omega)] at hd ⊢;simp [wu,xW,hd],rfl⟩
theorem abe (G:GH) (w0:World) (hG:Hold G w0) (rows:List (List Dat)) (A:Option Addr) (n c:Nat) (hv:av G (.sl 2 rows) (.slice A n c)) (hz:rows.length≤4294967296) :
  Calls prog 98 #[.slice A n c] w0 (bE w0 G fun v G'=>av G' (.sl 2 rows) v):=by
 obtain ⟨hn,hc1,hc2,hnil,hx⟩:=hv.cells;refine eN [(0,_)] func98 rfl ntmps98 rfl rfl hG ?_;intro a H;refine kP H (SR fun _ K1=>ak K1 rfl (SQ fun _ K2=>SR fun _ K3=>Rm rfl ?_));clear H K1;intro a H;refine Qm oQ H wn rfl rfl ?_;clear H;intro a H;refine K3 _ _ ?_;clear K3;refine kr H rfl ?_ ?_
 ·intro h4
  exact kP H (SR fun _ K4=>ak K4 rfl (LR results98 rfl fun H=>H.rt (by rw [hnil (by simpa using h4)];exact av.jw rfl (by simp [maxLen]))))
 intro h4
 try have p4:=dF h4
 refine gI ?_;refine K2 _ _ ?_;clear K2;refine bA (fun _ K5=>?_)
 have hA:¬ A=none:=by intro e;rw [e] at h4;cases h4
 refine pE ?_;refine Ql oQ nD H wn rfl ?_;clear H;intro b5 a w hb5 H;refine kH H (Rm rfl ?_);clear H;intro a H
 by_cases hr0:rows=[]
 ·have hn0:n=0:=by rw [hn,hr0];rfl
  subst hn0;refine KU oQ nD H wn rfl rfl (bU _) rfl ?_;clear H;intro a H;exact kH H (aU K5 rfl (LR results98 rfl fun H=>H.rt (by rw [hr0];exact av.jw rfl (by simp [maxLen]))))
 obtain ⟨b,o,xs,rfl,hxl,hxc,hx1,jD⟩:=hx hr0;refine nU (Li:=[]) (Lo:=[_]) (news:=xs) oQ nD rfl rfl H wn rfl rfl dx.empty hxl (fun j u hj=>H.hp.aI (hxc j u hj)) hx1 (by omega) (by omega) rfl ?_;clear H;intro v7 Lo a w hrow H;obtain ⟨G',hm,hrep,H⟩:=H.uo hrow (rows:=rows) (by omega) (by simpa using jD)
 try clear hG
 obtain ⟨G2,hG2⟩:∃ g,g=G':=⟨_,rfl⟩;subst hG2;exact kH H (aU K5 rfl (LR results98 rfl fun H=>H.rt hrep))
theorem abb (G:GH) (w0:World) (hG:Hold G w0) (rows:List (List Dat)) (A:Option Addr) (n c:Nat) (hv:av G (.sl 2 rows) (.slice A n c)) (hz:rows.length≤4294967296) :
  Calls prog 99 #[.slice A n c] w0 (bE w0 G fun v G'=>av G' (.sl 2 rows) v):=by
 obtain ⟨hn,hc1,hc2,hnil,hx⟩:=hv.cells;refine eN [(0,_)] func99 rfl ntmps99 rfl rfl hG ?_;intro a H;refine kP H (SR fun _ K1=>ak K1 rfl (SQ fun _ K2=>SR fun _ K3=>Rm rfl ?_));clear H K1;intro a H;refine Qm qG H wn rfl rfl ?_;clear H;intro a H;refine K3 _ _ ?_;clear K3;refine kr H rfl ?_ ?_
 ·intro h4
  exact kP H (SR fun _ K4=>ak K4 rfl (LR results99 rfl fun H=>H.rt (by rw [hnil (by simpa using h4)];exact av.jw rfl (by simp [maxLen]))))
 intro h4
 try have p4:=dF h4
 refine gI ?_;refine K2 _ _ ?_;clear K2;refine bA (fun _ K5=>?_)
 have hA:¬ A=none:=by intro e;rw [e] at h4;cases h4
 refine pE ?_;refine Ql qG vG H wn rfl ?_;clear H;intro b5 a w hb5 H;refine kH H (Rm rfl ?_);clear H;intro a H
 by_cases hr0:rows=[]
 ·have hn0:n=0:=by rw [hn,hr0];rfl
  subst hn0;refine KU qG vG H wn rfl rfl (bU _) rfl ?_;clear H;intro a H;exact kH H (aU K5 rfl (LR results99 rfl fun H=>H.rt (by rw [hr0];exact av.jw rfl (by simp [maxLen]))))
 obtain ⟨b,o,xs,rfl,hxl,hxc,hx1,jD⟩:=hx hr0;refine nU (Li:=[]) (Lo:=[_]) (news:=xs) qG vG rfl rfl H wn rfl rfl dx.empty hxl (fun j u hj=>H.hp.aI (hxc j u hj)) hx1 (by omega) (by omega) rfl ?_;clear H;intro v7 Lo a w hrow H;obtain ⟨G',hm,hrep,H⟩:=H.uo hrow (rows:=rows) (by omega) (by simpa using jD)
 try clear hG
 obtain ⟨G2,hG2⟩:∃ g,g=G':=⟨_,rfl⟩;subst hG2;exact kH H (aU K5 rfl (LR results99 rfl fun H=>H.rt hrep))
theorem abd (G:GH) (w0:World) (hG:Hold G w0) (rows:List (List Dat)) (A:Option Addr) (n c:Nat) (hv:av G (.sl 4 rows) (.slice A n c)) (hz:rows.length≤4294967296) :
  Calls prog 100 #[.slice A n c] w0 (bE w0 G fun v G'=>av G' (.sl 4 rows) v):=by
 obtain ⟨hn,hc1,hc2,hnil,hx⟩:=hv.cells;refine eN [(0,_)] func100 rfl ntmps100 rfl rfl hG ?_;intro a H;refine kP H (SR fun _ K1=>ak K1 rfl (SQ fun _ K2=>SR fun _ K3=>Rm rfl ?_));clear H K1;intro a H;refine Qm uJ H wn rfl rfl ?_;clear H;intro a H;refine K3 _ _ ?_;clear K3;refine kr H rfl ?_ ?_
 ·intro h4
  exact kP H (SR fun _ K4=>ak K4 rfl (LR results100 rfl fun H=>H.rt (by rw [hnil (by simpa using h4)];exact av.jw rfl (by simp [maxLen]))))
 intro h4
 try have p4:=dF h4
 refine gI ?_;refine K2 _ _ ?_;clear K2;refine bA (fun _ K5=>?_)
 have hA:¬ A=none:=by intro e;rw [e] at h4;cases h4
 refine pE ?_;refine Ql uJ vH H wn rfl ?_;clear H;intro b5 a w hb5 H;refine kH H (Rm rfl ?_);clear H;intro a H
 by_cases hr0:rows=[]
 ·have hn0:n=0:=by rw [hn,hr0];rfl
  subst hn0;refine KU uJ vH H wn rfl rfl (bU _) rfl ?_;clear H;intro a H;exact kH H (aU K5 rfl (LR results100 rfl fun H=>H.rt (by rw [hr0];exact av.jw rfl (by simp [maxLen]))))
 obtain ⟨b,o,xs,rfl,hxl,hxc,hx1,jD⟩:=hx hr0;refine nU (Li:=[]) (Lo:=[_]) (news:=xs) uJ vH rfl rfl H wn rfl rfl dx.empty hxl (fun j u hj=>H.hp.aI (hxc j u hj)) hx1 (by omega) (by omega) rfl ?_;clear H;intro v7 Lo a w hrow H;obtain ⟨G',hm,hrep,H⟩:=H.uo hrow (rows:=rows) (by omega) (by simpa using jD)
 try clear hG
 obtain ⟨G2,hG2⟩:∃ g,g=G':=⟨_,rfl⟩;subst hG2;exact kH H (aU K5 rfl (LR results100 rfl fun H=>H.rt hrep))
theorem JA (G:GH) (w0:World) (hG:Hold G w0) (h:iE) (pA dA yA:Option Addr) (pn pc dn dc yn yc:Nat) (hv:jF G h (.slice pA pn pc) (.slice dA dn dc) (.slice yA yn yc)) (hz:qd h≤4294967296) :
  Calls prog 65 #[.agg #[.slice pA pn pc,vi h.marks.ins,vi h.marks.move,.slice dA dn dc,.slice yA yn yc]] w0 (bE w0 G fun v G'=>∃ p d l,v=.agg #[p,vi h.marks.ins,vi h.marks.move,d,l]∧jF G' h p d l):=by
 have he:=IJ h;have h1:=rZ (h.props.map iF.dat);have h2:=rZ (h.marks.cO.map jy.dat);have h3:=rZ (h.marks.layers.map jd.dat);refine eN [(0,_)] func65 rfl ntmps65 rfl rfl hG ?_;intro a H;refine dB (fun _ K1=>?_);refine eU (cs:=[_,_,_,_,_]) H wn rfl rfl rfl ?_;clear H;intro b1 a w hb1 H;refine eB qD H wn rfl ?_;clear H;intro b2 a w hb2 H;refine K1 _ _ ?_;clear K1;refine kP H (SR fun _ K2=>aP Dn Bt 1 rfl rfl ?_);clear H;intro a H;refine s_call adC H wn rfl (abe _ _ H.ro _ _ _ _ hv.props (by omega)) rfl ?_;clear H;rintro v5 G5 a w wm OO H;obtain ⟨A5,n5,c5,rfl⟩:=wm.form;refine kH H (Rf Dn rfl ?_);clear H;intro a H;refine bH Bt 1 (vs:=[_]) _ H wn rfl rfl rfl rfl rfl rfl rfl rfl ?_;clear H;intro w H;dsimp only [List.set,setRow] at H;refine K2 _ _ ?_;clear K2;refine bA (fun _ K3=>?_);obtain ⟨hvp,hvd,hvy⟩:=hv.mono OO;clear hv
 have oD:∀ (bT:Nat) (v:aj) (G G':GH),(∀ k o,G k=some o→G' k=some o)→(fun (bT:Nat) (v:aj) (G:GH)=>match bT with|0=>v=(aJ b1 1)|1=>v=(aJ b1 3)|2=>v=.slice dA dn dc|3=>av G (.sl 2 (h.marks.cO.map jy.dat)) v|4=>v=(aJ b1 1)|5=>v=(aJ b1 4)|6=>v=.slice yA yn yc|7=>av G (.sl 4 (h.marks.layers.map jd.dat)) v|8=>v=(aJ b1 1)|9=>v=(aJ b1 3)|_=>True) bT v G→(fun (bT:Nat) (v:aj) (G:GH)=>match bT with|0=>v=(aJ b1 1)|1=>v=(aJ b1 3)|2=>v=.slice dA dn dc|3=>av G (.sl 2 (h.marks.cO.map jy.dat)) v|4=>v=(aJ b1 1)|5=>v=(aJ b1 4)|6=>v=.slice yA yn yc|7=>av G (.sl 4 (h.marks.layers.map jd.dat)) v|8=>v=(aJ b1 1)|9=>v=(aJ b1 3)|_=>True) bT v G':=by
  intro bT v G G' hm h
  match bT,h with
  | 0,h=>exact h
  | 1,h=>exact h
  | 2,h=>exact h
  | 3,h=>exact av.mono hm h
  | 4,h=>exact h
  | 5,h=>exact h
  | 6,h=>exact h
  | 7,h=>exact av.mono hm h
  | 8,h=>exact h
  | 9,h=>exact h
  | 10,h=>exact trivial
  | 11,h=>exact trivial
  | 12,h=>exact trivial
  | 13,h=>exact trivial
  | _+14,h=>exact trivial
 refine BK (hmx) [[],[0],[0,1],[0,1,2],[],[4],[4,5],(ra 0 7),(ra 0 7),(ra 0 7++[8]),(ra 0 10),(ra 0 11),(ra 0 12),(ra 0 13)] (ra 10 4) (by kernel_rfl) (by kernel_rfl) (fun (bT:Nat) (v:aj) (G:GH)=>match bT with|0=>v=(aJ b1 1)|1=>v=(aJ b1 3)|2=>v=.slice dA dn dc|3=>av G (.sl 2 (h.marks.cO.map jy.dat)) v|4=>v=(aJ b1 1)|5=>v=(aJ b1 4)|6=>v=.slice yA yn yc|7=>av G (.sl 4 (h.marks.layers.map jd.dat)) v|8=>v=(aJ b1 1)|9=>v=(aJ b1 3)|_=>True) oD H ?_ ?_
 ·clear H;refine aF ?_ ?_ ?_ ?_ (aF ?_ ?_ ?_ ?_ (aF ?_ ?_ (bK rfl) (bK rfl) (aS (bK rfl) (aS (bK rfl) bX))))
  ·refine dQ [] rfl trivial (by kernel_rfl) oD rfl rfl ?_;intro bR a w G1 hG HT H fin;exact kH H (Rf ug rfl fun _ H=>fin H iJ rfl)
  ·refine dQ [(0,7,_)] rfl ⟨fun _ _ h=>h,aD⟩ (by kernel_rfl) oD rfl rfl ?_;intro bR a w G1 hG HT H fin;exact kH H (Rf vU rfl fun _ H=>fin H iJ rfl)
  ·refine dQ [(1,8,_)] rfl ⟨fun _ _ h=>h,aD⟩ (by kernel_rfl) oD rfl rfl ?_;intro bR a w G1 hG HT H fin;exact kH H (Ro wF 1 rfl fun _ H=>fin H iJ rfl)
  ·refine dQ [(2,9,_)] rfl ⟨fun _ _ h=>h,aD⟩ (by kernel_rfl) oD rfl rfl ?_;intro bR a w G1 hG HT H fin;refine s_call adD H wn rfl (abb _ _ H.ro _ _ _ _ (hvd.mono hG) (by omega)) rfl ?_;clear H;rintro v10 wJ a w xO oJ H;exact fin H oJ (xO)
  ·refine dQ [] rfl trivial (by kernel_rfl) oD rfl rfl ?_;intro bR a w G1 hG HT H fin;exact kH H (Rf ug rfl fun _ H=>fin H iJ rfl)
  ·refine dQ [(4,11,_)] rfl ⟨fun _ _ h=>h,aD⟩ (by kernel_rfl) oD rfl rfl ?_;intro bR a w G1 hG HT H fin;exact kH H (Rf Dm rfl fun _ H=>fin H iJ rfl)
  ·refine dQ [(5,12,_)] rfl ⟨fun _ _ h=>h,aD⟩ (by kernel_rfl) oD rfl rfl ?_;intro bR a w G1 hG HT H fin;exact kH H (Ro En 1 rfl fun _ H=>fin H iJ rfl)
  ·refine dQ [(6,13,_)] rfl ⟨fun _ _ h=>h,aD⟩ (by kernel_rfl) oD rfl rfl ?_;intro bR a w G1 hG HT H fin;refine s_call abI H wn rfl (abd _ _ H.ro _ _ _ _ (hvy.mono hG) (by omega)) rfl ?_;clear H;rintro v14 FY a w HZ GX H;exact fin H GX (HZ)
  ·refine dQ [] rfl trivial (by kernel_rfl) oD rfl rfl ?_;intro bR a w G1 hG HT H fin;exact kH H (Rf ug rfl fun _ H=>fin H iJ rfl)
  refine dQ [(8,15,_)] rfl ⟨fun _ _ h=>h,aD⟩ (by kernel_rfl) oD rfl rfl ?_;intro bR a w G1 hG HT H fin;exact kH H (Rf vU rfl fun _ H=>fin H iJ rfl)
 clear H;intro a w G Ap H hv;obtain ⟨u10,Pb,xO⟩:=hv 3 10 (by decide) rfl;(try dsimp only at xO);obtain ⟨YT,n10,c10,rfl⟩:=xO.form;have H:=H.kI Pb;obtain ⟨u14,agy,HZ⟩:=hv 7 14 (by decide) rfl;(try dsimp only at HZ);obtain ⟨QT,n14,c14,rfl⟩:=HZ.form;have H:=H.kI agy;have H:=H.aR (hv 9 16 rfl rfl) rfl;clear hv;refine bH wF 1 (vs:=[_]) _ H wn rfl rfl rfl rfl rfl rfl rfl rfl ?_;clear H;intro w H;dsimp only [List.set,setRow] at H;refine kH H (Rf ug rfl (Rf Dm rfl ?_));clear H;intro a H;refine bH En 1 (vs:=[_]) _ H wn rfl rfl rfl rfl rfl rfl rfl rfl ?_;clear H;intro w H;dsimp only [List.set,setRow] at H;refine aH ⟨rfl,?_⟩;refine K3 _ _ ?_;clear K3;refine dB (fun _ K4=>?_);refine bD qD (cs:=[_,_,_,_,_]) H wn rfl rfl (H.hp.dS 1 rfl rfl) rfl ?_;clear H;intro a H;refine bH qD 0 (vs:=[_,_,_,_,_]) _ H wn rfl rfl rfl rfl rfl rfl rfl rfl ?_;clear H;intro w H;dsimp only [List.set,setRow] at H;refine K4 _ _ ?_;clear K4;refine cZ ?_;refine (leave1 H results65 (.cons (Bh qD (cs:=[_,_,_,_,_]) H rfl rfl (H.hp.dS 0 rfl rfl)) .nil) ?_).1;exact H.rt ⟨_,_,_,rfl,wm.mono Ap,xO,HZ⟩
def Et (fv:aj) (w0:World) (G:GH) (d:List Dat):Prop:=∀ (G1:GH) (w1:World) (cs:List aj),(∀ b o,G b=some o→G1 b=some o)→Hold G1 w1→aZ G1 d cs →
 tH prog fv [.agg cs.toArray] w1 (bE w1 G1 fun u G'=>∃ cs',u=.agg cs'.toArray∧aZ G' d cs')
theorem abG (G:GH) (w0:World) (hG:Hold G w0) (l:List aA) (v fv:aj) (hv:av G (.sl 11 (l.map aA.dat)) v) (hz:l.length≤4294967296) (hf:∀ x∈l,Et fv w0 G x.dat) :
  Calls prog 63 #[v,fv] w0 (bE w0 G fun u G'=>av G' (.sl 11 (l.map aA.dat)) u):=by
 obtain ⟨A,c,rfl,hc1,hc2,hg⟩:=hv.slice
 have hml:4294967297≤maxLen:=by decide
 rw [bQ] at *;refine eN [(0,_),(1,_)] func63 rfl ntmps63 rfl rfl hG ?_;intro a H;refine kP H (SR fun _ K1=>ak K1 rfl (SR fun _ K2=>ak K2 rfl (SQ fun _ K3=>SR fun _ K4=>Rm rfl (Rl gV rfl (Rm rfl (Kz K4 (SB ?_)))))));clear H K1 K2 K4;intro a H;skip;refine eT (ι:=Nat × aj × List aj × OL × GH) (Tc:=[(1,_),(8,_),(9,_)]) (Lc:=[]) (fun gh=>[(5,gh.2.1),(10,vi gh.1)]) (fun gh=>[]++gh.2.2.2.1) (fun gh=>gh.2.2.2.2) (fun gh=>gh.1≤l.length∧dx 63 11 gh.2.1 gh.1 gh.2.2.1 gh.2.2.2.1∧fE gh.2.2.2.2 11 ((l.map aA.dat).take gh.1) gh.2.2.1∧(∀ b o,G b=some o→gh.2.2.2.2 b=some o)) (fun gh=>l.length - gh.1) ((0,.slice none 0 0,[],[],G)) (by exact (H).sub ⟨rfl,rfl,rfl,rfl,rfl,aD⟩) ?_ ?_
 ·exact ⟨by omega,dx.nil,by simpa using fE.nil,fun _ _ h=>h⟩
 clear H;intro gh a w hI H;obtain ⟨k,v,xs,Lo,g⟩:=gh;dsimp only at hI H;obtain ⟨hk,hrw,jD,hgm⟩:=hI;dsimp only [lca,bg] at H;refine kP H (SR fun _ K5=>Rc rfl (Kz K5 (SQ fun _ K6=>Cd rfl ?_ ?_))) <;> clear H K5
 ·intro h11 a H
  try have nR:=dT h11
  have hk2:k < l.length:=by omega
  obtain ⟨b,o,cs,rfl,hcl,hrow,hrep⟩:=hg k l[k].dat (by simp [hk2]);obtain ⟨pA,pn,pc,dA,dn,dc,yA,yn,yc,fA,fn,fc,rA,rn,rc,rfl,-⟩:=hrep.item;replace hrow:=fun j u hj=>aK hgm (hrow j u hj);refine kP H (Kc K6 (SQ fun _ K7=>SB (SR fun _ K8=>Ri gV dM rfl rfl ?_)));clear H K6;intro a H;refine bD dM (cs:=[_,_,_,_,_,_,_,_,_,_,_]) H wn rfl rfl (fun j v hj=>H.hp.aI (hrow j v hj)) rfl ?_;clear H;intro a H;refine eB dM H wn rfl ?_;clear H;intro b7 a w Ce H;refine bH dM 0 (vs:=[_,_,_,_,_,_,_,_,_,_,_]) _ H wn rfl rfl rfl rfl rfl rfl rfl rfl ?_;clear H;intro w H;dsimp only [List.set,setRow] at H;refine K8 _ _ ?_;clear K8;refine kP H (SC (Rm rfl (Rm rfl ?_)));clear H;intro a H;refine bD dM (cs:=[_,_,_,_,_,_,_,_,_,_,_]) H wn rfl rfl (H.hp.dS 0 rfl rfl) rfl ?_;clear H;intro a H;refine pX H wn rfl rfl (hf _ (iL hk2) _ _ _ hgm H.ro (hrep.mono hgm)) rfl ?_;clear H;rintro v17 uL a w ⟨wV,rfl,dV⟩ nO H;obtain ⟨cs,hcs⟩:∃ cs,cs=wV:=⟨_,rfl⟩;obtain ⟨pA,pn,pc,dA,dn,dc,yA,yn,yc,fA,fn,fc,rA,rn,rc,uw,-⟩:=dV.item;rw [uw] at H;refine gQ gV dM [_,_,_,_,_,_,_,_,_,_,_] [_,_,_,_,_,_,_,_,_,_,_] H wn rfl rfl rfl rfl rfl (by intro i q h;match i,h with|0,h=>exact h|n+1,h=>simp at h) rfl rfl ?_;clear H;intro b18 a w Ho H;refine nU (Li:=[_,_]) (Lo:=Lo) (news:=wV) gV dM rfl rfl H wn rfl rfl hrw (by rw [uw];rfl) (by rw [uw];exact H.hp.dS 0 rfl rfl) dV.one (by omega) (by omega) rfl ?_;clear H;intro v19 CZ a w wo H;refine kH H (aU K7 rfl (SC (Rd rfl (Rm rfl ?_))));clear H K7;intro a H;refine aH ?_;refine cu ((k+1,v19,xs++wV,CZ,uL)) (by exact (H.dK (Pl:=[_,_]) (cB:=[]) [] (by decide) rfl).sub ⟨rfl,rfl,rfl,rfl,rfl,aD⟩) ?_ ?_
  ·(try dsimp only);refine ⟨by omega,wo,?_,fun b o h=>nO b o (hgm b o h)⟩;rw [jq (by simpa using hk2)];exact (jD.mono nO).snoc (by simpa using dV) (by rw [uw];rfl)
  first|omega|(dsimp only;omega)
 intro h11 a H
 try have nR:=dF h11
 refine dU ?_;refine K3 _ _ ?_;clear K3;refine bA (fun _ K9=>?_);obtain ⟨G',hm,hrep,H⟩:=H.uo (Li:=[]) hrw (rows:=l.map aA.dat) (by simp;omega) (by rw [jH (by simp;omega)] at jD;exact jD);exact kP H (SC (Rm rfl (aU K9 rfl (LR results63 rfl fun H=>H.rt hrep))))
theorem TA (G:GH) (w0:World) (hG:Hold G w0) (l:List bO) (v fv:aj) (hv:av G (.sl 6 (l.map bO.dat)) v) (hz:l.length≤4294967296) (hf:∀ x∈l,Et fv w0 G x.dat) :
  Calls prog 66 #[v,fv] w0 (bE w0 G fun u G'=>av G' (.sl 6 (l.map bO.dat)) u):=by
 obtain ⟨A,c,rfl,hc1,hc2,hg⟩:=hv.slice
 have hml:4294967297≤maxLen:=by decide
 rw [bQ] at *;refine eN [(0,_),(1,_)] func66 rfl ntmps66 rfl rfl hG ?_;intro a H;refine kP H (SR fun _ K1=>ak K1 rfl (SR fun _ K2=>ak K2 rfl (SQ fun _ K3=>SR fun _ K4=>Rm rfl (Rl mU rfl (Rm rfl (Kz K4 (SB ?_)))))));clear H K1 K2 K4;intro a H;skip;refine eT (ι:=Nat × aj × List aj × OL × GH) (Tc:=[(1,_),(8,_),(9,_)]) (Lc:=[]) (fun gh=>[(5,gh.2.1),(10,vi gh.1)]) (fun gh=>[]++gh.2.2.2.1) (fun gh=>gh.2.2.2.2) (fun gh=>gh.1≤l.length∧dx 96 6 gh.2.1 gh.1 gh.2.2.1 gh.2.2.2.1∧fE gh.2.2.2.2 6 ((l.map bO.dat).take gh.1) gh.2.2.1∧(∀ b o,G b=some o→gh.2.2.2.2 b=some o)) (fun gh=>l.length - gh.1) ((0,.slice none 0 0,[],[],G)) (by exact (H).sub ⟨rfl,rfl,rfl,rfl,rfl,aD⟩) ?_ ?_
 ·exact ⟨by omega,dx.nil,by simpa using fE.nil,fun _ _ h=>h⟩
 clear H;intro gh a w hI H;obtain ⟨k,v,xs,Lo,g⟩:=gh;dsimp only at hI H;obtain ⟨hk,hrw,jD,hgm⟩:=hI;dsimp only [lca,bg] at H;refine kP H (SR fun _ K5=>Rc rfl (Kz K5 (SQ fun _ K6=>Cd rfl ?_ ?_))) <;> clear H K5
 ·intro h11 a H
  try have nR:=dT h11
  have hk2:k < l.length:=by omega
  obtain ⟨b,o,cs,rfl,hcl,hrow,hrep⟩:=hg k l[k].dat (by simp [hk2]);obtain ⟨pA,pn,pc,dA,dn,dc,yA,yn,yc,fA,fn,fc,rfl,-⟩:=hrep.row;replace hrow:=fun j u hj=>aK hgm (hrow j u hj);refine kP H (Kc K6 (SQ fun _ K7=>SB (SR fun _ K8=>Ri mU kE rfl rfl ?_)));clear H K6;intro a H;refine bD kE (cs:=[_,_,_,_,_,_]) H wn rfl rfl (fun j v hj=>H.hp.aI (hrow j v hj)) rfl ?_;clear H;intro a H;refine eB kE H wn rfl ?_;clear H;intro b7 a w Ce H;refine bH kE 0 (vs:=[_,_,_,_,_,_]) _ H wn rfl rfl rfl rfl rfl rfl rfl rfl ?_;clear H;intro w H;dsimp only [List.set,setRow] at H;refine K8 _ _ ?_;clear K8;refine kP H (SC (Rm rfl (Rm rfl ?_)));clear H;intro a H;refine bD kE (cs:=[_,_,_,_,_,_]) H wn rfl rfl (H.hp.dS 0 rfl rfl) rfl ?_;clear H;intro a H;refine pX H wn rfl rfl (hf _ (iL hk2) _ _ _ hgm H.ro (hrep.mono hgm)) rfl ?_;clear H;rintro v17 uL a w ⟨wV,rfl,dV⟩ nO H;obtain ⟨cs,hcs⟩:∃ cs,cs=wV:=⟨_,rfl⟩;obtain ⟨pA,pn,pc,dA,dn,dc,yA,yn,yc,fA,fn,fc,uw,-⟩:=dV.row;rw [uw] at H;refine gQ mU kE [_,_,_,_,_,_] [_,_,_,_,_,_] H wn rfl rfl rfl rfl rfl (by intro i q h;match i,h with|0,h=>exact h|n+1,h=>simp at h) rfl rfl ?_;clear H;intro b18 a w Ho H;refine nU (Li:=[_,_]) (Lo:=Lo) (news:=wV) mU kE rfl rfl H wn rfl rfl hrw (by rw [uw];rfl) (by rw [uw];exact H.hp.dS 0 rfl rfl) dV.one (by omega) (by omega) rfl ?_;clear H;intro v19 CZ a w wo H;refine kH H (aU K7 rfl (SC (Rd rfl (Rm rfl ?_))));clear H K7;intro a H;refine aH ?_;refine cu ((k+1,v19,xs++wV,CZ,uL)) (by exact (H.dK (Pl:=[_,_]) (cB:=[]) [] (by decide) rfl).sub ⟨rfl,rfl,rfl,rfl,rfl,aD⟩) ?_ ?_
  ·(try dsimp only);refine ⟨by omega,wo,?_,fun b o h=>nO b o (hgm b o h)⟩;rw [jq (by simpa using hk2)];exact (jD.mono nO).snoc (by simpa using dV) (by rw [uw];rfl)
  first|omega|(dsimp only;omega)
 intro h11 a H
 try have nR:=dF h11
 refine dU ?_;refine K3 _ _ ?_;clear K3;refine bA (fun _ K9=>?_);obtain ⟨G',hm,hrep,H⟩:=H.uo (Li:=[]) hrw (rows:=l.map bO.dat) (by simp;omega) (by rw [jH (by simp;omega)] at jD;exact jD);exact kP H (SC (Rm rfl (aU K9 rfl (LR results66 rfl fun H=>H.rt hrep))))
theorem abF (G:GH) (w0:World) (hG:Hold G w0) (l:List bM) (v fv:aj) (hv:av G (.sl 7 (l.map bM.dat)) v) (hz:l.length≤4294967296) (hf:∀ x∈l,Et fv w0 G x.dat) :
  Calls prog 101 #[v,fv] w0 (bE w0 G fun u G'=>av G' (.sl 7 (l.map bM.dat)) u):=by
 obtain ⟨A,c,rfl,hc1,hc2,hg⟩:=hv.slice
 have hml:4294967297≤maxLen:=by decide
 rw [bQ] at *;refine eN [(0,_),(1,_)] func101 rfl ntmps101 rfl rfl hG ?_;intro a H;refine kP H (SR fun _ K1=>ak K1 rfl (SR fun _ K2=>ak K2 rfl (SQ fun _ K3=>SR fun _ K4=>Rm rfl (Rl qH rfl (Rm rfl (Kz K4 (SB ?_)))))));clear H K1 K2 K4;intro a H;skip;refine eT (ι:=Nat × aj × List aj × OL × GH) (Tc:=[(1,_),(8,_),(9,_)]) (Lc:=[]) (fun gh=>[(5,gh.2.1),(10,vi gh.1)]) (fun gh=>[]++gh.2.2.2.1) (fun gh=>gh.2.2.2.2) (fun gh=>gh.1≤l.length∧dx 98 7 gh.2.1 gh.1 gh.2.2.1 gh.2.2.2.1∧fE gh.2.2.2.2 7 ((l.map bM.dat).take gh.1) gh.2.2.1∧(∀ b o,G b=some o→gh.2.2.2.2 b=some o)) (fun gh=>l.length - gh.1) ((0,.slice none 0 0,[],[],G)) (by exact (H).sub ⟨rfl,rfl,rfl,rfl,rfl,aD⟩) ?_ ?_
 ·exact ⟨by omega,dx.nil,by simpa using fE.nil,fun _ _ h=>h⟩
 clear H;intro gh a w hI H;obtain ⟨k,v,xs,Lo,g⟩:=gh;dsimp only at hI H;obtain ⟨hk,hrw,jD,hgm⟩:=hI;dsimp only [lca,bg] at H;refine kP H (SR fun _ K5=>Rc rfl (Kz K5 (SQ fun _ K6=>Cd rfl ?_ ?_))) <;> clear H K5
 ·intro h11 a H
  try have nR:=dT h11
  have hk2:k < l.length:=by omega
  obtain ⟨b,o,cs,rfl,hcl,hrow,hrep⟩:=hg k l[k].dat (by simp [hk2]);obtain ⟨pA,pn,pc,dA,dn,dc,yA,yn,yc,fA,fn,fc,rfl,-⟩:=hrep.cell;replace hrow:=fun j u hj=>aK hgm (hrow j u hj);refine kP H (Kc K6 (SQ fun _ K7=>SB (SR fun _ K8=>Ri qH mF rfl rfl ?_)));clear H K6;intro a H;refine bD mF (cs:=[_,_,_,_,_,_,_]) H wn rfl rfl (fun j v hj=>H.hp.aI (hrow j v hj)) rfl ?_;clear H;intro a H;refine eB mF H wn rfl ?_;clear H;intro b7 a w Ce H;refine bH mF 0 (vs:=[_,_,_,_,_,_,_]) _ H wn rfl rfl rfl rfl rfl rfl rfl rfl ?_;clear H;intro w H;dsimp only [List.set,setRow] at H;refine K8 _ _ ?_;clear K8;refine kP H (SC (Rm rfl (Rm rfl ?_)));clear H;intro a H;refine bD mF (cs:=[_,_,_,_,_,_,_]) H wn rfl rfl (H.hp.dS 0 rfl rfl) rfl ?_;clear H;intro a H;refine pX H wn rfl rfl (hf _ (iL hk2) _ _ _ hgm H.ro (hrep.mono hgm)) rfl ?_;clear H;rintro v17 uL a w ⟨wV,rfl,dV⟩ nO H;obtain ⟨cs,hcs⟩:∃ cs,cs=wV:=⟨_,rfl⟩;obtain ⟨pA,pn,pc,dA,dn,dc,yA,yn,yc,fA,fn,fc,uw,-⟩:=dV.cell;rw [uw] at H;refine gQ qH mF [_,_,_,_,_,_,_] [_,_,_,_,_,_,_] H wn rfl rfl rfl rfl rfl (by intro i q h;match i,h with|0,h=>exact h|n+1,h=>simp at h) rfl rfl ?_;clear H;intro b18 a w Ho H;refine nU (Li:=[_,_]) (Lo:=Lo) (news:=wV) qH mF rfl rfl H wn rfl rfl hrw (by rw [uw];rfl) (by rw [uw];exact H.hp.dS 0 rfl rfl) dV.one (by omega) (by omega) rfl ?_;clear H;intro v19 CZ a w wo H;refine kH H (aU K7 rfl (SC (Rd rfl (Rm rfl ?_))));clear H K7;intro a H;refine aH ?_;refine cu ((k+1,v19,xs++wV,CZ,uL)) (by exact (H.dK (Pl:=[_,_]) (cB:=[]) [] (by decide) rfl).sub ⟨rfl,rfl,rfl,rfl,rfl,aD⟩) ?_ ?_
  ·(try dsimp only);refine ⟨by omega,wo,?_,fun b o h=>nO b o (hgm b o h)⟩;rw [jq (by simpa using hk2)];exact (jD.mono nO).snoc (by simpa using dV) (by rw [uw];rfl)
  first|omega|(dsimp only;omega)
 intro h11 a H
 try have nR:=dF h11
 refine dU ?_;refine K3 _ _ ?_;clear K3;refine bA (fun _ K9=>?_);obtain ⟨G',hm,hrep,H⟩:=H.uo (Li:=[]) hrw (rows:=l.map bM.dat) (by simp;omega) (by rw [jH (by simp;omega)] at jD;exact jD);exact kP H (SC (Rm rfl (aU K9 rfl (LR results101 rfl fun H=>H.rt hrep))))
def CU (n:Nat):Prop:=∀ (G:GH) (w0:World),Hold G w0→∀ (l:List aA) (v:aj),av G (.sl 11 (l.map aA.dat)) v→bC l < n →
 Calls prog 40 #[v] w0 (bE w0 G fun u G'=>av G' (.sl 11 (l.map aA.dat)) u)
theorem aaZ {n:Nat} (ih:CU n) (hn:n≤4294967296) (G:GH) (w0:World) (hG:Hold G w0) (x:bM) (cs:List aj) (hv:aZ G x.dat cs) (hz:dh x.dat < n+1) :
  Calls prog 102 #[.agg cs.toArray] w0 (bE w0 G fun u G'=>∃ cs',u=.agg cs'.toArray∧aZ G' x.dat cs'):=by
 have he:=Bw x;obtain ⟨pA,pn,pc,dA,dn,dc,yA,yn,yc,fA,fn,fc,rfl,hh,hf⟩:=hv.cell;refine eN [(0,_)] func102 rfl ntmps102 rfl rfl hG ?_;intro a H;refine dB (fun _ K1=>?_);refine eU (cs:=[_,_,_,_,_,_,_]) H wn rfl rfl rfl ?_;clear H;intro b1 a w hb1 H;refine eB mF H wn rfl ?_;clear H;intro b2 a w hb2 H;refine K1 _ _ ?_;clear K1;refine bA (fun _ K2=>?_)
 have iR:∀ (bT:Nat) (v:aj) (G G':GH),(∀ k o,G k=some o→G' k=some o)→(fun (bT:Nat) (v:aj) (G:GH)=>match bT with|0=>v=(aJ b1 0)|1=>v=vi x.id|2=>v=(aJ b1 1)|3=>v=.agg #[.slice pA pn pc,vi x.head.marks.ins,vi x.head.marks.move,.slice dA dn dc,.slice yA yn yc]|4=>∃ p d l,v=.agg #[p,vi x.head.marks.ins,vi x.head.marks.move,d,l]∧jF G x.head p d l|5=>v=(aJ b1 6)|6=>v=.slice fA fn fc|7=>av G (.sl 11 (x.flow.map aA.dat)) v|_=>True) bT v G→(fun (bT:Nat) (v:aj) (G:GH)=>match bT with|0=>v=(aJ b1 0)|1=>v=vi x.id|2=>v=(aJ b1 1)|3=>v=.agg #[.slice pA pn pc,vi x.head.marks.ins,vi x.head.marks.move,.slice dA dn dc,.slice yA yn yc]|4=>∃ p d l,v=.agg #[p,vi x.head.marks.ins,vi x.head.marks.move,d,l]∧jF G x.head p d l|5=>v=(aJ b1 6)|6=>v=.slice fA fn fc|7=>av G (.sl 11 (x.flow.map aA.dat)) v|_=>True) bT v G':=by
  intro bT v G G' hm h
  match bT,h with
  | 0,h=>exact h
  | 1,h=>exact h
  | 2,h=>exact h
  | 3,h=>exact h
  | 4,h=>exact let ⟨p,d,l,h1,h2⟩:=h;⟨p,d,l,h1,h2.mono hm⟩
  | 5,h=>exact h
  | 6,h=>exact h
  | 7,h=>exact av.mono hm h
  | 8,h=>exact trivial
  | 9,h=>exact trivial
  | _+10,h=>exact trivial
 refine BK (hmx) [[],[0],[],[2],[2,3],[],[5],(ra 2 5),(ra 0 8),(ra 0 9)] [8,9] (by kernel_rfl) (by kernel_rfl) (fun (bT:Nat) (v:aj) (G:GH)=>match bT with|0=>v=(aJ b1 0)|1=>v=vi x.id|2=>v=(aJ b1 1)|3=>v=.agg #[.slice pA pn pc,vi x.head.marks.ins,vi x.head.marks.move,.slice dA dn dc,.slice yA yn yc]|4=>∃ p d l,v=.agg #[p,vi x.head.marks.ins,vi x.head.marks.move,d,l]∧jF G x.head p d l|5=>v=(aJ b1 6)|6=>v=.slice fA fn fc|7=>av G (.sl 11 (x.flow.map aA.dat)) v|_=>True) iR H ?_ ?_
 ·clear H;refine aF ?_ ?_ ?_ ?_ (aF ?_ ?_ ?_ ?_ (aS (bK rfl) (aS (bK rfl) bX)))
  ·refine dQ [] rfl trivial (by kernel_rfl) iR rfl rfl ?_;intro bR a w G1 hG HT H fin;exact kH H (Rf GU rfl fun _ H=>fin H iJ rfl)
  ·refine dQ [(0,3,_)] rfl ⟨fun _ _ h=>h,aD⟩ (by kernel_rfl) iR rfl rfl ?_;intro bR a w G1 hG HT H fin;exact kH H (Ro aC 1 rfl fun _ H=>fin H iJ rfl)
  ·refine dQ [] rfl trivial (by kernel_rfl) iR rfl rfl ?_;intro bR a w G1 hG HT H fin;exact kH H (Rf Uw rfl fun _ H=>fin H iJ rfl)
  ·refine dQ [(2,5,_)] rfl ⟨fun _ _ h=>h,aD⟩ (by kernel_rfl) iR rfl rfl ?_;intro bR a w G1 hG HT H fin;refine bD qD (cs:=[_,_,_,_,_]) H wn rfl rfl (H.hp.dS 1 rfl rfl) rfl ?_;clear H;intro a H;exact fin H iJ rfl
  ·refine dQ [(3,6,_)] rfl ⟨fun _ _ h=>h,aD⟩ (by kernel_rfl) iR rfl rfl ?_;intro bR a w G1 hG HT H fin;refine s_call JD H wn rfl (JA _ _ H.ro x.head _ _ _ _ _ _ _ _ _ (hh.mono hG) (by omega)) rfl ?_;clear H;rintro v7 G7 a w Kg Ar H;exact fin H Ar (Kg)
  ·refine dQ [] rfl trivial (by kernel_rfl) iR rfl rfl ?_;intro bR a w G1 hG HT H fin;exact kH H (Rf ET rfl fun _ H=>fin H iJ rfl)
  ·refine dQ [(5,8,_)] rfl ⟨fun _ _ h=>h,aD⟩ (by kernel_rfl) iR rfl rfl ?_;intro bR a w G1 hG HT H fin;exact kH H (Ro iD 1 rfl fun _ H=>fin H iJ rfl)
  refine dQ [(6,9,_)] rfl ⟨fun _ _ h=>h,aD⟩ (by kernel_rfl) iR rfl rfl ?_;intro bR a w G1 hG HT H fin;refine s_call Nl H wn rfl (ih _ _ H.ro x.flow _ (hf.mono hG) (by omega)) rfl ?_;clear H;rintro v10 wJ a w xO oJ H;exact fin H oJ (xO)
 clear H;intro a w G nu H hv;have H:=H.aR (hv 1 4 rfl rfl) rfl;obtain ⟨u7,hu7,Kg⟩:=hv 4 7 (by decide) rfl;(try dsimp only at Kg);obtain ⟨p7,d7,l7,rfl,J4⟩:=Kg;obtain ⟨a1,a2,a3,rfl⟩:=J4.props.form;obtain ⟨a4,a5,a6,rfl⟩:=J4.cO.form;obtain ⟨a7,a8,a9,rfl⟩:=J4.layers.form;have H:=H.kI hu7;obtain ⟨u10,Pb,xO⟩:=hv 7 10 (by decide) rfl;(try dsimp only at xO);obtain ⟨YT,n10,c10,rfl⟩:=xO.form;have H:=H.kI Pb;clear hv;refine iT ajN [_,_,_,_,_,_,_] H wn rfl rfl rfl rfl ?_;clear H;intro a H;refine bH mF 0 (vs:=[_,_,_,_,_,_,_]) _ H wn rfl rfl rfl rfl rfl rfl rfl rfl ?_;clear H;intro w H;dsimp only [List.set,setRow] at H;refine aH ⟨rfl,?_⟩;refine K2 _ _ ?_;clear K2;refine cZ ?_;refine (leave1 H results102 (.cons (Bh mF (cs:=[_,_,_,_,_,_,_]) H rfl rfl (H.hp.dS 0 rfl rfl)) .nil) ?_).1;exact H.rt ⟨_,rfl,aZ.Wz J4 xO⟩
theorem aaY {n:Nat} (ih:CU n) (hn:n≤4294967296) {G:GH} {w0:World} (x:bM) (hz:dh x.dat < n+1):Et (.func (.func 102) #[] #[]) w0 G x.dat:=by
 intro G1 w1 cs hm1 hG1 hr;have h:=aaZ ih hn _ _ hG1 x cs hr hz;have h2:=lX (P:=prog) (caps:=[]) (args:=[.agg cs.toArray]) abK h;exact h2
theorem abg {n:Nat} (ih:CU n) (hn:n≤4294967296) (G:GH) (w0:World) (hG:Hold G w0) (x:bO) (cs:List aj) (hv:aZ G x.dat cs) (hz:dh x.dat < n+1) :
  Calls prog 67 #[.agg cs.toArray] w0 (bE w0 G fun u G'=>∃ cs',u=.agg cs'.toArray∧aZ G' x.dat cs'):=by
 have he:=Bz x;have hl:=II x.cells;obtain ⟨pA,pn,pc,dA,dn,dc,yA,yn,yc,fA,fn,fc,rfl,hh,hf⟩:=hv.row;refine eN [(0,_)] func67 rfl ntmps67 rfl rfl hG ?_;intro a H;refine dB (fun _ K1=>?_);refine eU (cs:=[_,_,_,_,_,_]) H wn rfl rfl rfl ?_;clear H;intro b1 a w hb1 H;refine eB kE H wn rfl ?_;clear H;intro b2 a w hb2 H;refine K1 _ _ ?_;clear K1;refine bA (fun _ K2=>?_)
 have iR:∀ (bT:Nat) (v:aj) (G G':GH),(∀ k o,G k=some o→G' k=some o)→(fun (bT:Nat) (v:aj) (G:GH)=>match bT with|0=>v=(aJ b1 0)|1=>v=.agg #[.slice pA pn pc,vi x.head.marks.ins,vi x.head.marks.move,.slice dA dn dc,.slice yA yn yc]|2=>∃ p d l,v=.agg #[p,vi x.head.marks.ins,vi x.head.marks.move,d,l]∧jF G x.head p d l|3=>v=(aJ b1 5)|4=>v=.slice fA fn fc|5=>av G (.sl 7 (x.cells.map bM.dat)) v|_=>True) bT v G→(fun (bT:Nat) (v:aj) (G:GH)=>match bT with|0=>v=(aJ b1 0)|1=>v=.agg #[.slice pA pn pc,vi x.head.marks.ins,vi x.head.marks.move,.slice dA dn dc,.slice yA yn yc]|2=>∃ p d l,v=.agg #[p,vi x.head.marks.ins,vi x.head.marks.move,d,l]∧jF G x.head p d l|3=>v=(aJ b1 5)|4=>v=.slice fA fn fc|5=>av G (.sl 7 (x.cells.map bM.dat)) v|_=>True) bT v G':=by
  intro bT v G G' hm h
  match bT,h with
  | 0,h=>exact h
  | 1,h=>exact h
  | 2,h=>exact let ⟨p,d,l,h1,h2⟩:=h;⟨p,d,l,h1,h2.mono hm⟩
  | 3,h=>exact h
  | 4,h=>exact h
  | 5,h=>exact av.mono hm h
  | 6,h=>exact trivial
  | 7,h=>exact trivial
  | _+8,h=>exact trivial
 refine BK (hmx) [[],[0],[0,1],[],[3],(ra 0 5),(ra 0 6),(ra 0 7)] [6,7] (by kernel_rfl) (by kernel_rfl) (fun (bT:Nat) (v:aj) (G:GH)=>match bT with|0=>v=(aJ b1 0)|1=>v=.agg #[.slice pA pn pc,vi x.head.marks.ins,vi x.head.marks.move,.slice dA dn dc,.slice yA yn yc]|2=>∃ p d l,v=.agg #[p,vi x.head.marks.ins,vi x.head.marks.move,d,l]∧jF G x.head p d l|3=>v=(aJ b1 5)|4=>v=.slice fA fn fc|5=>av G (.sl 7 (x.cells.map bM.dat)) v|_=>True) iR H ?_ ?_
 ·clear H;refine aF ?_ ?_ ?_ ?_ (aF ?_ ?_ (bK rfl) (bK rfl) bX)
  ·refine dQ [] rfl trivial (by kernel_rfl) iR rfl rfl ?_;intro bR a w G1 hG HT H fin;exact kH H (Rf Uv rfl fun _ H=>fin H iJ rfl)
  ·refine dQ [(0,3,_)] rfl ⟨fun _ _ h=>h,aD⟩ (by kernel_rfl) iR rfl rfl ?_;intro bR a w G1 hG HT H fin;refine bD qD (cs:=[_,_,_,_,_]) H wn rfl rfl (H.hp.dS 1 rfl rfl) rfl ?_;clear H;intro a H;exact fin H iJ rfl
  ·refine dQ [(1,4,_)] rfl ⟨fun _ _ h=>h,aD⟩ (by kernel_rfl) iR rfl rfl ?_;intro bR a w G1 hG HT H fin;refine s_call JD H wn rfl (JA _ _ H.ro x.head _ _ _ _ _ _ _ _ _ (hh.mono hG) (by omega)) rfl ?_;clear H;rintro v5 G5 a w wm Cb H;exact fin H Cb (wm)
  ·refine dQ [] rfl trivial (by kernel_rfl) iR rfl rfl ?_;intro bR a w G1 hG HT H fin;exact kH H (Rf vV rfl fun _ H=>fin H iJ rfl)
  ·refine dQ [(3,6,_)] rfl ⟨fun _ _ h=>h,aD⟩ (by kernel_rfl) iR rfl rfl ?_;intro bR a w G1 hG HT H fin;exact kH H (Ro wI 1 rfl fun _ H=>fin H iJ rfl)
  refine dQ [(4,7,_)] rfl ⟨fun _ _ h=>h,aD⟩ (by kernel_rfl) iR rfl rfl ?_;intro bR a w G1 hG HT H fin;refine s_call abJ H wn rfl (abF _ _ H.ro x.cells _ _ (hf.mono hG) (by omega) (fun y hy=>aaY ih hn y (by have:=aky hy;omega))) rfl ?_;clear H;rintro v8 G8 a w xP qp H;exact fin H qp (xP)
 clear H;intro a w G nu H hv;obtain ⟨u5,Ph,wm⟩:=hv 2 5 (by decide) rfl;(try dsimp only at wm);obtain ⟨p5,d5,l5,rfl,AA⟩:=wm;obtain ⟨a1,a2,a3,rfl⟩:=AA.props.form;obtain ⟨a4,a5,a6,rfl⟩:=AA.cO.form;obtain ⟨a7,a8,a9,rfl⟩:=AA.layers.form;have H:=H.kI Ph;obtain ⟨u8,Pj,xP⟩:=hv 5 8 (by decide) rfl;(try dsimp only at xP);obtain ⟨A8,n8,c8,rfl⟩:=xP.form;have H:=H.kI Pj;clear hv;refine iT ajM [_,_,_,_,_,_] H wn rfl rfl rfl rfl ?_;clear H;intro a H;refine bH kE 0 (vs:=[_,_,_,_,_,_]) _ H wn rfl rfl rfl rfl rfl rfl rfl rfl ?_;clear H;intro w H;dsimp only [List.set,setRow] at H;refine aH ⟨rfl,?_⟩;refine K2 _ _ ?_;clear K2;refine cZ ?_;refine (leave1 H results67 (.cons (Bh kE (cs:=[_,_,_,_,_,_]) H rfl rfl (H.hp.dS 0 rfl rfl)) .nil) ?_).1;exact H.rt ⟨_,rfl,aZ.WA AA xP⟩
theorem abf {n:Nat} (ih:CU n) (hn:n≤4294967296) {G:GH} {w0:World} (x:bO) (hz:dh x.dat < n+1):Et (.func (.func 67) #[] #[]) w0 G x.dat:=by
 intro G1 w1 cs hm1 hG1 hr;have h:=abg ih hn _ _ hG1 x cs hr hz;have h2:=lX (P:=prog) (caps:=[]) (args:=[.agg cs.toArray]) adn h;exact h2
theorem aaX {n:Nat} (ih:CU n) (hn:n≤4294967296) (G:GH) (w0:World) (hG:Hold G w0) (x:aA) (cs:List aj) (hv:aZ G x.dat cs) (hz:dh x.dat < n+1) :
  Calls prog 64 #[.agg cs.toArray] w0 (bE w0 G fun u G'=>∃ cs',u=.agg cs'.toArray∧aZ G' x.dat cs'):=by
 have he:=oU x;have hl:=IQ x.rows;obtain ⟨pA,pn,pc,dA,dn,dc,yA,yn,yc,fA,fn,fc,rA,rn,rc,rfl,hh,hf,hr⟩:=hv.item;refine eN [(0,_)] func64 rfl ntmps64 rfl rfl hG ?_;intro a H;refine dB (fun _ K1=>?_);refine eU (cs:=[_,_,_,_,_,_,_,_,_,_,_]) H wn rfl rfl rfl ?_;clear H;intro b1 a w hb1 H;refine eB dM H wn rfl ?_;clear H;intro b2 a w hb2 H;refine K1 _ _ ?_;clear K1;refine bA (fun _ K2=>?_)
 have iR:∀ (bT:Nat) (v:aj) (G G':GH),(∀ k o,G k=some o→G' k=some o)→(fun (bT:Nat) (v:aj) (G:GH)=>match bT with|0=>v=(aJ b1 4)|1=>v=.agg #[.slice pA pn pc,vi x.head.marks.ins,vi x.head.marks.move,.slice dA dn dc,.slice yA yn yc]|2=>∃ p d l,v=.agg #[p,vi x.head.marks.ins,vi x.head.marks.move,d,l]∧jF G x.head p d l|3=>v=(aJ b1 9)|4=>v=.slice fA fn fc|5=>av G (.sl 11 (x.flow.map aA.dat)) v|6=>v=(aJ b1 10)|7=>v=.slice rA rn rc|8=>av G (.sl 6 (x.rows.map bO.dat)) v|9=>v=(aJ b1 4)|_=>True) bT v G→(fun (bT:Nat) (v:aj) (G:GH)=>match bT with|0=>v=(aJ b1 4)|1=>v=.agg #[.slice pA pn pc,vi x.head.marks.ins,vi x.head.marks.move,.slice dA dn dc,.slice yA yn yc]|2=>∃ p d l,v=.agg #[p,vi x.head.marks.ins,vi x.head.marks.move,d,l]∧jF G x.head p d l|3=>v=(aJ b1 9)|4=>v=.slice fA fn fc|5=>av G (.sl 11 (x.flow.map aA.dat)) v|6=>v=(aJ b1 10)|7=>v=.slice rA rn rc|8=>av G (.sl 6 (x.rows.map bO.dat)) v|9=>v=(aJ b1 4)|_=>True) bT v G':=by
  intro bT v G G' hm h
  match bT,h with
  | 0,h=>exact h
  | 1,h=>exact h
  | 2,h=>exact let ⟨p,d,l,h1,h2⟩:=h;⟨p,d,l,h1,h2.mono hm⟩
  | 3,h=>exact h
  | 4,h=>exact h
  | 5,h=>exact av.mono hm h
  | 6,h=>exact h
  | 7,h=>exact h
  | 8,h=>exact av.mono hm h
  | 9,h=>exact h
  | 10,h=>exact trivial
  | 11,h=>exact trivial
  | 12,h=>exact trivial
  | 13,h=>exact trivial
  | 14,h=>exact trivial
  | _+15,h=>exact trivial
 refine BK (hmx) [[],[0],[0,1],[],[3],(ra 0 5),[],[6],(ra 0 8),[0,1,2,3,4,6,7],(ra 0 10),(ra 0 11),(ra 0 12),(ra 0 13),(ra 0 14)] (ra 10 5) (by kernel_rfl) (by kernel_rfl) (fun (bT:Nat) (v:aj) (G:GH)=>match bT with|0=>v=(aJ b1 4)|1=>v=.agg #[.slice pA pn pc,vi x.head.marks.ins,vi x.head.marks.move,.slice dA dn dc,.slice yA yn yc]|2=>∃ p d l,v=.agg #[p,vi x.head.marks.ins,vi x.head.marks.move,d,l]∧jF G x.head p d l|3=>v=(aJ b1 9)|4=>v=.slice fA fn fc|5=>av G (.sl 11 (x.flow.map aA.dat)) v|6=>v=(aJ b1 10)|7=>v=.slice rA rn rc|8=>av G (.sl 6 (x.rows.map bO.dat)) v|9=>v=(aJ b1 4)|_=>True) iR H ?_ ?_
 ·clear H;refine aF ?_ ?_ ?_ ?_ (aF ?_ ?_ ?_ ?_ (aF ?_ ?_ (bK rfl) (bK rfl) (aS (bK rfl) (aS (bK rfl) (aS (bK rfl) bX)))))
  ·refine dQ [] rfl trivial (by kernel_rfl) iR rfl rfl ?_;intro bR a w G1 hG HT H fin;exact kH H (Rf BO rfl fun _ H=>fin H iJ rfl)
  ·refine dQ [(0,3,_)] rfl ⟨fun _ _ h=>h,aD⟩ (by kernel_rfl) iR rfl rfl ?_;intro bR a w G1 hG HT H fin;refine bD qD (cs:=[_,_,_,_,_]) H wn rfl rfl (H.hp.dS 1 rfl rfl) rfl ?_;clear H;intro a H;exact fin H iJ rfl
  ·refine dQ [(1,4,_)] rfl ⟨fun _ _ h=>h,aD⟩ (by kernel_rfl) iR rfl rfl ?_;intro bR a w G1 hG HT H fin;refine s_call JD H wn rfl (JA _ _ H.ro x.head _ _ _ _ _ _ _ _ _ (hh.mono hG) (by omega)) rfl ?_;clear H;rintro v5 G5 a w wm Cb H;exact fin H Cb (wm)
  ·refine dQ [] rfl trivial (by kernel_rfl) iR rfl rfl ?_;intro bR a w G1 hG HT H fin;exact kH H (Rf yV rfl fun _ H=>fin H iJ rfl)
  ·refine dQ [(3,6,_)] rfl ⟨fun _ _ h=>h,aD⟩ (by kernel_rfl) iR rfl rfl ?_;intro bR a w G1 hG HT H fin;exact kH H (Ro iD 1 rfl fun _ H=>fin H iJ rfl)
  ·refine dQ [(4,7,_)] rfl ⟨fun _ _ h=>h,aD⟩ (by kernel_rfl) iR rfl rfl ?_;intro bR a w G1 hG HT H fin;refine s_call Nl H wn rfl (ih _ _ H.ro x.flow _ (hf.mono hG) (by omega)) rfl ?_;clear H;rintro v8 G8 a w xP qp H;exact fin H qp (xP)
  ·refine dQ [] rfl trivial (by kernel_rfl) iR rfl rfl ?_;intro bR a w G1 hG HT H fin;exact kH H (Rf qN rfl fun _ H=>fin H iJ rfl)
  ·refine dQ [(6,9,_)] rfl ⟨fun _ _ h=>h,aD⟩ (by kernel_rfl) iR rfl rfl ?_;intro bR a w G1 hG HT H fin;exact kH H (Ro rz 1 rfl fun _ H=>fin H iJ rfl)
  ·refine dQ [(7,10,_)] rfl ⟨fun _ _ h=>h,aD⟩ (by kernel_rfl) iR rfl rfl ?_;intro bR a w G1 hG HT H fin;refine s_call TV H wn rfl (TA _ _ H.ro x.rows _ _ (hr.mono hG) (by omega) (fun y hy=>abf ih hn y (by have:=akC hy;omega))) rfl ?_;clear H;rintro v11 tL a w HY iY H;exact fin H iY (HY)
  refine dQ [] rfl trivial (by kernel_rfl) iR rfl rfl ?_;intro bR a w G1 hG HT H fin;exact kH H (Rf BO rfl fun _ H=>fin H iJ rfl)
 clear H;intro a w G nu H hv;obtain ⟨u5,Ph,wm⟩:=hv 2 5 (by decide) rfl;(try dsimp only at wm);obtain ⟨p5,d5,l5,rfl,AA⟩:=wm;obtain ⟨a1,a2,a3,rfl⟩:=AA.props.form;obtain ⟨a4,a5,a6,rfl⟩:=AA.cO.form;obtain ⟨a7,a8,a9,rfl⟩:=AA.layers.form;have H:=H.kI Ph;obtain ⟨u8,Pj,xP⟩:=hv 5 8 (by decide) rfl;(try dsimp only at xP);obtain ⟨A8,n8,c8,rfl⟩:=xP.form;have H:=H.kI Pj;obtain ⟨u11,agx,HY⟩:=hv 8 11 (by decide) rfl;(try dsimp only at HY);obtain ⟨A11,n11,c11,rfl⟩:=HY.form;have H:=H.kI agx;have H:=H.aR (hv 9 12 rfl rfl) rfl;clear hv;refine bH qD 1 (vs:=[_,_,_,_,_]) _ H wn rfl rfl rfl rfl rfl rfl rfl rfl ?_;clear H;intro w H;dsimp only [List.set,setRow] at H;refine kH H (Rf yV rfl ?_);clear H;intro a H;refine bH iD 1 (vs:=[_]) _ H wn rfl rfl rfl rfl rfl rfl rfl rfl ?_;clear H;intro w H;dsimp only [List.set,setRow] at H;refine kH H (Rf qN rfl ?_);clear H;intro a H;refine bH rz 1 (vs:=[_]) _ H wn rfl rfl rfl rfl rfl rfl rfl rfl ?_;clear H;intro w H;dsimp only [List.set,setRow] at H;refine aH ⟨rfl,?_⟩;refine K2 _ _ ?_;clear K2;refine dB (fun _ K3=>?_);refine bD dM (cs:=[_,_,_,_,_,_,_,_,_,_,_]) H wn rfl rfl (H.hp.dS 1 rfl rfl) rfl ?_;clear H;intro a H;refine bH dM 0 (vs:=[_,_,_,_,_,_,_,_,_,_,_]) _ H wn rfl rfl rfl rfl rfl rfl rfl rfl ?_;clear H;intro w H;dsimp only [List.set,setRow] at H;refine K3 _ _ ?_;clear K3;refine cZ ?_;refine (leave1 H results64 (.cons (Bh dM (cs:=[_,_,_,_,_,_,_,_,_,_,_]) H rfl rfl (H.hp.dS 0 rfl rfl)) .nil) ?_).1;exact H.rt ⟨_,rfl,aZ.mkItem AA xP HY⟩
theorem aaW {n:Nat} (ih:CU n) (hn:n≤4294967296) {G:GH} {w0:World} (x:aA) (hz:dh x.dat < n+1):Et (.func (.func 64) #[] #[]) w0 G x.dat:=by
 intro G1 w1 cs hm1 hG1 hr;have h:=aaX ih hn _ _ hG1 x cs hr hz;have h2:=lX (P:=prog) (caps:=[]) (args:=[.agg cs.toArray]) adl h;exact h2
theorem Te:∀ n:Nat,n≤4294967297→CU n
 | 0,_=>fun _ _ _ _ _ _ h=>absurd h (by omega)
 | n+1,hn=>by
  intro G w0 hG l v hv hz;have ih:=Te n (by omega);have hl:=CQ l;refine eN [(0,_)] func40 rfl ntmps40 rfl rfl hG ?_;intro a H;refine kP H (SR fun _ K1=>ak K1 rfl (SR fun _ K2=>Rm rfl ?_));clear H K1;intro a H;refine s_call adk H wn rfl (abG _ _ H.ro l _ _ hv (by omega) (fun y hy=>aaW ih (by omega) y (by have:=IK hy;omega))) rfl ?_;clear H;rintro v4 G4 a w hp4 Aq H;exact kH H (ak K2 rfl (LR results40 rfl fun H=>H.rt hp4))
theorem abh (G:GH) (w0:World) (hG:Hold G w0) (l:List aA) (v:aj) (hv:av G (.sl 11 (l.map aA.dat)) v) (hz:bC l≤4294967296) :
  Calls prog 40 #[v] w0 (bE w0 G fun u G'=>av G' (.sl 11 (l.map aA.dat)) u):=Te 4294967297 (by omega) G w0 hG l v hv (by omega)
end
section
open Go.RowKit
section
variable {P:Program} {N:Nat} {D:List Deferred} {w0 w w':World} {F:Nat→Prop} {G0 G G':GH} {L L' Li Lo:OL} {T:List (Nat × aj)} {a a':Act} {Q:Exit→Act→World→Prop}
theorem St.cast (h:St N D w0 F G0 G L T a w) (e:L=L'):St N D w0 F G0 G L' T a w:=e ▸ h
theorem St.assoc {A B C:OL} (h:St N D w0 F G0 G ((A++B)++C) T a w):St N D w0 F G0 G (A++(B++C)) T a w:=h.cast (oo _ _ _)
theorem St.un {A B C:OL} (h:St N D w0 F G0 G (A++(B++C)) T a w):St N D w0 F G0 G ((A++B)++C) T a w:=h.cast (oo _ _ _).symm
theorem St.WK {A B:OL} (h:St N D w0 F G0 G (A++B) T a w):St N D w0 F G0 G (A++(B++[])) T a w:=h.cast (by rw [mX])
theorem SS {ι κ:Type} {Lc:OL} {xu:Operand} {ps:List Nat} {assign body:Code} {gf:FuncId} {caps:List aj} {xs:List AP} {Gi:GH}
  (Lv:Nat→ι→OL) (Lt:Nat→ι→OL) (inv:Nat→ι→GH→Prop) (cx:κ→Code) (Lx Db:κ→OL) (xU:κ→GH→Prop) (i0:ι)
  (H:St N D w0 F G0 G (Lc++Lv 0 i0++Lt 0 i0) T a w) (hg:ev T xu=some (.func (.func gf) #[] caps.toArray)) (en:∀ args w,(callFunc gf args).run P w=.ok (.enter gf args) w) (hit:Iter P Gi (.func (.func gf) #[] caps.toArray) xs) (hGi:∀ b o,Gi b=some o→G b=some o)
  (hps:ps.all (Nat.blt · N)=true) (hlen:∀ k args g,uK xs k args g→args.length=ps.length) (hinv:∀ k i (G G':GH),(∀ b o,G b=some o→G' b=some o)→inv k i G→inv k i G') (OG:∀ x (G G':GH),(∀ b o,G b=some o→G' b=some o)→xU x G→xU x G') (h0:inv 0 i0 G)
  (round:∀ (l:Nat) (Cr yO:Obj) (bk:OL) (k:Nat) (args:List aj) (i:ι) (G1:GH) (w1:World) (F1:Nat→Prop) (B1:Code→Exit→Act→World→Prop) (a1:Act),uK xs k args G1→(∀ b o,G b=some o→G1 b=some o)→inv k i G1 →
   (∀ T' G2 L2 a2 w2 c,St N [] w1 F1 G1 G2 ((l,Cr) :: L2) T' a2 w2→(∀ w3,St N [] w1 F1 G1 G2 ((l,yO) :: L2) T' a2 w3→WP (some l) P c (B1 c) a2 w3)→Exit.then (fun a2 w2=>∃ w3,(Instr.beginRound l).run P w2=.ok () w3∧c.wpIn (FW (some l)) 0 P (B1 c) a2 w3) (fun _ _ _=>False) .normal a2 w2) →
   (∀ i' T' G2 a2 w2 c,St N [] w1 F1 G1 G2 ((l,yO) :: (Lc++Lv (k+1) i'++(bk++Lt (k+1) i'))) T' a2 w2→inv (k+1) i' G2→B1 c .normal a2 w2) →
   (∀ x T' G2 a2 w2 c,St N [] w1 F1 G1 G2 ((l,yO) :: (Lc++Lx x++(bk++Db x))) T' a2 w2→xU x G2→(cx x=.ret→B1 c .ret a2 w2)∧∀ n,cx x=.exit n→B1 c (.exit n) a2 w2) →
   St N [] w1 F1 G1 G1 ((l,Cr) :: (Lc++Lv k i++(bk++Lt k i))) (wU ps args T) a1 w1 →
   WP (some l) P assign (Exit.then (fun a2 w2=>∃ w3,(Instr.beginRound l).run P w2=.ok () w3∧body.wpIn (FW (some l)) 0 P (B1 body) a2 w3) (fun _ _ _=>False)) a1 w1)
  (hdone:∀ Dk i G1 a1 w1,(∀ b o,G b=some o→G1 b=some o)→inv xs.length i G1→St N ({ target:=.collected Dk,args:=#[] } :: D) w0 F G0 G1 ((Dk,.deferred (some [])) :: (Lc++Lv xs.length i++Lt xs.length i)) T a1 w1→Q .normal a1 w1)
  (hstop:∀ Dk x G1 a1 w1,(∀ b o,G b=some o→G1 b=some o)→xU x G1→St N ({ target:=.collected Dk,args:=#[] } :: D) w0 F G0 G1 ((Dk,.deferred (some [])) :: (Lc++Lx x++Db x)) T a1 w1→WP none P (cx x) Q a1 w1) :
  WP none P (.rangeFunc xu ps.toArray assign body) Q a w:=by
 refine aas (J:=fun k g L=>∃ i,L=Lc++Lv k i++Lt k i∧inv k i g) (Jx:=fun c g L=>∃ x,c=cx x∧L=Lc++Lx x++Db x∧xU x g) H hg en hit hGi hps hlen (fun k G G' L hm ⟨i,e,h⟩=>⟨i,e,hinv k i G G' hm h⟩) (fun c G G' L hm ⟨x,e1,e2,h⟩=>⟨x,e1,e2,OG x G G' hm h⟩) ⟨i0,rfl,h0⟩ ?_ ?_ ?_
 ·rintro l q bk k args G1 L1 w1 a1 hk hm ⟨i,rfl,hi⟩ H1
  have pm:∀ A B:OL,(bk++(A++B)).Perm (A++(bk++B)):=fun A B=>by
   rw [← oo,← oo]
   exact List.Perm.append_right B zV
  refine round l (q.at .ready none) (q.at .busy none) bk k args i G1 w1 _ (fun _=>roundPost P l _) a1 hk hm hi ?_ ?_ ?_ (H1.perm (List.Perm.cons _ (pm _ _)))
  ·intro T' G2 L2 a2 w2 c H2 h
   exact SK H2 h
  ·intro i' T' G2 a2 w2 c H2 h2
   exact Fy none (H2.perm (List.Perm.cons _ (pm _ _).symm)) ⟨_,rfl,i',rfl,h2⟩
  ·intro x T' G2 a2 w2 c H2 h2
   have H3:=H2.perm (List.Perm.cons _ (pm _ _).symm)
   refine ⟨fun e=>?_,fun n e=>?_⟩
   ·exact Fy (some .ret) H3 ⟨_,_,rfl,x,e.symm,rfl,h2⟩
   ·exact Fy (some (.exit n)) H3 ⟨_,_,rfl,x,e.symm,rfl,h2⟩
 ·rintro Dk G1 L1 a1 w1 hm ⟨i,rfl,hi⟩ H1
  exact hdone Dk i G1 a1 w1 hm hi H1
 ·rintro Dk c G1 L1 a1 w1 hm ⟨x,rfl,rfl,hx⟩ H1
  exact hstop Dk x G1 a1 w1 hm hx H1
def PI (ds:List Nat):List Deferred:=ds.map fun b=>{ target:=.collected b,args:=#[] }
def Ea (ds:List Nat):OL:=ds.map fun b=>(b,.deferred (some []))
theorem aar {r:Option Nat} {ι:Type} {c:Code} {Tc:List (Nat × aj)} {Lc:List (Nat × Obj)} (Dv:ι→List Deferred) (Tv:ι→List (Nat × aj)) (Lv:ι→List (Nat × Obj)) (Gv:ι→GH) (Pr:ι→Prop) (m:ι→Nat) (i0:ι)
  (H:St N (Dv i0) w0 F G0 (Gv i0) (Lc++Lv i0) (Tv i0++Tc) a w) (hP:Pr i0)
  (round:∀ i a w,Pr i→St N (Dv i) w0 F G0 (Gv i) (Lc++Lv i) (Tv i++Tc) a w →
   WP r P c (Exit.then (fun a' w'=>∃ i',(St N (Dv i') w0 F G0 (Gv i') (Lc++Lv i') (Tv i'++Tc) a' w'∧Pr i')∧m i' < m i) Q) a w):WP r P (.loop c) Q a w :=
 SN (fun i a w=>St N (Dv i) w0 F G0 (Gv i) (Lc++Lv i) (Tv i++Tc) a w∧Pr i) m i0 ⟨H,hP⟩ fun i a w hI=>round i a w hI.2 hI.1
theorem ahn {ι:Type} {Dv:ι→List Deferred} {Tc:List (Nat × aj)} {Lc:List (Nat × Obj)} {Tv:ι→List (Nat × aj)} {Lv:ι→List (Nat × Obj)} {Gv:ι→GH} {Pr:ι→Prop} {m:ι→Nat} {i:ι} (i':ι)
  (H:St N (Dv i') w0 F G0 (Gv i') (Lc++Lv i') (Tv i'++Tc) a w) (hP:Pr i') (hm:m i' < m i) :
  ∃ i',(St N (Dv i') w0 F G0 (Gv i') (Lc++Lv i') (Tv i'++Tc) a w∧Pr i')∧m i' < m i:=⟨i',⟨H,hP⟩,hm⟩
theorem Px {fn:Func} {R:Ending→World→Prop} {Lh Lt:OL}:∀ (ds:List Nat) {a:Act} {w:World},St N (PI ds) w0 F G0 G (Lh++(Ea ds++Lt)) T a w →
  (∀ a' w',St N [] w0 F G0 G (Lh++Lt) T a' w'→bodyPostM (FW none) 0 P fn R .ret a' w')→bodyPostM (FW none) 0 P fn R .ret a w∧bodyPostM (FW none) 0 P fn R .normal a w
 | [],a,w,H,k=>⟨k a w H,k a w H⟩
 | b :: ds,a,w,H,k=>by
  refine Ic (b:=b) (D:=PI ds) H Lh.length (by rw [wS (bU _),Nat.sub_self];rfl) fun a' w' H'=>?_
  refine (Px ds (Lh:=Lh) (Lt:=Lt) (H'.cast ?_) k).1
  rw [List.eraseIdx_append_of_length_le (bU _),Nat.sub_self];rfl
end
end
section
open Go.RowKit
def n1 (x:aA):Nat:=if rC x=0 then dY x else 0
theorem ahf (x:aA):wu [x]=n1 x:=by
 simp only [wu,uT,n1,nW,List.all_cons,List.all_nil,Bool.and_true,pz]
 split <;> simp_all
mutual
/-- The positions of a flow and of those within it, from an item on. -/
def CO (flow:Int) (at_:Nat):aA→List (Int × Int)
 | .mk k c i t h f r=>(List.range (n1 (.mk k c i t h f r))).map (fun q=>(flow,((at_+q:Nat):Int)))++((if k=6 then vJ i 0 f else [])++sF r)
def vJ (flow:Int):Nat→List aA→List (Int × Int)
 | at_,[]=>[(flow,(at_:Int))]
 | at_,x :: l=>CO flow at_ x++vJ flow (at_+n1 x) l
def sF:List bO→List (Int × Int)
 | []=>[]
 | r :: l=>CP r++sF l
def CP:bO→List (Int × Int)
 | .mk _ cs=>yC cs
def yC:List bM→List (Int × Int)
 | []=>[]
 | c :: l=>CK c++yC l
def CK:bM→List (Int × Int)
 | .mk i _ f=>vJ i 0 f
end
theorem av.len {G:GH} {sz:Nat} {rows:List (List Dat)} {A:Option Addr} {n c:Nat} (h:av G (.sl sz rows) (.slice A n c)):n=rows.length:=h.cells.1
theorem av.at_ {G:GH} {sz:Nat} {rows:List (List Dat)} {A:Option Addr} {n c:Nat} (h:av G (.sl sz rows) (.slice A n c)):∀ k r,rows[k]?=some r→∃ b o cs,A=some ⟨b,o,none⟩∧cs.length=sz∧(∀ j u,cs[j]?=some u→aI G b (o+k*sz+j)=some u)∧aZ G r cs:=by
 obtain ⟨A2,c2,e,_,_,hg⟩:=h.slice
 cases e;exact hg
theorem Im {G:GH} {l:List bO} {A:Option Addr} {k:Nat} (hk:k < l.length) (hg:∀ k r,(l.map bO.dat)[k]?=some r→∃ b o cs,A=some ⟨b,o,none⟩∧cs.length=6∧(∀ j u,cs[j]?=some u→aI G b (o+k*6+j)=some u)∧aZ G r cs) :
  ∃ b o pA pn pc dA dn dc yA yn yc cA cn cc,A=some ⟨b,o,none⟩∧(∀ j u,[.slice pA pn pc,vi l[k].head.marks.ins,vi l[k].head.marks.move,.slice dA dn dc,.slice yA yn yc,.slice cA cn cc][j]?=some u→aI G b (o+k*6+j)=some u) ∧
   jF G l[k].head (.slice pA pn pc) (.slice dA dn dc) (.slice yA yn yc)∧av G (.sl 7 (l[k].cells.map bM.dat)) (.slice cA cn cc):=by
 obtain ⟨b,o,cs,h1,h2,h3,h4⟩:=hg k l[k].dat (by simp [hk]);obtain ⟨pA,pn,pc,dA,dn,dc,yA,yn,yc,cA,cn,cc,rfl,h5,h6⟩:=h4.row;exact ⟨b,o,pA,pn,pc,dA,dn,dc,yA,yn,yc,cA,cn,cc,h1,h3,h5,h6⟩
theorem Gm {G:GH} {l:List bM} {A:Option Addr} {k:Nat} (hk:k < l.length) (hg:∀ k r,(l.map bM.dat)[k]?=some r→∃ b o cs,A=some ⟨b,o,none⟩∧cs.length=7∧(∀ j u,cs[j]?=some u→aI G b (o+k*7+j)=some u)∧aZ G r cs) :
  ∃ b o pA pn pc dA dn dc yA yn yc fA fn fc,A=some ⟨b,o,none⟩∧(∀ j u,[vi l[k].id,.slice pA pn pc,vi l[k].head.marks.ins,vi l[k].head.marks.move,.slice dA dn dc,.slice yA yn yc,.slice fA fn fc][j]?=some u→aI G b (o+k*7+j)=some u) ∧
   jF G l[k].head (.slice pA pn pc) (.slice dA dn dc) (.slice yA yn yc)∧av G (.sl 11 (l[k].flow.map aA.dat)) (.slice fA fn fc):=by
 obtain ⟨b,o,cs,h1,h2,h3,h4⟩:=hg k l[k].dat (by simp [hk]);obtain ⟨pA,pn,pc,dA,dn,dc,yA,yn,yc,fA,fn,fc,rfl,h5,h6⟩:=h4.cell;exact ⟨b,o,pA,pn,pc,dA,dn,dc,yA,yn,yc,fA,fn,fc,h1,h3,h5,h6⟩
end
section
open Go.RowKit
structure mI where
 (f p d y r s1 s2 s3 s4:Option Addr × Nat × Nat)
 (ins move:Int)
abbrev eD (x:Option Addr × Nat × Nat):aj:=.slice x.1 x.2.1 x.2.2
abbrev mI.cells (D:mI):List aj:=[eD D.f,eD D.p,vi D.ins,vi D.move,eD D.d,eD D.y,eD D.r,eD D.s1,eD D.s2,eD D.s3,eD D.s4]
abbrev mI.val (D:mI):aj:=.agg D.cells.toArray
end
section
open Go.RowKit
theorem Ns:∀ args w,(callFunc 97 args).run prog w=.ok (.enter 97 args) w:=enters func97 rfl (by kernel_rfl)
theorem LA:Ty prog 106 3 16 [.bool false,.bool false,.int .i64 0] true:=⟨by kernel_rfl,by kernel_rfl⟩
theorem ajH:pq prog 108 [(0,1),(1,3)] [.slice none 0 0,.bool false,.bool false,.int .i64 0]:=⟨by kernel_rfl,by kernel_rfl⟩
theorem Af:bW prog 63 2 2:=⟨by kernel_rfl⟩
theorem GJ:bW prog 106 2 2:=⟨by kernel_rfl⟩
theorem Cy:pq prog 106 [(0,1),(1,1),(2,1)] [.bool false,.bool false,.int .i64 0]:=⟨by kernel_rfl,by kernel_rfl⟩
theorem Nu:bW prog 106 1 1:=⟨by kernel_rfl⟩
theorem yu:Ty prog 4 1 1 [.bool false] false:=⟨by kernel_rfl,by kernel_rfl⟩
theorem Dp:bW prog 38 0 0:=⟨by kernel_rfl⟩
theorem adj:∀ args w,(callFunc 62 args).run prog w=.ok (.enter 62 args) w:=enters func62 rfl (by kernel_rfl)
theorem Ub:∀ args w,(callFunc 96 args).run prog w=.ok (.enter 96 args) w:=enters func96 rfl (by kernel_rfl)
structure iV where
 id:Int
 items:List aA
 body:Bool
 note:Bool
 tables:Int
mutual
def yE (note:Bool) (t:Int):aA→List iV
 | .mk k _ i _ _ f r=>if k=6 then ⟨i,f,false,true,t⟩ :: jl true t f else if k=7 then qI note t r else []
def jl (note:Bool) (t:Int):List aA→List iV
 | []=>[]
 | x :: l=>yE note t x++jl note t l
def qI (note:Bool) (t:Int):List bO→List iV
 | []=>[]
 | r :: l=>yF note t r++qI note t l
def yF (note:Bool) (t:Int):bO→List iV
 | .mk _ cs=>rD note t cs
def rD (note:Bool) (t:Int):List bM→List iV
 | []=>[]
 | c :: l=>yD note t c++rD note t l
def yD (note:Bool) (t:Int):bM→List iV
 | .mk i _ f=>⟨i,f,false,note,t+1⟩ :: jl note (t+1) f
end
theorem akr (note:Bool) (t:Int) (x:aA):yE note t x=if x.kind=6 then ⟨x.id,x.flow,false,true,t⟩ :: jl true t x.flow else if x.kind=7 then qI note t x.rows else []:=by cases x;rw [yE];rfl
theorem akt (note:Bool) (t:Int) (x:bO):yF note t x=rD note t x.cells:=by cases x;rw [yF];rfl
theorem akp (note:Bool) (t:Int) (x:bM):yD note t x=⟨x.id,x.flow,false,note,t+1⟩ :: jl note (t+1) x.flow:=by cases x;rw [yD];rfl
def Ah (a:iV):AP:=fun args g=>∃ v,args=[vi a.id,.agg #[v,.bool a.body,.bool a.note,vi a.tables]]∧av g (.sl 11 (a.items.map aA.dat)) v
def MB (n:Nat):Prop:=∀ (fv:aj) (Gi:GH) (xs:List AP) (J:Nat→GH→OL→Prop) (Jx:GH→OL→Prop) (G:GH) (L:OL) (w0:World) (j:Nat) (l:List aA) (id:Int) (body note:Bool) (t:Int) (v:aj),
 (∀ b o,Gi b=some o→G b=some o)→FV prog fv Gi xs J Jx→CY J→ED Jx→J j G L→gX G L w0→av G (.sl 11 (l.map aA.dat)) v→bC l < n→0≤t→t+bC l≤4294967296→(∀ i a,(⟨id,l,body,note,t⟩ :: jl note t l)[i]?=some a→xs[j+i]?=some (Ah a)) →
 Calls prog 97 #[vi id,v,.agg #[.bool body,.bool note,vi t],fv] w0 (gH w0 G L fun u G' L'=>∃ b,u=.bool b∧(b=true→J (j+((jl note t l).length+1)) G' L')∧(b=false→Jx G' L'))
set_option maxHeartbeats 1000000 in
theorem akv {n:Nat} (ih:MB n) (hn:n≤4294967296):MB (n+1):=by
 intro fv Gi xs J Jx G L w0 j0 l id body note t v hGi hcb uY hJx hJ0 hO hv hz ht0 ht1 hx0;obtain ⟨A,c,rfl,hc1,hc2,hg⟩:=hv.slice;rw [bQ] at *;have hll:=CQ l;have OV:Now xs Ah J (j0+((jl note t l).length+1)) j0 (⟨id,l,body,note,t⟩ :: jl note t l) G L:=⟨hJ0,hx0,rfl⟩;refine jO (N:=74) (T:=[(0,_),(1,_),(2,_),(3,_)]) func97 rfl ntmps97 rfl rfl hO ?_;intro a H;refine dB (fun _ K1=>?_);refine eU (cs:=[_,_,_]) H wn rfl rfl rfl ?_;clear H;intro b6 a w hb6 H;refine kH H (ak K1 rfl (SQ fun _ K2=>SR fun _ K3=>Rm rfl (Rm rfl (Rm rfl ?_))));clear H K1;intro a H;refine bD LA (cs:=[_,_,_]) H wn rfl rfl (H.hp.dS 0 rfl rfl) rfl ?_;clear H;intro a H;refine iT ajH [_,_,_,_] H wn rfl rfl rfl rfl ?_;clear H;intro a H;refine FC (Li:=[_]) (L:=L) H wn rfl rfl (hcb _ _ _ _ _ ⟨_,OV.head,_,rfl,hv⟩ hGi OV.now (Hp.owns (Li:=[_]) H.hp)) rfl ?_;clear H;rintro v20 Ev F7 a w ⟨b20,rfl,hb1,hb2⟩ Ch H;refine kH H (Rn rfl (Kz K3 (Cd rfl ?_ ?_))) <;> clear H K3
 ·intro h21 a H
  try have pV:=dT h21
  refine kP H (SR fun _ K4=>ak K4 rfl ?_);clear H K4;intro a H;refine lr H results97 rfl ?_
  first
   | exact H.hp.fI (L':=F7) (by repeat (first|exact fV _|apply List.Sublist.cons)) ⟨_,rfl,fun e=>(by cases e),fun _=>hb2 (by simpa using h21)⟩
   | exact H.hp.fI (L':=F8) (by repeat (first|exact fV _|apply List.Sublist.cons)) ⟨_,rfl,fun e=>(by cases e),fun _=>hb4 (by simpa using BX)⟩
   | exact H.hp.fI (L':=F9) (by repeat (first|exact fV _|apply List.Sublist.cons)) ⟨_,rfl,fun e=>(by cases e),fun _=>hb6 (by simpa using oz)⟩
   | exact H.hp.fI (L':=Lt) (by repeat (first|exact fV _|apply List.Sublist.cons)) ⟨_,rfl,fun _=>(by rw [iK (by omega),jl] at dZ;have:=dZ.len;simp only [List.length_nil,tT] at this;rw [← this];exact dZ.now),fun e=>(by cases e)⟩
 intro h21 a H
 try have pV:=dF h21
 refine kP H (Kc K2 (SQ fun _ K5=>SR fun _ K6=>Rm rfl (Rl gV rfl (Rm rfl (Kz K6 (SB ?_))))));clear H K2 K6;intro a H;skip;refine eT (ι:=Nat × Nat × OL × GH) (Tc:=[(3,_),(6,_),(22,_),(23,_)]) (Lc:=[(_,_)]) (fun gh=>[(24,vi gh.1)]) (fun gh=>[]++gh.2.2.1) (fun gh=>gh.2.2.2) (fun gh=>gh.1≤l.length∧(∀ b o,G b=some o→gh.2.2.2 b=some o)∧Now xs Ah J (j0+((jl note t l).length+1)) gh.2.1 (jl note t (l.drop gh.1)) gh.2.2.2 gh.2.2.1) (fun gh=>l.length - gh.1) ((0,j0+1,F7,Ev)) (by exact (H).sub ⟨rfl,rfl,rfl,rfl,rfl,aD⟩) ?_ ?_
 ·exact ⟨by omega,Ch,OV.step (hb1 (by simpa using h21))⟩
 clear H;intro gh a w hI H;obtain ⟨k,j1,Lt,g⟩:=gh;dsimp only at hI H;obtain ⟨hk,hgm,dZ⟩:=hI;dsimp only [lca,bg] at H;refine kP H (SR fun _ K7=>Rc rfl (Kz K7 (SQ fun _ K8=>Cd rfl ?_ ?_))) <;> clear H K7
 ·intro lQ a H
  try have p25:=dT lQ
  have hk2:k < l.length:=by omega
  obtain ⟨b,o,pA,pn,pc,dA,dn,dc,yA,yn,yc,fA,fn,fc,rA,rn,rc,rfl,hrow,hhd,hfl,hrw⟩:=Ai hk2 hg;replace hrow:=fun j u hj=>aK hgm (hrow j u hj);have hrn:=hrw.len;rw [bQ] at hrn;subst hrn;have hrs:=IQ l[k].rows;have hsz1:=YJ hk2;rw [lW hk2] at dZ
  simp only [jl,akr] at dZ
  refine kP H (Kc K8 (SQ fun _ K9=>SB (SR fun _ aT=>Ri gV dM rfl rfl ?_)));clear H K8;intro a H;refine bD dM (cs:=[_,_,_,_,_,_,_,_,_,_,_]) H wn rfl rfl (fun j v hj=>H.hp.aI (hrow j v hj)) rfl ?_;clear H;intro a H;refine eB dM H wn rfl ?_;clear H;intro b10 a w Hl H;refine bH dM 0 (vs:=[_,_,_,_,_,_,_,_,_,_,_]) _ H wn rfl rfl rfl rfl rfl rfl rfl rfl ?_;clear H;intro w H;dsimp only [List.set,setRow] at H;refine aT _ _ ?_;clear aT;refine kP H (SR fun _ bq=>aP jB aC 0 rfl rfl (Kz bq (SB (SR fun _ bF=>Rc rfl (ak bF rfl (Cd rfl ?_ ?_)))))) <;> clear H bq bF
  ·intro ow a H
   try have p30:=dT ow
   rw [au p30] at dZ;refine kP H (SR fun _ bJ=>aP Af aC 0 rfl rfl (aP yV iD 0 rfl rfl (aP GJ aC 1 rfl rfl ?_)));clear H;intro a H;refine iT Cy [_,_,_] H wn rfl rfl rfl rfl ?_;clear H;intro a H;refine kH H (Rm rfl ?_);clear H;intro a H;refine gU Ns (Li:=[_,_]) (L:=Lt) H wn rfl (ih fv Gi xs J Jx _ _ _ j1 l[k].flow l[k].id false true t _ (fun b o h=>hgm b o (hGi b o h)) hcb uY hJx dZ.now (Hp.owns (Li:=[_,_]) H.hp) (hfl.mono hgm) (by omega) ht0 (by omega) dZ.part) rfl ?_;clear H;rintro v40 Q8 F8 a w ⟨b40,rfl,hb3,hb4⟩ J6 H;refine kH H (Rn rfl (Kz bJ (Cd rfl ?_ ?_))) <;> clear H bJ
   ·intro BX a H
    try have p41:=dT BX
    refine kP H (SR fun _ bN=>ak bN rfl ?_);clear H bN;intro a H;refine lr H results97 rfl ?_
    first
     | exact H.hp.fI (L':=F7) (by repeat (first|exact fV _|apply List.Sublist.cons)) ⟨_,rfl,fun e=>(by cases e),fun _=>hb2 (by simpa using h21)⟩
     | exact H.hp.fI (L':=F8) (by repeat (first|exact fV _|apply List.Sublist.cons)) ⟨_,rfl,fun e=>(by cases e),fun _=>hb4 (by simpa using BX)⟩
     | exact H.hp.fI (L':=F9) (by repeat (first|exact fV _|apply List.Sublist.cons)) ⟨_,rfl,fun e=>(by cases e),fun _=>hb6 (by simpa using oz)⟩
     | exact H.hp.fI (L':=Lt) (by repeat (first|exact fV _|apply List.Sublist.cons)) ⟨_,rfl,fun _=>(by rw [iK (by omega),jl] at dZ;have:=dZ.len;simp only [List.length_nil,tT] at this;rw [← this];exact dZ.now),fun e=>(by cases e)⟩
   intro BX a H
   try have p41:=dF BX
   refine kP H (Kc K9 (SC (Rd rfl (Rm rfl ?_))));clear H K9;intro a H;refine aH ?_;refine cu ((k+1,j1+((jl true t l[k].flow).length+1),F8,Q8)) (by exact (H.dK (Pl:=[_,_]) (cB:=[_]) [1] (by decide) rfl).sub ⟨rfl,rfl,rfl,rfl,rfl,aD⟩) ?_ ?_
   ·(try dsimp only);exact ⟨by omega,fun b o h=>J6 b o (hgm b o h),dZ.jump (hb3 (by simpa using BX))⟩
   first|omega|(dsimp only;omega)
  intro ow a H
  try have p30:=dF ow
  refine kP H (SR fun _ cK=>Rc rfl (ak cK rfl (Cd rfl ?_ ?_))) <;> clear H cK
  ·intro qP a H
   try have p42:=dT qP
   rw [ah p30,au p42] at dZ;refine kP H (SR fun _ dw=>aP qN rz 0 rfl rfl (Rl mU rfl (Rm rfl (Kz dw (SB ?_)))));clear H dw;intro a H;skip;refine eT (ι:=Nat × Nat × OL × GH) (Tc:=[(3,_),(6,_),(22,_),(23,_),(24,_),(45,_),(46,_)]) (Lc:=[(_,_),(_,_)]) (fun gh=>[(47,vi gh.1)]) (fun gh=>[]++gh.2.2.1) (fun gh=>gh.2.2.2) (fun gh=>gh.1≤l[k].rows.length∧(∀ b o,G b=some o→gh.2.2.2 b=some o)∧Now xs Ah J (j0+((jl note t l).length+1)) gh.2.1 (qI note t (l[k].rows.drop gh.1)++jl note t (l.drop (k+1))) gh.2.2.2 gh.2.2.1) (fun gh=>l[k].rows.length - gh.1) ((0,j1,Lt,g)) (by exact (H).sub ⟨rfl,rfl,rfl,rfl,rfl,rfl,rfl,rfl,aD⟩) ?_ ?_
   ·exact ⟨by omega,hgm,dZ⟩
   clear H;intro gh a w hI H;obtain ⟨rk,j3,Lt3,g3⟩:=gh;dsimp only at hI H;obtain ⟨Ki,Az,rT⟩:=hI;dsimp only [lca,bg] at H;refine kP H (SR fun _ bY=>Rc rfl (Kz bY (SQ fun _ dz=>Cd rfl ?_ ?_))) <;> clear H bY
   ·intro h48 a H
    try have p48:=dT h48
    have hk3:rk < l[k].rows.length:=by omega
    obtain ⟨b2,o2,qA,qn,qc,eA,en,ec,zA,zn,zc,cA,cn,cc,rfl,hrow,AO,hcl⟩:=Im hk3 hrw.at_;replace hrow:=fun j u hj=>aK Az (hrow j u hj);have hcn:=hcl.len;rw [bQ] at hcn;subst hcn;have hsz2:=LY hk3;have hcs:=II l[k].rows[rk].cells;rw [lW hk3] at rT
    simp only [qI,akt,oo] at rT
    refine kP H (Kc dz (SQ fun _ fC=>SB (SR fun _ dN=>Ri mU kE rfl rfl ?_)));clear H dz;intro a H;refine bD kE (cs:=[_,_,_,_,_,_]) H wn rfl rfl (fun j v hj=>H.hp.aI (hrow j v hj)) rfl ?_;clear H;intro a H;refine eB kE H wn rfl ?_;clear H;intro b12 a w Aw H;refine bH kE 0 (vs:=[_,_,_,_,_,_]) _ H wn rfl rfl rfl rfl rfl rfl rfl rfl ?_;clear H;intro w H;dsimp only [List.set,setRow] at H;refine dN _ _ ?_;clear dN;refine kP H (SR fun _ fQ=>aP vV wI 0 rfl rfl (Rl qH rfl (Rm rfl (Kz fQ (SB ?_)))));clear H fQ;intro a H;skip;refine eT (ι:=Nat × Nat × OL × GH) (Tc:=[(3,_),(6,_),(22,_),(23,_),(24,_),(45,_),(46,_),(47,_),(52,_),(53,_)]) (Lc:=[(_,_),(_,_),(_,_)]) (fun gh=>[(54,vi gh.1)]) (fun gh=>[]++gh.2.2.1) (fun gh=>gh.2.2.2) (fun gh=>gh.1≤l[k].rows[rk].cells.length∧(∀ b o,G b=some o→gh.2.2.2 b=some o)∧Now xs Ah J (j0+((jl note t l).length+1)) gh.2.1 (rD note t (l[k].rows[rk].cells.drop gh.1)++(qI note t (l[k].rows.drop (rk+1))++jl note t (l.drop (k+1)))) gh.2.2.2 gh.2.2.1) (fun gh=>l[k].rows[rk].cells.length - gh.1) ((0,j3,Lt3,g3)) (by exact (H).sub ⟨rfl,rfl,rfl,rfl,rfl,rfl,rfl,rfl,rfl,rfl,rfl,aD⟩) ?_ ?_
    ·exact ⟨by omega,Az,rT⟩
    clear H;intro gh a w hI H;obtain ⟨ck,j4,Lt4,g4⟩:=gh;dsimp only at hI H;obtain ⟨hck,Ht,sW⟩:=hI;dsimp only [lca,bg] at H;refine kP H (SR fun _ iq=>Rc rfl (Kz iq (SQ fun _ jA=>Cd rfl ?_ ?_))) <;> clear H iq
    ·intro lF a H
     try have p55:=dT lF
     have hk4:ck < l[k].rows[rk].cells.length:=by omega
     obtain ⟨b3,o3,sA,sn,sc,tA,tn,tc,uA,un,uc,gA,gn,gc,rfl,hrow,hch,hcf⟩:=Gm hk4 hcl.at_;replace hrow:=fun j u hj=>aK Ht (hrow j u hj);have O9:=LX hk4;rw [lW hk4] at sW
     simp only [rD,akp,oo] at sW
     refine kP H (Kc jA (SQ fun _ jo=>SB (SR fun _ jc=>Ri qH mF rfl rfl ?_)));clear H jA;intro a H;refine bD mF (cs:=[_,_,_,_,_,_,_]) H wn rfl rfl (fun j v hj=>H.hp.aI (hrow j v hj)) rfl ?_;clear H;intro a H;refine eB mF H wn rfl ?_;clear H;intro b14 a w Ou H;refine bH mF 0 (vs:=[_,_,_,_,_,_,_]) _ H wn rfl rfl rfl rfl rfl rfl rfl rfl ?_;clear H;intro w H;dsimp only [List.set,setRow] at H;refine jc _ _ ?_;clear jc;refine kP H (SR fun _ jG=>aP GU aC 0 rfl rfl (aP ET iD 0 rfl rfl (aP Nu yu 3 rfl rfl (aP GJ aC 3 rfl rfl (Rd rfl ?_)))));clear H;intro a H;refine iT Cy [_,_,_] H wn rfl rfl rfl rfl ?_;clear H;intro a H;refine kH H (Rm rfl ?_);clear H;intro a H;refine gU Ns (Li:=[_,_,_,_]) (L:=Lt4) H wn rfl (ih fv Gi xs J Jx _ _ _ j4 l[k].rows[rk].cells[ck].flow l[k].rows[rk].cells[ck].id false note (t+1) _ (fun b o h=>Ht b o (hGi b o h)) hcb uY hJx sW.now (Hp.owns (Li:=[_,_,_,_]) H.hp) (hcf.mono Ht) (by omega) (by omega) (by omega) sW.part) rfl ?_;clear H;rintro v69 Zo F9 a w ⟨b69,rfl,hb5,hb6⟩ afV H;refine kH H (Rn rfl (Kz jG (Cd rfl ?_ ?_))) <;> clear H jG
     ·intro oz a H
      try have p70:=dT oz
      refine kP H (SR fun _ jM=>ak jM rfl ?_);clear H jM;intro a H;refine lr H results97 rfl ?_
      first
       | exact H.hp.fI (L':=F7) (by repeat (first|exact fV _|apply List.Sublist.cons)) ⟨_,rfl,fun e=>(by cases e),fun _=>hb2 (by simpa using h21)⟩
       | exact H.hp.fI (L':=F8) (by repeat (first|exact fV _|apply List.Sublist.cons)) ⟨_,rfl,fun e=>(by cases e),fun _=>hb4 (by simpa using BX)⟩
       | exact H.hp.fI (L':=F9) (by repeat (first|exact fV _|apply List.Sublist.cons)) ⟨_,rfl,fun e=>(by cases e),fun _=>hb6 (by simpa using oz)⟩
       | exact H.hp.fI (L':=Lt) (by repeat (first|exact fV _|apply List.Sublist.cons)) ⟨_,rfl,fun _=>(by rw [iK (by omega),jl] at dZ;have:=dZ.len;simp only [List.length_nil,tT] at this;rw [← this];exact dZ.now),fun e=>(by cases e)⟩
     intro oz a H
     try have p70:=dF oz
     refine kP H (Kc jo (SC (Rd rfl (Rm rfl ?_))));clear H jo;intro a H;refine aH ?_;refine cu ((ck+1,j4+((jl note (t+1) l[k].rows[rk].cells[ck].flow).length+1),F9,Zo)) (by exact (H.dK (Pl:=[_,_,_,_]) (cB:=[_,_,_]) [1,2,3] (by decide) rfl).sub ⟨rfl,rfl,rfl,rfl,rfl,rfl,rfl,rfl,rfl,rfl,rfl,aD⟩) ?_ ?_
     ·(try dsimp only);exact ⟨by omega,fun b o h=>afV b o (Ht b o h),sW.jump (hb5 (by simpa using oz))⟩
     first|omega|(dsimp only;omega)
    intro lF a H
    try have p55:=dF lF
    refine dU ?_;refine fC _ _ ?_;clear fC;refine kP H (SC (Rd rfl (Rm rfl ?_)));clear H;intro a H;refine aH ?_;refine cu ((rk+1,j4,Lt4,g4)) (by exact (H.dK (Pl:=[_,_,_]) (cB:=[_,_]) [1,2] (by decide) rfl).sub ⟨rfl,rfl,rfl,rfl,rfl,rfl,rfl,rfl,aD⟩) ?_ ?_
    ·(try dsimp only);exact ⟨by omega,Ht,by rw [iK (by omega),rD,kJ] at sW;exact sW⟩
    first|omega|(dsimp only;omega)
   intro h48 a H
   try have p48:=dF h48
   refine dU ?_;refine K9 _ _ ?_;clear K9;refine kP H (SC (Rd rfl (Rm rfl ?_)));clear H;intro a H;refine aH ?_;refine cu ((k+1,j3,Lt3,g3)) (by exact (H.dK (Pl:=[_,_]) (cB:=[_]) [1] (by decide) rfl).sub ⟨rfl,rfl,rfl,rfl,rfl,aD⟩) ?_ ?_
   ·(try dsimp only);exact ⟨by omega,Az,by rw [iK (by omega),qI,kJ] at rT;exact rT⟩
   first|omega|(dsimp only;omega)
  intro qP a H
  try have p42:=dF qP
  refine kP H (Kc K9 (SC (Rd rfl (Rm rfl ?_))));clear H K9;intro a H;refine aH ?_;refine cu ((k+1,j1,Lt,g)) (by exact (H.dK (Pl:=[_,_]) (cB:=[_]) [1] (by decide) rfl).sub ⟨rfl,rfl,rfl,rfl,rfl,aD⟩) ?_ ?_
  ·(try dsimp only);exact ⟨by omega,hgm,by rw [ah p30,ah p42,kJ] at dZ;exact dZ⟩
  first|omega|(dsimp only;omega)
 intro lQ a H
 try have p25:=dF lQ
 refine dU ?_;refine K5 _ _ ?_;clear K5;refine kP H (SR fun _ iI=>ak iI rfl ?_);clear H iI;intro a H;refine lr H results97 rfl ?_
 first
  | exact H.hp.fI (L':=F7) (by repeat (first|exact fV _|apply List.Sublist.cons)) ⟨_,rfl,fun e=>(by cases e),fun _=>hb2 (by simpa using h21)⟩
  | exact H.hp.fI (L':=F8) (by repeat (first|exact fV _|apply List.Sublist.cons)) ⟨_,rfl,fun e=>(by cases e),fun _=>hb4 (by simpa using BX)⟩
  | exact H.hp.fI (L':=F9) (by repeat (first|exact fV _|apply List.Sublist.cons)) ⟨_,rfl,fun e=>(by cases e),fun _=>hb6 (by simpa using oz)⟩
  | exact H.hp.fI (L':=Lt) (by repeat (first|exact fV _|apply List.Sublist.cons)) ⟨_,rfl,fun _=>(by rw [iK (by omega),jl] at dZ;have:=dZ.len;simp only [List.length_nil,tT] at this;rw [← this];exact dZ.now),fun e=>(by cases e)⟩
theorem Yu:∀ n:Nat,n≤4294967297→MB n
 | 0,_=>fun _ _ _ _ _ _ _ _ _ _ _ _ _ _ _ _ _ _ _ _ _ _ h=>absurd h (by omega)
 | n+1,hn=>akv (Yu n (by omega)) (by omega)
def BR (l:List aA):List iV:=⟨0,l,true,false,0⟩ :: jl false 0 l
theorem aeB {G:GH} {ba bl bp:Nat} {l:List aA} {v:aj} {id t:Int} {body note:Bool} (h1:aI G ba 0=some (vi id)) (h2:aI G bl 0=some v) (h3:G bp=some (.cells #[.bool body,.bool note,vi t] 106 (0,0))) (hv:av G (.sl 11 (l.map aA.dat)) v) (hz:bC l≤4294967296) (ht0:0≤t) (ht1:t+bC l≤4294967296) :
  Iter prog G (.func (.func 96) #[] #[(aJ ba 0),(aJ bl 0),(aJ bp 0)]) ((⟨id,l,body,note,t⟩ :: jl note t l).map Ah):=by
 intro J Jx fv G1 L w0 U6 hGi uY hJx hJ hO hcb;refine lX (caps:=[(aJ ba 0),(aJ bl 0),(aJ bp 0)]) Ub ?_;replace h1:=aK hGi h1;replace h2:=aK hGi h2
 have hrow:∀ j u,[.bool body,.bool note,vi t][j]?=some u→aI G1 bp (0+j)=some u:=by
  intro j u hj;refine aK hGi ?_
  unfold aI;rw [h3];simpa using hj
 refine jO (N:=10) (T:=[(0,_),(1,_),(2,_),(3,_)]) func96 rfl ntmps96 rfl rfl hO ?_;intro a H;refine kP H (SC (Rg aC rfl (by assumption) ?_));clear H;intro a H;refine kH H (Rg iD rfl (by assumption) ?_);clear H;intro a H;refine bD LA (cs:=[_,_,_]) H wn rfl rfl (fun j v hj=>H.hp.aI (hrow j v hj)) rfl ?_;clear H;intro a H;refine kH H (Rm rfl ?_);clear H;intro a H;refine gU Ns (Li:=[]) (L:=L) H wn rfl (Yu 4294967297 (by omega) _ G1 _ J Jx G1 _ _ 0 l id body note t _ (fun _ _ h=>h) hcb uY hJx hJ (Hp.owns (Li:=[]) H.hp) (hv.mono hGi) (by omega) ht0 ht1 (fun i a h=>by rw [kR,qL,h];rfl)) rfl ?_;clear H;rintro v9 G9 L9 a w ⟨b9,rfl,h1,h2⟩ xK H;refine aH ?_;refine (leave0 H results96 ?_).2
 cases b9
 ·exact H.hp.eP (.inr (h2 rfl))
 exact H.hp.eP (.inl (by simpa using h1 rfl))
theorem aeD (G:GH) (w0:World) (hG:Hold G w0) (l:List aA) (v:aj) (id t:Int) (body note:Bool) (hv:av G (.sl 11 (l.map aA.dat)) v) (hz:bC l≤4294967296) (ht0:0≤t) (ht1:t+bC l≤4294967296) :
  Calls prog 62 #[vi id,v,.agg #[.bool body,.bool note,vi t]] w0 (bE w0 G fun u G'=>∃ ba bl bp,u=.func (.func 96) #[] #[(aJ ba 0),(aJ bl 0),(aJ bp 0)]∧Iter prog G' u ((⟨id,l,body,note,t⟩ :: jl note t l).map Ah)):=by
 obtain ⟨A,c,rfl,hc1,hc2,hg⟩:=hv.slice;refine eN [(0,_),(1,_),(2,_)] func62 rfl ntmps62 rfl rfl hG ?_;intro a H;refine dB (fun _ K1=>?_);refine eU (cs:=[_]) H wn rfl rfl rfl ?_;clear H;intro b3 a w hb3 H;refine eU (cs:=[_]) H wn rfl rfl rfl ?_;clear H;intro b4 a w hb4 H;refine eU (cs:=[_,_,_]) H wn rfl rfl rfl ?_;clear H;intro b5 a w hb5 H;refine kH H (ak K1 rfl (SR fun _ K2=>?_));clear H K1;intro a H;refine pY H wn rfl rfl ?_;clear H;intro a H;refine kH H (ak K2 rfl ?_);clear H K2;intro a H;refine cZ ?_;obtain ⟨G2,hm2,hb5,H⟩:=H.dP;obtain ⟨G3,OJ,hb4,H⟩:=H.dP;obtain ⟨G4,Hy,hb3,H⟩:=H.dP;refine lv H results62 rfl ?_;exact H.rt ⟨b3,b4,b5,rfl,aeB (by unfold aI;rw [hb3];rfl) (aK Hy (by unfold aI;rw [hb4];rfl)) (Hy _ _ (OJ _ _ hb5)) (hv.mono fun b o h=>Hy _ _ (OJ _ _ (hm2 _ _ h))) hz ht0 ht1⟩
theorem ahO (G:GH) (w0:World) (hG:Hold G w0) (D:mI) (l:List aA) (hv:av G (.sl 11 (l.map aA.dat)) (eD D.f)) (hz:bC l≤4294967296) :
  Calls prog 39 #[D.val] w0 (bE w0 G fun u G'=>∃ ba bl bp,u=.func (.func 96) #[] #[(aJ ba 0),(aJ bl 0),(aJ bp 0)]∧Iter prog G' u ((BR l).map Ah)):=by
 refine eN [(0,_)] func39 rfl ntmps39 rfl rfl hG ?_;intro a H;refine dB (fun _ K1=>?_);refine eU (cs:=[_,_,_,_,_,_,_,_,_,_,_]) H wn rfl rfl rfl ?_;clear H;intro b1 a w hb1 H;refine kH H (ak K1 rfl (SR fun _ K2=>aP Dp iD 0 rfl rfl ?_));clear H K1;intro a H;refine iT Cy [_,_,_] H wn rfl rfl rfl rfl ?_;clear H;intro a H;refine s_call adj H wn rfl (aeD _ _ H.ro l _ 0 0 true false hv hz (by omega) (by omega)) rfl ?_;clear H;rintro v6 G6 a w ⟨ba,bl,bp,rfl,hit⟩ J7 H;exact kH H (ak K2 rfl (LR results39 rfl fun H=>H.rt ⟨ba,bl,bp,rfl,hit⟩))
end
section
open Go.RowKit
theorem ru:Ty prog 38 11 232 [.slice none 0 0,.slice none 0 0,.int .i64 0,.int .i64 0,.slice none 0 0,.slice none 0 0,.slice none 0 0,.slice none 0 0,.slice none 0 0,.slice none 0 0,.slice none 0 0] true:=⟨by kernel_rfl,by kernel_rfl⟩
theorem acX:∀ args w,(callFunc 39 args).run prog w=.ok (.enter 39 args) w:=enters func39 rfl (by kernel_rfl)
theorem Ye:Ty prog 108 4 40 [.slice none 0 0,.bool false,.bool false,.int .i64 0] true:=⟨by kernel_rfl,by kernel_rfl⟩
theorem adW:bW prog 108 0 0:=⟨by kernel_rfl⟩
mutual
theorem aks {note:Bool} {t:Int} {f:iV}:∀ {x:aA},f∈yE note t x→bC f.items < dh x.dat
 | .mk k c i tx h fl r,hf=>by
  have h4:=oU (.mk k c i tx h fl r)
  simp only [aA.text,aA.head,aA.flow,aA.rows] at h4
  rw [yE] at hf
  split at hf
  ·rcases kZ.1 hf with rfl|hf
   ·show bC fl < _;omega
   have:=LU hf;omega
  split at hf
  ·have:=Yt hf;omega
  cases hf
theorem LU {note:Bool} {t:Int} {f:iV}:∀ {l:List aA},f∈jl note t l→bC f.items≤bC l
 | [],hf=>by simp [jl] at hf
 | x :: l,hf=>by
  rw [jl] at hf
  simp only [bC,eZ,eX]
  rcases kg.1 hf with hf|hf
  ·have:=aks hf;simp only [bC] at this;omega
  have:=LU hf;simp only [bC] at this;omega
theorem Yt {note:Bool} {t:Int} {f:iV}:∀ {l:List bO},f∈qI note t l→bC f.items≤ig l
 | [],hf=>by simp [qI] at hf
 | x :: l,hf=>by
  rw [qI] at hf
  simp only [ig,eZ,eX]
  rcases kg.1 hf with hf|hf
  ·have:=aku hf;simp only [bC] at *;omega
  have:=Yt hf;simp only [bC,ig] at *;omega
theorem aku {note:Bool} {t:Int} {f:iV}:∀ {x:bO},f∈yF note t x→bC f.items≤dh x.dat
 | .mk h cs,hf=>by
  have h4:=Bz (.mk h cs)
  simp only [bO.head,bO.cells] at h4
  rw [yF] at hf;have:=Yr hf;omega
theorem Yr {note:Bool} {t:Int} {f:iV}:∀ {l:List bM},f∈rD note t l→bC f.items≤jm l
 | [],hf=>by simp [rD] at hf
 | x :: l,hf=>by
  rw [rD] at hf
  simp only [jm,eZ,eX]
  rcases kg.1 hf with hf|hf
  ·have:=akq hf;simp only [bC] at *;omega
  have:=Yr hf;simp only [bC,jm] at *;omega
theorem akq {note:Bool} {t:Int} {f:iV}:∀ {x:bM},f∈yD note t x→bC f.items≤dh x.dat
 | .mk i h fl,hf=>by
  have h4:=Bw (.mk i h fl)
  simp only [bM.head,bM.flow] at h4
  rw [yD] at hf
  rcases kZ.1 hf with rfl|hf
  ·show bC fl≤_;omega
  have:=LU hf;omega
end
theorem aeC {f:iV} {l:List aA} (h:f∈BR l):bC f.items≤bC l:=by
 rcases kZ.1 h with rfl|h
 ·exact bU _
 exact LU h
def yY (l:List aA) (id:Int):Option (List aA):=((BR l).find? fun f=>decide (f.id=id)).map iV.items
theorem aev {α:Type} {p:α→Bool} {A:List α} {k:Nat} (hk:k < A.length) (h:(A.take k).find? p=none) (hp:p A[k]=false):(A.take (k+1)).find? p=none:=by
 rw [jq hk,List.find?_append,h]
 simp [hp]
theorem aew {α:Type} {p:α→Bool} {A:List α} {k:Nat} (hk:k < A.length) (h:(A.take k).find? p=none) (hp:p A[k]=true):A.find? p=some A[k]:=by
 have e:A.find? p=(A.take k++A.drop k).find? p:=by rw [List.take_append_drop]
 rw [e,List.find?_append,h,lW hk,List.find?_cons,hp]
 rfl
theorem Uy {α:Type} {p:α→Bool} {A:List α} (h:(A.take A.length).find? p=none):A.find? p=none:=by rwa [wT] at h
theorem UC {A:List iV} {k:Nat} {args:List aj} {g:GH} (h:uK (A.map Ah) k args g):∃ (hk:k < A.length) (a:Option Addr) (n c:Nat),args=[vi A[k].id,.agg #[.slice a n c,.bool A[k].body,.bool A[k].note,vi A[k].tables]]∧av g (.sl 11 (A[k].items.map aA.dat)) (.slice a n c):=by
 obtain ⟨p,hp,hargs⟩:=h;rw [qL] at hp;obtain ⟨q,hq,rfl⟩:=lK.1 hp;obtain ⟨hk,rfl⟩:=jk.1 hq;obtain ⟨v,h1,h2⟩:=hargs;obtain ⟨a,n,c,rfl⟩:=h2.form;exact ⟨hk,a,n,c,h1,h2⟩
theorem aeA (G:GH) (w0:World) (hG:Hold G w0) (D:mI) (l:List aA) (id:Int) (hv:av G (.sl 11 (l.map aA.dat)) (eD D.f)) (hz:bC l≤4294967296) :
  Calls prog 17 #[D.val,vi id] w0 (bE w0 G fun u G'=>∃ v,u=.tuple #[v,.bool (yY l id).isSome]∧av G' (.sl 11 (((yY l id).getD []).map aA.dat)) v):=by
 refine eN [(0,_),(1,_)] func17 rfl ntmps17 rfl rfl hG ?_;intro a H;refine dB (fun _ K1=>?_);refine eU (cs:=[_,_,_,_,_,_,_,_,_,_,_]) H wn rfl rfl rfl ?_;clear H;intro b2 a w hb2 H;refine eU (cs:=[_]) H wn rfl rfl rfl ?_;clear H;intro b3 a w hb3 H;refine eB iD H wn rfl ?_;clear H;intro b4 a w hb4 H;refine eB yu H wn rfl ?_;clear H;intro b5 a w hb5 H;refine K1 _ _ ?_;clear K1;refine bA (fun _ K2=>?_);refine dB (fun _ K3=>?_);refine bD ru (cs:=[_,_,_,_,_,_,_,_,_,_,_]) H wn rfl rfl (H.hp.dS 3 rfl rfl) rfl ?_;clear H;intro a H;refine s_call acX H wn rfl (ahO _ _ H.ro D l hv hz) rfl ?_;clear H;rintro v9 G9 a w ⟨ba,bl,bp,rfl,hit⟩ xK H;refine K3 _ _ ?_;clear K3;refine yP ?_;skip;refine SS (ι:=Unit) (κ:=aj) (Lc:=[(_,_),(_,_)]) (fun (k:Nat) (gh:Unit)=>[(b4,.cells #[.slice none 0 0] 22 (0,0)),(b5,.cells #[.bool false] 4 (0,0))]) (fun (k:Nat) (gh:Unit)=>[]) (fun (k:Nat) (gh:Unit) (g:GH)=>((BR l).take k).find? (fun f=>decide (f.id=id))=none) (fun (gx:aj)=>Code.ret) (fun (gx:aj)=>[(b4,.cells #[gx] 22 (0,0)),(b5,.cells #[.bool true] 4 (0,0))]) (fun (gx:aj)=>[]) (fun (gx:aj) (g:GH)=>∃ f,yY l id=some f∧av g (.sl 11 (f.map aA.dat)) gx) (()) (by exact H.dK (Pl:=[_,_,_,_]) (cB:=[_,_,_,_]) [2,3,1,0] (by decide) rfl) rfl Ub (hit) (fun _ _ h=>h) rfl (fun k args g h=>by obtain ⟨_,_,_,_,rfl,_⟩:=UC h;rfl) (fun _ _ _ _ _ h=>h) (fun x G G' hm h=>let ⟨f,h1,h2⟩:=h;⟨f,h1,h2.mono hm⟩) (rfl) ?_ ?_ ?_
 ·clear H;intro l2 Cr yO bk k args gh G2 w2 F2 B2 a hk2 hm2 hI Oy Ka VE H;obtain ⟨hk,vA,vn,vc,rfl,hrep⟩:=UC hk2;dsimp only [wU,List.cons_append,List.nil_append] at H;refine kP H (SR fun _ K4=>ak K4 rfl (SC ?_));clear H K4;intro a H;refine eB Ye H wn rfl ?_;clear H;intro b7 a w Ce H;refine bH Ye 0 (vs:=[_,_,_,_]) _ H wn rfl rfl rfl rfl rfl rfl rfl rfl ?_;clear H;intro w H;dsimp only [List.set,setRow] at H;refine aH ?_;refine Oy _ _ _ _ _ _ (by exact H.dK (Pl:=[_,_,_,_,_,_]) (cB:=[_,_,_,_,_,_]) [1,0,2,3,4,5] (by decide) rfl) ?_;clear H;intro w H;refine kP H (SB (SR fun _ K5=>Rm rfl (Ro aC 2 rfl (Rc rfl (Kz K5 (Cd rfl ?_ ?_)))))) <;> clear H K5
  ·intro dW a H
   try have mQ:=dT dW
   refine kP H (SR fun _ K6=>aP adW iD 1 rfl rfl ?_);clear H;intro a H;refine s_call Nl H wn rfl (abh _ _ H.ro _ _ hrep (by have:=aeC (iL hk);omega)) rfl ?_;clear H;rintro v17 uL a w wh nO H;obtain ⟨YV,n17,c17,rfl⟩:=wh.form;refine bH iD 4 (vs:=[_]) _ H wn rfl rfl rfl rfl rfl rfl rfl rfl ?_;clear H;intro w H;dsimp only [List.set,setRow] at H;refine bH yu 5 (vs:=[_]) _ H wn rfl rfl rfl rfl rfl rfl rfl rfl ?_;clear H;intro w H;dsimp only [List.set,setRow] at H;refine K6 _ _ ?_;clear K6;refine cZ ?_;refine (VE (.slice YV n17 c17) _ _ _ _ _ (by exact H.dK (Pl:=[_,_,_,_,_,_]) (cB:=[_,_,_,_,_]) [0,2,3,4,5] (by decide) rfl) ?_).1 rfl;exact ⟨_,by unfold yY;rw [aew hk hI dW];rfl,wh⟩
  intro dW a H
  refine gI ?_;refine Ka (()) _ _ _ _ _ (by exact H.dK (Pl:=[_,_,_,_,_,_]) (cB:=[_,_,_,_,_]) [0,2,3,4,5] (by decide) rfl) ?_;exact aev hk hI dW
 ·clear H;intro QX gh Q9 a w hm2 hI H;dsimp only [lca,bg] at H;refine K2 _ _ ?_;clear K2;refine dB (fun _ K7=>?_);refine bH iD 3 (vs:=[_]) _ H wn rfl rfl rfl rfl rfl rfl rfl rfl ?_;clear H;intro w H;dsimp only [List.set,setRow] at H;refine bH yu 4 (vs:=[_]) _ H wn rfl rfl rfl rfl rfl rfl rfl rfl ?_;clear H;intro w H;dsimp only [List.set,setRow] at H;refine K7 _ _ ?_;clear K7;refine cZ ?_;refine (Ic H 0 rfl ?_).1;clear H;intro a w H;dsimp only [List.eraseIdx_cons_succ,List.eraseIdx_cons_zero] at H;refine (fG H results17 (.cons (tC iD H rfl (H.hp.nQ 2 rfl rfl)) (.cons (tC yu H rfl (H.hp.nQ 3 rfl rfl)) .nil)) ?_).1;exact H.rt ⟨_,by unfold yY;rw [Uy (by simpa using hI)];rfl,by unfold yY;rw [Uy (by simpa using hI)];exact av.jw rfl (by decide)⟩
 clear H;intro QX gx Q9 a w hm2 hI H;obtain ⟨x,hgh⟩:∃ x,x=gx:=⟨_,rfl⟩;subst hgh;dsimp only [lca,bg] at H;obtain ⟨f,hf,hrep⟩:=hI;obtain ⟨xA,xn,xc,rfl⟩:=hrep.form;refine cZ ?_;refine (Ic H 0 rfl ?_).1;clear H;intro a w H;dsimp only [List.eraseIdx_cons_succ,List.eraseIdx_cons_zero] at H;refine (fG H results17 (.cons (tC iD H rfl (H.hp.nQ 2 rfl rfl)) (.cons (tC yu H rfl (H.hp.nQ 3 rfl rfl)) .nil)) ?_).1;exact H.rt ⟨_,by rw [hf];rfl,by rw [hf];exact hrep⟩
end
section
open Go.RowKit
def jI (xs:Array aj) (o:Nat):Option Int:=match xs[o]? with|some (.int .i64 n)=>some n|_=>none
def Ia (u:Option TypeDesc):Bool:=match u with|some (.int .i64)=>true|_=>false
structure zO (P:Program) (t:TypeId) (gN:List Nat):Prop where
 und:P.underlying t=some (.struct (P.fieldsOf t))
 held:P.stoodInHeld t=false
 guard:P.eqGuardType P.depth t=false
 um:(P.fieldsOf t).toList.map (·.offset)=gN
 ok:(P.fieldsOf t).toList.all (fun f=>decide (f.name ≠ "_") && P.plainKey f.type && Ia (P.underlying f.type))=true
theorem Qf {P:Program} {w:World} {d:Nat} {xs ys:Array aj}:∀ fs:List Field,fs.all (fun f=>decide (f.name ≠ "_") && P.plainKey f.type && Ia (P.underlying f.type))=true →
  (fs.map (·.offset)).all (fun o=>(jI xs o).isSome && (jI ys o).isSome)=true→(Op.eqFields (d+1) xs ys fs).run P w=.ok ((fs.map (·.offset)).all fun o=>jI xs o == jI ys o) w
 | [],_,_=>by simp [Op.eqFields]
 | f :: fs,h1,h2=>by
  simp only [List.all_cons,lu,pz,eZ] at h1 h2
  obtain ⟨⟨⟨hn,hp⟩,hi⟩,h1⟩:=h1
  obtain ⟨⟨hx,hy⟩,h2⟩:=h2
  have ih:=Qf (w:=w) (d:=d) fs (by simpa using h1) h2
  unfold Ia at hi
  split at hi
  ·rename_i hu
   unfold jI at hx hy
   split at hx
   ·rename_i m hxm
    split at hy
    ·rename_i m2 hym
     have e1:jI xs f.offset=some m:=by unfold jI;rw [hxm]
     have e2:jI ys f.offset=some m2:=by unfold jI;rw [hym]
     simp only [Op.eqFields,hn,ne_eq,not_false_eq_true,if_true,bZ,run_part_plain w hp hxm,run_part_plain w hp hym,jT,run_equalIn_int w d f.type .i64 .i64 m m2 hu,eZ,List.all_cons,e1,e2]
     by_cases e:m=m2
     ·subst e;simp [ih,List.all_map]
     ·simp [e]
    ·simp at hy
   ·simp at hx
  ·simp at hi
def jV (xs:Array aj) (o:Nat × Bool):Option (Int × Bool):=match xs[o.1]?,o.2 with|some (.int .i64 n),false=>some (n,false)|some (.bool b),true=>some (0,b)|_,_=>none
def zm (u:Option TypeDesc) (b:Bool):Bool:=match u,b with|some (.int .i64),false=>true|some .bool,true=>true|_,_=>false
structure IY (P:Program) (t:TypeId) (gN:List (Nat × Bool)):Prop where
 und:P.underlying t=some (.struct (P.fieldsOf t))
 held:P.stoodInHeld t=false
 guard:P.eqGuardType P.depth t=false
 um:(P.fieldsOf t).toList.map (fun f=>(f.offset,zm (P.underlying f.type) true))=gN
 ok:(P.fieldsOf t).toList.all (fun f=>decide (f.name ≠ "_") && P.plainKey f.type && zm (P.underlying f.type) (zm (P.underlying f.type) true))=true
theorem Xr {P:Program} {w:World} {d:Nat} {xs ys:Array aj}:∀ fs:List Field,fs.all (fun f=>decide (f.name ≠ "_") && P.plainKey f.type && zm (P.underlying f.type) (zm (P.underlying f.type) true))=true →
  (fs.map (fun f=>(f.offset,zm (P.underlying f.type) true))).all (fun o=>(jV xs o).isSome && (jV ys o).isSome)=true→(Op.eqFields (d+1) xs ys fs).run P w=.ok ((fs.map (fun f=>(f.offset,zm (P.underlying f.type) true))).all fun o=>jV xs o == jV ys o) w
 | [],_,_=>by simp [Op.eqFields]
 | f :: fs,h1,h2=>by
  simp only [List.all_cons,lu,pz,eZ] at h1 h2
  obtain ⟨⟨⟨hn,hp⟩,hi⟩,h1⟩:=h1
  obtain ⟨⟨hx,hy⟩,h2⟩:=h2
  have ih:=Xr (w:=w) (d:=d) fs (by simpa using h1) h2
  obtain ⟨kb,hkb⟩:∃ kb,kb=zm (P.underlying f.type) true:=⟨_,rfl⟩
  rw [← hkb] at hi hx hy
  cases kb with
  | false =>
   have hu:P.underlying f.type=some (.int .i64):=by clear hkb ih h1 h2 hx hy;unfold zm at hi;split at hi <;> simp_all
   obtain ⟨m,hxm⟩:∃ m,xs[f.offset]?=some (.int .i64 m):=by clear hkb ih h1 h2 hi hy;unfold jV at hx;split at hx <;> simp_all
   obtain ⟨m2,hym⟩:∃ m,ys[f.offset]?=some (.int .i64 m):=by clear hkb ih h1 h2 hi hx;unfold jV at hy;split at hy <;> simp_all
   have e1:jV xs (f.offset,false)=some (m,false):=by unfold jV;rw [hxm]
   have e2:jV ys (f.offset,false)=some (m2,false):=by unfold jV;rw [hym]
   simp only [Op.eqFields,hn,ne_eq,not_false_eq_true,if_true,bZ,run_part_plain w hp hxm,run_part_plain w hp hym,jT,run_equalIn_int w d f.type .i64 .i64 m m2 hu,eZ,List.all_cons,← hkb,e1,e2]
   by_cases e:m=m2
   ·subst e;simp [ih,List.all_map]
   ·simp [e]
  | true =>
   have hu:P.underlying f.type=some .bool:=by clear hkb ih h1 h2 hx hy;unfold zm at hi;split at hi <;> simp_all
   obtain ⟨m,hxm⟩:∃ m,xs[f.offset]?=some (.bool m):=by clear hkb ih h1 h2 hi hy;unfold jV at hx;split at hx <;> simp_all
   obtain ⟨m2,hym⟩:∃ m,ys[f.offset]?=some (.bool m):=by clear hkb ih h1 h2 hi hx;unfold jV at hy;split at hy <;> simp_all
   have e1:jV xs (f.offset,true)=some (0,m):=by unfold jV;rw [hxm]
   have e2:jV ys (f.offset,true)=some (0,m2):=by unfold jV;rw [hym]
   simp only [Op.eqFields,hn,ne_eq,not_false_eq_true,if_true,bZ,run_part_plain w hp hxm,run_part_plain w hp hym,jT,run_equalIn_bool' w d f.type m m2 hu,eZ,List.all_cons,← hkb,e1,e2]
   by_cases e:m=m2
   ·subst e;simp [ih,List.all_map]
   ·simp [e]
section
variable {N:Nat} {D:List Deferred} {w0:World} {F:Nat→Prop} {G0 G:GH} {L:List (Nat × Obj)} {T:List (Nat × aj)}
variable {r:Option Nat} {P:Program} {ops:Array Oper} {Q:Exit→Act→World→Prop} {rest:List Oper} {a:Act} {w:World}
variable {d:Nat} {ty:TypeId} {pos:String} {aN:Array Edge} {g:Option (Nat × Bool)}
theorem zy {t yt:TypeId} {x y:Operand} {p q:ByteArray} (H:St N D w0 F G0 G L T a w) (hw:Region.wanted ⟨some d,.binOp .eql t x y yt,ty,pos,aN,g⟩ (yielded ops a.tmps)=true) (hx:ev T x=some (.string p)) (hy:ev T y=some (.string q)) (hd:Nat.blt d N=true)
  (k:∀ a',St N D w0 F G0 G L ((d,.bool (p.toList == q.toList)) :: T) a' w→WL r P ops Q rest a' w):WL r P ops Q (⟨some d,.binOp .eql t x y yt,ty,pos,aN,g⟩ :: rest) a w:=by
 refine fM (v:=.bool (p.toList == q.toList)) (w':=w) hw rfl ?_ (k _ (H.put hd _ H.hp))
 simp [execOp,H.ev hx,H.ev hy,bZ,eqGuard,binOp,Op.stringOp]
theorem Qn {op:BinOp} {t yt:TypeId} {gN:List (Nat × Bool)} (ho:op=.eql∨op=.neq) (he:IY P t gN) {x y:Operand} {xs ys:Array aj} (H:St N D w0 F G0 G L T a w) (hw:Region.wanted ⟨some d,.binOp op t x y yt,ty,pos,aN,g⟩ (yielded ops a.tmps)=true) (hx:ev T x=some (.agg xs)) (hy:ev T y=some (.agg ys))
  (hi:gN.all (fun o=>(jV xs o).isSome && (jV ys o).isSome)=true) (hd:Nat.blt d N=true)
  (k:∀ a',St N D w0 F G0 G L ((d,.bool (if op=.eql then gN.all fun o=>jV xs o == jV ys o else !(gN.all fun o=>jV xs o == jV ys o))) :: T) a' w→WL r P ops Q rest a' w):WL r P ops Q (⟨some d,.binOp op t x y yt,ty,pos,aN,g⟩ :: rest) a w:=by
 have h1:=Xr (P:=P) (w:=w) (d:=9998) (xs:=xs) (ys:=ys) _ he.ok (by rw [he.um];exact hi)
 rw [he.um] at h1
 rcases ho with rfl|rfl
 ·refine fM (v:=_) (w':=w) hw rfl ?_ (k _ (H.put hd _ H.hp))
  simp only [execOp,H.ev hx,H.ev hy,bZ,run_eqGuard_agg w .eql t x y xs ys he.guard,jT,run_eql_struct,run_equalIn_struct w 9999 t xs ys he.und he.held,h1]
  rfl
 ·refine fM (v:=_) (w':=w) hw rfl ?_ (k _ (H.put hd _ H.hp))
  simp only [execOp,H.ev hx,H.ev hy,bZ,run_eqGuard_agg w .neq t x y xs ys he.guard,jT,run_neq_struct,run_equalIn_struct w 9999 t xs ys he.und he.held,h1]
  rfl
end
end
section
open Go.RowKit
theorem AX {α:Type} {p:α→Bool} {A:List α} {k:Nat} (hk:k < A.length) (h:(A.take k).findIdx? p=none) (hp:p A[k]=false):(A.take (k+1)).findIdx? p=none:=by
 rw [List.findIdx?_eq_none_iff] at h ⊢;rw [jq hk];intro x hx
 rcases kg.1 hx with hx|hx
 ·exact h x hx
 rw [rH.1 hx];exact hp
theorem uF {α:Type} {p:α→Bool} {A:List α} {k:Nat} (hk:k < A.length) (h:(A.take k).findIdx? p=none) (hp:p A[k]=true):A.findIdx? p=some k:=by
 have e:A.findIdx? p=(A.take k++A.drop k).findIdx? p:=by rw [List.take_append_drop]
 rw [e,List.findIdx?_append,h,lW hk,List.findIdx?_cons,hp]
 simp;omega
end
section
open Go.RowKit
theorem FE:EA prog 121:=⟨by kernel_rfl⟩
theorem u8B:U8 prog 5:=⟨by kernel_rfl⟩
theorem ahi:liesAt prog prog.depth 121 (2 / prog.cellsOf 121) 0 121 1=true:=by kernel_rfl
theorem S9:prog.cellsOf 5=1:=by kernel_rfl
theorem WM (v:aj) (w:World):(callFunc 109 #[v]).run prog w=.ok (.value v) w:=aiL func109 (by kernel_rfl) (by kernel_rfl) (by kernel_rfl) (by kernel_rfl) v w
theorem zK:prog.underlying 118=some (.pointer 121):=by kernel_rfl
theorem LK:prog.underlying 207=some .unsafePointer:=by kernel_rfl
theorem Ab:bW prog 121 0 0:=⟨by kernel_rfl⟩
theorem Br:Ty prog 118 1 8 [.pointer none] false:=⟨by kernel_rfl,by kernel_rfl⟩
theorem TW:∀ args w,(callFunc 74 args).run prog w=.ok (.enter 74 args) w:=enters func74 rfl (by kernel_rfl)
theorem Bu:prog.underlying 119=some (.slice 5):=by kernel_rfl
theorem yT:bW prog 121 1 1:=⟨by kernel_rfl⟩
theorem zH:Ty prog 119 1 24 [.slice none 0 0] false:=⟨by kernel_rfl,by kernel_rfl⟩
theorem Yh:prog.underlying 162=some (.pointer 5):=by kernel_rfl
abbrev bB (b:Nat) (p v:aj):Nat × Obj:=(b,.cells #[p,v] 121 (0,0))
theorem abu (G:GH) (L:OL) (w0:World) (b:Nat) (A:Option Addr) (n c:Nat) (hO:gX G (bB b (.pointer none) (.slice A n c) :: L) w0) :
  Calls prog 74 #[(aJ b 0)] w0 (gH w0 G (bB b (.pointer none) (.slice A n c) :: L) fun u G' L'=>L'=bB b (aJ b 0) (.slice A n c) :: L∧G'=G):=by
 refine jO (N:=20) (T:=[(0,_)]) func74 rfl ntmps74 rfl rfl hO ?_;intro a H;refine kP H (SR fun _ K1=>Rm rfl (Rk rfl (aP Ab Br 0 rfl rfl ?_)));clear H;intro a H;refine KW zK H wn rfl rfl ?_;clear H;intro a H;refine K1 _ _ ?_;clear K1;refine kr H rfl ?_ ?_
 ·intro h6
  refine kP H (SC (Rm rfl (Rm rfl ?_)));clear H;intro a H;refine XJ zK LK FE H wn rfl 0 rfl rfl rfl ?_;clear H;intro a H;refine XD (xs:=[.tmp 9]) (WM _) H wn rfl rfl ?_;clear H;intro a H;refine XB LK zK FE H wn rfl 0 rfl ahi rfl ?_;clear H;intro a H;refine kH H (Rk rfl (Rf Ab rfl ?_));clear H;intro a H;refine bH Br 0 (vs:=[_]) _ H wn rfl rfl rfl rfl rfl rfl rfl rfl ?_;clear H;intro w H;dsimp only [List.set,setRow] at H;refine aH ?_;refine (leave0 H results74 ?_).2;exact H.hp.eP ⟨rfl,rfl⟩
 intro h6
 exact absurd h6 (by decide)
theorem abv (G:GH) (L:OL) (w0:World) (b:Nat) (A:Option Addr) (n c:Nat) (hO:gX G (bB b (aJ b 0) (.slice A n c) :: L) w0) :
  Calls prog 74 #[(aJ b 0)] w0 (gH w0 G (bB b (aJ b 0) (.slice A n c) :: L) fun u G' L'=>L'=bB b (aJ b 0) (.slice A n c) :: L∧G'=G):=by
 refine jO (N:=20) (T:=[(0,_)]) func74 rfl ntmps74 rfl rfl hO ?_;intro a H;refine kP H (SR fun _ K1=>Rm rfl (Rk rfl (aP Ab Br 0 rfl rfl ?_)));clear H;intro a H;refine KW zK H wn rfl rfl ?_;clear H;intro a H;refine K1 _ _ ?_;clear K1;refine kr H rfl ?_ ?_
 ·intro h6
  exact absurd h6 (by simp)
 intro h6
 refine kP H (SR fun _ K2=>Rm rfl (Rk rfl (aP Ab Br 0 rfl rfl (Rm rfl ?_))));clear H;intro a H;refine XC zK FE H wn rfl rfl rfl ?_;clear H;intro a H;refine K2 _ _ ?_;clear K2;refine kr H rfl ?_ ?_
 ·intro h19
  exact absurd h19 (by decide)
 intro h19
 refine gI ?_;refine (leave0 H results74 ?_).2;exact H.hp.eP ⟨rfl,rfl⟩
theorem abw (G:GH) (L:OL) (w0:World) (b:Nat) (p:aj) (A:Option Addr) (n c:Nat) (hp:p=.pointer none∨p=(aJ b 0)) (hO:gX G (bB b p (.slice A n c) :: L) w0) :
  Calls prog 74 #[(aJ b 0)] w0 (gH w0 G (bB b p (.slice A n c) :: L) fun u G' L'=>L'=bB b (aJ b 0) (.slice A n c) :: L∧G'=G):=by
 rcases hp with rfl|rfl
 ·exact abu G L w0 b A n c hO
 exact abv G L w0 b A n c hO
theorem akx (G:GH) (Lo:OL) (w0:World) (b:Nat) (p v:aj) (n:Nat) (xs:List aj) (s:ByteArray) (hp:p=.pointer none∨p=(aJ b 0)) (hO:gX G (bB b p v :: Lo) w0) (hrow:dx 5 1 v n xs Lo) (hn:n+s.size≤140737488355328) :
  Calls prog 48 #[(aJ b 0),.string s] w0 (gH w0 G (bB b p v :: Lo) fun u G' L'=>∃ v' fD,L'=bB b (aJ b 0) v' :: fD∧dx 5 1 v' (n+s.size) (xs++Lib.strCells s) fD∧G'=G):=by
 obtain ⟨A,c,rfl,-,-⟩:=hrow.shape;refine jO (N:=19) (T:=[(0,_),(1,_)]) func48 rfl ntmps48 rfl rfl hO ?_;intro a H;refine kP H (SR fun _ K1=>Ra rfl (ak K1 rfl (SR fun _ K2=>Rm rfl ?_)));clear H K1;intro a H;refine gU TW (Li:=[]) (L:=bB b p _ :: Lo) H wn rfl (abw _ _ _ b p A n c hp (Hp.owns (Li:=[]) H.hp)) rfl ?_;clear H;rintro v7 _ L7 a w ⟨rfl,rfl⟩ AJ H;dsimp only [List.nil_append] at H;refine K2 _ _ ?_;clear K2;refine kP H (SR fun _ K3=>Rm rfl (Rm rfl (Rk rfl (aP yT zH 0 rfl rfl (Rm rfl ?_)))));clear H;intro a H;refine aiQ (Li:=[_]) (Lo:=Lo) Bu gu u8B H wn rfl rfl hrow hn rfl ?_;clear H;intro v14 RS a w H8 H;obtain ⟨QT,c14,rfl,-,-⟩:=H8.shape;refine kH H (Rk rfl (Rf yT rfl ?_));clear H;intro a H;refine bH zH 0 (vs:=[_]) _ H wn rfl rfl rfl rfl rfl rfl rfl rfl ?_;clear H;intro w H;dsimp only [List.set,setRow] at H;refine K3 _ _ ?_;clear K3;refine kP H (SR fun _ K4=>Rm rfl (Rv gu rfl (Ra rfl (ak K4 rfl ?_))));clear H K4;intro a H;refine cZ ?_;refine (fG H results48 (.cons (aW H rfl) (.cons (aW H rfl) .nil)) ?_).1;exact H.hp.eP ⟨_,_,rfl,H8,rfl⟩
theorem ajQ (G:GH) (Lo:OL) (w0:World) (b:Nat) (p v:aj) (l:List UInt8) (hO:gX G (bB b p v :: Lo) w0) (hrow:dx 5 1 v l.length (Lib.byteCells l) Lo) (h0:l≠[]) :
  Calls prog 49 #[(aJ b 0)] w0 (gH w0 G (bB b p v :: Lo) fun u G' L'=>u=.string ⟨l.toArray⟩):=by
 rcases hrow.2 with ⟨-,h,-⟩|⟨b2,cap,cur,rfl,rfl,hc1,hc2,hc3,hc4⟩
 ·exact absurd (List.eq_nil_of_length_eq_zero h) h0
 have hl0:l.length≠0:=fun h=>h0 (List.eq_nil_of_length_eq_zero h);have hml:maxLen=9223372036854775807:=rfl;refine jO (N:=14) (T:=[(0,_)]) func49 rfl ntmps49 rfl rfl hO ?_;intro a H;refine kP H (SR fun _ K1=>ak K1 rfl (SQ fun _ K2=>?_));clear H K1;intro a H;have H:=H.sub (T':=[(0,_)]) ⟨rfl,aD⟩;refine dI hmx [[],[0],[0,1],[0,1,2],(ra 0 4),[],[5],[5,6],[5,6,7],(ra 5 4),(ra 0 10),(ra 0 11)] [10,11] (by kernel_rfl) [_,_,_,.slice (some ⟨b2,0,none⟩) l.length cap,(aJ b2 0),_,_,_,.slice (some ⟨b2,0,none⟩) l.length cap,_] H (aF (Z0 rfl (Rm rfl)) (Z1 0 3 rfl (Rk rfl)) (Z1 1 4 rfl (Rf yT rfl)) (Z1 2 5 rfl (Ro zH 0 rfl)) (aF ?_ (Z0 rfl (Rm rfl)) (Z1 5 8 rfl (Rk rfl)) (Z1 6 9 rfl (Rf yT rfl)) (aF (Z1 7 10 rfl (Ro zH 0 rfl)) (Z1 8 11 rfl (Rl Bu rfl)) (bK rfl) (bK rfl) bX))) ?_
 ·refine dR 3 6 rfl rfl fun _ a w G1 hG HT H fin=>?_;refine XH H wn rfl (by omega) rfl ?_;clear H;intro a H;exact fin H iJ rfl
 clear H;intro a w G nu H hv;have H:=H.aR (hv 4 7 rfl rfl) rfl;have H:=H.aR (hv 9 12 rfl rfl) rfl;clear hv;refine XK (i:=1) l Yh S9 h0 (by omega) H wn rfl rfl rfl (by rw [← hc4,Nat.mul_one]) rfl ?_;clear H;intro fz a w H;dsimp only [List.set] at H;refine kH H (Ra rfl ?_);clear H;intro a H;refine aH ⟨rfl,?_⟩;refine K2 _ _ ?_;clear K2;refine lr H results49 rfl ?_;exact H.hp.eP rfl
end
section
open Go.RowKit
def xR (p:Nat→Bool):Nat→Nat→Nat→Nat
 | 0,i,_=>i
 | f+1,i,j=>if i < j then (if p ((i+j) / 2) then xR p f i ((i+j) / 2) else xR p f ((i+j) / 2+1) j) else i
theorem agF {p:Nat→Bool} {f i j:Nat} (hf:j - i≤f) (h:i < j):xR p f i j=if p ((i+j) / 2) then xR p (f - 1) i ((i+j) / 2) else xR p (f - 1) ((i+j) / 2+1) j:=by
 match f,hf with
 | 0,hf=>omega
 | f+1,_=>rw [xR,au h];rfl
theorem agD {p:Nat→Bool} {f i j:Nat} (h:¬ i < j):xR p f i j=i:=by
 match f with
 | 0=>rfl
 | f+1=>rw [xR,ah h]
theorem agG {z:Int} (h1:0≤z) (h2:z < 18446744073709551616):IntKind.u64.wrap z=z:=by
 simp only [IntKind.wrap,IntKind.bits,IntKind.signed,uO,Df,if_false]
 omega
theorem agE (n:Nat):((n:Nat):Int).fdiv (2 ^ 1)=((n / 2:Nat):Int):=by
 rw [Int.fdiv_eq_ediv_of_nonneg _ (by decide)];omega
def zZ (a b:Int):Int:=if a < b then -1 else if b < a then 1 else 0
theorem Tf {a b:Int}:zZ a b < 0↔a < b:=by
 unfold zZ
 split
 ·simp [*]
 ·split <;> simp_all
theorem abm {a b:Int}:zZ a b=0↔a=b:=by
 unfold zZ
 split
 ·omega
 ·split <;> omega
def yN (ks:List Int) (t:Int):Nat:=xR (fun h=>decide (¬ ks.getD h 0 < t)) ks.length 0 ks.length
def Cc (ks:List Int) (t:Int):Bool:=decide (ks[yN ks t]?=some t)
theorem afh {ks:List Int} {t:Int} (h:Cc ks t=true):yN ks t < ks.length:=by
 have:=om h
 exact (jk.1 this).1
theorem afg {ks:List Int} {t:Int} {n:Nat} (e:yN ks t=n) (h:n < ks.length):Cc ks t=decide (zZ ks[n] t=0):=by
 unfold Cc
 rw [e,gY h]
 simp [abm]
theorem afi {ks:List Int} {t:Int} {n:Nat} (e:yN ks t=n) (h:¬ n < ks.length):Cc ks t=false:=by
 unfold Cc
 rw [e,List.getElem?_eq_none (by omega)]
 simp
theorem getD_map {α:Type} {f:α→Int} {l:List α} {n:Nat} (h:n < l.length):(l.map f).getD n 0=f l[n]:=by
 simp [List.getD,h]
end
section
open Go.RowKit
structure R7 (P:Program) (s n off:Nat):Prop where
 h:(match P.underlying s with|some (.struct fs)=>(fs[n]?).bind fun f=>((P.underlying f.type).map (fun|.struct _=>true|.array _ _=>true|_=>false)).map fun g=>(f.offset,g)|_=>none)=some (off,false)
theorem R7.parts {P:Program} {s n off:Nat} (h:R7 P s n off):∃ fs fl u,P.underlying s=some (.struct fs)∧fs[n]?=some fl∧P.underlying fl.type=some u∧(match u with|.struct _=>true|.array _ _=>true|_=>false)=false∧fl.offset=off:=by
 obtain ⟨h⟩:=h
 split at h
 ·rename_i fs hs
  obtain ⟨fl,hf,h2⟩:=Option.bind_eq_some_iff.1 h
  obtain ⟨b,hb,h3⟩:=lK.1 h2
  obtain ⟨u,hu,h4⟩:=lK.1 hb
  simp only [gP] at h3
  refine ⟨fs,fl,u,hs,hf,hu,?_,h3.1⟩
  rw [← h3.2,← h4]
  cases u <;> rfl
 ·cases h
section
variable {N:Nat} {D:List Deferred} {w0:World} {F:Nat→Prop} {G0 G:GH} {L Li Lo:OL} {T:List (Nat × aj)}
variable {r:Option Nat} {P:Program} {ops:Array Oper} {Q:Exit→Act→World→Prop} {rest:List Oper} {a:Act} {w:World}
variable {d:Nat} {ty:TypeId} {pos:String} {aN:Array Edge} {g:Option (Nat × Bool)}
theorem Qr {t:TypeId} {x y:Operand} {s:ByteArray} {ky:IntKind} {p:Int} (lo:Nat) (ht:P.underlying t=some .string) (H:St N D w0 F G0 G L T a w) (hw:Region.wanted ⟨some d,.slice t x (some y) none none,ty,pos,aN,g⟩ (yielded ops a.tmps)=true) (hx:ev T x=some (.string s)) (hy:ev T y=some (.int ky p)) (hp:p=(lo:Int)) (h1:lo≤s.size) (hd:Nat.blt d N=true)
  (k:∀ a',St N D w0 F G0 G L ((d,.string (s.extract lo s.size)) :: T) a' w→WL r P ops Q rest a' w):WL r P ops Q (⟨some d,.slice t x (some y) none none,ty,pos,aN,g⟩ :: rest) a w:=by
 subst hp
 have hr:=run_slice_string_l (P:=P) w t s ht ky (lo:Int) (by omega) (by omega)
 rw [Int.toNat_natCast] at hr
 refine fM (v:=.string (s.extract lo s.size)) (w':=w) hw rfl ?_ (k _ (H.put hd _ H.hp))
 simp only [execOp,H.ev hx,Option.map_some,Option.map_none,H.ev hy,bZ,run_sliceAt_string w t _ _ _ _ ht,hr,jT,qh]
end
end
section
open Go.RowKit
theorem IB:prog.underlying 249=some (.slice 233):=by kernel_rfl
theorem sw:Ty prog 233 6 56 [.int .i64 0,.int .i64 0,.int .i64 0,.int .i64 0,.int .i64 0,.string ⟨#[]⟩] true:=⟨by kernel_rfl,by kernel_rfl⟩
theorem XZ:pq prog 233 [(0,1),(1,1),(2,1),(3,1),(4,1),(5,1)] [.int .i64 0,.int .i64 0,.int .i64 0,.int .i64 0,.int .i64 0,.string ⟨#[]⟩]:=⟨by kernel_rfl,by kernel_rfl⟩
theorem TK:∀ args w,(callFunc 156 args).run prog w=.ok (.enter 156 args) w:=enters func156 rfl (by kernel_rfl)
structure ji where
 num:Int
 yZ:Int
 low:Int
 high:Int
 std:Int
 name:ByteArray
def ji.dat (x:ji):List Dat:=[li x.num,li x.yZ,li x.low,li x.high,li x.std,.lf (.string x.name)]
def ji.cells (x:ji):List aj:=[vi x.num,vi x.yZ,vi x.low,vi x.high,vi x.std,.string x.name]
def iF.cells (x:iF):List aj:=[vi x.key,vi x.value]
theorem agW (G:GH) (x:ji):aZ G x.dat x.cells:=by
 simp only [ji.dat,ji.cells,aZ]
 exact ⟨_,_,rfl,by simp [av,Value.oneCell'],_,_,rfl,by simp [av,Value.oneCell'],_,_,rfl,by simp [av,Value.oneCell'],_,_,rfl,by simp [av,Value.oneCell'],_,_,rfl,by simp [av,Value.oneCell'],_,_,rfl,by simp [av,Value.oneCell'],rfl⟩
theorem agV {G:GH} {x:ji} {cs:List aj} (h:aZ G x.dat cs):cs=x.cells:=by
 simp only [ji.dat,aZ,av] at h
 obtain ⟨v1,_,rfl,⟨rfl,-⟩,v2,_,rfl,⟨rfl,-⟩,v3,_,rfl,⟨rfl,-⟩,v4,_,rfl,⟨rfl,-⟩,v5,_,rfl,⟨rfl,-⟩,v6,_,rfl,⟨rfl,-⟩,rfl⟩:=h
 rfl
theorem P9 {G:GH} {x:iF} {cs:List aj} (h:aZ G x.dat cs):cs=x.cells:=by
 simp only [iF.dat,aZ,av] at h
 obtain ⟨v1,_,rfl,⟨rfl,-⟩,v2,_,rfl,⟨rfl,-⟩,rfl⟩:=h
 rfl
theorem V5 (G:GH):∀ (B A:List ji),fE G 6 (A.map ji.dat) (A.map ji.cells).flatten→fE G 6 ((A++B).map ji.dat) ((A++B).map ji.cells).flatten
 | [],A,h=>by rw [mX];exact h
 | x :: B,A,h=>by
  have h2:=h.snoc (agW G x) rfl;have h3:=V5 G B (A++[x]) (by simpa using h2)
  simpa using h3
theorem agX (G:GH) (A:List ji):fE G 6 (A.map ji.dat) (A.map ji.cells).flatten:=V5 G A [] fE.nil
theorem Pv {G:GH} {l:List ji} {A:Option Addr} {n c k:Nat} (hv:av G (.sl 6 (l.map ji.dat)) (.slice A n c)) (hk:k < l.length):∃ b o,A=some ⟨b,o,none⟩∧(∀ j u,[vi l[k].num,vi l[k].yZ,vi l[k].low,vi l[k].high,vi l[k].std,.string l[k].name][j]?=some u→aI G b (o+k*6+j)=some u):=by
 obtain ⟨A',c',he,_,_,hg⟩:=hv.slice
 injection he with e1 e2 e3
 subst e1;obtain ⟨b,o,cs,h1,h2,h3,h4⟩:=hg k l[k].dat (by simp [hk]);obtain rfl:=agV h4;exact ⟨b,o,h1,h3⟩
theorem KO {G:GH} {l:List iF} {A:Option Addr} {n c k:Nat} (hv:av G (.sl 2 (l.map iF.dat)) (.slice A n c)) (hk:k < l.length):∃ b o,A=some ⟨b,o,none⟩∧(∀ j u,[vi l[k].key,vi l[k].value][j]?=some u→aI G b (o+k*2+j)=some u):=by
 obtain ⟨A',c',he,_,_,hg⟩:=hv.slice
 injection he with e1 e2 e3
 subst e1;obtain ⟨b,o,cs,h1,h2,h3,h4⟩:=hg k l[k].dat (by simp [hk]);obtain rfl:=P9 h4;exact ⟨b,o,h1,h3⟩
def DZ:List ji:=[⟨1,1,0,1073741824,0,⟨#[99,104,97,114,97,99,116,101,114,45,115,116,121,108,101]⟩⟩,⟨2,1,0,1,0,⟨#[98,111,108,100]⟩⟩,⟨3,1,0,1,0,⟨#[105,116,97,108,105,99]⟩⟩,⟨4,1,0,3,0,⟨#[117,110,100,101,114,108,105,110,101]⟩⟩,⟨5,1,2,1638,22,⟨#[115,105,122,101]⟩⟩,⟨6,1,0,16777215,0,⟨#[99,111,108,111,114]⟩⟩,⟨7,1,0,63,0,⟨#[102,111,110,116]⟩⟩,⟨8,1,0,255,0,⟨#[108,97,110,103,117,97,103,101]⟩⟩,⟨9,1,-400,400,0,⟨#[114,97,105,115,101]⟩⟩,⟨10,1,0,1,0,⟨#[104,105,100,100,101,110]⟩⟩,⟨20,2,0,1073741824,0,⟨#[112,97,114,97,103,114,97,112,104,45,115,116,121,108,101]⟩⟩,⟨21,2,0,3,0,⟨#[97,108,105,103,110]⟩⟩,⟨22,2,-31680,31680,0,⟨#[108,101,102,116]⟩⟩,⟨23,2,-31680,31680,0,⟨#[114,105,103,104,116]⟩⟩,⟨24,2,-31680,31680,0,⟨#[102,105,114,115,116]⟩⟩,⟨25,2,0,31680,0,⟨#[98,101,102,111,114,101]⟩⟩,⟨26,2,0,31680,0,⟨#[97,102,116,101,114]⟩⟩,⟨27,2,0,31680,0,⟨#[108,101,97,100,105,110,103]⟩⟩,⟨28,2,0,1,0,⟨#[107,101,101,112,45,110,101,120,116]⟩⟩,⟨29,2,0,1,0,⟨#[107,101,101,112,45,108,105,110,101,115]⟩⟩,⟨30,2,0,1,1,⟨#[119,105,100,111,119]⟩⟩,⟨31,2,0,1,0,⟨#[112,97,103,101,45,98,101,102,111,114,101]⟩⟩,⟨32,2,0,9,0,⟨#[111,117,116,108,105,110,101]⟩⟩,⟨33,2,0,1073741824,0,⟨#[108,105,115,116]⟩⟩,⟨34,2,1,9,1,⟨#[108,101,118,101,108]⟩⟩,⟨35,2,0,32767,0,⟨#[114,101,115,116,97,114,116]⟩⟩,⟨36,2,1,31680,720,⟨#[116,97,98,45,115,116,111,112]⟩⟩,⟨37,2,0,1,0,⟨#[104,121,112,104,101,110,97,116,101]⟩⟩,⟨40,3,720,31680,12240,⟨#[112,97,103,101,45,119,105,100,116,104]⟩⟩,⟨41,3,720,31680,15840,⟨#[112,97,103,101,45,104,101,105,103,104,116]⟩⟩,⟨42,3,0,31680,1440,⟨#[116,111,112]⟩⟩,⟨43,3,0,31680,1440,⟨#[98,111,116,116,111,109]⟩⟩,⟨44,3,0,31680,1440,⟨#[105,110,110,101,114]⟩⟩,⟨45,3,0,31680,1440,⟨#[111,117,116,101,114]⟩⟩,⟨46,3,0,32767,0,⟨#[102,105,114,115,116,45,112,97,103,101]⟩⟩,⟨47,3,1,6,1,⟨#[112,97,103,101,45,102,111,114,109,97,116]⟩⟩,⟨50,4,0,1,0,⟨#[104,101,97,100,101,114]⟩⟩,⟨51,4,0,1,0,⟨#[99,97,110,116,45,115,112,108,105,116]⟩⟩,⟨52,4,0,31680,0,⟨#[114,111,119,45,104,101,105,103,104,116]⟩⟩,⟨60,5,1,32,1,⟨#[99,111,108,117,109,110,45,115,112,97,110]⟩⟩,⟨61,5,0,2,0,⟨#[118,101,114,116,105,99,97,108,45,109,101,114,103,101]⟩⟩,⟨62,5,0,31680,0,⟨#[99,101,108,108,45,119,105,100,116,104]⟩⟩,⟨63,5,0,16777215,16777215,⟨#[115,104,97,100,101]⟩⟩,⟨70,6,0,31680,0,⟨#[116,97,98,108,101,45,119,105,100,116,104]⟩⟩,⟨71,6,0,2,0,⟨#[116,97,98,108,101,45,97,108,105,103,110]⟩⟩]
set_option maxRecDepth 20000 in
theorem agY (G:GH) (w0:World) (hG:Hold G w0):Calls prog 147 #[] w0 (bE w0 G fun u G'=>av G' (.sl 6 (DZ.map ji.dat)) u):=by
 refine eN [] func147 rfl ntmps147 rfl rfl hG ?_;intro a H;refine kP H (SR fun _ K1=>ak K1 rfl (SR fun _ K2=>?_));clear H K1;intro a H;(iterate 45 refine iT XZ [_,_,_,_,_,_] H wn rfl rfl rfl rfl ?_;clear H;intro a H);refine aiS IB sw (DZ.map ji.cells) H wn rfl rfl rfl rfl rfl rfl rfl ?_;clear H;intro b46 a w akX H;refine kH H (ak K2 rfl ?_);clear H K2;intro a H;refine lr H results147 rfl ?_;obtain ⟨Gz,hmz,hbz,H⟩:=H.dP;exact H.rt (av.eu (n:=45) (cap:=45) hbz rfl (bU _) (show 45≤maxLen by decide) (jH (bU _)) (agX _ _))
theorem VX (G:GH) (w0:World) (hG:Hold G w0) (x:Int):Calls prog 156 #[vi x] w0 (bE w0 G fun u G'=>u=.bool false∧G=G'):=by
 refine eN [(0,_)] func156 rfl ntmps156 rfl rfl hG ?_;intro a H;exact kP H (SR fun _ K1=>ak K1 rfl (SR fun _ K2=>Rm rfl (Rm rfl (Rc rfl (ak K2 rfl (LR results156 rfl fun H=>H.rt ⟨by simp,rfl⟩))))))
theorem MW {x y z:Int} (h:(x < y∧z=-1)∨(y < x∧z=1)∨(x=y∧z=0)):z=zZ x y:=by
 unfold zZ;split
 ·omega
 split <;> omega
theorem abp (G:GH) (w0:World) (hG:Hold G w0) (x y:Int):Calls prog 150 #[vi x,vi y] w0 (bE w0 G fun u G'=>u=vi (zZ x y)):=by
 refine eN [(0,_),(1,_)] func150 rfl ntmps150 rfl rfl hG ?_;intro a H;refine kP H (SR fun _ K1=>ak K1 rfl (SR fun _ K2=>Rm rfl ?_));clear H K1;intro a H;refine s_call TK H wn rfl (VX _ _ H.ro x) rfl ?_;clear H;rintro v8 G8 a w ⟨rfl,-⟩ zk H;refine kH H (ak K2 rfl (SR fun _ K3=>Rm rfl ?_));clear H K2;intro a H;refine s_call TK H wn rfl (VX _ _ H.ro y) rfl ?_;clear H;rintro v10 wJ a w ⟨rfl,-⟩ vg H;refine kH H (ak K3 rfl (SQ fun _ K4=>SR fun _ K5=>Rm rfl (Kz K5 (Cd rfl ?_ ?_)))) <;> clear H K3 K5
 ·intro h11 a H
  cases h11
 intro h11 a H
 try have nR:=dF h11
 refine kP H (Kc K4 (SQ fun _ K6=>SR fun _ K7=>Rm rfl (Kz K7 (Cd rfl ?_ ?_)))) <;> clear H K4 K7
 ·intro gy a H
  cases gy
 intro gy a H
 try have qC:=dF gy
 refine kP H (Kc K6 (SQ fun _ K8=>SR fun _ K9=>Rm rfl (Rm rfl (Rc rfl (Kz K9 (Cd rfl ?_ ?_)))))) <;> clear H K6 K9
 ·intro h16 a H
  try have p16:=dT h16
  exact kP H (SR fun _ aT=>ak aT rfl (LR results150 rfl fun H=>H.rt (ay vi (MW (by omega)))))
 intro h16 a H
 try have p16:=dF h16
 refine kP H (Kc K8 (SQ fun _ bq=>SR fun _ bF=>Rm rfl (Rm rfl (Rc rfl (Kz bF (Cd rfl ?_ ?_)))))) <;> clear H K8 bF
 ·intro h19 a H
  try have vD:=dT h19
  exact kP H (SR fun _ bJ=>ak bJ rfl (LR results150 rfl fun H=>H.rt (ay vi (MW (by omega)))))
 intro h19 a H
 try have vD:=dF h19
 exact kP H (Kc bq (SR fun _ bN=>ak bN rfl (LR results150 rfl fun H=>H.rt (ay vi (MW (by omega))))))
end
section
open Go.RowKit
theorem aed:bW prog 233 0 0:=⟨by kernel_rfl⟩
theorem acC:∀ args w,(callFunc 150 args).run prog w=.ok (.enter 150 args) w:=enters func150 rfl (by kernel_rfl)
theorem Yi:prog.underlying 240=some (.int .u64):=by kernel_rfl
theorem acB:∀ args w,(callFunc 149 args).run prog w=.ok (.enter 149 args) w:=enters func149 rfl (by kernel_rfl)
theorem SX (G:GH) (w0:World) (hG:Hold G w0) (x:ji) (t:Int):tH prog (.func (.func 149) #[] #[]) [.agg x.cells.toArray,vi t] w0 (bE w0 G fun u G'=>u=vi (zZ x.num t)):=by
 refine lX (caps:=[]) acB ?_;refine eN [(0,_),(1,_)] func149 rfl ntmps149 rfl rfl hG ?_;intro a H;refine dB (fun _ K1=>?_);refine eU (cs:=[_,_,_,_,_,_]) H wn rfl rfl rfl ?_;clear H;intro b2 a w hb2 H;refine kH H (ak K1 rfl (SR fun _ K2=>aP aed aC 0 rfl rfl (Rm rfl ?_)));clear H K1;intro a H;refine s_call acC H wn rfl (abp _ _ H.ro x.num t) rfl ?_;clear H;rintro v8 G8 a w rfl zk H;exact kH H (ak K2 rfl (LR results149 rfl fun H=>H.rt rfl))
theorem aak (G:GH) (w0:World) (hG:Hold G w0) (l:List ji) (t:Int) (v:aj) (hv:av G (.sl 6 (l.map ji.dat)) v) (hl:l.length≤4294967296) :
  Calls prog 148 #[v,vi t,.func (.func 149) #[] #[]] w0 (bE w0 G fun u G'=>u=.tuple #[vi (yN (l.map ji.num) t),.bool (Cc (l.map ji.num) t)]):=by
 obtain ⟨A,c,rfl,hc1,hc2,-⟩:=hv.slice;rw [bQ] at *;obtain ⟨p,hp⟩:∃ p:Nat→Bool,p=fun h=>decide (¬ (l.map ji.num).getD h 0 < t):=⟨_,rfl⟩
 have hbs:yN (l.map ji.num) t=xR p l.length 0 l.length:=by rw [hp,yN,bQ]
 refine eN [(0,_),(1,_),(2,_)] func148 rfl ntmps148 rfl rfl hG ?_;intro a H;refine kP H (SR fun _ K1=>Ra rfl (ak K1 rfl (SR fun _ K2=>Rm rfl (Rl IB rfl (ak K2 rfl (SR fun _ K3=>Rm rfl (Ra rfl (ak K3 rfl (SQ fun _ K4=>SB ?_)))))))));clear H K1 K2 K3;intro a H;skip;refine eT (ι:=Nat × Nat × Nat × GH) (Tc:=[(0,_),(1,_),(2,_),(8,_)]) (Lc:=[]) (fun gh=>[(9,vi gh.1),(10,vi gh.2.1)]) (fun gh=>[]) (fun gh=>gh.2.2.2) (fun gh=>gh.1≤gh.2.1∧gh.2.1≤l.length∧gh.2.1 - gh.1≤gh.2.2.1∧xR p gh.2.2.1 gh.1 gh.2.1=yN (l.map ji.num) t∧(∀ b o,G b=some o→gh.2.2.2 b=some o)) (fun gh=>gh.2.1 - gh.1) ((0,l.length,l.length,G)) (by exact (H).sub ⟨rfl,rfl,rfl,rfl,rfl,rfl,aD⟩) ?_ ?_
 ·exact ⟨iy _,bU _,Nat.sub_le _ _,hbs.symm,fun _ _ h=>h⟩
 clear H;intro gh a w hI H;obtain ⟨i,j,f,g⟩:=gh;dsimp only at hI H;obtain ⟨hij,hj,hf1,heq,hgm⟩:=hI;have DT:=hv.mono hgm;dsimp only [lca,bg] at H;refine kP H (SQ fun _ K5=>SR fun _ K6=>Rm rfl (Rm rfl (Rc rfl (Kz K6 (Cd rfl ?_ ?_))))) <;> clear H K6
 ·intro dV a H
  try have mE:=dT dV
  have hlt:i < j:=by omega
  rw [agF hf1 hlt] at heq;obtain ⟨m,hm⟩:∃ m,m=(i+j) / 2:=⟨_,rfl⟩;rw [← hm] at heq
  have hml:m < l.length:=by omega
  obtain ⟨b,o,rfl,hrow⟩:=Pv DT hml
  have hpm:p m=decide (¬ l[m].num < t):=by rw [hp];dsimp only;rw [getD_map hml]
  rw [hpm] at heq;refine kP H (Kc K5 (SB (SR fun _ K7=>Rm rfl (Rm rfl (Rd rfl ?_)))));clear H K5;intro a H;rw [show ((i:Int)+(j:Int))=((i+j:Nat):Int) by push_cast;rfl] at H;refine FD ((i+j:Nat):Int) Yi nG H wn rfl (agG (by omega) (by omega)) rfl ?_;clear H;intro a H;refine XF _ H wn rfl rfl rfl (by decide) rfl ?_;clear H;intro a H;rw [agE,← hm] at H;refine FD (m:Int) nG Yi H wn rfl (H9 (by omega) (by omega)) rfl ?_;clear H;intro a H;refine kH H (ak K7 rfl (SR fun _ K8=>Rm rfl (Rm rfl (Rm rfl (Ri IB sw rfl rfl ?_)))));clear H K7;intro a H;refine bD sw (cs:=[_,_,_,_,_,_]) H wn rfl rfl (fun j v hj=>H.hp.aI (hrow j v hj)) rfl ?_;clear H;intro a H;refine kH H (Rm rfl ?_);clear H;intro a H;refine pX H wn rfl rfl (SX _ _ H.ro l[m] t) rfl ?_;clear H;rintro v30 CW a w rfl DI H;refine kH H (Rc rfl (Kz K8 (Cd rfl ?_ ?_))) <;> clear H K8
  ·intro h31 a H
   try have p31:=dT h31
   rw [ah (by simpa using Tf.1 p31)] at heq;refine kP H (SC (Rm rfl (Rd rfl (Ra rfl ?_))));clear H;intro a H;refine aH ?_;refine cu ((m+1,j,f - 1,CW)) (by exact (H).sub ⟨rfl,rfl,rfl,rfl,rfl,rfl,aD⟩) ?_ ?_
   ·(try dsimp only);exact ⟨by omega,hj,by omega,heq,fun b o h=>DI b o (hgm b o h)⟩
   first|omega|(dsimp only;omega)
  intro h31 a H
  try have p31:=dF h31
  rw [au (by simpa using fun h=>p31 (Tf.2 h))] at heq;refine kP H (SC (Rm rfl (Ra rfl ?_)));clear H;intro a H;refine aH ?_;refine cu ((i,m,f - 1,CW)) (by exact (H).sub ⟨rfl,rfl,rfl,rfl,rfl,rfl,aD⟩) ?_ ?_
  ·(try dsimp only);exact ⟨by omega,by omega,by omega,heq,fun b o h=>DI b o (hgm b o h)⟩
  first|omega|(dsimp only;omega)
 intro dV a H
 try have mE:=dF dV
 refine dU ?_;refine K4 _ _ ?_;clear K4;refine bA (fun _ K9=>?_);rw [agD (by omega)] at heq;refine kP H (SC (Rm rfl (Rm rfl (Rm rfl (Rc rfl (Rm rfl (Sp 39 rfl ?_ ?_))))))) <;> clear H
 ·intro kU a H
  try have p39:=dT kU
  have hil:i < l.length:=by omega
  obtain ⟨b,o,rfl,hrow⟩:=Pv DT hil;refine kH H (YM kU rfl (YM kU rfl (YM kU rfl (YI IB sw kU rfl rfl ?_))));clear H;intro a H;refine bD sw (cs:=[_,_,_,_,_,_]) H (wg H rfl rfl kU) rfl rfl (fun j v hj=>H.hp.aI (hrow j v hj)) rfl ?_;clear H;intro a H;refine kH H (YM kU rfl ?_);clear H;intro a H;refine pX H (wg H rfl rfl kU) rfl rfl (SX _ _ H.ro l[i] t) rfl ?_;clear H;rintro v46 Zd a w rfl afP H;refine kH H (YC kU rfl (Pt kU rfl (Ra rfl (aU K9 rfl ?_))));clear H K9;intro a H;refine cZ ?_;refine (fG H results148 (.cons (aW H rfl) (.cons (aW H rfl) .nil)) ?_).1;exact H.rt (by rw [afg heq.symm (by rw [bQ];omega),← heq];simp)
 intro kU a H
 try have p39:=dF kU
 refine kH H (aX kU rfl (aX kU rfl (aQ kU rfl (Pf kU rfl (Ra rfl (aU K9 rfl ?_))))));clear H K9;intro a H;refine cZ ?_;refine (fG H results148 (.cons (aW H rfl) (.cons (aW H rfl) .nil)) ?_).1;exact H.rt (by rw [afi heq.symm (by rw [bQ];omega),← heq])
end
section
open Go.RowKit
end
section
open Go.RowKit
def uM (fv:aj) (G:GH) (d:List Dat) (b:Bool):Prop:=∀ (G1:GH) (w1:World) (cs:List aj),(∀ b o,G b=some o→G1 b=some o)→Hold G1 w1→aZ G1 d cs →
 tH prog fv [.agg cs.toArray] w1 (bE w1 G1 fun u G'=>u=.bool b)
def nP (o:Option Nat):Int:=match o with|some i=>i|none=>-1
theorem agJ (G:GH) (w0:World) (hG:Hold G w0) (l:List bO) (p:bO→Bool) (v fv:aj) (hv:av G (.sl 6 (l.map bO.dat)) v) (hf:∀ x∈l,uM fv G x.dat (p x)) :
  Calls prog 104 #[v,fv] w0 (bE w0 G fun u G'=>u=vi (nP (l.findIdx? p))):=by
 obtain ⟨A,c,rfl,hc1,hc2,hg⟩:=hv.slice;have hml:maxLen=9223372036854775807:=rfl;rw [bQ] at *;refine eN [(0,_),(1,_)] func104 rfl ntmps104 rfl rfl hG ?_;intro a H;refine kP H (SR fun _ K1=>ak K1 rfl (SQ fun _ K2=>SR fun _ K3=>Rm rfl (Rl mU rfl (Rm rfl (Kz K3 (SB ?_))))));clear H K1 K3;intro a H;skip;refine eT (ι:=Nat × GH) (Tc:=[(0,_),(1,_),(7,_)]) (Lc:=[]) (fun gh=>[(8,vi gh.1)]) (fun gh=>[]) (fun gh=>gh.2) (fun gh=>gh.1≤l.length∧(l.take gh.1).findIdx? p=none∧(∀ b o,G b=some o→gh.2 b=some o)) (fun gh=>l.length - gh.1) ((0,G)) (by exact (H).sub ⟨rfl,rfl,rfl,rfl,aD⟩) ?_ ?_
 ·exact ⟨by omega,rfl,fun _ _ h=>h⟩
 clear H;intro gh a w hI H;obtain ⟨k,g⟩:=gh;dsimp only at hI H;obtain ⟨hk,hno,hgm⟩:=hI;dsimp only [lca,bg] at H;refine kP H (SR fun _ K4=>Rc rfl (Kz K4 (SQ fun _ K5=>Cd rfl ?_ ?_))) <;> clear H K4
 ·intro h9 a H
  try have p9:=dT h9
  have hk2:k < l.length:=by omega
  obtain ⟨b,o,cs,rfl,hcl,hrow,hrep⟩:=hg k l[k].dat (by simp [hk2]);obtain ⟨pA,pn,pc,dA,dn,dc,yA,yn,yc,fA,fn,fc,rfl,-⟩:=hrep.row;replace hrow:=fun j u hj=>aK hgm (hrow j u hj);refine kP H (Kc K5 (SQ fun _ K6=>SB (SR fun _ K7=>Rm rfl (ak K7 rfl (SR fun _ K8=>Rm rfl (Rm rfl (Rm rfl (Ri mU kE rfl rfl ?_))))))));clear H K5 K7;intro a H;refine bD kE (cs:=[_,_,_,_,_,_]) H wn rfl rfl (fun j v hj=>H.hp.aI (hrow j v hj)) rfl ?_;clear H;intro a H;refine pX H wn rfl rfl (hf _ (iL hk2) _ _ _ hgm H.ro (hrep.mono hgm)) rfl ?_;clear H;rintro v16 rF a w rfl rQ H;refine K8 _ _ ?_;clear K8;refine kr H rfl ?_ ?_
  ·intro h16
   try have p16:=dT h16
   refine kP H (SR fun _ K9=>Rm rfl (ak K9 rfl ?_));clear H K9;intro a H;refine lr H results104 rfl ?_
   first
    | exact H.rt (by rw [uF hk2 hno h16];rfl)
    | exact H.rt (by rw [show l.take k=l from jH (by omega)] at hno;rw [hno];rfl)
  intro h16
  try have p16:=dF h16
  refine kP H (Kc K6 (SC (Rd rfl (Rm rfl ?_))));clear H K6;intro a H;refine aH ?_;refine cu ((k+1,rF)) (by exact (H).sub ⟨rfl,rfl,rfl,rfl,aD⟩) ?_ ?_
  ·(try dsimp only);exact ⟨by omega,AX hk2 hno h16,fun b o h=>rQ b o (hgm b o h)⟩
  first|omega|(dsimp only;omega)
 intro h9 a H
 try have p9:=dF h9
 refine dU ?_;refine K2 _ _ ?_;clear K2;refine kP H (SR fun _ aT=>ak aT rfl ?_);clear H aT;intro a H;refine lr H results104 rfl ?_
 first
  | exact H.rt (by rw [uF hk2 hno h16];rfl)
  | exact H.rt (by rw [show l.take k=l from jH (by omega)] at hno;rw [hno];rfl)
end
section
open Go.RowKit
theorem acz:∀ args w,(callFunc 147 args).run prog w=.ok (.enter 147 args) w:=enters func147 rfl (by kernel_rfl)
theorem acA:∀ args w,(callFunc 148 args).run prog w=.ok (.enter 148 args) w:=enters func148 rfl (by kernel_rfl)
theorem yB:prog.underlying 68=some (.slice 3):=by kernel_rfl
theorem acD:∀ args w,(callFunc 151 args).run prog w=.ok (.enter 151 args) w:=enters func151 rfl (by kernel_rfl)
theorem TH:∀ args w,(callFunc 137 args).run prog w=.ok (.enter 137 args) w:=enters func137 rfl (by kernel_rfl)
theorem acp:∀ args w,(callFunc 139 args).run prog w=.ok (.enter 139 args) w:=enters func139 rfl (by kernel_rfl)
theorem aee:bW prog 233 1 1:=⟨by kernel_rfl⟩
theorem aco:∀ args w,(callFunc 138 args).run prog w=.ok (.enter 138 args) w:=enters func138 rfl (by kernel_rfl)
theorem aef:bW prog 233 2 2:=⟨by kernel_rfl⟩
theorem aeg:bW prog 233 3 3:=⟨by kernel_rfl⟩
def kz:ji:=⟨0,0,0,0,0,⟨#[]⟩⟩
def DY:List Int:=DZ.map ji.num
def lN (k:Int):ji × Bool:=if Cc DY k=true then (DZ.getD (yN DY k) kz,true) else (kz,false)
theorem find_spec (G:GH) (w0:World) (hG:Hold G w0) (k:Int):Calls prog 137 #[vi k] w0 (bE w0 G fun u G'=>u=.tuple #[.agg (lN k).1.cells.toArray,.bool (lN k).2]):=by
 refine eN [(0,_)] func137 rfl ntmps137 rfl rfl hG ?_;intro a H;refine dB (fun _ K1=>?_);refine eB sw H wn rfl ?_;clear H;intro b2 a w hb2 H;refine kH H (ak K1 rfl (SR fun _ K2=>?_));clear H K1;intro a H;refine s_call acz H wn rfl (agY _ _ H.ro) rfl ?_;clear H;rintro v7 G7 a w hv7 AJ H;obtain ⟨A,c,rfl,hc1,hc2,-⟩:=hv7.slice;rw [bQ] at *;refine kH H (ak K2 rfl (SR fun _ K3=>Rm rfl (Rm rfl ?_)));clear H K2;intro a H;refine s_call acA H wn rfl (aak _ _ H.ro DZ k _ hv7 (by decide)) rfl ?_;clear H;rintro v11 tL a w rfl AB H;have hv7:=hv7.mono AB;have hkn:DZ.map ji.num=DY:=rfl;rw [hkn] at H;obtain ⟨n,hn⟩:∃ n,n=yN DY k:=⟨_,rfl⟩;obtain ⟨q,hq⟩:∃ q,q=Cc DY k:=⟨_,rfl⟩;rw [← hn,← hq] at H;refine kH H (Rm rfl ?_);clear H;intro a H;(iterate 2 refine kN H wn rfl rfl rfl ?_;clear H;intro a H);refine kH H (Ra rfl (ak K3 rfl (SQ fun _ K4=>SR fun _ K5=>Rm rfl (Rn rfl (Kz K5 (Cd rfl ?_ ?_)))))) <;> clear H K3 K5
 ·intro mg a H
  refine dB (fun _ K6=>?_);refine iT XZ [_,_,_,_,_,_] H wn rfl rfl rfl rfl ?_;clear H;intro a H;refine bH sw 0 (vs:=[_,_,_,_,_,_]) _ H wn rfl rfl rfl rfl rfl rfl rfl rfl ?_;clear H;intro w H;dsimp only [List.set,setRow] at H;refine kH H (ak K6 rfl ?_);clear H K6;intro a H;refine cZ ?_;refine (fG H results137 (.cons (Bh sw (cs:=[_,_,_,_,_,_]) H rfl rfl (H.hp.dS 0 rfl rfl)) (.cons (aW H rfl) .nil)) ?_).1;exact H.rt (by rw [lN,ah (by rw [← hq];simpa using mg)];rfl)
 intro mg a H
 try have qY:=dF mg
 have hlt:n < DZ.length:=by have:=afh (ks:=DY) (t:=k) (by rw [← hq];simpa using mg);rw [← hn] at this;simpa [DY] using this
 obtain ⟨b,o,rfl,hrow⟩:=Pv hv7 hlt;refine kP H (Kc K4 (SR fun _ K7=>Rm rfl (Rm rfl (Ri IB sw rfl rfl ?_))));clear H K4;intro a H;refine bD sw (cs:=[_,_,_,_,_,_]) H wn rfl rfl (fun j v hj=>H.hp.aI (hrow j v hj)) rfl ?_;clear H;intro a H;refine bH sw 0 (vs:=[_,_,_,_,_,_]) _ H wn rfl rfl rfl rfl rfl rfl rfl rfl ?_;clear H;intro w H;dsimp only [List.set,setRow] at H;refine kH H (ak K7 rfl ?_);clear H K7;intro a H;refine cZ ?_;refine (fG H results137 (.cons (Bh sw (cs:=[_,_,_,_,_,_]) H rfl rfl (H.hp.dS 0 rfl rfl)) (.cons (aW H rfl) .nil)) ?_).1;exact H.rt (by rw [lN,au (by rw [← hq];simpa using mg),← hn,List.getD_eq_getElem?_getD,gY hlt];rfl)
def dJ (e:Int):List Int:=if e=1∨e=4∨e=5∨e=6 then [1] else if e=2 then [1,2] else if e=3 then [3] else if e=7 then [6] else if e=9 then [4] else if e=10 then [5] else []
theorem fu (G:GH) (A:List Int):fE G 1 (A.map fun k=>[li k]) (A.map vi):=by
 refine ⟨A.map fun k=>[vi k],?_,by simp,fun j r cs hr hc=>?_⟩
 ·induction A with
  | nil=>rfl
  | cons a A ih=>simpa using ih
 rw [qL] at hr hc
 cases h:A[j]? with
 | none=>rw [h] at hr;cases hr
 | some x =>
  rw [h] at hr hc
  cases hr;cases hc
  exact ⟨by simp only [aZ];exact ⟨_,_,rfl,by simp [av,Value.oneCell'],rfl⟩,rfl⟩
theorem aeM (G:GH) (w0:World) (hG:Hold G w0) (e:Int):Calls prog 139 #[vi e] w0 (bE w0 G fun u G'=>av G' (.sl 1 ((dJ e).map fun k=>[li k])) u):=by
  refine eN [(0,_)] func139 rfl ntmps139 rfl rfl hG ?_;intro a H;refine kP H (SR fun _ K1=>ak K1 rfl (SQ fun _ K2=>SR fun _ K3=>Rm rfl (Kz K3 (SB (SQ fun _ K4=>SR fun _ K5=>Rc rfl (ak K5 rfl (Cd rfl ?_ ?_))))))) <;> clear H K1 K3 K5
  · intro h4 a H
    try have p4:=dT h4
    refine kP H (Kc K4 (Ct rfl h4 (SR fun _ K6=>?_)));clear H K4;intro a H;refine gQ yB aC [_] [_] H wn rfl rfl rfl rfl rfl (by intro i q h;match i,h with|0,h=>exact h|n+1,h=>simp at h) rfl rfl ?_;clear H;intro b9 a w ze H;refine kH H (ak K6 rfl ?_);clear H K6;intro a H;refine lr H results139 rfl ?_
    first
      | exact H.rt (by rw [dJ,ah (by omega),ah (by omega),ah (by omega),ah (by omega),ah (by omega),ah (by omega)];exact av.jw rfl (by decide))
      | (obtain ⟨Gz,hmz,hbz,H⟩:=H.dP
         first
           | exact H.rt (by rw [dJ,au (by omega)];exact av.eu (n:=1) (cap:=1) hbz rfl (bU _) (show 1≤maxLen by decide) rfl (fu _ [1]))
           | exact H.rt (by rw [dJ,ah (by omega),au (by omega)];exact av.eu (n:=2) (cap:=2) hbz rfl (bU _) (show 2≤maxLen by decide) rfl (fu _ [1,2]))
           | exact H.rt (by rw [dJ,ah (by omega),ah (by omega),au (by omega)];exact av.eu (n:=1) (cap:=1) hbz rfl (bU _) (show 1≤maxLen by decide) rfl (fu _ [3]))
           | exact H.rt (by rw [dJ,ah (by omega),ah (by omega),ah (by omega),au (by omega)];exact av.eu (n:=1) (cap:=1) hbz rfl (bU _) (show 1≤maxLen by decide) rfl (fu _ [6]))
           | exact H.rt (by rw [dJ,ah (by omega),ah (by omega),ah (by omega),ah (by omega),au (by omega)];exact av.eu (n:=1) (cap:=1) hbz rfl (bU _) (show 1≤maxLen by decide) rfl (fu _ [4]))
           | exact H.rt (by rw [dJ,ah (by omega),ah (by omega),ah (by omega),ah (by omega),ah (by omega),au (by omega)];exact av.eu (n:=1) (cap:=1) hbz rfl (bU _) (show 1≤maxLen by decide) rfl (fu _ [5])))
  intro h4 a H
  try have p4:=dF h4
  refine kP H (SR fun _ K7=>Rc rfl (ak K7 rfl (Cd rfl ?_ ?_))) <;> clear H K7
  · intro h4 a H
    try have p4:=dT h4
    refine kP H (Kc K4 (Ct rfl h4 (SR fun _ K8=>?_)));clear H K4;intro a H;refine gQ yB aC [_] [_] H wn rfl rfl rfl rfl rfl (by intro i q h;match i,h with|0,h=>exact h|n+1,h=>simp at h) rfl rfl ?_;clear H;intro b9 a w ze H;refine kH H (ak K8 rfl ?_);clear H K8;intro a H;refine lr H results139 rfl ?_
    first
      | exact H.rt (by rw [dJ,ah (by omega),ah (by omega),ah (by omega),ah (by omega),ah (by omega),ah (by omega)];exact av.jw rfl (by decide))
      | (obtain ⟨Gz,hmz,hbz,H⟩:=H.dP
         first
           | exact H.rt (by rw [dJ,au (by omega)];exact av.eu (n:=1) (cap:=1) hbz rfl (bU _) (show 1≤maxLen by decide) rfl (fu _ [1]))
           | exact H.rt (by rw [dJ,ah (by omega),au (by omega)];exact av.eu (n:=2) (cap:=2) hbz rfl (bU _) (show 2≤maxLen by decide) rfl (fu _ [1,2]))
           | exact H.rt (by rw [dJ,ah (by omega),ah (by omega),au (by omega)];exact av.eu (n:=1) (cap:=1) hbz rfl (bU _) (show 1≤maxLen by decide) rfl (fu _ [3]))
           | exact H.rt (by rw [dJ,ah (by omega),ah (by omega),ah (by omega),au (by omega)];exact av.eu (n:=1) (cap:=1) hbz rfl (bU _) (show 1≤maxLen by decide) rfl (fu _ [6]))
           | exact H.rt (by rw [dJ,ah (by omega),ah (by omega),ah (by omega),ah (by omega),au (by omega)];exact av.eu (n:=1) (cap:=1) hbz rfl (bU _) (show 1≤maxLen by decide) rfl (fu _ [4]))
           | exact H.rt (by rw [dJ,ah (by omega),ah (by omega),ah (by omega),ah (by omega),ah (by omega),au (by omega)];exact av.eu (n:=1) (cap:=1) hbz rfl (bU _) (show 1≤maxLen by decide) rfl (fu _ [5])))
  intro h4 a H
  try have p4:=dF h4
  refine kP H (SR fun _ K9=>Rc rfl (ak K9 rfl (Cd rfl ?_ ?_))) <;> clear H K9
  · intro h4 a H
    try have p4:=dT h4
    refine kP H (Kc K4 (Ct rfl h4 (SR fun _ aT=>?_)));clear H K4;intro a H;refine gQ yB aC [_] [_] H wn rfl rfl rfl rfl rfl (by intro i q h;match i,h with|0,h=>exact h|n+1,h=>simp at h) rfl rfl ?_;clear H;intro b9 a w ze H;refine kH H (ak aT rfl ?_);clear H aT;intro a H;refine lr H results139 rfl ?_
    first
      | exact H.rt (by rw [dJ,ah (by omega),ah (by omega),ah (by omega),ah (by omega),ah (by omega),ah (by omega)];exact av.jw rfl (by decide))
      | (obtain ⟨Gz,hmz,hbz,H⟩:=H.dP
         first
           | exact H.rt (by rw [dJ,au (by omega)];exact av.eu (n:=1) (cap:=1) hbz rfl (bU _) (show 1≤maxLen by decide) rfl (fu _ [1]))
           | exact H.rt (by rw [dJ,ah (by omega),au (by omega)];exact av.eu (n:=2) (cap:=2) hbz rfl (bU _) (show 2≤maxLen by decide) rfl (fu _ [1,2]))
           | exact H.rt (by rw [dJ,ah (by omega),ah (by omega),au (by omega)];exact av.eu (n:=1) (cap:=1) hbz rfl (bU _) (show 1≤maxLen by decide) rfl (fu _ [3]))
           | exact H.rt (by rw [dJ,ah (by omega),ah (by omega),ah (by omega),au (by omega)];exact av.eu (n:=1) (cap:=1) hbz rfl (bU _) (show 1≤maxLen by decide) rfl (fu _ [6]))
           | exact H.rt (by rw [dJ,ah (by omega),ah (by omega),ah (by omega),ah (by omega),au (by omega)];exact av.eu (n:=1) (cap:=1) hbz rfl (bU _) (show 1≤maxLen by decide) rfl (fu _ [4]))
           | exact H.rt (by rw [dJ,ah (by omega),ah (by omega),ah (by omega),ah (by omega),ah (by omega),au (by omega)];exact av.eu (n:=1) (cap:=1) hbz rfl (bU _) (show 1≤maxLen by decide) rfl (fu _ [5])))
  intro h4 a H
  try have p4:=dF h4
  refine kP H (SC (Rc rfl (aU K4 rfl (Cd rfl ?_ ?_)))) <;> clear H K4
  · intro h4 a H
    try have p4:=dT h4
    refine dB (fun _ bq=>?_);refine gQ yB aC [_] [_] H wn rfl rfl rfl rfl rfl (by intro i q h;match i,h with|0,h=>exact h|n+1,h=>simp at h) rfl rfl ?_;clear H;intro b9 a w ze H;refine kH H (ak bq rfl ?_);clear H bq;intro a H;refine lr H results139 rfl ?_
    first
      | exact H.rt (by rw [dJ,ah (by omega),ah (by omega),ah (by omega),ah (by omega),ah (by omega),ah (by omega)];exact av.jw rfl (by decide))
      | (obtain ⟨Gz,hmz,hbz,H⟩:=H.dP
         first
           | exact H.rt (by rw [dJ,au (by omega)];exact av.eu (n:=1) (cap:=1) hbz rfl (bU _) (show 1≤maxLen by decide) rfl (fu _ [1]))
           | exact H.rt (by rw [dJ,ah (by omega),au (by omega)];exact av.eu (n:=2) (cap:=2) hbz rfl (bU _) (show 2≤maxLen by decide) rfl (fu _ [1,2]))
           | exact H.rt (by rw [dJ,ah (by omega),ah (by omega),au (by omega)];exact av.eu (n:=1) (cap:=1) hbz rfl (bU _) (show 1≤maxLen by decide) rfl (fu _ [3]))
           | exact H.rt (by rw [dJ,ah (by omega),ah (by omega),ah (by omega),au (by omega)];exact av.eu (n:=1) (cap:=1) hbz rfl (bU _) (show 1≤maxLen by decide) rfl (fu _ [6]))
           | exact H.rt (by rw [dJ,ah (by omega),ah (by omega),ah (by omega),ah (by omega),au (by omega)];exact av.eu (n:=1) (cap:=1) hbz rfl (bU _) (show 1≤maxLen by decide) rfl (fu _ [4]))
           | exact H.rt (by rw [dJ,ah (by omega),ah (by omega),ah (by omega),ah (by omega),ah (by omega),au (by omega)];exact av.eu (n:=1) (cap:=1) hbz rfl (bU _) (show 1≤maxLen by decide) rfl (fu _ [5])))
  intro h4 a H
  try have p4:=dF h4
  refine kP H (SR fun _ bF=>Rc rfl (ak bF rfl (Cd rfl ?_ ?_))) <;> clear H bF
  · intro h10 a H
    try have mD:=dT h10
    refine dB (fun _ bJ=>?_);refine gQ yB aC [_,_] [_,_] H wn rfl rfl rfl rfl rfl (by intro i q h;match i,h with|0,h=>exact h|1,h=>exact h|n+2,h=>simp at h) rfl rfl ?_;clear H;intro b12 a w Aw H;refine kH H (ak bJ rfl ?_);clear H bJ;intro a H;refine lr H results139 rfl ?_
    first
      | exact H.rt (by rw [dJ,ah (by omega),ah (by omega),ah (by omega),ah (by omega),ah (by omega),ah (by omega)];exact av.jw rfl (by decide))
      | (obtain ⟨Gz,hmz,hbz,H⟩:=H.dP
         first
           | exact H.rt (by rw [dJ,au (by omega)];exact av.eu (n:=1) (cap:=1) hbz rfl (bU _) (show 1≤maxLen by decide) rfl (fu _ [1]))
           | exact H.rt (by rw [dJ,ah (by omega),au (by omega)];exact av.eu (n:=2) (cap:=2) hbz rfl (bU _) (show 2≤maxLen by decide) rfl (fu _ [1,2]))
           | exact H.rt (by rw [dJ,ah (by omega),ah (by omega),au (by omega)];exact av.eu (n:=1) (cap:=1) hbz rfl (bU _) (show 1≤maxLen by decide) rfl (fu _ [3]))
           | exact H.rt (by rw [dJ,ah (by omega),ah (by omega),ah (by omega),au (by omega)];exact av.eu (n:=1) (cap:=1) hbz rfl (bU _) (show 1≤maxLen by decide) rfl (fu _ [6]))
           | exact H.rt (by rw [dJ,ah (by omega),ah (by omega),ah (by omega),ah (by omega),au (by omega)];exact av.eu (n:=1) (cap:=1) hbz rfl (bU _) (show 1≤maxLen by decide) rfl (fu _ [4]))
           | exact H.rt (by rw [dJ,ah (by omega),ah (by omega),ah (by omega),ah (by omega),ah (by omega),au (by omega)];exact av.eu (n:=1) (cap:=1) hbz rfl (bU _) (show 1≤maxLen by decide) rfl (fu _ [5])))
  intro h10 a H
  try have mD:=dF h10
  refine kP H (SR fun _ bN=>Rc rfl (ak bN rfl (Cd rfl ?_ ?_))) <;> clear H bN
  · intro gy a H
    try have qC:=dT gy
    refine dB (fun _ cK=>?_);refine gQ yB aC [_] [_] H wn rfl rfl rfl rfl rfl (by intro i q h;match i,h with|0,h=>exact h|n+1,h=>simp at h) rfl rfl ?_;clear H;intro b15 a w afm H;refine kH H (ak cK rfl ?_);clear H cK;intro a H;refine lr H results139 rfl ?_
    first
      | exact H.rt (by rw [dJ,ah (by omega),ah (by omega),ah (by omega),ah (by omega),ah (by omega),ah (by omega)];exact av.jw rfl (by decide))
      | (obtain ⟨Gz,hmz,hbz,H⟩:=H.dP
         first
           | exact H.rt (by rw [dJ,au (by omega)];exact av.eu (n:=1) (cap:=1) hbz rfl (bU _) (show 1≤maxLen by decide) rfl (fu _ [1]))
           | exact H.rt (by rw [dJ,ah (by omega),au (by omega)];exact av.eu (n:=2) (cap:=2) hbz rfl (bU _) (show 2≤maxLen by decide) rfl (fu _ [1,2]))
           | exact H.rt (by rw [dJ,ah (by omega),ah (by omega),au (by omega)];exact av.eu (n:=1) (cap:=1) hbz rfl (bU _) (show 1≤maxLen by decide) rfl (fu _ [3]))
           | exact H.rt (by rw [dJ,ah (by omega),ah (by omega),ah (by omega),au (by omega)];exact av.eu (n:=1) (cap:=1) hbz rfl (bU _) (show 1≤maxLen by decide) rfl (fu _ [6]))
           | exact H.rt (by rw [dJ,ah (by omega),ah (by omega),ah (by omega),ah (by omega),au (by omega)];exact av.eu (n:=1) (cap:=1) hbz rfl (bU _) (show 1≤maxLen by decide) rfl (fu _ [4]))
           | exact H.rt (by rw [dJ,ah (by omega),ah (by omega),ah (by omega),ah (by omega),ah (by omega),au (by omega)];exact av.eu (n:=1) (cap:=1) hbz rfl (bU _) (show 1≤maxLen by decide) rfl (fu _ [5])))
  intro gy a H
  try have qC:=dF gy
  refine kP H (SR fun _ dw=>Rc rfl (ak dw rfl (Cd rfl ?_ ?_))) <;> clear H dw
  · intro h16 a H
    try have p16:=dT h16
    refine dB (fun _ bY=>?_);refine gQ yB aC [_] [_] H wn rfl rfl rfl rfl rfl (by intro i q h;match i,h with|0,h=>exact h|n+1,h=>simp at h) rfl rfl ?_;clear H;intro b18 a w Ho H;refine kH H (ak bY rfl ?_);clear H bY;intro a H;refine lr H results139 rfl ?_
    first
      | exact H.rt (by rw [dJ,ah (by omega),ah (by omega),ah (by omega),ah (by omega),ah (by omega),ah (by omega)];exact av.jw rfl (by decide))
      | (obtain ⟨Gz,hmz,hbz,H⟩:=H.dP
         first
           | exact H.rt (by rw [dJ,au (by omega)];exact av.eu (n:=1) (cap:=1) hbz rfl (bU _) (show 1≤maxLen by decide) rfl (fu _ [1]))
           | exact H.rt (by rw [dJ,ah (by omega),au (by omega)];exact av.eu (n:=2) (cap:=2) hbz rfl (bU _) (show 2≤maxLen by decide) rfl (fu _ [1,2]))
           | exact H.rt (by rw [dJ,ah (by omega),ah (by omega),au (by omega)];exact av.eu (n:=1) (cap:=1) hbz rfl (bU _) (show 1≤maxLen by decide) rfl (fu _ [3]))
           | exact H.rt (by rw [dJ,ah (by omega),ah (by omega),ah (by omega),au (by omega)];exact av.eu (n:=1) (cap:=1) hbz rfl (bU _) (show 1≤maxLen by decide) rfl (fu _ [6]))
           | exact H.rt (by rw [dJ,ah (by omega),ah (by omega),ah (by omega),ah (by omega),au (by omega)];exact av.eu (n:=1) (cap:=1) hbz rfl (bU _) (show 1≤maxLen by decide) rfl (fu _ [4]))
           | exact H.rt (by rw [dJ,ah (by omega),ah (by omega),ah (by omega),ah (by omega),ah (by omega),au (by omega)];exact av.eu (n:=1) (cap:=1) hbz rfl (bU _) (show 1≤maxLen by decide) rfl (fu _ [5])))
  intro h16 a H
  try have p16:=dF h16
  refine kP H (SR fun _ dz=>Rc rfl (ak dz rfl (Cd rfl ?_ ?_))) <;> clear H dz
  · intro h19 a H
    try have vD:=dT h19
    refine dB (fun _ fC=>?_);refine gQ yB aC [_] [_] H wn rfl rfl rfl rfl rfl (by intro i q h;match i,h with|0,h=>exact h|n+1,h=>simp at h) rfl rfl ?_;clear H;intro b21 a w akR H;refine kH H (ak fC rfl ?_);clear H fC;intro a H;refine lr H results139 rfl ?_
    first
      | exact H.rt (by rw [dJ,ah (by omega),ah (by omega),ah (by omega),ah (by omega),ah (by omega),ah (by omega)];exact av.jw rfl (by decide))
      | (obtain ⟨Gz,hmz,hbz,H⟩:=H.dP
         first
           | exact H.rt (by rw [dJ,au (by omega)];exact av.eu (n:=1) (cap:=1) hbz rfl (bU _) (show 1≤maxLen by decide) rfl (fu _ [1]))
           | exact H.rt (by rw [dJ,ah (by omega),au (by omega)];exact av.eu (n:=2) (cap:=2) hbz rfl (bU _) (show 2≤maxLen by decide) rfl (fu _ [1,2]))
           | exact H.rt (by rw [dJ,ah (by omega),ah (by omega),au (by omega)];exact av.eu (n:=1) (cap:=1) hbz rfl (bU _) (show 1≤maxLen by decide) rfl (fu _ [3]))
           | exact H.rt (by rw [dJ,ah (by omega),ah (by omega),ah (by omega),au (by omega)];exact av.eu (n:=1) (cap:=1) hbz rfl (bU _) (show 1≤maxLen by decide) rfl (fu _ [6]))
           | exact H.rt (by rw [dJ,ah (by omega),ah (by omega),ah (by omega),ah (by omega),au (by omega)];exact av.eu (n:=1) (cap:=1) hbz rfl (bU _) (show 1≤maxLen by decide) rfl (fu _ [4]))
           | exact H.rt (by rw [dJ,ah (by omega),ah (by omega),ah (by omega),ah (by omega),ah (by omega),au (by omega)];exact av.eu (n:=1) (cap:=1) hbz rfl (bU _) (show 1≤maxLen by decide) rfl (fu _ [5])))
  intro h19 a H
  try have vD:=dF h19
  refine kP H (SR fun _ dN=>Rc rfl (ak dN rfl (Cd rfl ?_ ?_))) <;> clear H dN
  · intro h22 a H
    try have iw:=dT h22
    refine dB (fun _ fQ=>?_);refine gQ yB aC [_] [_] H wn rfl rfl rfl rfl rfl (by intro i q h;match i,h with|0,h=>exact h|n+1,h=>simp at h) rfl rfl ?_;clear H;intro b24 a w akT H;refine kH H (ak fQ rfl ?_);clear H fQ;intro a H;refine lr H results139 rfl ?_
    first
      | exact H.rt (by rw [dJ,ah (by omega),ah (by omega),ah (by omega),ah (by omega),ah (by omega),ah (by omega)];exact av.jw rfl (by decide))
      | (obtain ⟨Gz,hmz,hbz,H⟩:=H.dP
         first
           | exact H.rt (by rw [dJ,au (by omega)];exact av.eu (n:=1) (cap:=1) hbz rfl (bU _) (show 1≤maxLen by decide) rfl (fu _ [1]))
           | exact H.rt (by rw [dJ,ah (by omega),au (by omega)];exact av.eu (n:=2) (cap:=2) hbz rfl (bU _) (show 2≤maxLen by decide) rfl (fu _ [1,2]))
           | exact H.rt (by rw [dJ,ah (by omega),ah (by omega),au (by omega)];exact av.eu (n:=1) (cap:=1) hbz rfl (bU _) (show 1≤maxLen by decide) rfl (fu _ [3]))
           | exact H.rt (by rw [dJ,ah (by omega),ah (by omega),ah (by omega),au (by omega)];exact av.eu (n:=1) (cap:=1) hbz rfl (bU _) (show 1≤maxLen by decide) rfl (fu _ [6]))
           | exact H.rt (by rw [dJ,ah (by omega),ah (by omega),ah (by omega),ah (by omega),au (by omega)];exact av.eu (n:=1) (cap:=1) hbz rfl (bU _) (show 1≤maxLen by decide) rfl (fu _ [4]))
           | exact H.rt (by rw [dJ,ah (by omega),ah (by omega),ah (by omega),ah (by omega),ah (by omega),au (by omega)];exact av.eu (n:=1) (cap:=1) hbz rfl (bU _) (show 1≤maxLen by decide) rfl (fu _ [5])))
  intro h22 a H
  try have iw:=dF h22
  refine kP H (Kc K2 (SR fun _ iq=>ak iq rfl ?_));clear H K2 iq;intro a H;refine lr H results139 rfl ?_
  first
    | exact H.rt (by rw [dJ,ah (by omega),ah (by omega),ah (by omega),ah (by omega),ah (by omega),ah (by omega)];exact av.jw rfl (by decide))
    | (obtain ⟨Gz,hmz,hbz,H⟩:=H.dP
       first
         | exact H.rt (by rw [dJ,au (by omega)];exact av.eu (n:=1) (cap:=1) hbz rfl (bU _) (show 1≤maxLen by decide) rfl (fu _ [1]))
         | exact H.rt (by rw [dJ,ah (by omega),au (by omega)];exact av.eu (n:=2) (cap:=2) hbz rfl (bU _) (show 2≤maxLen by decide) rfl (fu _ [1,2]))
         | exact H.rt (by rw [dJ,ah (by omega),ah (by omega),au (by omega)];exact av.eu (n:=1) (cap:=1) hbz rfl (bU _) (show 1≤maxLen by decide) rfl (fu _ [3]))
         | exact H.rt (by rw [dJ,ah (by omega),ah (by omega),ah (by omega),au (by omega)];exact av.eu (n:=1) (cap:=1) hbz rfl (bU _) (show 1≤maxLen by decide) rfl (fu _ [6]))
         | exact H.rt (by rw [dJ,ah (by omega),ah (by omega),ah (by omega),ah (by omega),au (by omega)];exact av.eu (n:=1) (cap:=1) hbz rfl (bU _) (show 1≤maxLen by decide) rfl (fu _ [4]))
         | exact H.rt (by rw [dJ,ah (by omega),ah (by omega),ah (by omega),ah (by omega),ah (by omega),au (by omega)];exact av.eu (n:=1) (cap:=1) hbz rfl (bU _) (show 1≤maxLen by decide) rfl (fu _ [5])))
theorem agO {G:GH} {l:List Int} {A:Option Addr} {n c k:Nat} (hv:av G (.sl 1 (l.map fun k=>[li k])) (.slice A n c)) (hk:k < l.length):∃ b o,A=some ⟨b,o,none⟩∧aI G b (o+k*1)=some (vi l[k]):=by
 obtain ⟨A',c',he,_,_,hg⟩:=hv.slice
 injection he with e1 e2 e3
 subst e1;obtain ⟨b,o,cs,h1,h2,h3,h4⟩:=hg k [li l[k]] (by simp [hk])
 simp only [aZ,av] at h4
 obtain ⟨v1,_,rfl,⟨rfl,-⟩,rfl⟩:=h4;exact ⟨b,o,h1,h3 0 _ rfl⟩
theorem agK (G:GH) (w0:World) (hG:Hold G w0) (l:List Int) (t:Int) (v:aj) (hv:av G (.sl 1 (l.map fun k=>[li k])) v) :
  Calls prog 151 #[v,vi t] w0 (bE w0 G fun u G'=>u=vi (nP (l.findIdx? fun x=>decide (t=x)))):=by
 obtain ⟨A,c,rfl,hc1,hc2,-⟩:=hv.slice;have hml:maxLen=9223372036854775807:=rfl;rw [bQ] at *;refine eN [(0,_),(1,_)] func151 rfl ntmps151 rfl rfl hG ?_;intro a H;refine kP H (SR fun _ K1=>ak K1 rfl (SQ fun _ K2=>SR fun _ K3=>Rm rfl (Rl yB rfl (Rm rfl (Kz K3 (SB ?_))))));clear H K1 K3;intro a H;skip;refine eT (ι:=Nat) (Tc:=[(0,_),(1,_),(7,_)]) (Lc:=[]) (fun gh=>[(8,vi gh)]) (fun gh=>[]) (fun gh=>G) (fun gh=>gh≤l.length∧(l.take gh).findIdx? (fun x=>decide (t=x))=none) (fun gh=>l.length - gh) (0) (by exact (H).sub ⟨rfl,rfl,rfl,rfl,aD⟩) ?_ ?_
 ·exact ⟨iy _,rfl⟩
 clear H;intro gh a w hI H;obtain ⟨k,hgh⟩:∃ x,x=gh:=⟨_,rfl⟩;subst hgh;obtain ⟨hk,hno⟩:=hI;dsimp only [lca,bg] at H;refine kP H (SR fun _ K4=>Rc rfl (Kz K4 (SQ fun _ K5=>Cd rfl ?_ ?_))) <;> clear H K4
 ·intro h9 a H
  try have p9:=dT h9
  have hk2:k < l.length:=by omega
  obtain ⟨b,o,rfl,hrow⟩:=agO hv hk2;refine kP H (Kc K5 (SQ fun _ K6=>SB (SR fun _ K7=>Rm rfl (ak K7 rfl (SR fun _ K8=>Rm rfl (Rm rfl (Rm rfl (Ri yB aC rfl rfl (Rg aC rfl (by assumption) ?_)))))))));clear H K5 K7;intro a H;refine kH H (Rc rfl (Kz K8 (Cd rfl ?_ ?_))) <;> clear H K8
  ·intro h16 a H
   try have p16:=dT h16
   exact kP H (SR fun _ K9=>Rm rfl (ak K9 rfl (LR results151 rfl fun H=>H.rt (by rw [uF hk2 hno (by simpa using p16)];rfl))))
  intro h16 a H
  try have p16:=dF h16
  refine kP H (Kc K6 (SC (Rd rfl (Rm rfl ?_))));clear H K6;intro a H;refine aH ?_;refine cu ((k+1)) (by exact (H).sub ⟨rfl,rfl,rfl,rfl,aD⟩) ?_ ?_
  ·exact ⟨by omega,AX hk2 hno (by simpa using p16)⟩
  first|omega|(dsimp only;omega)
 intro h9 a H
 try have p9:=dF h9
 refine dU ?_;refine K2 _ _ ?_;clear K2;exact kP H (SR fun _ aT=>ak aT rfl (LR results151 rfl fun H=>H.rt (by rw [show l.take k=l from jH (by omega)] at hno;rw [hno];rfl)))
theorem abq (G:GH) (w0:World) (hG:Hold G w0) (l:List Int) (t:Int) (v:aj) (hv:av G (.sl 1 (l.map fun k=>[li k])) v) :
  Calls prog 138 #[v,vi t] w0 (bE w0 G fun u G'=>u=.bool (decide (t∈l))):=by
 obtain ⟨A,c,rfl,hc1,hc2,-⟩:=hv.slice;rw [bQ] at *;refine eN [(0,_),(1,_)] func138 rfl ntmps138 rfl rfl hG ?_;intro a H;refine kP H (SR fun _ K1=>ak K1 rfl (SR fun _ K2=>Rm rfl (Rm rfl ?_)));clear H K1;intro a H;refine s_call acD H wn rfl (agK _ _ H.ro l t _ hv) rfl ?_;clear H;rintro v7 G7 a w rfl AJ H;refine kH H (Rc rfl (ak K2 rfl ?_));clear H K2;intro a H;refine lr H results138 rfl ?_
 exact H.rt (by
  congr 1
  cases h:l.findIdx? (fun x=>decide (t=x)) with
  | none =>
   rw [List.findIdx?_eq_none_iff] at h;have:t∉l:=fun hm=>absurd (h t hm) (by simp)
   simp [nP,this]
  | some i =>
   obtain ⟨hi,he,-⟩:=List.findIdx?_eq_some_iff_getElem.1 h
   have:t∈l:=by rw [om he];exact iL _
   simp [nP,this])
def yX (e k:Int):Bool:=(lN k).2 && decide ((lN k).1.yZ∈dJ e)
theorem UA (G:GH) (w0:World) (hG:Hold G w0) (e k:Int):Calls prog 125 #[vi e,vi k] w0 (bE w0 G fun u G'=>u=.bool (yX e k)):=by
 refine eN [(0,_),(1,_)] func125 rfl ntmps125 rfl rfl hG ?_;intro a H;refine kP H (SR fun _ K1=>ak K1 rfl (SR fun _ K2=>Rm rfl ?_));clear H K1;intro a H;refine s_call TH H wn rfl (find_spec _ _ H.ro k) rfl ?_;clear H;rintro v9 G9 a w rfl xK H;dsimp only [ji.cells] at H;refine kH H (Rm rfl ?_);clear H;intro a H;(iterate 2 refine kN H wn rfl rfl rfl ?_;clear H;intro a H);refine eB sw H wn rfl ?_;clear H;intro b5 a w hb5 H;refine bH sw 0 (vs:=[_,_,_,_,_,_]) _ H wn rfl rfl rfl rfl rfl rfl rfl rfl ?_;clear H;intro w H;dsimp only [List.set,setRow] at H;refine kH H (ak K2 rfl (SQ fun _ K3=>?_));clear H K2;intro a H
 by_cases c0:(lN k).2=true
 ·skip
  have oD:∀ (bT:Nat) (v:aj) (G G':GH),(∀ k o,G k=some o→G' k=some o)→(fun (bT:Nat) (v:aj) (G:GH)=>match bT with|0=>v=.bool (lN k).2|1=>v=.bool (decide ((lN k).2=true))|2=>v=vi e|3=>(lN k).2=true→av G (.sl 1 ((dJ e).map fun k=>[li k])) v|4=>v=(aJ b5 1)|5=>v=vi (lN k).1.yZ|6=>v=.bool (decide ((lN k).1.yZ∈dJ e))|7=>v=.bool (yX e k)|_=>True) bT v G→(fun (bT:Nat) (v:aj) (G:GH)=>match bT with|0=>v=.bool (lN k).2|1=>v=.bool (decide ((lN k).2=true))|2=>v=vi e|3=>(lN k).2=true→av G (.sl 1 ((dJ e).map fun k=>[li k])) v|4=>v=(aJ b5 1)|5=>v=vi (lN k).1.yZ|6=>v=.bool (decide ((lN k).1.yZ∈dJ e))|7=>v=.bool (yX e k)|_=>True) bT v G':=by
   intro bT v G G' hm h
   match bT,h with
   | 0,h=>exact h
   | 1,h=>exact h
   | 2,h=>exact h
   | 3,h=>exact fun hf=>(h hf).mono hm
   | 4,h=>exact h
   | 5,h=>exact h
   | 6,h=>exact h
   | 7,h=>exact h
   | 8,h=>exact trivial
   | _+9,h=>exact trivial
  refine BK (hmx) [[],[0],[0,1],[0,1,2],[0,1],[0,1,4],(ra 0 6),(ra 0 7),(ra 0 8)] [8] (by kernel_rfl) (by kernel_rfl) (fun (bT:Nat) (v:aj) (G:GH)=>match bT with|0=>v=.bool (lN k).2|1=>v=.bool (decide ((lN k).2=true))|2=>v=vi e|3=>(lN k).2=true→av G (.sl 1 ((dJ e).map fun k=>[li k])) v|4=>v=(aJ b5 1)|5=>v=vi (lN k).1.yZ|6=>v=.bool (decide ((lN k).1.yZ∈dJ e))|7=>v=.bool (yX e k)|_=>True) oD H ?_ ?_
  ·clear H;refine aF ?_ ?_ ?_ ?_ (aF ?_ ?_ ?_ ?_ (aS (bK rfl) bX))
   ·refine dQ [] rfl trivial (by kernel_rfl) oD rfl rfl ?_;intro bR a w G1 hG HT H fin;exact kH H (Rm rfl fun _ H=>fin H iJ rfl)
   ·refine dQ [(0,12,_)] rfl ⟨fun _ _ h=>h,aD⟩ (by kernel_rfl) oD rfl rfl ?_;intro bR a w G1 hG HT H fin;refine kH H (Rm rfl ?_);clear H;intro a H;exact fin H iJ (by simp)
   ·refine dQ [(1,13,_)] rfl ⟨fun _ _ h=>h,aD⟩ (by kernel_rfl) oD rfl rfl ?_;intro bR a w G1 hG HT H fin;exact kH H (YM (aB c0) rfl fun _ H=>fin H iJ rfl)
   ·refine dQ [(2,14,_),(1,13,_)] rfl ⟨fun _ _ h=>h,fun _ _ h=>h,aD⟩ (by kernel_rfl) oD rfl rfl ?_;intro bR a w G1 hG HT H fin;refine s_call acp H (wg H rfl rfl (aB c0)) rfl (aeM _ _ H.ro e) rfl ?_;clear H;rintro v15 BD a w qy Ao H;exact fin H Ao (by first|exact fun _=>qy|rfl)
   ·refine dQ [(1,13,_)] rfl ⟨fun _ _ h=>h,aD⟩ (by kernel_rfl) oD rfl rfl ?_;intro bR a w G1 hG HT H fin;exact kH H (YF aee (aB c0) rfl fun _ H=>fin H iJ rfl)
   ·refine dQ [(4,16,_),(1,13,_)] rfl ⟨fun _ _ h=>h,fun _ _ h=>h,aD⟩ (by kernel_rfl) oD rfl rfl ?_;intro bR a w G1 hG HT H fin;exact kH H (YO aC 0 (aB c0) rfl fun _ H=>fin H iJ rfl)
   ·intro bR a w G1 _ bS hc hG HT hv;have H:=HT;clear bS;obtain ⟨u15,Pg,qy⟩:=hv 3 15 (hc 3 (by decide)) rfl;(try dsimp only at qy);have H:=H.kI Pg;have H:=H.aR (hv 5 17 (hc 5 (by decide)) rfl) rfl;have H:=H.aR (hv 1 13 (hc 1 (by decide)) rfl) rfl;have Hb:=H.full;have H:=Hb;clear hc;refine s_call aco H (wg H rfl rfl (aB c0)) rfl (abq _ _ H.ro _ _ _ (qy c0)) rfl ?_;clear H;rintro v18 Q5 a w rfl NZ H;refine aH ⟨rfl,?_⟩;exact ku (by kernel_rfl) oD rfl rfl HT Hb hG hv NZ (rfl) H
   refine dQ [(1,13,_),(6,18,_)] rfl ⟨fun _ _ h=>h,fun _ _ h=>h,aD⟩ (by kernel_rfl) oD rfl rfl ?_;intro bR a w G1 hG HT H fin;refine kH H (Pt (aB c0) rfl ?_);clear H;intro a H;exact fin H iJ (by unfold yX;simp_all)
  clear H;intro a w G Ap H hv;have H:=H.aR (hv 7 19 rfl rfl) rfl;clear hv;refine kH H (Ra rfl ?_);clear H;intro a H;refine aH ⟨rfl,?_⟩;refine K3 _ _ ?_;clear K3;refine lr H results125 rfl ?_;exact H.rt rfl
 skip;refine dI hmx [[],[0],[0,1],[0,1,2],[0,1],[0,1,4],(ra 0 6),(ra 0 7),(ra 0 8)] [8] (by kernel_rfl) [_,.bool (decide ((lN k).2=true)),undef,undef,undef,undef,undef,.bool (yX e k)] H (aF (Z0 rfl (Rm rfl)) ?_ (aL (j:=1) (by kernel_rfl) (fun _ _ _ _ _ h=>h) rfl rfl rfl rfl rfl (fun _ _ h=>aM h (aG (aO c0))) rfl (fun _=>rfl)) ?_ (aF (aL (j:=1) (by kernel_rfl) (fun _ _ _ _ _ h=>h) rfl rfl rfl rfl rfl (fun _ _ h=>aM h (aG (aO c0))) rfl (fun _=>rfl)) (aL (j:=1) (by kernel_rfl) (fun _ _ _ _ _ h=>h) rfl rfl rfl rfl rfl (fun _ _ h=>aM h (aG (aO c0))) rfl (fun _=>rfl)) (aL (j:=1) (by kernel_rfl) (fun _ _ _ _ _ h=>h) rfl rfl rfl rfl rfl (fun _ _ h=>aM h (aG (aO c0))) rfl (fun _=>rfl)) ?_ (aS (bK rfl) bX))) ?_
 ·refine dR 0 12 rfl rfl fun _ a w G1 hG HT H fin=>?_;refine kH H (Rm rfl ?_);clear H;intro a H;exact fin H iJ (by show _=_;simp)
 ·intro bR a w G1 _ bS hc hG HT hv;have H:=HT;clear bS;have H:=H.aR (hv 2 14 (hc 2 (by decide)) rfl) rfl;have H:=H.aR (hv 1 13 (hc 1 (by decide)) rfl) rfl;have Hb:=H.full;have H:=Hb;clear hc;refine kH H (Ks (aO c0) rfl ?_);clear H;intro a H;refine aH ⟨rfl,?_⟩;exact ku (by kernel_rfl) (fun _ _ _ _ _ h=>h) rfl rfl HT Hb hG hv (fun _ _ h=>h) (by first|exact fun _=>qy|rfl) H
 ·refine dG 1 13 6 18 rfl rfl fun _ a w G1 hG HT H fin=>?_;refine kH H (Pf (aO c0) rfl ?_);clear H;intro a H;exact fin H iJ (by show _=_;unfold yX;simp_all)
 clear H;intro a w G Ap H hv;have H:=H.aR (hv 7 19 rfl rfl) rfl;clear hv;refine kH H (Ra rfl ?_);clear H;intro a H;refine aH ⟨rfl,?_⟩;refine K3 _ _ ?_;clear K3;refine lr H results125 rfl ?_;exact H.rt rfl
def tY (k v:Int):Int:=if (lN k).2=false then 4 else if v < (lN k).1.low∨(lN k).1.high < v then 5 else 0
theorem MQ (G:GH) (w0:World) (hG:Hold G w0) (k x:Int):Calls prog 126 #[vi k,vi x] w0 (bE w0 G fun u G'=>u=vi (tY k x)):=by
 refine eN [(0,_),(1,_)] func126 rfl ntmps126 rfl rfl hG ?_;intro a H;refine kP H (SR fun _ K1=>ak K1 rfl (SR fun _ K2=>Rm rfl ?_));clear H K1;intro a H;refine s_call TH H wn rfl (find_spec _ _ H.ro k) rfl ?_;clear H;rintro v9 G9 a w rfl xK H;dsimp only [ji.cells] at H;refine kH H (Rm rfl ?_);clear H;intro a H;(iterate 2 refine kN H wn rfl rfl rfl ?_;clear H;intro a H);refine eB sw H wn rfl ?_;clear H;intro b5 a w hb5 H;refine bH sw 0 (vs:=[_,_,_,_,_,_]) _ H wn rfl rfl rfl rfl rfl rfl rfl rfl ?_;clear H;intro w H;dsimp only [List.set,setRow] at H;refine kH H (ak K2 rfl (SQ fun _ K3=>SB (SR fun _ K4=>Rm rfl (Rn rfl (ak K4 rfl (Cd rfl ?_ ?_)))))) <;> clear H K2 K4
 ·intro h12 a H
  try have qX:=dT h12
  exact kP H (SR fun _ K5=>ak K5 rfl (LR results126 rfl fun H=>H.rt (by unfold tY;simp_all)))
 intro h12 a H
 try have qX:=dF h12
 refine kP H (SR fun _ K6=>Rm rfl (aP aef aC 0 rfl rfl (Rc rfl (Rm rfl (Sp 20 rfl ?_ ?_))))) <;> clear H
 ·intro h20 a H
  try have Ef:=dT h20
  exact kH H (aQ h20 rfl (aQ h20 rfl (Pt h20 rfl (ak K6 rfl (Ct rfl rfl (SR fun _ K7=>ak K7 rfl (LR results126 rfl fun H=>H.rt (by unfold tY;simp_all))))))))
 intro h20 a H
 try have Ef:=dF h20
 refine kH H (YM h20 rfl (YF aeg h20 rfl (YO aC 0 h20 rfl (YC h20 rfl (Pf h20 rfl (ak K6 rfl (Cd rfl ?_ ?_))))))) <;> clear H K6
 ·intro mg a H
  try have qY:=dT mg
  exact kP H (SR fun _ K8=>ak K8 rfl (LR results126 rfl fun H=>H.rt (by unfold tY;simp_all)))
 intro mg a H
 try have qY:=dF mg
 exact kP H (Kc K3 (SR fun _ K9=>ak K9 rfl (LR results126 rfl fun H=>H.rt (by unfold tY;simp_all))))
end
section
open Go.RowKit
theorem uV:bW prog 187 0 0:=⟨by kernel_rfl⟩
theorem TF:∀ args w,(callFunc 125 args).run prog w=.ok (.enter 125 args) w:=enters func125 rfl (by kernel_rfl)
theorem Um:bW prog 187 1 1:=⟨by kernel_rfl⟩
theorem Nc:∀ args w,(callFunc 126 args).run prog w=.ok (.enter 126 args) w:=enters func126 rfl (by kernel_rfl)
def Fv (q:Option Int) (k:Int):Bool:=match q with|some j=>decide (k < j)|none=>false
def zY (e:Int):Option Int→List iF→Int
 | _,[]=>0
 | q,p :: r=>if yX e p.key=false then 4 else if q=some p.key then 7 else if Fv q p.key=true then 6 else if tY p.key p.value=0 then zY e (some p.key) r else tY p.key p.value
def xZ (l:List iF) (k:Nat):Option Int:=if k=0 then none else l[k - 1]?.map iF.key
def gM (e:Int) (l:List iF):Int:=if e < 1∨10 < e then 3 else zY e none l
theorem aaV {e:Int} {l:List iF} {k:Nat} (h:k < l.length):zY e (xZ l k) (l.drop k)=if yX e l[k].key=false then 4 else if xZ l k=some l[k].key then 7 else if Fv (xZ l k) l[k].key=true then 6 else if tY l[k].key l[k].value=0 then zY e (xZ l (k+1)) (l.drop (k+1)) else tY l[k].key l[k].value:=by
 rw [lW h,zY]
 have:xZ l (k+1)=some l[k].key:=by rw [xZ,ah (by omega),Nat.add_sub_cancel,gY h];rfl
 rw [this]
theorem KM {l:List iF} {k:Nat} (h:k=0):xZ l k=none:=au h
theorem Xi (G:GH) (w0:World) (hG:Hold G w0) (e:Int) (l:List iF) (v:aj) (hv:av G (.sl 2 (l.map iF.dat)) v) :
  Calls prog 90 #[vi e,v] w0 (bE w0 G fun u G'=>u=vi (gM e l)):=by
 obtain ⟨A,c,rfl,hc1,hc2,-⟩:=hv.slice;have hml:maxLen=9223372036854775807:=rfl;rw [bQ] at *;refine eN [(0,_),(1,_)] func90 rfl ntmps90 rfl rfl hG ?_;intro a H;refine kP H (SR fun _ K1=>ak K1 rfl (SQ fun _ K2=>SR fun _ K3=>Rm rfl (Rc rfl (Rm rfl (Sp 10 rfl ?_ ?_))))) <;> clear H K1
 ·intro h10 a H
  try have mD:=dT h10
  refine kH H (aQ h10 rfl (Pt h10 rfl (Kz K3 (Ct rfl rfl (SR fun _ K4=>ak K4 rfl ?_)))));clear H K3 K4;intro a H;refine lr H results90 rfl ?_
  first
   | exact H.rt (ay vi (by rw [ah (by simpa using p61)] at heq;rw [gM,ah (by omega)];exact heq))
   | exact H.rt (ay vi (by rw [au (by simpa using h21)] at heq;rw [gM,ah (by omega)];exact heq))
   | exact H.rt (ay vi (by rw [gM,ah (by omega)];exact heq))
   | exact H.rt (ay vi (by rw [gM,ah (by omega),← heq,show l.drop k=[] from iK (by omega)];rfl))
   | exact H.rt (ay vi (by rw [gM,au (by omega)]))
 intro h10 a H
 try have mD:=dF h10
 refine kH H (YM h10 rfl (YC h10 rfl (Pf h10 rfl (Kz K3 (Cd rfl ?_ ?_))))) <;> clear H K3
 ·intro gy a H
  try have qC:=dT gy
  refine kP H (SR fun _ K5=>ak K5 rfl ?_);clear H K5;intro a H;refine lr H results90 rfl ?_
  first
   | exact H.rt (ay vi (by rw [ah (by simpa using p61)] at heq;rw [gM,ah (by omega)];exact heq))
   | exact H.rt (ay vi (by rw [au (by simpa using h21)] at heq;rw [gM,ah (by omega)];exact heq))
   | exact H.rt (ay vi (by rw [gM,ah (by omega)];exact heq))
   | exact H.rt (ay vi (by rw [gM,ah (by omega),← heq,show l.drop k=[] from iK (by omega)];rfl))
   | exact H.rt (ay vi (by rw [gM,au (by omega)]))
 intro gy a H
 try have qC:=dF gy
 refine kP H (Kc K2 (SQ fun _ K6=>SR fun _ K7=>Rm rfl (Rl oQ rfl (Rm rfl (Kz K7 (SB ?_))))));clear H K2 K7;intro a H;skip;refine eT (ι:=Nat × GH) (Tc:=[(0,_),(1,_),(14,_),(15,_)]) (Lc:=[]) (fun gh=>[(16,vi gh.1)]) (fun gh=>[]) (fun gh=>gh.2) (fun gh=>gh.1≤l.length∧zY e (xZ l gh.1) (l.drop gh.1)=zY e none l∧(∀ b o,G b=some o→gh.2 b=some o)) (fun gh=>l.length - gh.1) ((0,G)) (by exact (H).sub ⟨rfl,rfl,rfl,rfl,rfl,aD⟩) ?_ ?_
 ·exact ⟨iy _,rfl,fun _ _ h=>h⟩
 clear H;intro gh a w hI H;obtain ⟨k,g⟩:=gh;dsimp only at hI H;obtain ⟨hk,heq,hgm⟩:=hI;dsimp only [lca,bg] at H;refine kP H (SR fun _ K8=>Rc rfl (Kz K8 (SQ fun _ K9=>Cd rfl ?_ ?_))) <;> clear H K8
 ·intro dV a H
  try have mE:=dT dV
  have hk2:k < l.length:=by omega
  have DT:=hv.mono hgm;obtain ⟨b,o,rfl,hrow⟩:=KO DT hk2
  obtain ⟨pk,hpk⟩:∃ pk,0 < k→aI g b (o+(k - 1)*2+0)=some (vi pk)∧xZ l k=some pk:=by
   by_cases h0:0 < k
   ·obtain ⟨b',o',he,hr'⟩:=KO DT (show k - 1 < l.length by omega)
    injection he with he
    injection he with e1 e2 e3
    subst e1;subst e2;exact ⟨_,fun _=>⟨hr' 0 _ rfl,by rw [xZ,ah (by omega),gY (by omega)];rfl⟩⟩
   exact ⟨0,fun h=>absurd h h0⟩
  rw [aaV hk2] at heq;have alf:=heq;refine kP H (Kc K9 (SQ fun _ aT=>SB (SR fun _ bq=>Rm rfl (Ri oQ nD rfl rfl ?_))));clear H K9;intro a H;refine bD nD (cs:=[_,_]) H wn rfl rfl (fun j v hj=>H.hp.aI (hrow j v hj)) rfl ?_;clear H;intro a H;refine eB nD H wn rfl ?_;clear H;intro b6 a w hb6 H;refine kH H (Ra rfl ?_);clear H;intro a H;refine bH nD 0 (vs:=[_,_]) _ H wn rfl rfl rfl rfl rfl rfl rfl rfl ?_;clear H;intro w H;dsimp only [List.set,setRow] at H;refine bq _ _ ?_;clear bq;refine pF (ι:=GH) (Tc:=[(0,_),(1,_),(6,_),(14,_),(15,_),(16,_)]) (Lc:=[(_,_)]) (fun gh=>[]) (fun gh=>[]) (fun gh=>gh) (fun gh=>(if tY l[k].key l[k].value=0 then zY e (xZ l (k+1)) (l.drop (k+1)) else tY l[k].key l[k].value)=zY e none l∧(∀ b o,g b=some o→gh b=some o)) (by exact (H).sub ⟨rfl,rfl,rfl,rfl,rfl,rfl,aD⟩) ?_ ?_
  ·skip;refine kP H (SB (SR fun _ bF=>Rm rfl (aP uV aC 0 rfl rfl ?_)));clear H;intro a H;refine s_call TF H wn rfl (UA _ _ H.ro e l[k].key) rfl ?_;clear H;rintro v25 Y8 a w rfl DF H;replace hrow:=fun j u hj=>aK DF (hrow j u hj);refine kH H (Rn rfl (ak bF rfl (Cd rfl ?_ ?_))) <;> clear H bF
   ·intro h21 a H
    try have pV:=dT h21
    refine kP H (SR fun _ bJ=>ak bJ rfl ?_);clear H bJ;intro a H;refine lr H results90 rfl ?_
    first
     | exact H.rt (ay vi (by rw [ah (by simpa using p61)] at heq;rw [gM,ah (by omega)];exact heq))
     | exact H.rt (ay vi (by rw [au (by simpa using h21)] at heq;rw [gM,ah (by omega)];exact heq))
     | exact H.rt (ay vi (by rw [gM,ah (by omega)];exact heq))
     | exact H.rt (ay vi (by rw [gM,ah (by omega),← heq,show l.drop k=[] from iK (by omega)];rfl))
     | exact H.rt (ay vi (by rw [gM,au (by omega)]))
   intro h21 a H
   try have pV:=dF h21
   rw [ah (by simpa using h21)] at heq;refine bA (fun _ bN=>?_)
   by_cases c0:0 < (k:Int)
   ·skip
    by_cases c1:l[k].key=pk
    ·skip;refine dI hmx [[],[0],[0,1],[0,1,2],(ra 0 4),[0,1,2],[0,1,2],[0,1,2,6],[0,1,2,5,6,7],[0,1,2,5,6,7,8],[0,1,2,5,6,7,8,9],(ra 0 11),(ra 0 12),(ra 0 13)] [13] (by kernel_rfl) [_,_,_,_,vi l[k].key,_,_,vi ((k - 1:Nat):Int),_,_,_,_,_] H (aF (Z0 rfl (Rm rfl)) (Z1 0 28 rfl (Rc rfl)) (Z1 1 29 rfl (Rm rfl)) (Z1 2 30 rfl (YF uV (aB c0) rfl)) (aF (Z2 3 31 2 30 rfl (YO aC 0 (aB c0) rfl)) (Z1 2 30 rfl (YM (aB c0) rfl)) (Z1 2 30 rfl (YM (aB c0) rfl)) ?_ (aF (Z3 5 33 7 35 2 30 rfl (YI oQ nD (aB c0) rfl rfl)) (Z2 8 36 2 30 rfl (YF uV (aB c0) rfl)) (X2 9 37 2 30 rfl fun hG=>YR aC (aB c0) rfl (aK hG (aK DF (hpk (by omega)).1))) (Z3 4 32 10 38 2 30 rfl (YC (aB c0) rfl)) (aS (Z2 2 30 11 39 rfl (Pt (aB c0) rfl)) (aS (bK rfl) bX))))) ?_
     ·refine dG 6 34 2 30 rfl rfl fun _ a w G1 hG HT H fin=>?_;refine mR _ H (wg H rfl rfl (aB c0)) rfl rfl rfl (by omega) (by omega) rfl ?_;clear H;intro a H;exact fin H iJ (by show _=_;first|rfl|exact ay vi (by omega))
     clear H;intro a w G qp H hv;have H:=H.aR (hv 12 40 rfl rfl) rfl;clear hv;refine kH H (Ra rfl ?_);clear H;intro a H;refine aH ⟨rfl,?_⟩;refine bN _ _ ?_;clear bN;refine uQ H rfl (aB c1) ?_;refine bA (fun _ cK=>?_);rw [au (by rw [(hpk (by omega)).2,c1])] at heq;refine kP H (SC (aU cK rfl ?_));clear H cK;intro a H;refine lr H results90 rfl ?_
     first
      | exact H.rt (ay vi (by rw [ah (by simpa using p61)] at heq;rw [gM,ah (by omega)];exact heq))
      | exact H.rt (ay vi (by rw [au (by simpa using h21)] at heq;rw [gM,ah (by omega)];exact heq))
      | exact H.rt (ay vi (by rw [gM,ah (by omega)];exact heq))
      | exact H.rt (ay vi (by rw [gM,ah (by omega),← heq,show l.drop k=[] from iK (by omega)];rfl))
      | exact H.rt (ay vi (by rw [gM,au (by omega)]))
    skip;refine dI hmx [[],[0],[0,1],[0,1,2],(ra 0 4),[0,1,2],[0,1,2],[0,1,2,6],[0,1,2,5,6,7],[0,1,2,5,6,7,8],[0,1,2,5,6,7,8,9],(ra 0 11),(ra 0 12),(ra 0 13)] [13] (by kernel_rfl) [_,_,_,_,vi l[k].key,_,_,vi ((k - 1:Nat):Int),_,_,_,_,_] H (aF (Z0 rfl (Rm rfl)) (Z1 0 28 rfl (Rc rfl)) (Z1 1 29 rfl (Rm rfl)) (Z1 2 30 rfl (YF uV (aB c0) rfl)) (aF (Z2 3 31 2 30 rfl (YO aC 0 (aB c0) rfl)) (Z1 2 30 rfl (YM (aB c0) rfl)) (Z1 2 30 rfl (YM (aB c0) rfl)) ?_ (aF (Z3 5 33 7 35 2 30 rfl (YI oQ nD (aB c0) rfl rfl)) (Z2 8 36 2 30 rfl (YF uV (aB c0) rfl)) (X2 9 37 2 30 rfl fun hG=>YR aC (aB c0) rfl (aK hG (aK DF (hpk (by omega)).1))) (Z3 4 32 10 38 2 30 rfl (YC (aB c0) rfl)) (aS (Z2 2 30 11 39 rfl (Pt (aB c0) rfl)) (aS (bK rfl) bX))))) ?_
    ·refine dG 6 34 2 30 rfl rfl fun _ a w G1 hG HT H fin=>?_;refine mR _ H (wg H rfl rfl (aB c0)) rfl rfl rfl (by omega) (by omega) rfl ?_;clear H;intro a H;exact fin H iJ (by show _=_;first|rfl|exact ay vi (by omega))
    clear H;intro a w G qp H hv;have H:=H.aR (hv 12 40 rfl rfl) rfl;clear hv;refine kH H (Ra rfl ?_);clear H;intro a H;refine aH ⟨rfl,?_⟩;refine bN _ _ ?_;clear bN;refine kS H rfl (aO c1) ?_;refine bA (fun _ dw=>?_)
    have q1:¬ (0 < (k:Int)∧l[k].key=pk):=by first|exact fun h=>c1 h.2|exact fun h=>c0 h.1
    rw [ah (fun h=>q1 (by
     by_cases h0:0 < k
     ·rw [(hpk h0).2] at h
      injection h with h
      exact ⟨by omega,h.symm⟩
     rw [KM (by omega)] at h
     cases h))] at heq
    by_cases c3:l[k].key < pk
    ·skip;refine dI hmx [[],[0],[0,1],[0,1,2],(ra 0 4),[0,1,2],[0,1,2],[0,1,2,6],[0,1,2,5,6,7],[0,1,2,5,6,7,8],[0,1,2,5,6,7,8,9],(ra 0 11),(ra 0 12),(ra 0 13)] [13] (by kernel_rfl) [_,_,_,_,vi l[k].key,_,_,vi ((k - 1:Nat):Int),_,_,vi pk,_,_] H (aF (Z0 rfl (Rm rfl)) (Z1 0 42 rfl (Rc rfl)) (Z1 1 43 rfl (Rm rfl)) (Z1 2 44 rfl (YF uV (aB c0) rfl)) (aF (Z2 3 45 2 44 rfl (YO aC 0 (aB c0) rfl)) (Z1 2 44 rfl (YM (aB c0) rfl)) (Z1 2 44 rfl (YM (aB c0) rfl)) ?_ (aF (Z3 5 47 7 49 2 44 rfl (YI oQ nD (aB c0) rfl rfl)) (Z2 8 50 2 44 rfl (YF uV (aB c0) rfl)) ?_ (Z3 4 46 10 52 2 44 rfl (YC (aB c0) rfl)) (aS (Z2 2 44 11 53 rfl (Pt (aB c0) rfl)) (aS (bK rfl) bX))))) ?_
     ·refine dG 6 48 2 44 rfl rfl fun _ a w G1 hG HT H fin=>?_;refine mR _ H (wg H rfl rfl (aB c0)) rfl rfl rfl (by omega) (by omega) rfl ?_;clear H;intro a H;exact fin H iJ (by show _=_;first|rfl|exact ay vi (by omega))
     ·refine dG 9 51 2 44 rfl rfl fun _ a w G1 hG HT H fin=>?_;refine vF aC H (wg H rfl rfl (aB c0)) rfl (H.hp.aI (aK hG (aK qp (aK DF (hpk (by omega)).1)))) rfl ?_;clear H;intro a H;exact fin H iJ rfl
     clear H;intro a w G oJ H hv;have H:=H.aR (hv 12 54 rfl rfl) rfl;clear hv;refine kH H (Ra rfl ?_);clear H;intro a H;refine aH ⟨rfl,?_⟩;refine dw _ _ ?_;clear dw;refine uQ H rfl (aB c3) ?_;refine bA (fun _ bY=>?_);rw [au (by rw [(hpk (by omega)).2];exact aB c3)] at heq;refine kP H (SC (aU bY rfl ?_));clear H bY;intro a H;refine lr H results90 rfl ?_
     first
      | exact H.rt (ay vi (by rw [ah (by simpa using p61)] at heq;rw [gM,ah (by omega)];exact heq))
      | exact H.rt (ay vi (by rw [au (by simpa using h21)] at heq;rw [gM,ah (by omega)];exact heq))
      | exact H.rt (ay vi (by rw [gM,ah (by omega)];exact heq))
      | exact H.rt (ay vi (by rw [gM,ah (by omega),← heq,show l.drop k=[] from iK (by omega)];rfl))
      | exact H.rt (ay vi (by rw [gM,au (by omega)]))
    skip;refine dI hmx [[],[0],[0,1],[0,1,2],(ra 0 4),[0,1,2],[0,1,2],[0,1,2,6],[0,1,2,5,6,7],[0,1,2,5,6,7,8],[0,1,2,5,6,7,8,9],(ra 0 11),(ra 0 12),(ra 0 13)] [13] (by kernel_rfl) [_,_,_,_,vi l[k].key,_,_,vi ((k - 1:Nat):Int),_,_,vi pk,_,_] H (aF (Z0 rfl (Rm rfl)) (Z1 0 42 rfl (Rc rfl)) (Z1 1 43 rfl (Rm rfl)) (Z1 2 44 rfl (YF uV (aB c0) rfl)) (aF (Z2 3 45 2 44 rfl (YO aC 0 (aB c0) rfl)) (Z1 2 44 rfl (YM (aB c0) rfl)) (Z1 2 44 rfl (YM (aB c0) rfl)) ?_ (aF (Z3 5 47 7 49 2 44 rfl (YI oQ nD (aB c0) rfl rfl)) (Z2 8 50 2 44 rfl (YF uV (aB c0) rfl)) ?_ (Z3 4 46 10 52 2 44 rfl (YC (aB c0) rfl)) (aS (Z2 2 44 11 53 rfl (Pt (aB c0) rfl)) (aS (bK rfl) bX))))) ?_
    ·refine dG 6 48 2 44 rfl rfl fun _ a w G1 hG HT H fin=>?_;refine mR _ H (wg H rfl rfl (aB c0)) rfl rfl rfl (by omega) (by omega) rfl ?_;clear H;intro a H;exact fin H iJ (by show _=_;first|rfl|exact ay vi (by omega))
    ·refine dG 9 51 2 44 rfl rfl fun _ a w G1 hG HT H fin=>?_;refine vF aC H (wg H rfl rfl (aB c0)) rfl (H.hp.aI (aK hG (aK qp (aK DF (hpk (by omega)).1)))) rfl ?_;clear H;intro a H;exact fin H iJ rfl
    clear H;intro a w G oJ H hv;have H:=H.aR (hv 12 54 rfl rfl) rfl;clear hv;refine kH H (Ra rfl ?_);clear H;intro a H;refine aH ⟨rfl,?_⟩;refine dw _ _ ?_;clear dw;refine kS H rfl (aO c3) ?_;refine gI ?_;refine ⟨_,by exact (H).sub ⟨rfl,rfl,rfl,rfl,rfl,rfl,aD⟩,?_⟩
    have q2:¬ (0 < (k:Int)∧l[k].key < pk):=by first|exact fun h=>c3 h.2|exact fun h=>c0 h.1
    rw [ah (fun h=>q2 (by
     by_cases h0:0 < k
     ·rw [(hpk h0).2] at h;exact ⟨by omega,om h⟩
     rw [KM (by omega)] at h
     cases h))] at heq
    exact ⟨heq,fun b o h=>oJ b o (qp b o (DF b o h))⟩
   skip;refine dI hmx [[],[0],[0,1],[0,1,2],(ra 0 4),[0,1,2],[0,1,2],[0,1,2,6],[0,1,2,5,6,7],[0,1,2,5,6,7,8],[0,1,2,5,6,7,8,9],(ra 0 11),(ra 0 12),(ra 0 13)] [13] (by kernel_rfl) [_,_,_,undef,undef,undef,undef,undef,undef,undef,undef,undef,_] H (aF (Z0 rfl (Rm rfl)) (Z1 0 28 rfl (Rc rfl)) (Z1 1 29 rfl (Rm rfl)) (aL (j:=2) (by kernel_rfl) (fun _ _ _ _ _ h=>h) rfl rfl rfl rfl rfl (fun _ _ h=>aM h (aG (aO c0))) rfl (fun _=>rfl)) (aF (aL (j:=2) (by kernel_rfl) (fun _ _ _ _ _ h=>h) rfl rfl rfl rfl rfl (fun _ _ h=>aM h (aG (aO c0))) rfl (fun _=>rfl)) (aL (j:=2) (by kernel_rfl) (fun _ _ _ _ _ h=>h) rfl rfl rfl rfl rfl (fun _ _ h=>aM h (aG (aO c0))) rfl (fun _=>rfl)) (aL (j:=2) (by kernel_rfl) (fun _ _ _ _ _ h=>h) rfl rfl rfl rfl rfl (fun _ _ h=>aM h (aG (aO c0))) rfl (fun _=>rfl)) (aL (j:=2) (by kernel_rfl) (fun _ _ _ _ _ h=>h) rfl rfl rfl rfl rfl (fun _ _ h=>aM h (aG (aO c0))) rfl (fun _=>rfl)) (aF (aL (j:=2) (by kernel_rfl) (fun _ _ _ _ _ h=>h) rfl rfl rfl rfl rfl (fun _ _ h=>aM h (aG (aO c0))) rfl (fun _=>rfl)) (aL (j:=2) (by kernel_rfl) (fun _ _ _ _ _ h=>h) rfl rfl rfl rfl rfl (fun _ _ h=>aM h (aG (aO c0))) rfl (fun _=>rfl)) (aL (j:=2) (by kernel_rfl) (fun _ _ _ _ _ h=>h) rfl rfl rfl rfl rfl (fun _ _ h=>aM h (aG (aO c0))) rfl (fun _=>rfl)) (aL (j:=2) (by kernel_rfl) (fun _ _ _ _ _ h=>h) rfl rfl rfl rfl rfl (fun _ _ h=>aM h (aG (aO c0))) rfl (fun _=>rfl)) (aS (Z2 2 30 11 39 rfl (Pf (aO c0) rfl)) (aS (bK rfl) bX))))) ?_
   clear H;intro a w G qp H hv;have H:=H.aR (hv 12 40 rfl rfl) rfl;clear hv;refine kH H (Ra rfl ?_);clear H;intro a H;refine aH ⟨rfl,?_⟩;refine bN _ _ ?_;clear bN;refine kS H rfl rfl ?_;refine bA (fun _ dz=>?_)
   have q1:¬ (0 < (k:Int)∧l[k].key=pk):=by first|exact fun h=>c1 h.2|exact fun h=>c0 h.1
   rw [ah (fun h=>q1 (by
    by_cases h0:0 < k
    ·rw [(hpk h0).2] at h
     injection h with h
     exact ⟨by omega,h.symm⟩
    rw [KM (by omega)] at h
    cases h))] at heq
   refine dI hmx [[],[0],[0,1],[0,1,2],(ra 0 4),[0,1,2],[0,1,2],[0,1,2,6],[0,1,2,5,6,7],[0,1,2,5,6,7,8],[0,1,2,5,6,7,8,9],(ra 0 11),(ra 0 12),(ra 0 13)] [13] (by kernel_rfl) [_,_,_,undef,undef,undef,undef,undef,undef,undef,undef,undef,_] H (aF (Z0 rfl (Rm rfl)) (Z1 0 42 rfl (Rc rfl)) (Z1 1 43 rfl (Rm rfl)) (aL (j:=2) (by kernel_rfl) (fun _ _ _ _ _ h=>h) rfl rfl rfl rfl rfl (fun _ _ h=>aM h (aG (aO c0))) rfl (fun _=>rfl)) (aF (aL (j:=2) (by kernel_rfl) (fun _ _ _ _ _ h=>h) rfl rfl rfl rfl rfl (fun _ _ h=>aM h (aG (aO c0))) rfl (fun _=>rfl)) (aL (j:=2) (by kernel_rfl) (fun _ _ _ _ _ h=>h) rfl rfl rfl rfl rfl (fun _ _ h=>aM h (aG (aO c0))) rfl (fun _=>rfl)) (aL (j:=2) (by kernel_rfl) (fun _ _ _ _ _ h=>h) rfl rfl rfl rfl rfl (fun _ _ h=>aM h (aG (aO c0))) rfl (fun _=>rfl)) (aL (j:=2) (by kernel_rfl) (fun _ _ _ _ _ h=>h) rfl rfl rfl rfl rfl (fun _ _ h=>aM h (aG (aO c0))) rfl (fun _=>rfl)) (aF (aL (j:=2) (by kernel_rfl) (fun _ _ _ _ _ h=>h) rfl rfl rfl rfl rfl (fun _ _ h=>aM h (aG (aO c0))) rfl (fun _=>rfl)) (aL (j:=2) (by kernel_rfl) (fun _ _ _ _ _ h=>h) rfl rfl rfl rfl rfl (fun _ _ h=>aM h (aG (aO c0))) rfl (fun _=>rfl)) (aL (j:=2) (by kernel_rfl) (fun _ _ _ _ _ h=>h) rfl rfl rfl rfl rfl (fun _ _ h=>aM h (aG (aO c0))) rfl (fun _=>rfl)) (aL (j:=2) (by kernel_rfl) (fun _ _ _ _ _ h=>h) rfl rfl rfl rfl rfl (fun _ _ h=>aM h (aG (aO c0))) rfl (fun _=>rfl)) (aS (Z2 2 44 11 53 rfl (Pf (aO c0) rfl)) (aS (bK rfl) bX))))) ?_
   clear H;intro a w G oJ H hv;have H:=H.aR (hv 12 54 rfl rfl) rfl;clear hv;refine kH H (Ra rfl ?_);clear H;intro a H;refine aH ⟨rfl,?_⟩;refine dz _ _ ?_;clear dz;refine kS H rfl rfl ?_;refine gI ?_;refine ⟨_,by exact (H).sub ⟨rfl,rfl,rfl,rfl,rfl,rfl,aD⟩,?_⟩
   have q2:¬ (0 < (k:Int)∧l[k].key < pk):=by first|exact fun h=>c3 h.2|exact fun h=>c0 h.1
   rw [ah (fun h=>q2 (by
    by_cases h0:0 < k
    ·rw [(hpk h0).2] at h;exact ⟨by omega,om h⟩
    rw [KM (by omega)] at h
    cases h))] at heq
   exact ⟨heq,fun b o h=>oJ b o (qp b o (DF b o h))⟩
  clear H;intro gh a w hI H;obtain ⟨g2,hgh⟩:∃ x,x=gh:=⟨_,rfl⟩;subst hgh;obtain ⟨heq,oL⟩:=hI;replace hrow:=fun j u hj=>aK oL (hrow j u hj);dsimp only [lca,bg] at H;refine kP H (SR fun _ fC=>aP uV aC 0 rfl rfl (aP Um aC 0 rfl rfl ?_));clear H;intro a H;refine s_call Nc H wn rfl (MQ _ _ H.ro l[k].key l[k].value) rfl ?_;clear H;rintro v59 Zi a w rfl afS H;refine kH H (ak fC rfl (SR fun _ dN=>Rm rfl (Rc rfl (Kz dN (Cd rfl ?_ ?_))))) <;> clear H fC dN
  ·intro pO a H
   try have p61:=dT pO
   refine kP H (SR fun _ fQ=>Rm rfl (ak fQ rfl ?_));clear H fQ;intro a H;refine lr H results90 rfl ?_
   first
    | exact H.rt (ay vi (by rw [ah (by simpa using p61)] at heq;rw [gM,ah (by omega)];exact heq))
    | exact H.rt (ay vi (by rw [au (by simpa using h21)] at heq;rw [gM,ah (by omega)];exact heq))
    | exact H.rt (ay vi (by rw [gM,ah (by omega)];exact heq))
    | exact H.rt (ay vi (by rw [gM,ah (by omega),← heq,show l.drop k=[] from iK (by omega)];rfl))
    | exact H.rt (ay vi (by rw [gM,au (by omega)]))
  intro pO a H
  try have p61:=dF pO
  refine kP H (Kc aT (SC (Rd rfl (Rm rfl ?_))));clear H aT;intro a H;refine aH ?_;refine cu ((k+1,Zi)) (by exact (H.dK (Pl:=[_]) (cB:=[]) [] (by decide) rfl).sub ⟨rfl,rfl,rfl,rfl,rfl,aD⟩) ?_ ?_
  ·(try dsimp only);exact ⟨by omega,by rw [au (by simpa using p61)] at heq;exact heq,fun b o h=>afS b o (oL b o (hgm b o h))⟩
  first|omega|(dsimp only;omega)
 intro dV a H
 try have mE:=dF dV
 refine dU ?_;refine K6 _ _ ?_;clear K6;refine kP H (SR fun _ iq=>ak iq rfl ?_);clear H iq;intro a H;refine lr H results90 rfl ?_
 first
  | exact H.rt (ay vi (by rw [ah (by simpa using p61)] at heq;rw [gM,ah (by omega)];exact heq))
  | exact H.rt (ay vi (by rw [au (by simpa using h21)] at heq;rw [gM,ah (by omega)];exact heq))
  | exact H.rt (ay vi (by rw [gM,ah (by omega)];exact heq))
  | exact H.rt (ay vi (by rw [gM,ah (by omega),← heq,show l.drop k=[] from iK (by omega)];rfl))
  | exact H.rt (ay vi (by rw [gM,au (by omega)]))
end
section
open Go.RowKit
theorem gK:Ty prog 56 1 8 [.int .i64 0] false:=⟨by kernel_rfl,by kernel_rfl⟩
theorem oF:prog.underlying 168=some (.slice 56):=by kernel_rfl
theorem uU:∀ args w,(callFunc 89 args).run prog w=.ok (.enter 89 args) w:=enters func89 rfl (by kernel_rfl)
theorem vv (G:GH) (w0:World) (hG:Hold G w0) (n l h:Int):Calls prog 89 #[vi n,vi l,vi h] w0 (bE w0 G fun u G'=>u=.bool (decide (l≤n∧n≤h))∧G=G'):=by
 refine eN [(0,_),(1,_),(2,_)] func89 rfl ntmps89 rfl rfl hG ?_;intro a H;refine kP H (SR fun _ K1=>ak K1 rfl (SR fun _ K2=>Rm rfl (Rm rfl (Rc rfl (Rm rfl (Sp 10 rfl ?_ ?_)))))) <;> clear H K1
 ·intro h10 a H
  try have mD:=dT h10
  exact kH H (YM h10 rfl (YM h10 rfl (YC h10 rfl (Pt h10 rfl (ak K2 rfl (LR results89 rfl fun H=>H.rt ⟨aG (by first|(simp_all;done)|(simp_all;omega)),rfl⟩))))))
 intro h10 a H
 try have mD:=dF h10
 exact kH H (aX h10 rfl (Pf h10 rfl (ak K2 rfl (LR results89 rfl fun H=>H.rt ⟨aG (by first|(simp_all;done)|(simp_all;omega)),rfl⟩))))
def bV (b:Bool) (e:Int):Int:=if b=true then e else 0
theorem iZ (G:GH) (w0:World) (hG:Hold G w0) (b:Bool) (e:Int):Calls prog 59 #[.bool b,vi e] w0 (bE w0 G fun u G'=>u=vi (bV b e)∧G=G'):=by
 refine eN [(0,_),(1,_)] func59 rfl ntmps59 rfl rfl hG ?_;intro a H;refine kP H (SR fun _ K1=>ak K1 rfl (SQ fun _ K2=>SR fun _ K3=>Rm rfl (Kz K3 (Cd rfl ?_ ?_)))) <;> clear H K1 K3
 ·intro h5 a H
  try have p5:=dT h5
  exact kP H (SR fun _ K4=>Rm rfl (ak K4 rfl (LR results59 rfl fun H=>H.rt ⟨ay vi (by simp_all [bV]),rfl⟩)))
 intro h5 a H
 try have p5:=dF h5
 exact kP H (Kc K2 (SR fun _ K5=>ak K5 rfl (LR results59 rfl fun H=>H.rt ⟨ay vi (by simp_all [bV]),rfl⟩)))
def dH:List Int→Int
 | []=>0
 | e :: r=>if e≠0 then e else dH r
theorem JN {l:List Int} {k:Nat} (h:k < l.length):dH (l.drop k)=if l[k]≠0 then l[k] else dH (l.drop (k+1)):=by
 rw [lW h,dH]
theorem pJ (G:GH) (w0:World) (hG:Hold G w0) (l:List Int) (v:aj) (hv:av G (.sl 1 (l.map fun k=>[li k])) v) :
  Calls prog 54 #[v] w0 (bE w0 G fun u G'=>u=vi (dH l)∧G=G'):=by
 obtain ⟨A,c,rfl,hc1,hc2,hg⟩:=hv.slice;have hml:maxLen=9223372036854775807:=rfl;rw [bQ] at *;refine eN [(0,_)] func54 rfl ntmps54 rfl rfl hG ?_;intro a H;refine kP H (SR fun _ K1=>ak K1 rfl (SQ fun _ K2=>SR fun _ K3=>Rm rfl (Rl oF rfl (Rm rfl (Kz K3 (SB ?_))))));clear H K1 K3;intro a H;skip;refine eT (ι:=Nat) (Tc:=[(5,_),(6,_)]) (Lc:=[]) (fun gh=>[(7,vi gh)]) (fun gh=>[]) (fun gh=>G) (fun gh=>gh≤l.length∧dH (l.drop gh)=dH l) (fun gh=>l.length - gh) (0) (by exact (H).sub ⟨rfl,rfl,rfl,aD⟩) ?_ ?_
 ·exact ⟨iy _,rfl⟩
 clear H;intro gh a w hI H;obtain ⟨k,hgh⟩:∃ x,x=gh:=⟨_,rfl⟩;subst hgh;obtain ⟨hk,he⟩:=hI;dsimp only [lca,bg] at H;refine kP H (SR fun _ K4=>Rc rfl (Kz K4 (SQ fun _ K5=>Cd rfl ?_ ?_))) <;> clear H K4
 ·intro h8 a H
  try have p8:=dT h8
  have hk2:k < l.length:=by omega
  obtain ⟨b,o,cs,rfl,hcl,hrow,hr⟩:=hg k [li l[k]] (by simp [hk2]);obtain ⟨v1,_,rfl,⟨rfl,-⟩,rfl⟩:∃ v vs,cs=v :: vs∧av G (li l[k]) v∧aZ G [] vs:=hr
  have hcell:aI G b (o+k*1)=some (vi l[k]):=by simpa using hrow 0 _ rfl
  refine kP H (Kc K5 (SQ fun _ K6=>SB (SR fun _ K7=>Ri oF gK rfl rfl (Rg gK rfl hcell (ak K7 rfl (SR fun _ K8=>Rm rfl (Rc rfl (Kz K8 (Cd rfl ?_ ?_))))))))) <;> clear H K5 K7 K8
  ·intro h12 a H
   try have qX:=dT h12
   exact kP H (SR fun _ K9=>Rm rfl (ak K9 rfl (LR results54 rfl fun H=>H.rt ⟨ay vi (by rw [JN hk2,au qX] at he;exact he),rfl⟩)))
  intro h12 a H
  try have qX:=dF h12
  refine kP H (Kc K6 (SC (Rd rfl (Rm rfl ?_))));clear H K6;intro a H;refine aH ?_;refine cu ((k+1)) (by exact (H).sub ⟨rfl,rfl,rfl,aD⟩) ?_ ?_
  ·exact ⟨by omega,by rw [JN hk2,ah qX] at he;exact he⟩
  first|omega|(dsimp only;omega)
 intro h8 a H
 try have p8:=dF h8
 refine dU ?_;refine K2 _ _ ?_;clear K2;exact kP H (SR fun _ aT=>ak aT rfl (LR results54 rfl fun H=>H.rt ⟨ay vi (by rw [iK (by omega)] at he;exact he),rfl⟩))
def rG (fv:aj) (Gi:GH) (n:Nat) (E:Nat→Int):Prop:=∀ i,i < n→∀ (G1:GH) (w1:World),(∀ b o,Gi b=some o→G1 b=some o)→Hold G1 w1→tH prog fv [vi i] w1 (bE w1 G1 fun u G'=>u=vi (E i))
theorem rG.mono {fv:aj} {G G':GH} {n:Nat} {E:Nat→Int} (h:rG fv G n E) (hm:∀ b o,G b=some o→G' b=some o):rG fv G' n E:=fun i hi G1 w1 hG1=>h i hi G1 w1 fun b o hb=>hG1 b o (hm b o hb)
def ko (E:Nat→Int) (n:Nat):Int:=dH ((List.range n).map E)
theorem Dg {E:Nat→Int} {n k:Nat} (h:k < n):dH (((List.range n).map E).drop k)=if E k≠0 then E k else dH (((List.range n).map E).drop (k+1)):=by
 rw [JN (by simpa using h)];simp
theorem Gf (G:GH) (w0:World) (hG:Hold G w0) (n:Nat) (E:Nat→Int) (fv:aj) (hn:n≤4611686018427387904) (hf:rG fv G n E) :
  Calls prog 84 #[vi n,fv] w0 (bE w0 G fun u G'=>u=vi (ko E n)):=by
 refine eN [(0,_),(1,_)] func84 rfl ntmps84 rfl rfl hG ?_;intro a H;refine kP H (SR fun _ K1=>ak K1 rfl (SQ fun _ K2=>SR fun _ K3=>Rm rfl (Rm rfl (Kz K3 (SB ?_)))));clear H K1 K3;intro a H;skip;refine eT (ι:=Nat × GH) (Tc:=[(1,_),(7,_)]) (Lc:=[]) (fun gh=>[(8,vi gh.1)]) (fun gh=>[]) (fun gh=>gh.2) (fun gh=>gh.1≤n∧dH (((List.range n).map E).drop gh.1)=ko E n∧(∀ b o,G b=some o→gh.2 b=some o)) (fun gh=>n - gh.1) ((0,G)) (by exact (H).sub ⟨rfl,rfl,rfl,aD⟩) ?_ ?_
 ·exact ⟨iy _,rfl,fun _ _ h=>h⟩
 clear H;intro gh a w hI H;obtain ⟨k,g⟩:=gh;dsimp only at hI H;obtain ⟨hk,he,hgm⟩:=hI;dsimp only [lca,bg] at H;refine kP H (SR fun _ K4=>Rc rfl (Kz K4 (SQ fun _ K5=>Cd rfl ?_ ?_))) <;> clear H K4
 ·intro h9 a H
  try have p9:=dT h9
  have hk2:k < n:=by omega
  refine kP H (Kc K5 (SQ fun _ K6=>SB (SR fun _ K7=>Rm rfl (ak K7 rfl (SR fun _ K8=>Rm rfl (Rm rfl ?_))))));clear H K5 K7;intro a H;refine pX H wn rfl rfl (hf k hk2 _ _ hgm H.ro) rfl ?_;clear H;rintro v13 Eu a w rfl Hw H;refine kH H (ak K8 rfl (SR fun _ K9=>Rm rfl (Rc rfl (Kz K9 (Cd rfl ?_ ?_))))) <;> clear H K8 K9
  ·intro mg a H
   try have qY:=dT mg
   exact kP H (SR fun _ aT=>Rm rfl (ak aT rfl (LR results84 rfl fun H=>H.rt (ay vi (by rw [Dg hk2,au qY] at he;exact he)))))
  intro mg a H
  try have qY:=dF mg
  refine kP H (Kc K6 (SC (Rd rfl (Rm rfl ?_))));clear H K6;intro a H;refine aH ?_;refine cu ((k+1,Eu)) (by exact (H).sub ⟨rfl,rfl,rfl,aD⟩) ?_ ?_
  ·(try dsimp only);exact ⟨by omega,by rw [Dg hk2,ah qY] at he;exact he,fun b o h=>Hw b o (hgm b o h)⟩
  first|omega|(dsimp only;omega)
 intro h9 a H
 try have p9:=dF h9
 refine dU ?_;refine K2 _ _ ?_;clear K2;exact kP H (SR fun _ bq=>ak bq rfl (LR results84 rfl fun H=>H.rt (ay vi (by rw [iK (by simp;omega)] at he;exact he))))
def oN (id:Nat→Int) (i:Nat):Int:=if ¬ (1≤id i∧id i≤1073741824) then 18 else if 0 < i∧id i=id (i - 1) then 7 else if 0 < i∧id i < id (i - 1) then 6 else 0
theorem Po (G:GH) (w0:World) (hG:Hold G w0) (i:Nat) (id:Nat→Int) (fv:aj) (hn:i≤4611686018427387904) (hf:rG fv G (i+1) id) :
  Calls prog 86 #[vi i,fv] w0 (bE w0 G fun u G'=>u=vi (oN id i)):=by
 refine eN [(0,_),(1,_)] func86 rfl ntmps86 rfl rfl hG ?_;intro a H;refine kP H (SR fun _ K1=>ak K1 rfl (SQ fun _ K2=>SB (SR fun _ K3=>Rm rfl (Rm rfl ?_))));clear H K1;intro a H;refine pX H wn rfl rfl (hf i (Nat.lt_succ_self _) _ _ (fun _ _ h=>h) H.ro) rfl ?_;clear H;rintro v8 G8 a w rfl zk H;refine s_call uU H wn rfl (vv _ _ H.ro (id i) 1 1073741824) rfl ?_;clear H;rintro v9 _ a w ⟨rfl,rfl⟩ - H;refine kH H (Rn rfl (ak K3 rfl (Cd rfl ?_ ?_))) <;> clear H K3
 ·intro h5 a H
  try have p5:=dT h5
  refine kP H (SR fun _ K4=>ak K4 rfl ?_);clear H K4;intro a H;refine lr H results86 rfl ?_
  exact H.rt (ay vi (by unfold oN;(repeat' split) <;> first|rfl|(exfalso;simp_all;done)|(exfalso;simp_all;omega)))
 intro h5 a H
 try have p5:=dF h5
 refine kP H (SR fun _ K5=>Rm rfl (Rc rfl (Rm rfl (Sp 14 rfl ?_ ?_)))) <;> clear H
 ·intro dW a H
  try have mQ:=dT dW
  refine kH H (YM dW rfl (YM dW rfl ?_));clear H;intro a H;refine pX H (wg H rfl rfl dW) rfl rfl (hf i (Nat.lt_succ_self _) _ _ zk H.ro) rfl ?_;clear H;rintro v17 uL a w rfl nO H;refine kH H (YM dW rfl (YM dW rfl ?_));clear H;intro a H;refine mR _ H (wg H rfl rfl dW) rfl rfl rfl (by omega) (by omega) rfl ?_;clear H;intro a H;rw [show ((i:Int) - 1)=((i - 1:Nat):Int) by omega] at H;refine pX H (wg H rfl rfl dW) rfl rfl (hf (i - 1) (by omega) _ _ (fun b o h=>nO b o (zk b o h)) H.ro) rfl ?_;clear H;rintro v21 I4 a w rfl sV H;refine kH H (YC dW rfl (Pt dW rfl (ak K5 rfl (Cd rfl ?_ ?_)))) <;> clear H K5
  ·intro h11 a H
   try have nR:=dT h11
   refine kP H (SR fun _ K6=>ak K6 rfl ?_);clear H K6;intro a H;refine lr H results86 rfl ?_
   exact H.rt (ay vi (by unfold oN;(repeat' split) <;> first|rfl|(exfalso;simp_all;done)|(exfalso;simp_all;omega)))
  intro h11 a H
  try have nR:=dF h11
  refine kP H (SR fun _ K7=>Rm rfl (Rc rfl (Rm rfl (Sp 27 rfl ?_ ?_)))) <;> clear H
  ·intro h27 a H
   try have p27:=dT h27
   refine kH H (YM h27 rfl (YM h27 rfl ?_));clear H;intro a H;refine pX H (wg H rfl rfl h27) rfl rfl (hf i (Nat.lt_succ_self _) _ _ (fun b o h=>by first|exact sV b o (nO b o (zk b o h))|(exfalso;omega)) H.ro) rfl ?_;clear H;rintro v30 CW a w rfl DI H;refine kH H (YM h27 rfl (YM h27 rfl ?_));clear H;intro a H;refine mR _ H (wg H rfl rfl h27) rfl rfl rfl (by omega) (by omega) rfl ?_;clear H;intro a H;rw [show ((i:Int) - 1)=((i - 1:Nat):Int) by omega] at H;refine pX H (wg H rfl rfl h27) rfl rfl (hf (i - 1) (by omega) _ _ (fun b o h=>by first|exact DI b o (sV b o (nO b o (zk b o h)))|(exfalso;omega)) H.ro) rfl ?_;clear H;rintro v34 Zb a w rfl Ve H;refine kH H (YC h27 rfl (Pt h27 rfl (ak K7 rfl (Cd rfl ?_ ?_)))) <;> clear H K7
   ·intro dD a H
    try have jS:=dT dD
    refine kP H (SR fun _ K8=>ak K8 rfl ?_);clear H K8;intro a H;refine lr H results86 rfl ?_
    exact H.rt (ay vi (by unfold oN;(repeat' split) <;> first|rfl|(exfalso;simp_all;done)|(exfalso;simp_all;omega)))
   intro dD a H
   try have jS:=dF dD
   refine kP H (Kc K2 (SR fun _ K9=>ak K9 rfl ?_));clear H K2 K9;intro a H;refine lr H results86 rfl ?_
   exact H.rt (ay vi (by unfold oN;(repeat' split) <;> first|rfl|(exfalso;simp_all;done)|(exfalso;simp_all;omega)))
  intro h27 a H
  try have p27:=dF h27
  refine kH H (aX h27 rfl (aX h27 rfl (aQ h27 rfl (Pf h27 rfl (ak K7 rfl (Cf rfl rfl (Kc K2 (SR fun _ aT=>ak aT rfl ?_))))))));clear H K7 K2 aT;intro a H;refine lr H results86 rfl ?_
  exact H.rt (ay vi (by unfold oN;(repeat' split) <;> first|rfl|(exfalso;simp_all;done)|(exfalso;simp_all;omega)))
 intro dW a H
 try have mQ:=dF dW
 refine kH H (aX dW rfl (aX dW rfl (aQ dW rfl (Pf dW rfl (ak K5 rfl (Cf rfl rfl (SR fun _ bq=>Rm rfl (Rc rfl (Rm rfl (Sp 27 rfl ?_ ?_)))))))))) <;> clear H K5
 ·intro h27 a H
  try have p27:=dT h27
  refine kH H (YM h27 rfl (YM h27 rfl ?_));clear H;intro a H;refine pX H (wg H rfl rfl h27) rfl rfl (hf i (Nat.lt_succ_self _) _ _ (fun b o h=>by first|exact sV b o (nO b o (zk b o h))|(exfalso;omega)) H.ro) rfl ?_;clear H;rintro v30 CW a w rfl DI H;refine kH H (YM h27 rfl (YM h27 rfl ?_));clear H;intro a H;refine mR _ H (wg H rfl rfl h27) rfl rfl rfl (by omega) (by omega) rfl ?_;clear H;intro a H;rw [show ((i:Int) - 1)=((i - 1:Nat):Int) by omega] at H;refine pX H (wg H rfl rfl h27) rfl rfl (hf (i - 1) (by omega) _ _ (fun b o h=>by first|exact DI b o (sV b o (nO b o (zk b o h)))|(exfalso;omega)) H.ro) rfl ?_;clear H;rintro v34 Zb a w rfl Ve H;refine kH H (YC h27 rfl (Pt h27 rfl (ak bq rfl (Cd rfl ?_ ?_)))) <;> clear H bq
  ·intro dD a H
   try have jS:=dT dD
   refine kP H (SR fun _ bF=>ak bF rfl ?_);clear H bF;intro a H;refine lr H results86 rfl ?_
   exact H.rt (ay vi (by unfold oN;(repeat' split) <;> first|rfl|(exfalso;simp_all;done)|(exfalso;simp_all;omega)))
  intro dD a H
  try have jS:=dF dD
  refine kP H (Kc K2 (SR fun _ bJ=>ak bJ rfl ?_));clear H K2 bJ;intro a H;refine lr H results86 rfl ?_
  exact H.rt (ay vi (by unfold oN;(repeat' split) <;> first|rfl|(exfalso;simp_all;done)|(exfalso;simp_all;omega)))
 intro h27 a H
 try have p27:=dF h27
 refine kH H (aX h27 rfl (aX h27 rfl (aQ h27 rfl (Pf h27 rfl (ak bq rfl (Cf rfl rfl (Kc K2 (SR fun _ bN=>ak bN rfl ?_))))))));clear H bq K2 bN;intro a H;refine lr H results86 rfl ?_
 exact H.rt (ay vi (by unfold oN;(repeat' split) <;> first|rfl|(exfalso;simp_all;done)|(exfalso;simp_all;omega)))
end
section
open Go.RowKit
theorem iW:∀ args w,(callFunc 59 args).run prog w=.ok (.enter 59 args) w:=enters func59 rfl (by kernel_rfl)
theorem pI:∀ args w,(callFunc 54 args).run prog w=.ok (.enter 54 args) w:=enters func54 rfl (by kernel_rfl)
def vP (s:ByteArray):Bool:=decide (1≤s.size∧s.size≤40) && qb s
theorem Sq (G:GH) (w0:World) (hG:Hold G w0) (s:ByteArray) (hs:s.size < 4611686018427387904):Calls prog 88 #[.string s] w0 (bE w0 G fun u G'=>u=.bool (vP s)∧G=G'):=by
 refine eN [(0,_)] func88 rfl ntmps88 rfl rfl hG ?_;intro a H;refine kP H (SR fun _ K1=>ak K1 rfl (SR fun _ K2=>Rm rfl (Rv gu rfl (Rc rfl (Rm rfl (Sp 6 rfl ?_ ?_)))))) <;> clear H K1
 ·intro h6 a H
  try have p6:=dT h6
  refine kH H (YM h6 rfl ?_);clear H;intro a H;refine Cw gu H (wg H rfl rfl h6) rfl rfl ?_;clear H;intro a H;refine kH H (YC h6 rfl (Pt h6 rfl (Rm rfl (Sp 11 rfl ?_ ?_)))) <;> clear H
  ·intro h11 a H
   try have nR:=dT h11
   refine kH H (YM h11 rfl ?_);clear H;intro a H;refine s_call GI H (wg H rfl rfl h11) rfl (IE _ _ H.ro s hs) rfl ?_;clear H;rintro v13 _ a w ⟨rfl,rfl⟩ - H;exact kH H (Pt h11 rfl (ak K2 rfl (LR results88 rfl fun H=>H.rt ⟨aG (by unfold vP;first|(simp_all;done)|(simp_all;omega)),rfl⟩)))
  intro h11 a H
  try have nR:=dF h11
  exact kH H (aQ h11 rfl (Pf h11 rfl (ak K2 rfl (LR results88 rfl fun H=>H.rt ⟨aG (by unfold vP;first|(simp_all;done)|(simp_all;omega)),rfl⟩))))
 intro h6 a H
 try have p6:=dF h6
 exact kH H (aX h6 rfl (Pf h6 rfl (Rm rfl (aQ rfl rfl (Pf rfl rfl (ak K2 rfl (LR results88 rfl fun H=>H.rt ⟨aG (by unfold vP;first|(simp_all;done)|(simp_all;omega)),rfl⟩)))))))
def Bq (s:ByteArray):Int:=dH [bV (!qb s) 12,bV (decide (1024 < (s.size:Int))) 10]
theorem wE {G:GH} {b:Nat} {x y:Int} (h:G b=some (.cells #[vi x,vi y] 56 (0,0))):av G (.sl 1 ([x,y].map fun k=>[li k])) (.slice (some ⟨b,0,none⟩) 2 2) :=
 av.eu (n:=2) (cap:=2) h rfl (bU _) (show 2≤maxLen by decide) (jH (bU _)) (fu G [x,y])
theorem QD (G:GH) (w0:World) (hG:Hold G w0) (s:ByteArray) (hs:s.size < 4611686018427387904):Calls prog 122 #[.string s] w0 (bE w0 G fun u G'=>u=vi (Bq s)):=by
 refine eN [(0,_)] func122 rfl ntmps122 rfl rfl hG ?_;intro a H;refine kP H (SR fun _ K1=>ak K1 rfl (SR fun _ K2=>Rm rfl ?_));clear H K1;intro a H;refine s_call GI H wn rfl (IE _ _ H.ro s hs) rfl ?_;clear H;rintro v4 _ a w ⟨rfl,rfl⟩ - H;refine kH H (Rn rfl ?_);clear H;intro a H;refine s_call iW H wn rfl (iZ _ _ H.ro _ 12) rfl ?_;clear H;rintro v6 _ a w ⟨rfl,rfl⟩ - H;refine kH H (Rm rfl (Rv gu rfl (Rc rfl ?_)));clear H;intro a H;refine s_call iW H wn rfl (iZ _ _ H.ro _ 10) rfl ?_;clear H;rintro v10 _ a w ⟨rfl,rfl⟩ - H;refine gQ oF gK [_,_] [_,_] H wn rfl rfl rfl rfl rfl (by intro i q h;match i,h with|0,h=>exact h|1,h=>exact h|n+2,h=>simp at h) rfl rfl ?_;clear H;intro b11 a w Dx H;obtain ⟨tL,AB,E5,H⟩:=H.dP;refine s_call pI H wn rfl (pJ _ _ H.ro _ _ (wE E5)) rfl ?_;clear H;rintro v12 _ a w ⟨rfl,rfl⟩ - H;exact kH H (ak K2 rfl (LR results122 rfl fun H=>H.rt rfl))
def Ky (c:Int):Bool:=decide (97≤tX .or .u8 c 32) && decide (tX .or .u8 c 32≤122)
def Ee (c:Int):Bool:=(decide (48≤c) && decide (c≤57)) || decide (c=45) || decide (c=95)
def zw (s:ByteArray) (k:Nat):Bool:=Ky (gT s k) || (decide (k≠0) && Ee (gT s k))
def pG (s:ByteArray):Bool:=decide (1≤s.size∧s.size≤40) && (List.range s.size).all (zw s)
theorem MZ (G:GH) (w0:World) (hG:Hold G w0) (s:ByteArray) (hs:s.size < 4611686018427387904):Calls prog 124 #[.string s] w0 (bE w0 G fun u G'=>u=.bool (pG s)∧G=G'):=by
 refine eN [(0,_)] func124 rfl ntmps124 rfl rfl hG ?_;intro a H;refine kP H (SR fun _ K1=>ak K1 rfl (SQ fun _ K2=>SR fun _ K3=>Rm rfl (Rv gu rfl (Rc rfl (Rm rfl (Sp 10 rfl ?_ ?_)))))) <;> clear H K1
 ·intro h10 a H
  try have mD:=dT h10
  exact kH H (aX h10 rfl (Pt h10 rfl (Kz K3 (Ct rfl rfl (SR fun _ K4=>ak K4 rfl (LR results124 rfl fun H=>H.rt ⟨aG (by unfold pG;rw [gL (by omega)];rfl),rfl⟩))))))
 intro h10 a H
 try have mD:=dF h10
 refine kH H (YM h10 rfl ?_);clear H;intro a H;refine Cw gu H (wg H rfl rfl h10) rfl rfl ?_;clear H;intro a H;refine kH H (YC h10 rfl (Pf h10 rfl (Kz K3 (Cd rfl ?_ ?_)))) <;> clear H K3
 ·intro dW a H
  try have mQ:=dT dW
  exact kP H (SR fun _ K5=>ak K5 rfl (LR results124 rfl fun H=>H.rt ⟨aG (by unfold pG;rw [gL (by omega)];rfl),rfl⟩))
 intro dW a H
 try have mQ:=dF dW
 refine kP H (Kc K2 (SQ fun _ K6=>SR fun _ K7=>Rm rfl (Rv gu rfl (Rm rfl (Kz K7 (SB ?_))))));clear H K2 K7;intro a H;skip;refine eT (ι:=Nat) (Tc:=[(0,_),(16,_)]) (Lc:=[]) (fun gh=>[(17,vi gh)]) (fun gh=>[]) (fun gh=>G) (fun gh=>gh≤s.size∧(List.range gh).all (zw s)=true) (fun gh=>s.size - gh) (0) (by exact (H).sub ⟨rfl,rfl,rfl,aD⟩) ?_ ?_
 ·exact ⟨iy _,rfl⟩
 clear H;intro gh a w hI H;obtain ⟨k,hgh⟩:∃ x,x=gh:=⟨_,rfl⟩;subst hgh;obtain ⟨hk,hall⟩:=hI;dsimp only [lca,bg] at H;refine kP H (SR fun _ K8=>Rc rfl (Kz K8 (SQ fun _ K9=>Cd rfl ?_ ?_))) <;> clear H K8
 ·intro h18 a H
  try have wz:=dT h18
  have hk2:k < s.size:=by omega
  refine kP H (Kc K9 (SQ fun _ aT=>SB (SR fun _ bq=>Rm rfl (ak bq rfl (SR fun _ bF=>Rm rfl (Rm rfl ?_))))));clear H K9 bq;intro a H;refine nV k gu H wn rfl rfl rfl (by omega) rfl ?_;clear H;intro a H;rw [← lM] at H;refine KV rfl H wn rfl rfl rfl ?_;clear H;intro a H;refine kH H (ak bF rfl ?_);clear H bF;intro a H;refine pF (ι:=Bool) (Tc:=[(0,_),(3,_),(16,_),(17,_)]) (Lc:=[]) (fun gh=>[(5,.bool gh)]) (fun gh=>[]) (fun gh=>G) (fun gh=>gh=Ky (gT s k)) (by exact (H).sub ⟨rfl,rfl,rfl,rfl,aD⟩) ?_ ?_
  ·skip;refine kP H (SC (Rm rfl (Rc rfl (Rm rfl (Sp 26 rfl ?_ ?_))))) <;> clear H
   ·intro fq a H
    try have p26:=dT fq
    refine kH H (YM fq rfl (YC fq rfl (Pt fq rfl (Ra rfl ?_))));clear H;intro a H;refine aH ?_;refine ⟨_,by exact (H).sub ⟨rfl,rfl,rfl,rfl,rfl,aD⟩,?_⟩
    unfold Ky;first|(simp_all;done)|(simp_all;omega)
   intro fq a H
   try have p26:=dF fq
   refine kH H (aQ fq rfl (Pf fq rfl (Ra rfl ?_)));clear H;intro a H;refine aH ?_;refine ⟨_,by exact (H).sub ⟨rfl,rfl,rfl,rfl,rfl,aD⟩,?_⟩
   unfold Ky;first|(simp_all;done)|(simp_all;omega)
  clear H;intro gh a w hI H;obtain ⟨lt,hgh⟩:∃ x,x=gh:=⟨_,rfl⟩;subst hgh;have hlt:=hI;dsimp only [lca,bg] at H;refine pF (ι:=Bool) (Tc:=[(0,_),(3,_),(5,_),(16,_),(17,_)]) (Lc:=[]) (fun gh=>[(6,.bool gh)]) (fun gh=>[]) (fun gh=>G) (fun gh=>gh=Ee (gT s k)) (by exact (H).sub ⟨rfl,rfl,rfl,rfl,rfl,aD⟩) ?_ ?_
  ·skip;refine kP H (SC (Rm rfl (Rm rfl ?_)));clear H;intro a H;refine nV k gu H wn rfl rfl rfl (by omega) rfl ?_;clear H;intro a H;rw [← lM] at H;refine kH H (Rc rfl (Rm rfl (Sp 34 rfl ?_ ?_))) <;> clear H
   ·intro gB a H
    try have p34:=dT gB
    refine kH H (YM gB rfl (YM gB rfl ?_));clear H;intro a H;refine nV k gu H (wg H rfl rfl gB) rfl rfl rfl (by omega) rfl ?_;clear H;intro a H;rw [← lM] at H;refine kH H (YC gB rfl (Pt gB rfl (Rm rfl (Sp 40 rfl ?_ ?_)))) <;> clear H
    ·intro lD a H
     try have p40:=dT lD
     refine kH H (aQ lD rfl (aQ lD rfl (Pt lD rfl (Rm rfl (aQ rfl rfl (aQ rfl rfl (Pt rfl rfl (Ra rfl ?_))))))));clear H;intro a H;refine aH ?_;refine ⟨_,by exact (H).sub ⟨rfl,rfl,rfl,rfl,rfl,rfl,aD⟩,?_⟩
     unfold Ee;first|(simp_all;done)|(simp_all;omega)
    intro lD a H
    try have p40:=dF lD
    refine kH H (YM lD rfl (YM lD rfl ?_));clear H;intro a H;refine nV k gu H (wg H rfl rfl lD) rfl rfl rfl (by omega) rfl ?_;clear H;intro a H;rw [← lM] at H;refine kH H (YC lD rfl (Pf lD rfl (Rm rfl (Sp 46 rfl ?_ ?_)))) <;> clear H
    ·intro h46 a H
     try have p46:=dT h46
     refine kH H (aQ h46 rfl (aQ h46 rfl (Pt h46 rfl (Ra rfl ?_))));clear H;intro a H;refine aH ?_;refine ⟨_,by exact (H).sub ⟨rfl,rfl,rfl,rfl,rfl,rfl,aD⟩,?_⟩
     unfold Ee;first|(simp_all;done)|(simp_all;omega)
    intro h46 a H
    try have p46:=dF h46
    refine kH H (YM h46 rfl (YM h46 rfl ?_));clear H;intro a H;refine nV k gu H (wg H rfl rfl h46) rfl rfl rfl (by omega) rfl ?_;clear H;intro a H;rw [← lM] at H;refine kH H (YC h46 rfl (Pf h46 rfl (Ra rfl ?_)));clear H;intro a H;refine aH ?_;refine ⟨_,by exact (H).sub ⟨rfl,rfl,rfl,rfl,rfl,rfl,aD⟩,?_⟩
    unfold Ee;first|(simp_all;done)|(simp_all;omega)
   intro gB a H
   try have p34:=dF gB
   refine kH H (aQ gB rfl (aQ gB rfl (Pf gB rfl (Rm rfl ?_))));clear H;intro a H;(iterate 2 refine Ir H (wg H rfl rfl rfl) rfl rfl ?_;clear H;intro a H);refine nV k gu H (wg H rfl rfl rfl) rfl rfl rfl (by omega) rfl ?_;clear H;intro a H;rw [← lM] at H;refine Io H (wg H rfl rfl rfl) rfl rfl rfl rfl ?_;clear H;intro a H;refine kH H (Pf rfl rfl (Rm rfl (Sp 46 rfl ?_ ?_))) <;> clear H
   ·intro h46 a H
    try have p46:=dT h46
    refine kH H (aQ h46 rfl (aQ h46 rfl (Pt h46 rfl (Ra rfl ?_))));clear H;intro a H;refine aH ?_;refine ⟨_,by exact (H).sub ⟨rfl,rfl,rfl,rfl,rfl,rfl,aD⟩,?_⟩
    unfold Ee;first|(simp_all;done)|(simp_all;omega)
   intro h46 a H
   try have p46:=dF h46
   refine kH H (YM h46 rfl (YM h46 rfl ?_));clear H;intro a H;refine nV k gu H (wg H rfl rfl h46) rfl rfl rfl (by omega) rfl ?_;clear H;intro a H;rw [← lM] at H;refine kH H (YC h46 rfl (Pf h46 rfl (Ra rfl ?_)));clear H;intro a H;refine aH ?_;refine ⟨_,by exact (H).sub ⟨rfl,rfl,rfl,rfl,rfl,rfl,aD⟩,?_⟩
   unfold Ee;first|(simp_all;done)|(simp_all;omega)
  clear H;intro gh a w hI H;obtain ⟨ot,hgh⟩:∃ x,x=gh:=⟨_,rfl⟩;subst hgh;have hot:=hI;dsimp only [lca,bg] at H;refine kP H (SR fun _ bJ=>Rm rfl (Rn rfl (Rm rfl (Sp 54 rfl ?_ ?_)))) <;> clear H
  ·intro fJ a H
   try have p54:=dT fJ
   refine kH H (YM fJ rfl (YC fJ rfl (YM fJ rfl (Sp 57 rfl ?_ ?_)))) <;> clear H
   ·intro h57 a H
    try have p57:=dT h57
    refine kH H (aQ h57 rfl (PT fJ h57 rfl (Pt fJ rfl (Kz bJ (Ct rfl rfl (SR fun _ bN=>ak bN rfl ?_))))));clear H bJ bN;intro a H;refine lr H results124 rfl ?_
    first
     | exact H.rt ⟨aG (by
       unfold pG
       rw [show k=s.size by omega] at hall
       rw [hall,iQ (by omega)];rfl),rfl⟩
     | exact H.rt ⟨aG (by
       unfold pG
       rw [show (List.range s.size).all (zw s)=false from List.all_eq_false.2 ⟨k,by simpa using hk2,by unfold zw;simp_all⟩,Bool.and_false]),rfl⟩
   intro h57 a H
   try have p57:=dF h57
   refine kH H (YM h57 rfl (YN h57 rfl (PF fJ h57 rfl (Pt fJ rfl (Kz bJ (Cd rfl ?_ ?_)))))) <;> clear H bJ
   ·intro pO a H
    try have p61:=dT pO
    refine kP H (SR fun _ cK=>ak cK rfl ?_);clear H cK;intro a H;refine lr H results124 rfl ?_
    first
     | exact H.rt ⟨aG (by
       unfold pG
       rw [show k=s.size by omega] at hall
       rw [hall,iQ (by omega)];rfl),rfl⟩
     | exact H.rt ⟨aG (by
       unfold pG
       rw [show (List.range s.size).all (zw s)=false from List.all_eq_false.2 ⟨k,by simpa using hk2,by unfold zw;simp_all⟩,Bool.and_false]),rfl⟩
   intro pO a H
   try have p61:=dF pO
   refine kP H (Kc aT (SC (Rd rfl (Rm rfl ?_))));clear H aT;intro a H;refine aH ?_;refine cu ((k+1)) (by exact (H).sub ⟨rfl,rfl,rfl,aD⟩) ?_ ?_
   ·exact ⟨by omega,by rw [List.range_succ,List.all_append,hall];simp [zw];simp_all⟩
   first|omega|(dsimp only;omega)
  intro fJ a H
  try have p54:=dF fJ
  refine kH H (aX fJ rfl (Ku rfl (Ku rfl (Ks fJ rfl (Pf fJ rfl (Kz bJ (Cf rfl rfl (Kc aT (SC (Rd rfl (Rm rfl ?_)))))))))));clear H bJ aT;intro a H;refine aH ?_;refine cu ((k+1)) (by exact (H).sub ⟨rfl,rfl,rfl,aD⟩) ?_ ?_
  ·exact ⟨by omega,by rw [List.range_succ,List.all_append,hall];simp [zw];simp_all⟩
  first|omega|(dsimp only;omega)
 intro h18 a H
 try have wz:=dF h18
 refine dU ?_;refine K6 _ _ ?_;clear K6;refine kP H (SR fun _ dw=>ak dw rfl ?_);clear H dw;intro a H;refine lr H results124 rfl ?_
 first
  | exact H.rt ⟨aG (by
    unfold pG
    rw [show k=s.size by omega] at hall
    rw [hall,iQ (by omega)];rfl),rfl⟩
  | exact H.rt ⟨aG (by
    unfold pG
    rw [show (List.range s.size).all (zw s)=false from List.all_eq_false.2 ⟨k,by simpa using hk2,by unfold zw;simp_all⟩,Bool.and_false]),rfl⟩
end
section
open Go.RowKit
section
variable {N:Nat} {D:List Deferred} {w0:World} {F:Nat→Prop} {G0 G:GH} {L:OL} {T:List (Nat × aj)}
variable {r:Option Nat} {P:Program} {ops:Array Oper} {Q:Exit→Act→World→Prop} {rest:List Oper} {a:Act} {w:World}
variable {d:Nat} {ty:TypeId} {pos:String} {aN:Array Edge} {g:Option (Nat × Bool)}
end
end
section
open Go.RowKit
section
variable {N:Nat} {D:List Deferred} {w0:World} {F:Nat→Prop} {G0 G:GH} {L:OL} {T T':List (Nat × aj)}
variable {r:Option Nat} {P:Program} {Q:Exit→Act→World→Prop} {l:List Oper} {a a':Act} {w w':World} {ε:Type}
def EC (l:List Oper) (pr:ε→Nat→aj→Prop) (T:List (Nat × aj)) (S:Nat→Bool) (E:ε) (T':List (Nat × aj)):Prop :=
 (∀ t v,lk T t=some v→lk T' t=some v)∧∀ i d,S i=true→eG l i=some d→∃ v,lk T' d=some v∧pr E i v
theorem EC.put {pr:ε→Nat→aj→Prop} {S:Nat→Bool} {E E':ε} {i d:Nat} {v:aj} (h:EC l pr T S E T') (hok:M7 l T=true) (hi:eG l i=some d) (hv:pr E' i v) (hE:∀ j u,j≠i→pr E j u→pr E' j u):EC l pr T (dX S i) E' ((d,v) :: T'):=by
 have hil:=xg hi
 have hok1:=lq.1 hok i (oH.2 hil)
 rw [mM,hi] at hok1
 simp only [lu,Option.isNone_iff_eq_none,lq,oH] at hok1
 refine ⟨fun t u ht=>?_,fun j e hj he=>?_⟩
 ·rw [fB (fun e=>by subst e;rw [hok1.1] at ht;cases ht)];exact h.1 t u ht
 ·by_cases hji:j=i
  ·subst hji;rw [hi] at he;cases he;exact ⟨v,jX _ _ _,hv⟩
  ·have hSj:S j=true:=by unfold dX at hj;rwa [ah hji] at hj
   obtain ⟨u,hu1,hu2⟩:=h.2 j e hSj he
   have hne:d≠e:=by
    intro e';subst e'
    have h2:=hok1.2 j (xg he)
    have hb:Nat.beq i j=false:=yM (fun h=>hji h.symm)
    rw [hb,he] at h2
    simp at h2
   exact ⟨u,by rw [fB hne];exact hu1,hE j u hji hu2⟩
theorem EC.add {pr:ε→Nat→aj→Prop} {S:Nat→Bool} {E:ε} (h:EC l pr T S E T') {t:Nat} {u:aj} (hu:lk T' t=some u):EC l pr T S E ((t,u) :: T'):=by
 have e:∀ s v,lk T' s=some v→lk ((t,u) :: T') s=some v:=fun s v hs=>by
  by_cases hst:t=s
  ·subst hst;rw [hu] at hs;cases hs;exact jX _ _ _
  ·rw [fB hst];exact hs
 exact ⟨fun s v hs=>e s v (h.1 s v hs),fun i d hi hd=>by
  obtain ⟨v,h1,h2⟩:=h.2 i d hi hd
  exact ⟨v,e d v h1,h2⟩⟩
end
end
section
open Go.RowKit
section
variable {N:Nat} {D:List Deferred} {w0:World} {F:Nat→Prop} {G0 G G1 G2:GH} {L L1:OL} {T Xs:List (Nat × aj)}
variable {r:Option Nat} {P:Program} {Q:Exit→Act→World→Prop} {l:List Oper} {a a':Act} {w w':World}
theorem SL {id:Nat} (hm:P.follows .mixedOrders=true) (bP:List (List Nat)) (B:List Nat) (hk:yR l bP=true) (hB:zG l bP B=true) (X:(Nat→Bool)→Act→World→Prop) (h0:X (fun _=>false) a w.drew)
  (hstep:∀ i o S a w,l[i]?=some o→B.contains i=false→S i=false→(∀ j∈bP.getD i [],S j=true)→(∀ j,j < l.length→i∈bP.getD j []→S j=false)→X S a w→WL r P l.toArray (fun e a' w'=>e=.normal∧X (dX S i) a' w') [o] a w)
  (hend:∀ S a w,(∀ i,i < l.length→B.contains i=false→S i=true)→(∀ i,B.contains i=true→S i=false)→X S a w→WL r P l.toArray (fun e a w=>e=.normal∧Q .normal a w) (qB l B) a w):WP r P (.region id l.toArray true) Q a w:=by
 have hB1:∀ p b,B[p]?=some b→b < l.length∧∀ i,i < l.length→(B.contains i=false∨(B.take p).contains i=true)→i∈bP.getD b []:=by
  intro p b hp
  simp only [zG,lu] at hB
  have h1:=lq.1 hB.1 p (oH.2 (jk.1 hp).1)
  rw [hp] at h1
  simp only [lu,lq,oH] at h1
  refine ⟨Eq.mp Nat.blt_eq h1.1,fun i hi hor=>?_⟩
  have h2:=h1.2 i hi
  rcases hor with h3|h3
  ·have h4:i∉B:=by simpa using h3
   simpa [h4] using h2
  ·have h4:i∈B.take p:=by simpa using h3
   simpa [h4] using h2
 have hB2:∀ i,i < l.length→B.contains i=false→∀ j∈bP.getD i [],B.contains j=false:=by
  intro i hi hb j hj
  simp only [zG,lu] at hB
  have h1:=lq.1 hB.2 i (oH.2 hi)
  rw [hb] at h1
  simp only [Bool.false_or,lq] at h1
  simpa using h1 j hj
 refine MN hm bP hk (fun S a w=>((∀ i,B.contains i=true→S i=false)∧X S a w) ∨
   ∃ p,(∀ i,i < l.length→B.contains i=false→S i=true)∧(∀ i,(B.take p).contains i=true→S i=true)∧(∀ q b,B[q]?=some b→p≤q→S b=false)∧WL r P l.toArray (fun e a w=>e=.normal∧Q .normal a w) (qB l (B.drop p)) a w)
  (.inl ⟨fun _ _=>rfl,h0⟩) ?_ ?_
 ·intro i o S a w ho hX bS mO hdesc
  have hil:i < l.length:=(jk.1 ho).1
  by_cases hbi:B.contains i=true
  ·-- an operation of the tail: all that stands ahead of it is done
   obtain ⟨p0,hp0⟩:=List.getElem?_of_mem (by simpa using hbi:i∈B)
   have hall:∀ j,j < l.length→B.contains j=false→S j=true:=fun j hj hb=>mO j ((hB1 p0 i hp0).2 j hj (.inl hb))
   have OZ:∃ p,(∀ i,(B.take p).contains i=true→S i=true)∧(∀ q b,B[q]?=some b→p≤q→S b=false)∧WL r P l.toArray (fun e a w=>e=.normal∧Q .normal a w) (qB l (B.drop p)) a w:=by
    rcases hX with ⟨h1,hD⟩|⟨p,_,h2,h3,h4⟩
    ·exact ⟨0,by simp,fun q b hq _=>h1 b (by simpa using lg hq),hend S a w hall h1 hD⟩
    ·exact ⟨p,h2,h3,h4⟩
   obtain ⟨p,h2,h3,h4⟩:=OZ
   -- i is the next one
   have hpp:p≤p0:=by
    rcases Nat.lt_or_ge p0 p with hlt|hge
    ·have:(B.take p).contains i=true:=by
      simp only [vN]
      exact lg (i:=p0) (by rw [tQ,au hlt];exact hp0)
     rw [h2 i this] at bS;cases bS
    ·exact hge
   have DJ:p < B.length:=by have:=(jk.1 hp0).1;omega
   have hbp:B[p]?=some B[p]:=gY DJ
   have heq:B[p]=i:=by
    rcases Nat.lt_or_ge p p0 with hlt|hge
    ·exfalso
     have hin:B[p]∈bP.getD i []:=(hB1 p0 i hp0).2 _ (hB1 p _ hbp).1 (.inr (by
      simp only [vN]
      exact lg (i:=p) (by rw [tQ,au hlt];exact hbp)))
     have:=mO _ hin
     rw [h3 p _ hbp (bU _)] at this;cases this
    ·have:p=p0:=by omega
     subst this
     rw [hbp] at hp0;simpa using hp0
   have hdrop:B.drop p=i :: B.drop (p+1):=by rw [lW DJ,heq]
   have hops:qB l (B.drop p)=o :: qB l (B.drop (p+1)):=by rw [hdrop];simp [qB,ho]
   rw [hops] at h4
   refine YA (fun a' w' h5=>.inr ⟨p+1,fun j hj hb=>?_,fun j hj=>?_,fun q b hq hpq=>?_,h5⟩) h4
   ·unfold dX;split
    ·rfl
    ·exact hall j hj hb
   ·unfold dX;split
    ·rfl
    ·rename_i hne
     refine h2 j ?_
     simp only [vN] at hj ⊢
     rw [jq DJ,kg] at hj
     rcases hj with hj|hj
     ·exact hj
     ·simp only [rH] at hj;exact absurd (hj.trans heq) hne
   ·unfold dX
    rw [ah ?_]
    ·exact h3 q b hq (by omega)
    ·rintro rfl
     -- i would stand twice in B: it would come ahead of itself
     have h6:=(hB1 q b hq).2 b (hB1 q b hq).1 (.inr (by
      simp only [vN]
      exact lg (i:=p) (by rw [tQ,au (by omega)];rw [hbp,heq])))
     rw [mO _ h6] at bS;cases bS
  ·have xJ:B.contains i=false:=by cases h:B.contains i with|false=>rfl|true=>exact absurd h hbi
   rcases hX with ⟨h1,hX⟩|⟨p,h0,_,_,_⟩
   ·refine rE (fun e a' w' ⟨he,hD⟩=>⟨he,.inl ⟨fun j hj=>?_,hD⟩⟩) (hstep i o S a w ho xJ bS mO hdesc hX)
    unfold dX
    rw [ah (by rintro rfl;rw [xJ] at hj;cases hj)]
    exact h1 j hj
   ·rw [h0 i hil xJ] at bS;cases bS
 ·intro S a w hall hX
  rcases hX with ⟨h1,hD⟩|⟨p,_,_,h3,h4⟩
  ·have hnil:B=[]:=by
    cases B with
    | nil=>rfl
    | cons b B=>have h5:=h1 b (by simp);rw [hall b (hB1 0 b rfl).1] at h5;cases h5
   subst hnil
   exact (hend S a w (fun j hj _=>hall j hj) h1 hD).2
  ·have hnil:B.drop p=[]:=by
    cases hd:B.drop p with
    | nil=>rfl
    | cons b B' =>
     have hb:B[p]?=some b:=by
      have:=ay (fun x:List Nat=>x[0]?) hd
      simpa using this
     have h5:=h3 p b hb (bU _)
     rw [hall b (hB1 p b hb).1] at h5;cases h5
   rw [hnil] at h4
   exact h4.2
theorem aan {id:Nat} (hm:P.follows .mixedOrders=true) (bP:List (List Nat)) (B:List Nat) (hk:yR l bP=true) (hB:zG l bP B=true) (m:Nat) (hmB:B.contains m=false) (ob:Obj) (pr:Nat→Nat→aj→GH→Prop)
  (O4:∀ b b' i v G,i≠m→pr b i v G→pr b' i v G) (H:St N D w0 F G0 G L T a w)
  (hstep:allI (fun i o=>∀ b L' S a w G1,B.contains i=false→Nat.beq i m=false→S i=false→(∀ j∈bP.getD i [],S j=true)→(∀ k o,G k=some o→G1 k=some o)→St N D w0 F G0 G1 L' T a w→(∀ i d,S i=true→eG l i=some d→∃ v,a.tmps[d]?=some v∧pr b i v G1) →
   WL r P l.toArray (fun e a' w'=>e=.normal∧DX N D w0 F G0 G L' T l (pr b) (dX S i) a' w') [o] a w) 0 l)
  (hmid:∀ o S a w G1,l[m]?=some o→S m=false→(∀ j∈bP.getD m [],S j=true)→(∀ k o,G k=some o→G1 k=some o)→St N D w0 F G0 G1 L T a w→(∀ b i d,i≠m→S i=true→eG l i=some d→∃ v,a.tmps[d]?=some v∧pr b i v G1) →
   WL r P l.toArray (fun e a' w'=>e=.normal∧∃ b,DX N D w0 F G0 G ((b,ob) :: L) T l (pr b) (dX S m) a' w') [o] a w)
  (hend:∀ b a w G1,(∀ k o,G k=some o→G1 k=some o)→St N D w0 F G0 G1 ((b,ob) :: L) T a w→(∀ i d,B.contains i=false→eG l i=some d→∃ v,a.tmps[d]?=some v∧pr b i v G1)→WL r P l.toArray (fun e a w=>e=.normal∧Q .normal a w) (qB l B) a w)
  (hml:Nat.blt m l.length=true):WP r P (.region id l.toArray true) Q a w:=by
 refine SL hm bP B hk hB (fun S a w=>∃ b L',(S m=false→L'=L)∧(S m=true→L'=(b,ob) :: L)∧DX N D w0 F G0 G L' T l (pr b) S a w)
  ⟨0,L,fun _=>rfl,fun h=>absurd (show false=true from h) (by decide),G,fun _ _ h=>h,H.move H.hp.drew,fun _ _ h=>absurd (show false=true from h) (by decide)⟩ ?_ ?_
 ·rintro i o S a w ho hb bS mO hdesc ⟨b,L',h1,h2,G1,hG,HS,hv⟩
  by_cases him:i=m
  ·subst him
   have e:=h1 bS;subst e
   have h:=hmid o S a w G1 ho bS mO hG HS fun b' j d hj hSj hd=>by
    obtain ⟨v,hv1,hv2⟩:=hv j d hSj hd
    exact ⟨v,hv1,O4 b b' j v _ hj hv2⟩
   have e1:dX S i i=true:=au rfl
   exact rE (fun e a' w' ⟨he,b',hD⟩=>⟨he,b',_,fun h=>absurd (e1.symm.trans h) (by decide),fun _=>rfl,hD⟩) h
  ·have h:=EF hstep i o ho
   rw [kR] at h
   have e:dX S i m=S m:=ah (fun h=>him h.symm)
   exact rE (fun e' a' w' ⟨he,hD⟩=>⟨he,b,L',fun h=>h1 (e ▸ h),fun h=>h2 (e ▸ h),hD⟩) (h b L' S a w G1 hb (yM him) bS mO hG HS hv)
 ·rintro S a w hall hnB ⟨b,L',h1,h2,G1,hG,HS,hv⟩
  have hmS:S m=true:=hall m (Eq.mp Nat.blt_eq hml) hmB
  have e:=h2 hmS;subst e
  exact hend b a w G1 hG HS fun j d hb hd=>hv j d (hall j (xg hd) hb) hd
theorem M6 {pr:Nat→aj→GH→Prop} {S:Nat→Bool} {i d:Nat} {v:aj} (hok:mM l T i=true) (hi:eG l i=some d) 
  (HT:St N D w0 F G0 G1 L T a w) (Hb:St N D w0 F G0 G1 L (Xs++full N a) a w) (hG:∀ k o,G k=some o→G1 k=some o) (hv:∀ j d,j≠i→S j=true→eG l j=some d→∃ v,a.tmps[d]?=some v∧pr j v G1)
  (hp:pr i v G1) (H:St N D w0 F G0 G1 L1 ((d,v) :: (Xs++full N a)) a' w'):DX N D w0 F G0 G L1 T l pr (dX S i) a' w':=by
 have hil:i < l.length:=xg hi
 have hok1:=hok
 rw [mM,hi] at hok1
 simp only [lu,Option.isNone_iff_eq_none,lq,oH] at hok1
 have hsame:∀ t,t≠d→a'.tmps[t]?=a.tmps[t]?:=by
  intro t ht
  by_cases hlt:t < N
  ·have h1:∃ u,lk (Xs++full N a) t=some u:=by
    rw [D8]
    cases lk Xs t with
    | some u=>exact ⟨u,rfl⟩
    | none=>exact ⟨_,Kw a hlt⟩
   obtain ⟨u,hu⟩:=h1
   rw [Hb.get t u hu,H.get t u (by rw [fB (Ne.symm ht)];exact hu)]
  ·rw [Array.getElem?_eq_none (by rw [H.lC];omega),Array.getElem?_eq_none (by rw [Hb.lC];omega)]
 refine ⟨G1,hG,⟨H.lC,fun t u ht=>?_,H.qm,H.hp⟩,fun j e hj he=>?_⟩
 ·rw [hsame t (fun e=>by rw [e,hok1.1] at ht;cases ht)]
  exact HT.get t u ht
 ·by_cases hji:j=i
  ·subst hji
   rw [hi] at he
   simp only [nK] at he
   subst he
   exact ⟨v,H.get d v (jX _ _ _),hp⟩
  ·have hSj:S j=true:=by unfold dX at hj;rwa [ah hji] at hj
   obtain ⟨u,hu1,hu2⟩:=hv j e hji hSj he
   have hne:e≠d:=by
    intro e'
    subst e'
    have h2:=hok1.2 j (xg he)
    rw [yM (fun h=>hji h.symm),he] at h2
    simp at h2
   exact ⟨u,by rw [hsame e hne];exact hu1,hu2⟩
end
end
section
open Go.RowKit
section
variable {N:Nat} {D:List Deferred} {w0:World} {F:Nat→Prop} {G0 G:GH} {L:OL} {T:List (Nat × aj)}
variable {r:Option Nat} {P:Program} {ops:Array Oper} {Q:Exit→Act→World→Prop} {rest:List Oper} {a:Act} {w:World}
variable {d:Nat} {ty:TypeId} {pos:String} {aN:Array Edge} {g:Option (Nat × Bool)}
theorem Cx {t:TypeId} (H:St N D w0 F G0 G L T a w) (hw:Region.wanted ⟨some d,.makeMap t none,ty,pos,aN,g⟩ (yielded ops a.tmps)=true) (hd:Nat.blt d N=true)
  (k:∀ b a' w',w0.heap.size≤b→St N D w0 F G0 G ((b,.map #[] 0) :: L) ((d,.map (some b)) :: T) a' w'→WL r P ops Q rest a' w'):WL r P ops Q (⟨some d,.makeMap t none,ty,pos,aN,g⟩ :: rest) a w:=by
 refine fM (v:=.map (some w.heap.size)) (w':=w.alloc (.map #[] 0)) hw rfl ?_ (k _ _ _ H.hp.size (H.put hd _ (H.hp.alloc _)))
 simp [execOp,Instr.makeMap,newObj,Sem.run,bZ]
def Ba (an:Option (Nat × aj)) (zv:aj):aj × Bool:=match an with|some (_,v)=>(v,true)|none=>(zv,false)
theorem aiU {t kt et:TypeId} {kd:TypeDesc} {x y:Operand} {b i clock:Nat} {es:Array MapEntry} {ky zv:aj} (an:Option (Nat × aj)) (hm:P.underlying t=some (.map kt et)) (hk:P.underlying kt=some kd) (hz:(P.info? et).map (fun i=>i.zero)=some (some zv)) (H:St N D w0 F G0 G L T a w)
  (hw:Region.wanted ⟨some d,.lookup t x y true,ty,pos,aN,g⟩ (yielded ops a.tmps)=true) (hx:ev T x=some (.map (some b))) (hy:ev T y=some ky) (hi:L[i]?=some (b,.map es clock)) (hky:MapKept.IsKey kd ky) (hf:Instr.findNow kd ky es.toList 0=some an) (hd:Nat.blt d N=true)
  (k:∀ a',St N D w0 F G0 G L ((d,.tuple #[(Ba an zv).1,.bool (Ba an zv).2]) :: T) a' w→WL r P ops Q rest a' w):WL r P ops Q (⟨some d,.lookup t x y true,ty,pos,aN,g⟩ :: rest) a w:=by
 have hb:w.heap[b]?=some (.map es clock):=H.hp.own _ (lg hi)
 obtain ⟨inf,hi1,hi2⟩:=lK.1 hz
 refine fM (v:=.tuple #[(Ba an zv).1,.bool (Ba an zv).2]) (w':=w) hw rfl ?_ (k _ (H.put hd _ H.hp))
 have h1:=MapKept.run_checkKey (w:=w) hk hky es.isEmpty 9999
 have h2:=MapKept.run_findKey (w:=w) hk hf
 cases an with
 | none=>simp [execOp,Instr.lookup,H.ev hx,H.ev hy,bZ,kM hm,MapKept.run_getObj_map hb,h1,h2,Result.andThen,zeroValue,zx hi1,hi2,Ba]
 | some q=>simp [execOp,Instr.lookup,H.ev hx,H.ev hy,bZ,kM hm,MapKept.run_getObj_map hb,h1,h2,Result.andThen,Ba]
theorem QK {w:World} {b clock:Nat} {es:Array MapEntry} {o:Obj} (h:w.heap[b]?=some (.map es clock)):tO b o w { w with heap:=w.heap.setIfInBounds b o }:=by
 have hlt:b < w.heap.size:=(Array.getElem?_eq_some_iff.1 h).1
 refine ⟨rfl,rfl,rfl,by simp,by simp [hlt],fun k hk=>?_⟩
 simp only
 rw [Array.getElem?_setIfInBounds_ne (Ne.symm hk)]
theorem Qp {t kt et:TypeId} {kd:TypeDesc} {x y z:Operand} {b i clock:Nat} {es:Array MapEntry} {ky v:aj} (hm:P.underlying t=some (.map kt et)) (hk:P.underlying kt=some kd) (H:St N D w0 F G0 G L T a w)
  (hw:Region.wanted ⟨none,.mapUpdate t x y z,ty,pos,aN,g⟩ (yielded ops a.tmps)=true) (hx:ev T x=some (.map (some b))) (hy:ev T y=some ky) (hzv:ev T z=some v) (hi:L[i]?=some (b,.map es clock)) (hky:MapKept.IsKey kd ky) (hf:Instr.findNow kd ky es.toList 0=some none)
  (k:∀ w',St N D w0 F G0 G (L.set i (b,.map (es.push ⟨ky,v,clock⟩) (clock+1))) T a w'→WL r P ops Q rest a w'):WL r P ops Q (⟨none,.mapUpdate t x y z,ty,pos,aN,g⟩ :: rest) a w:=by
 have hb:w.heap[b]?=some (.map es clock):=H.hp.own _ (lg hi)
 have h1:=MapKept.run_checkKey (w:=w) hk hky false 9999
 have h2:=MapKept.run_findKey (w:=w) hk hf
 refine LV (w':={ w with heap:=w.heap.setIfInBounds b (.map (es.push ⟨ky,v,clock⟩) (clock+1)) }) hw rfl ?_ (k _ (H.move (H.hp.upd hi (QK hb))))
 simp [execOp,Instr.mapUpdate,H.ev hx,H.ev hy,H.ev hzv,bZ,kM hm,MapKept.run_getObj_map hb,h1,h2,MapKept.run_setObj_map _ hb,Result.andThen]
theorem aiX {t yt:TypeId} {x y:Operand} {p q:ByteArray} (H:St N D w0 F G0 G L T a w) (hw:Region.wanted ⟨some d,.binOp .neq t x y yt,ty,pos,aN,g⟩ (yielded ops a.tmps)=true) (hx:ev T x=some (.string p)) (hy:ev T y=some (.string q)) (hd:Nat.blt d N=true)
  (k:∀ a',St N D w0 F G0 G L ((d,.bool (!(p.toList == q.toList))) :: T) a' w→WL r P ops Q rest a' w):WL r P ops Q (⟨some d,.binOp .neq t x y yt,ty,pos,aN,g⟩ :: rest) a w:=by
 refine fM (v:=.bool (!(p.toList == q.toList))) (w':=w) hw rfl ?_ (k _ (H.put hd _ H.hp))
 simp [execOp,H.ev hx,H.ev hy,bZ,eqGuard,binOp,Op.stringOp]
theorem Hp.Ww (h:Hp w0 F G0 G L w) {b o:Nat} {c:Array aj} {e:TypeId} {fz:Nat × Nat} {v:aj} (hm:(b,Obj.cells c e fz)∈L) (hv:c[o]?=some v):w.cell? ⟨b,o,none⟩=some v:=by
 have:=h.own _ hm
 simp only [World.cell?,this]
 exact hv
end
end
section
open Go.RowKit
section
variable {N:Nat} {D:List Deferred} {w0:World} {F:Nat→Prop} {G0 G G1 G2:GH} {L L1:OL} {T Xs:List (Nat × aj)}
variable {r:Option Nat} {P:Program} {Q:Exit→Act→World→Prop} {l:List Oper} {a a':Act} {w w':World}
end
end
section
open Go.RowKit
section
variable {N:Nat} {D:List Deferred} {w0:World} {F:Nat→Prop} {G0 G G1 G2:GH} {L L1 L2:OL} {T Xs:List (Nat × aj)}
variable {r:Option Nat} {P:Program} {Q:Exit→Act→World→Prop} {l:List Oper} {a a':Act} {w w':World}
end
end
section
open Go.RowKit
theorem ahj:liesAt prog prog.depth 259 (7 / prog.cellsOf 259) 2 121 1=true:=by kernel_rfl
theorem LH:Ty prog 5 1 1 [.int .u8 0] false:=⟨by kernel_rfl,by kernel_rfl⟩
abbrev gG (b:Nat) (s:ByteArray) (i:Int) (p v q:aj) (pl e:Int):Nat × Obj:=(b,.cells #[.string s,vi i,p,v,q,vi pl,vi e] 259 (0,0))
theorem ajg (G:GH) (L:OL) (w0:World) (b:Nat) (s:ByteArray) (i:Int) (A:Option Addr) (n c:Nat) (B:Option Addr) (m d:Nat) (pl e:Int) (hO:gX G (gG b s i (.pointer none) (.slice A n c) (.slice B m d) pl e :: L) w0) :
  Calls prog 74 #[(aJ b 2)] w0 (gH w0 G (gG b s i (.pointer none) (.slice A n c) (.slice B m d) pl e :: L) fun u G' L'=>L'=gG b s i (aJ b 2) (.slice A n c) (.slice B m d) pl e :: L∧G'=G):=by
 refine jO (N:=20) (T:=[(0,_)]) func74 rfl ntmps74 rfl rfl hO ?_;intro a H;refine kP H (SR fun _ K1=>Rm rfl (Rk rfl (aP Ab Br 0 rfl rfl ?_)));clear H;intro a H;refine KW zK H wn rfl rfl ?_;clear H;intro a H;refine K1 _ _ ?_;clear K1;refine kr H rfl ?_ ?_
 ·intro h6
  refine kP H (SC (Rm rfl (Rm rfl ?_)));clear H;intro a H;refine XJ zK LK FE H wn rfl 0 rfl rfl rfl ?_;clear H;intro a H;refine XD (xs:=[.tmp 9]) (WM _) H wn rfl rfl ?_;clear H;intro a H;refine XB LK zK FE H wn rfl 0 rfl ahj rfl ?_;clear H;intro a H;refine kH H (Rk rfl (Rf Ab rfl ?_));clear H;intro a H;refine bH Br 0 (vs:=[_]) _ H wn rfl rfl rfl rfl rfl rfl rfl rfl ?_;clear H;intro w H;dsimp only [List.set,setRow] at H;refine aH ?_;refine (leave0 H results74 ?_).2;exact H.hp.eP ⟨rfl,rfl⟩
 intro h6
 exact absurd h6 (by decide)
theorem ajh (G:GH) (L:OL) (w0:World) (b:Nat) (s:ByteArray) (i:Int) (A:Option Addr) (n c:Nat) (B:Option Addr) (m d:Nat) (pl e:Int) (hO:gX G (gG b s i (aJ b 2) (.slice A n c) (.slice B m d) pl e :: L) w0) :
  Calls prog 74 #[(aJ b 2)] w0 (gH w0 G (gG b s i (aJ b 2) (.slice A n c) (.slice B m d) pl e :: L) fun u G' L'=>L'=gG b s i (aJ b 2) (.slice A n c) (.slice B m d) pl e :: L∧G'=G):=by
 refine jO (N:=20) (T:=[(0,_)]) func74 rfl ntmps74 rfl rfl hO ?_;intro a H;refine kP H (SR fun _ K1=>Rm rfl (Rk rfl (aP Ab Br 0 rfl rfl ?_)));clear H;intro a H;refine KW zK H wn rfl rfl ?_;clear H;intro a H;refine K1 _ _ ?_;clear K1;refine kr H rfl ?_ ?_
 ·intro h6
  exact absurd h6 (by simp)
 intro h6
 refine kP H (SR fun _ K2=>Rm rfl (Rk rfl (aP Ab Br 0 rfl rfl (Rm rfl ?_))));clear H;intro a H;refine XC zK FE H wn rfl rfl rfl ?_;clear H;intro a H;refine K2 _ _ ?_;clear K2;refine kr H rfl ?_ ?_
 ·intro h19
  exact absurd h19 (by decide)
 intro h19
 refine gI ?_;refine (leave0 H results74 ?_).2;exact H.hp.eP ⟨rfl,rfl⟩
theorem aji (G:GH) (L:OL) (w0:World) (b:Nat) (s:ByteArray) (i:Int) (p:aj) (A:Option Addr) (n c:Nat) (B:Option Addr) (m d:Nat) (pl e:Int) (hp:p=.pointer none∨p=(aJ b 2)) (hO:gX G (gG b s i p (.slice A n c) (.slice B m d) pl e :: L) w0) :
  Calls prog 74 #[(aJ b 2)] w0 (gH w0 G (gG b s i p (.slice A n c) (.slice B m d) pl e :: L) fun u G' L'=>L'=gG b s i (aJ b 2) (.slice A n c) (.slice B m d) pl e :: L∧G'=G):=by
 rcases hp with rfl|rfl
 ·exact ajg G L w0 b s i A n c B m d pl e hO
 exact ajh G L w0 b s i A n c B m d pl e hO
theorem Yv (G:GH) (Lp Lo:OL) (w0:World) (b:Nat) (s:ByteArray) (i:Int) (p v:aj) (B:Option Addr) (m d:Nat) (pl e:Int) (n:Nat) (xs:List aj) (c:Int) (hp:p=.pointer none∨p=(aJ b 2)) (hO:gX G (gG b s i p v (.slice B m d) pl e :: (Lp++Lo)) w0) (hrow:dx 5 1 v n xs Lo) (hn:n≤4294967296) :
  Calls prog 159 #[(aJ b 2),.int .u8 c] w0 (gH w0 G (gG b s i p v (.slice B m d) pl e :: (Lp++Lo)) fun u G' L'=>∃ v' fD,L'=gG b s i (aJ b 2) v' (.slice B m d) pl e :: (Lp++fD)∧dx 5 1 v' (n+1) (xs++[.int .u8 c]) fD∧G'=G):=by
 have hml:maxLen=9223372036854775807:=rfl;obtain ⟨A,c0,rfl,-,-⟩:=hrow.shape;obtain ⟨Lt,oC⟩:∃ x,x=Lp++Lo:=⟨_,rfl⟩;rw [← oC] at hO ⊢;refine jO (N:=17) (T:=[(0,_),(1,_)]) func159 rfl ntmps159 rfl rfl hO ?_;intro a H;refine kP H (SR fun _ K1=>ak K1 rfl (SR fun _ K2=>Rm rfl ?_));clear H K1;intro a H;refine gU TW (Li:=[]) (L:=gG b s i p _ (.slice B m d) pl e :: Lt) H wn rfl (aji _ _ _ b s i p A n c0 B m d pl e hp (Hp.owns (Li:=[]) H.hp)) rfl ?_;clear H;rintro v6 _ L6 a w ⟨rfl,rfl⟩ J7 H;dsimp only [List.nil_append] at H;refine K2 _ _ ?_;clear K2;refine kP H (SR fun _ K3=>Rm rfl (Rm rfl (Rk rfl (aP yT zH 0 rfl rfl (Rm rfl ?_)))));clear H;intro a H;refine gQ Bu LH [_] [_] H wn rfl rfl rfl rfl rfl (by intro i q h;match i,h with|0,h=>exact h|n+1,h=>simp at h) rfl rfl ?_;clear H;intro b13 a w Ot H;subst oC;have H:=St.un (A:=[_,_]) (B:=Lp) (C:=Lo) H;refine nU (Li:=[_,_]++Lp) (Lo:=Lo) (news:=[.int .u8 c]) Bu LH rfl rfl H wn rfl rfl hrow rfl (H.hp.dS 0 rfl rfl) rfl (by omega) (by omega) rfl ?_;clear H;intro v14 RS a w H8 H;obtain ⟨QT,c14,rfl,-,-⟩:=H8.shape;have H:=H.assoc;dsimp only [lca,bg] at H;refine kH H (Rk rfl (Rf yT rfl ?_));clear H;intro a H;refine bH zH 1 (vs:=[_]) _ H wn rfl rfl rfl rfl rfl rfl rfl rfl ?_;clear H;intro w H;dsimp only [List.set,setRow] at H;refine K3 _ _ ?_;clear K3;exact kP H (SR fun _ K4=>ak K4 rfl (LR results159 rfl fun H=>H.hp.fI (L':=gG b s i _ _ _ pl e :: (Lp++RS)) (zU _ _) ⟨_,_,rfl,H8,rfl⟩))
theorem ajy (G:GH) (L:OL) (w0:World) (b:Nat) (s:ByteArray) (i:Int) (p:aj) (A:Option Addr) (n c:Nat) (B:Option Addr) (m d:Nat) (pl e:Int) (hO:gX G (gG b s i p (.slice A n c) (.slice B m d) pl e :: L) w0) :
  Calls prog 164 #[(aJ b 2)] w0 (gH w0 G (gG b s i p (.slice A n c) (.slice B m d) pl e :: L) fun u G' L'=>u=vi n∧L'=gG b s i p (.slice A n c) (.slice B m d) pl e :: L∧G'=G):=by
 refine jO (N:=8) (T:=[(0,_)]) func164 rfl ntmps164 rfl rfl hO ?_;intro a H;exact kP H (SR fun _ K1=>ak K1 rfl (SR fun _ K2=>Rm rfl (Rk rfl (aP yT zH 0 rfl rfl (Rl Bu rfl (ak K2 rfl (LR results164 rfl fun H=>H.hp.eP ⟨rfl,rfl,rfl⟩)))))))
theorem ajO (G:GH) (L:OL) (w0:World) (b:Nat) (s:ByteArray) (i:Int) (p:aj) (A:Option Addr) (n c:Nat) (B:Option Addr) (m d:Nat) (pl e:Int) (hO:gX G (gG b s i p (.slice A n c) (.slice B m d) pl e :: L) w0) :
  Calls prog 165 #[(aJ b 2)] w0 (gH w0 G (gG b s i p (.slice A n c) (.slice B m d) pl e :: L) fun u G' L'=>L'=gG b s i (.pointer none) (.slice none 0 0) (.slice B m d) pl e :: L∧G'=G):=by
 refine jO (N:=8) (T:=[(0,_)]) func165 rfl ntmps165 rfl rfl hO ?_;intro a H;refine kP H (SR fun _ K1=>Rm rfl (Rk rfl (Rf Ab rfl ?_)));clear H;intro a H;refine bH Br 0 (vs:=[_]) _ H wn rfl rfl rfl rfl rfl rfl rfl rfl ?_;clear H;intro w H;dsimp only [List.set,setRow] at H;refine K1 _ _ ?_;clear K1;refine kP H (SC (Rm rfl (Rk rfl (Rf yT rfl ?_))));clear H;intro a H;refine bH zH 0 (vs:=[_]) _ H wn rfl rfl rfl rfl rfl rfl rfl rfl ?_;clear H;intro w H;dsimp only [List.set,setRow] at H;refine aH ?_;refine (leave0 H results165 ?_).2;exact H.hp.eP ⟨rfl,rfl⟩
theorem ajP (G:GH) (Lp Lo:OL) (w0:World) (b:Nat) (s:ByteArray) (i:Int) (p v:aj) (B:Option Addr) (m d:Nat) (pl e:Int) (l:List UInt8) (hO:gX G (gG b s i p v (.slice B m d) pl e :: (Lp++Lo)) w0) (hrow:dx 5 1 v l.length (Lib.byteCells l) Lo) (h0:l≠[]) :
  Calls prog 49 #[(aJ b 2)] w0 (gH w0 G (gG b s i p v (.slice B m d) pl e :: (Lp++Lo)) fun u G' L'=>u=.string ⟨l.toArray⟩∧L'=gG b s i p v (.slice B m d) pl e :: Lp):=by
 rcases hrow.2 with ⟨-,h,-⟩|⟨b2,cap,cur,rfl,rfl,hc1,hc2,hc3,hc4⟩
 ·exact absurd (List.eq_nil_of_length_eq_zero h) h0
 have hl0:l.length≠0:=fun h=>h0 (List.eq_nil_of_length_eq_zero h);have hml:maxLen=9223372036854775807:=rfl;obtain ⟨Lt,oC⟩:∃ x,x=Lp++[(b2,Obj.cells cur 5 (0,0))]:=⟨_,rfl⟩;rw [← oC] at hO ⊢;refine jO (N:=14) (T:=[(0,_)]) func49 rfl ntmps49 rfl rfl hO ?_;intro a H;refine kP H (SR fun _ K1=>ak K1 rfl (SQ fun _ K2=>?_));clear H K1;intro a H;have H:=H.sub (T':=[(0,_)]) ⟨rfl,aD⟩;refine dI hmx [[],[0],[0,1],[0,1,2],(ra 0 4),[],[5],[5,6],[5,6,7],(ra 5 4),(ra 0 10),(ra 0 11)] [10,11] (by kernel_rfl) [_,_,_,.slice (some ⟨b2,0,none⟩) l.length cap,(aJ b2 0),_,_,_,.slice (some ⟨b2,0,none⟩) l.length cap,_] H (aF (Z0 rfl (Rm rfl)) (Z1 0 3 rfl (Rk rfl)) (Z1 1 4 rfl (Rf yT rfl)) (Z1 2 5 rfl (Ro zH 0 rfl)) (aF ?_ (Z0 rfl (Rm rfl)) (Z1 5 8 rfl (Rk rfl)) (Z1 6 9 rfl (Rf yT rfl)) (aF (Z1 7 10 rfl (Ro zH 0 rfl)) (Z1 8 11 rfl (Rl Bu rfl)) (bK rfl) (bK rfl) bX))) ?_
 ·refine dR 3 6 rfl rfl fun _ a w G1 hG HT H fin=>?_;refine XH H wn rfl (by omega) rfl ?_;clear H;intro a H;exact fin H iJ rfl
 clear H;intro a w G nu H hv;have H:=H.aR (hv 4 7 rfl rfl) rfl;have H:=H.aR (hv 9 12 rfl rfl) rfl;clear hv;subst oC;have H:=H.perm (List.Perm.cons _ zV);dsimp only [lca,bg] at H;refine XK (i:=1) l Yh S9 h0 (by omega) H wn rfl rfl rfl (by rw [← hc4,Nat.mul_one]) rfl ?_;clear H;intro fz a w H;dsimp only [List.set] at H;refine kH H (Ra rfl ?_);clear H;intro a H;refine aH ⟨rfl,?_⟩;refine K2 _ _ ?_;clear K2;refine lr H results49 rfl ?_;exact H.hp.fI (L':=gG b s i _ _ _ pl e :: Lp) (List.Sublist.cons_cons _ (zU _ _)) ⟨rfl,rfl⟩
end
section
open Go.RowKit
section
variable {N:Nat} {D:List Deferred} {w0:World} {F:Nat→Prop} {G0 G G1 G2:GH} {L L1 L2:OL} {T Xs:List (Nat × aj)}
variable {r:Option Nat} {P:Program} {Q:Exit→Act→World→Prop} {l:List Oper} {a a':Act} {w w':World}
end
end
section
open Go.RowKit
section
variable {N:Nat} {D:List Deferred} {w0:World} {F:Nat→Prop} {G0 G G1 G2:GH} {L L1 L2:OL} {T Xs:List (Nat × aj)}
variable {r:Option Nat} {P:Program} {Q:Exit→Act→World→Prop} {l:List Oper} {a a':Act} {w w':World}
theorem abE {pr:Nat→aj→GH→Prop} {S:Nat→Bool} {i d:Nat} {v:aj} (hok:mM l T i=true) (iN:∀ i v (G G':GH),(∀ k o,G k=some o→G' k=some o)→pr i v G→pr i v G') (hi:eG l i=some d)
  (HT:St N D w0 F G0 G1 L T a w) (Hb:St N D w0 F G0 G1 L (Xs++full N a) a w) (hG:∀ k o,G k=some o→G1 k=some o) (hv:∀ j d,j≠i→S j=true→eG l j=some d→∃ v,a.tmps[d]?=some v∧pr j v G1)
  (hG2:∀ k o,G1 k=some o→G2 k=some o) (hp:pr i v G2) (H:St N D w0 F G0 G2 L1 ((d,v) :: (Xs++full N a)) a' w'):DX N D w0 F G0 G L1 T l pr (dX S i) a' w':=by
 have hok1:=hok
 rw [mM,hi] at hok1
 simp only [lu,Option.isNone_iff_eq_none,lq,oH] at hok1
 have hsame:∀ t,t≠d→a'.tmps[t]?=a.tmps[t]?:=by
  intro t ht
  by_cases hlt:t < N
  ·have h1:∃ u,lk (Xs++full N a) t=some u:=by
    rw [D8]
    cases lk Xs t with
    | some u=>exact ⟨u,rfl⟩
    | none=>exact ⟨_,Kw a hlt⟩
   obtain ⟨u,hu⟩:=h1
   rw [Hb.get t u hu,H.get t u (by rw [fB (Ne.symm ht)];exact hu)]
  ·rw [Array.getElem?_eq_none (by rw [H.lC];omega),Array.getElem?_eq_none (by rw [Hb.lC];omega)]
 refine ⟨G2,fun k o hk=>hG2 k o (hG k o hk),⟨H.lC,fun t u ht=>?_,H.qm,H.hp⟩,fun j e hj he=>?_⟩
 ·rw [hsame t (fun e=>by rw [e,hok1.1] at ht;cases ht)]
  exact HT.get t u ht
 ·by_cases hji:j=i
  ·subst hji
   rw [hi] at he
   simp only [nK] at he
   subst he
   exact ⟨v,H.get d v (jX _ _ _),hp⟩
  ·have hSj:S j=true:=by unfold dX at hj;rwa [ah hji] at hj
   obtain ⟨u,hu1,hu2⟩:=hv j e hji hSj he
   have hne:e≠d:=by
    intro e'
    subst e'
    have h2:=hok1.2 j (xg he)
    rw [yM (fun h=>hji h.symm),he] at h2
    simp at h2
   exact ⟨u,by rw [hsame e hne];exact hu1,iN j u _ _ hG2 hu2⟩
theorem aao {id:Nat} {κ:Type} (k0:κ) (hm:P.follows .mixedOrders=true) (bP:List (List Nat)) (B:List Nat) (hk:yR l bP=true) (hB:zG l bP B=true) (m1 m2 m3:Nat) (alv:B.contains m1=false) (alx:B.contains m2=false) (afW:B.contains m3=false) (hne:Nat.beq m1 m2=false) (Vp:Nat.beq m2 m3=false) (hne1:Nat.beq m1 m3=false) (h12:(bP.getD m2 []).contains m1=true) (gy:(bP.getD m3 []).contains m1=true) (h23:(bP.getD m3 []).contains m2=true)
  (C L2:OL) (ob:Obj) (L3:Nat→κ→OL) (hC:∀ x,x∈C→x∈L) (hC2:∀ x,x∈C→x∈L2) (hC3:∀ b k x,x∈C→x∈L3 b k) (pr:Nat→κ→Nat→aj→GH→Prop)
  (O4:∀ b b' k i v G,Nat.beq i m2=false→(bP.getD i []).contains m2=false→pr b k i v G→pr b' k i v G)
  (agm:∀ b k k' i v G,Nat.beq i m3=false→(bP.getD i []).contains m3=false→pr b k i v G→pr b k' i v G)
  (H:St N D w0 F G0 G L T a w)
  (hstep:allI (fun i o=>∀ b k L' S a w G1,(∀ x,x∈C→x∈L')→B.contains i=false→Nat.beq i m1=false→Nat.beq i m2=false→Nat.beq i m3=false→S i=false→(∀ j∈bP.getD i [],S j=true)→(∀ k o,G k=some o→G1 k=some o)→St N D w0 F G0 G1 L' T a w→(∀ i d,S i=true→eG l i=some d→∃ v,a.tmps[d]?=some v∧pr b k i v G1) →
   WL r P l.toArray (fun e a' w'=>e=.normal∧DX N D w0 F G0 G L' T l (pr b k) (dX S i) a' w') [o] a w) 0 l)
  (afX:∀ o b k S a w G1,l[m1]?=some o→S m1=false→(∀ j∈bP.getD m1 [],S j=true)→(∀ k o,G k=some o→G1 k=some o)→St N D w0 F G0 G1 L T a w→(∀ i d,i≠m1→S i=true→eG l i=some d→∃ v,a.tmps[d]?=some v∧pr b k i v G1) →
   WL r P l.toArray (fun e a' w'=>e=.normal∧DX N D w0 F G0 G L2 T l (pr b k) (dX S m1) a' w') [o] a w)
  (afY:∀ o k S a w G1,l[m2]?=some o→S m2=false→(∀ j∈bP.getD m2 [],S j=true)→(∀ k o,G k=some o→G1 k=some o)→St N D w0 F G0 G1 L2 T a w→(∀ b i d,i≠m2→S i=true→eG l i=some d→∃ v,a.tmps[d]?=some v∧pr b k i v G1) →
   WL r P l.toArray (fun e a' w'=>e=.normal∧∃ b,DX N D w0 F G0 G ((b,ob) :: L2) T l (pr b k) (dX S m2) a' w') [o] a w)
  (afZ:∀ o b S a w G1,l[m3]?=some o→S m3=false→(∀ j∈bP.getD m3 [],S j=true)→(∀ k o,G k=some o→G1 k=some o)→St N D w0 F G0 G1 ((b,ob) :: L2) T a w→(∀ k i d,i≠m3→S i=true→eG l i=some d→∃ v,a.tmps[d]?=some v∧pr b k i v G1) →
   WL r P l.toArray (fun e a' w'=>e=.normal∧∃ k,DX N D w0 F G0 G (L3 b k) T l (pr b k) (dX S m3) a' w') [o] a w)
  (hend:∀ b k a w G1,(∀ k o,G k=some o→G1 k=some o)→St N D w0 F G0 G1 (L3 b k) T a w→(∀ i d,B.contains i=false→eG l i=some d→∃ v,a.tmps[d]?=some v∧pr b k i v G1)→WL r P l.toArray (fun e a w=>e=.normal∧Q .normal a w) (qB l B) a w)
  (OP:Nat.blt m2 l.length=true) (OQ:Nat.blt m3 l.length=true):WP r P (.region id l.toArray true) Q a w:=by
 have WH:m1≠m2:=fun e=>by subst e;rw [Nat.beq_refl] at hne;cases hne
 have WJ:m2≠m3:=fun e=>by subst e;rw [Nat.beq_refl] at Vp;cases Vp
 have WI:m1≠m3:=fun e=>by subst e;rw [Nat.beq_refl] at hne1;cases hne1
 refine SL hm bP B hk hB (fun S a w=>(S m2=true→S m1=true)∧(S m3=true→S m2=true)∧∃ b k L',L'=(bif S m3 then L3 b k else bif S m2 then (b,ob) :: L2 else bif S m1 then L2 else L)∧DX N D w0 F G0 G L' T l (pr b k) S a w)
  ⟨fun h=>h,fun h=>h,0,k0,L,rfl,G,fun _ _ h=>h,H.move H.hp.drew,fun _ _ h=>absurd (show false=true from h) (by decide)⟩ ?_ ?_
 ·rintro i o S a w ho hb bS mO hdesc ⟨agf,agh,b,k,L',hL,G1,hG,HS,hv⟩
  have hsub:∀ x,x∈C→x∈L':=fun x hx=>by
   rw [hL]
   cases S m3 with
   | true=>exact hC3 b k x hx
   | false=>cases S m2 with
    | true=>exact jN _ (hC2 x hx)
    | false=>cases S m1 with
     | true=>exact hC2 x hx
     | false=>exact hC x hx
  have hno:∀ j,j < l.length→S j=true→(bP.getD j []).contains i=false:=fun j hjl hj=>by
   cases hc:(bP.getD j []).contains i with
   | false=>rfl
   | true =>
    have:=hdesc j hjl (by simpa using hc)
    rw [this] at hj;cases hj
  by_cases h1:i=m1
  ·subst h1
   have hS2:S m2=false:=hdesc m2 (Eq.mp Nat.blt_eq OP) (by simpa using h12)
   have EX:S m3=false:=hdesc m3 (Eq.mp Nat.blt_eq OQ) (by simpa using gy)
   rw [EX,hS2,bS] at hL
   subst hL
   have h:=afX o b k S a w G1 ho bS mO hG HS fun j d hj hSj hd=>hv j d hSj hd
   have e2:dX S i m2=S m2:=ah (fun e=>WH e.symm)
   have e3:dX S i m3=S m3:=ah (fun e=>WI e.symm)
   refine rE (fun e a' w' ⟨he,hD⟩=>⟨he,fun _=>au rfl,fun h=>(by rw [e3,EX] at h;cases h),b,k,_,?_,hD⟩) h
   rw [show dX S i i=true from au rfl,e2,e3,hS2,EX]
   rfl
  ·by_cases h2:i=m2
   ·subst h2
    have hS1:S m1=true:=mO m1 (by simpa using h12)
    have EX:S m3=false:=hdesc m3 (Eq.mp Nat.blt_eq OQ) (by simpa using h23)
    rw [EX,bS,hS1] at hL
    subst hL
    have e1:dX S i m1=S m1:=ah WH
    have e3:dX S i m3=S m3:=ah (fun e=>WJ e.symm)
    have h:=afY o k S a w G1 ho bS mO hG HS fun b' j d hj hSj hd=>by
     obtain ⟨v,hv1,hv2⟩:=hv j d hSj hd
     exact ⟨v,hv1,O4 b b' k j v _ (yM hj) (hno j (xg hd) hSj) hv2⟩
    refine rE (fun e a' w' ⟨he,b',hD⟩=>⟨he,fun _=>by rw [e1];exact hS1,fun _=>au rfl,b',k,_,?_,hD⟩) h
    rw [show dX S i i=true from au rfl,e3,EX];rfl
   ·by_cases h3:i=m3
    ·subst h3
     have hS1:S m1=true:=mO m1 (by simpa using gy)
     have hS2:S m2=true:=mO m2 (by simpa using h23)
     rw [bS,hS2] at hL
     subst hL
     have e1:dX S i m1=S m1:=ah WI
     have e2:dX S i m2=S m2:=ah WJ
     have h:=afZ o b S a w G1 ho bS mO hG HS fun k' j d hj hSj hd=>by
      obtain ⟨v,hv1,hv2⟩:=hv j d hSj hd
      exact ⟨v,hv1,agm b k k' j v _ (yM hj) (hno j (xg hd) hSj) hv2⟩
     refine rE (fun e a' w' ⟨he,k',hD⟩=>⟨he,fun _=>by rw [e1];exact hS1,fun _=>by rw [e2];exact hS2,b,k',_,?_,hD⟩) h
     rw [show dX S i i=true from au rfl];rfl
    ·have h:=EF hstep i o ho
     rw [kR] at h
     have e1:dX S i m1=S m1:=ah (fun e=>h1 e.symm)
     have e2:dX S i m2=S m2:=ah (fun e=>h2 e.symm)
     have e3:dX S i m3=S m3:=ah (fun e=>h3 e.symm)
     refine rE (fun e a' w' ⟨he,hD⟩=>⟨he,by rw [e1,e2];exact agf,by rw [e2,e3];exact agh,b,k,L',?_,hD⟩) (h b k L' S a w G1 hsub hb (yM h1) (yM h2) (yM h3) bS mO hG HS hv)
     rw [e1,e2,e3];exact hL
 ·rintro S a w hall hnB ⟨_,_,b,k,L',hL,G1,hG,HS,hv⟩
  have hs3:S m3=true:=hall m3 (Eq.mp Nat.blt_eq OQ) afW
  rw [hs3] at hL
  subst hL
  exact hend b k a w G1 hG HS fun j d hb hd=>hv j d (hall j (xg hd) hb) hd
end
theorem akc {z:Int} (h1:0≤z) (h2:z < 256):IntKind.u8.wrap z=z:=by
 simp only [IntKind.wrap,IntKind.bits,IntKind.signed,uO,Df,if_false]
 omega
section
variable {N:Nat} {D:List Deferred} {w0:World} {F:Nat→Prop} {G0 G:GH} {L:OL} {T:List (Nat × aj)}
variable {r:Option Nat} {P:Program} {ops:Array Oper} {Q:Exit→Act→World→Prop} {rest:List Oper} {a:Act} {w:World}
variable {d:Nat} {ty:TypeId} {pos:String} {aN:Array Edge} {g:Option (Nat × Bool)}
theorem aje {x y:Operand} {t yt:TypeId} {p q:Int} (H:St N D w0 F G0 G L T a w) (hw:Region.wanted ⟨some d,.binOp .sub t x y yt,ty,pos,aN,g⟩ (yielded ops a.tmps)=true) (hx:ev T x=some (.int .u8 p)) (hy:ev T y=some (.int .u8 q)) (h1:0≤p - q) (h2:p - q < 256) (hd:Nat.blt d N=true)
  (k:∀ a',St N D w0 F G0 G L ((d,.int .u8 (p - q)) :: T) a' w→WL r P ops Q rest a' w):WL r P ops Q (⟨some d,.binOp .sub t x y yt,ty,pos,aN,g⟩ :: rest) a w :=
 fM (v:=.int .u8 (p - q)) (w':=w) hw rfl (by simp [execOp,eqGuard,binOp,Op.intArith,H.ev hx,H.ev hy,bZ,akc h1 h2]) (k _ (H.put hd _ H.hp))
end
end
end Go.Proofs.YteopmoocmoigcaaGreat
