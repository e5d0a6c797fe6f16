/-
  What the claim stands on, part 2: Run Rg Pos Pq Doc Dq Eq Idx Bld Hv Ut Prk Prp Plc Plr Prq Prc Fst Nam Pn De Dj Mp Dk Dw Lsc Dm Dl.
-/
import Derived.Test.YteopmoocmoigcaaGreatWva
import Derived.Laws.StructEq
import Derived.ChangeKeysEq
import Derived.Lib.OthersKept
import Derived.Laws.IdiomStrings
import Derived.Laws.Cover4
import Derived.Laws.Slices
import Derived.Laws.Strings2
import Derived.MapKept
namespace Go.Proofs.YteopmoocmoigcaaGreat
open Go.Proofs.Tryz
section
open Go.RowKit
theorem hmx:prog.follows .mixedOrders=true:=by kernel_rfl
theorem jD:bY prog 63 0 0:=⟨by kernel_rfl⟩
theorem aH:Ty prog 3 1 8 [.int .i64 0] false:=⟨by kernel_rfl,by kernel_rfl⟩
theorem tZ:bY prog 63 3 3:=⟨by kernel_rfl⟩
theorem gG:Ty prog 9 1 16 [.string ⟨#[]⟩] false:=⟨by kernel_rfl,by kernel_rfl⟩
theorem Nh:∀ args w,(callFunc 61 args).run prog w=.ok (.enter 61 args) w:=enters func61 rfl (by kernel_rfl)
theorem fU:prog.underlying 22=some (.slice 63):=by kernel_rfl
theorem dx:Ty prog 63 11 176 [.int .i64 0,.int .i64 0,.int .i64 0,.string ⟨#[]⟩,.slice none 0 0,.int .i64 0,.int .i64 0,.slice none 0 0,.slice none 0 0,.slice none 0 0,.slice none 0 0] true:=⟨by kernel_rfl,by kernel_rfl⟩
theorem Ng:∀ args w,(callFunc 41 args).run prog w=.ok (.enter 41 args) w:=enters func41 rfl (by kernel_rfl)
theorem oU:prog.underlying 23=some (.slice 187):=by kernel_rfl
theorem nA:Ty prog 187 2 16 [.int .i64 0,.int .i64 0] true:=⟨by kernel_rfl,by kernel_rfl⟩
theorem qH:prog.underlying 24=some (.slice 190):=by kernel_rfl
theorem vH:Ty prog 190 2 16 [.int .i64 0,.int .i64 0] true:=⟨by kernel_rfl,by kernel_rfl⟩
theorem uJ:prog.underlying 25=some (.slice 199):=by kernel_rfl
theorem vI:Ty prog 199 4 32 [.int .i64 0,.int .i64 0,.int .i64 0,.bool false] true:=⟨by kernel_rfl,by kernel_rfl⟩
theorem qG:Ty prog 29 5 88 [.slice none 0 0,.int .i64 0,.int .i64 0,.slice none 0 0,.slice none 0 0] true:=⟨by kernel_rfl,by kernel_rfl⟩
theorem CX:bY prog 29 0 0:=⟨by kernel_rfl⟩
theorem AZ:Ty prog 23 1 24 [.slice none 0 0] false:=⟨by kernel_rfl,by kernel_rfl⟩
theorem adT:∀ args w,(callFunc 98 args).run prog w=.ok (.enter 98 args) w:=enters func98 rfl (by kernel_rfl)
theorem tY:bY prog 29 1 1:=⟨by kernel_rfl⟩
theorem wo:bY prog 27 2 2:=⟨by kernel_rfl⟩
theorem wI:Ty prog 24 1 24 [.slice none 0 0] false:=⟨by kernel_rfl,by kernel_rfl⟩
theorem adU:∀ args w,(callFunc 99 args).run prog w=.ok (.enter 99 args) w:=enters func99 rfl (by kernel_rfl)
theorem CW:bY prog 27 3 3:=⟨by kernel_rfl⟩
theorem Ec:Ty prog 25 1 24 [.slice none 0 0] false:=⟨by kernel_rfl,by kernel_rfl⟩
theorem acd:∀ args w,(callFunc 100 args).run prog w=.ok (.enter 100 args) w:=enters func100 rfl (by kernel_rfl)
theorem lS:prog.underlying 61=some (.slice 96):=by kernel_rfl
theorem jV:Ty prog 96 6 112 [.slice none 0 0,.int .i64 0,.int .i64 0,.slice none 0 0,.slice none 0 0,.slice none 0 0] true:=⟨by kernel_rfl,by kernel_rfl⟩
theorem oV:prog.underlying 94=some (.slice 98):=by kernel_rfl
theorem kN:Ty prog 98 7 120 [.int .i64 0,.slice none 0 0,.int .i64 0,.int .i64 0,.slice none 0 0,.slice none 0 0,.slice none 0 0] true:=⟨by kernel_rfl,by kernel_rfl⟩
theorem EN:bY prog 98 0 0:=⟨by kernel_rfl⟩
theorem UJ:bY prog 98 1 1:=⟨by kernel_rfl⟩
theorem JD:∀ args w,(callFunc 65 args).run prog w=.ok (.enter 65 args) w:=enters func65 rfl (by kernel_rfl)
theorem CZ:bY prog 98 2 6:=⟨by kernel_rfl⟩
theorem gW:Ty prog 22 1 24 [.slice none 0 0] false:=⟨by kernel_rfl,by kernel_rfl⟩
theorem Nf:∀ args w,(callFunc 40 args).run prog w=.ok (.enter 40 args) w:=enters func40 rfl (by kernel_rfl)
theorem aku:qm prog 98 [(0,1),(1,5),(6,1)] [.int .i64 0,.slice none 0 0,.int .i64 0,.int .i64 0,.slice none 0 0,.slice none 0 0,.slice none 0 0]:=⟨by kernel_rfl,by kernel_rfl⟩
theorem UH:bY prog 96 0 0:=⟨by kernel_rfl⟩
theorem uf:bY prog 96 1 5:=⟨by kernel_rfl⟩
theorem uI:Ty prog 94 1 24 [.slice none 0 0] false:=⟨by kernel_rfl,by kernel_rfl⟩
theorem ace:∀ args w,(callFunc 101 args).run prog w=.ok (.enter 101 args) w:=enters func101 rfl (by kernel_rfl)
theorem akt:qm prog 96 [(0,5),(5,1)] [.slice none 0 0,.int .i64 0,.int .i64 0,.slice none 0 0,.slice none 0 0,.slice none 0 0]:=⟨by kernel_rfl,by kernel_rfl⟩
theorem Bq:bY prog 63 4 4:=⟨by kernel_rfl⟩
theorem wW:bY prog 63 5 9:=⟨by kernel_rfl⟩
theorem oH:bY prog 63 6 10:=⟨by kernel_rfl⟩
theorem oQ:Ty prog 61 1 24 [.slice none 0 0] false:=⟨by kernel_rfl,by kernel_rfl⟩
theorem Uc:∀ args w,(callFunc 66 args).run prog w=.ok (.enter 66 args) w:=enters func66 rfl (by kernel_rfl)
theorem adB:∀ args w,(callFunc 63 args).run prog w=.ok (.enter 63 args) w:=enters func63 rfl (by kernel_rfl)
theorem acf:∀ args w,(callFunc 102 args).run prog w=.ok (.enter 102 args) w:=enters func102 rfl (by kernel_rfl)
theorem adD:∀ args w,(callFunc 67 args).run prog w=.ok (.enter 67 args) w:=enters func67 rfl (by kernel_rfl)
theorem adC:∀ args w,(callFunc 64 args).run prog w=.ok (.enter 64 args) w:=enters func64 rfl (by kernel_rfl)
def eD (x:ay):Nat:=if x.kind=1 then vY x.text else 1
def rC (x:ay):Int:=if x.kind=1 then FP x.text else 0
theorem QK (G:GH) (w0:World) (hG:Hold G w0) (x:ay) (i2 i3:Int) (p i5 i6 d l f r:aj) (hs:x.text.size < 4611686018427387904) :
  Calls prog 41 #[.agg #[vi x.kind,vi i2,vi i3,.string x.text,p,i5,i6,d,l,f,r]] w0 (bF w0 G fun v G'=>v=.tuple #[vi (eD x),vi (rC x)]∧G=G'):=by
 refine eN [(0,_)] func41 rfl ntmps41 rfl rfl hG ?_;intro a H;refine dH (fun _ K1=>?_);refine fq (cs:=[_,_,_,_,_,_,_,_,_,_,_]) H wn rfl rfl rfl ?_;clear H;intro b1 a w hb1 H;refine kH H (Ra rfl (ak K1 rfl (SQ fun _ K2=>SR fun _ K3=>aW jD aH 0 rfl rfl (Rc rfl (Kz K3 (Cd rfl ?_ ?_)))))) <;> clear H K1 K3
 ·intro h6 a H
  try have p6:=dT h6
  refine kP H (SR fun _ K4=>Ra rfl (ak K4 rfl ?_));clear H K4;intro a H;refine cB ?_;refine (eB H results41 (.cons (aR H rfl) (.cons (aR H rfl) .nil)) ?_).1;exact H.rt ⟨by simp only [eD,rC,ah p6];rfl,rfl⟩
 intro h6 a H
 try have p6:=dF h6
 refine kP H (Kc K2 (SR fun _ K5=>aW tZ gG 0 rfl rfl ?_));clear H K2;intro a H;refine s_call Nh H wn rfl (MN _ _ H.ro _ hs) rfl ?_;clear H;rintro v9 _ a w ⟨rfl,rfl⟩ - H;(iterate 2 refine jN H wn rfl rfl rfl ?_;clear H;intro a H);refine kH H (Ra rfl (ak K5 rfl ?_));clear H K5;intro a H;refine cB ?_;refine (eB H results41 (.cons (aR H rfl) (.cons (aR H rfl) .nil)) ?_).1;exact H.rt ⟨by rw [jJ] at p6;simp only [eD,rC,au p6],rfl⟩
def uU (l:List ay):Bool:=l.all fun x=>decide (rC x=0)
def iW:List ay→Nat
 | []=>0
 | x :: l=>eD x+iW l
def vC (l:List ay):Int:=if uU l then iW l else 0
def xR (l:List ay):Int:=if uU l then 0 else 12
def sw:List ay→Nat
 | []=>0
 | x :: l=>x.text.size+1+sw l
theorem QA:∀ l:List ay,iW l≤sw l
 | []=>bV _
 | x :: l=>by
  have:=QA l;have h2:=Gw x.text
  simp only [iW,sw,eD];split <;> omega
theorem Yt {x:ay}:∀ {l:List ay},x∈l→x.text.size < sw l
 | [],h=>by cases h
 | y :: l,h=>by
  simp only [sw]
  rcases lq.1 h with rfl|h
  ·omega
  have:=Yt h;omega
theorem akz (l m:List ay):iW (l++m)=iW l+iW m:=by
 induction l with
 | nil=>simp [iW]
 | cons x l ih=>simp [iW,ih];omega
theorem akB {l:List ay} {k:Nat} (h:k < l.length):iW (l.take (k+1))=iW (l.take k)+eD l[k]:=by
 rw [jF h,akz];simp [iW]
theorem akF (l m:List ay):sw (l++m)=sw l+sw m:=by
 induction l with
 | nil=>simp [sw]
 | cons x l ih=>simp [sw,ih];omega
theorem akG (l:List ay) (k:Nat):sw (l.take k)≤sw l:=by
 have:=akF (l.take k) (l.drop k);rw [List.take_append_drop] at this;omega
theorem wX {G:GH} {l:List ay} {A:Option Addr} {k:Nat} (hk:k < l.length) (hg:∀ k r,(l.map ay.dat)[k]?=some r→∃ b o cs,A=some ⟨b,o,none⟩∧cs.length=11∧(∀ j u,cs[j]?=some u→aL G b (o+k*11+j)=some u)∧aZ G r cs) :
  ∃ b o pA pn pc dA dn dc yA yn yc fA fn fc rA rn rc,A=some ⟨b,o,none⟩∧(∀ j u,[vi l[k].kind,vi l[k].code,vi l[k].id,.string l[k].text,.slice pA pn pc,vi l[k].head.marks.ins,vi l[k].head.marks.move,.slice dA dn dc,.slice yA yn yc,.slice fA fn fc,.slice rA rn rc][j]?=some u→aL G b (o+k*11+j)=some u) ∧
   jI G l[k].head (.slice pA pn pc) (.slice dA dn dc) (.slice yA yn yc)∧av G (.sl 11 (l[k].flow.map ay.dat)) (.slice fA fn fc)∧av G (.sl 6 (l[k].rows.map bP.dat)) (.slice rA rn rc):=by
 obtain ⟨b,o,cs,h1,h2,h3,h4⟩:=hg k l[k].dat (by simp [hk]);obtain ⟨pA,pn,pc,dA,dn,dc,yA,yn,yc,fA,fn,fc,rA,rn,rc,rfl,h5,h6,h7⟩:=h4.item;exact ⟨b,o,pA,pn,pc,dA,dn,dc,yA,yn,yc,fA,fn,fc,rA,rn,rc,h1,h3,h5,h6,h7⟩
theorem abU {l:List ay} {k:Nat} (h:k < l.length):uU (l.take (k+1))=(uU (l.take k) && decide (rC l[k]=0)):=by
 unfold uU
 rw [jF h,List.all_append];simp
theorem abT {l:List ay} {k:Nat} (h:k < l.length) (hn:¬ rC l[k]=0):uU l=false:=by
 unfold uU
 rw [List.all_eq_false];exact ⟨l[k],iM h,by simpa using hn⟩
theorem PD:∀ l:List ay,l.length≤sw l
 | []=>bV _
 | x :: l=>by have:=PD l;simp only [nV,sw];omega
theorem Lj:∀ l:List ay,sw l≤bq l
 | []=>bV _
 | x :: l=>by
  have:=Lj l;have h2:=nU x
  simp only [sw,bq,eT,eX] at *;omega
theorem Pz (G:GH) (w0:World) (hG:Hold G w0) (l:List ay) (v:aj) (hv:av G (.sl 11 (l.map ay.dat)) v) (hz:bq l≤4294967296) :
  Calls prog 18 #[v] w0 (bF w0 G fun v G'=>v=.tuple #[vi (vC l),vi (xR l)]∧G=G'):=by
 obtain ⟨A,c,rfl,hc1,hc2,hg⟩:=hv.slice;rw [bU] at *;have hll:=PD l;have htz:=Lj l;refine eN [(0,_)] func18 rfl ntmps18 rfl rfl hG ?_;intro a H;refine kP H (SR fun _ K1=>Ra rfl (ak K1 rfl (SR fun _ K2=>ak K2 rfl (SQ fun _ K3=>SR fun _ K4=>Rm rfl (Rl fU rfl (Rm rfl (Kz K4 (SB ?_))))))));clear H K1 K2 K4;intro a H;skip;refine eU (ι:=Nat) (Tc:=[(9,_),(10,_)]) (Lc:=[]) (fun gh=>[(4,vi (iW (l.take gh))),(11,vi gh)]) (fun gh=>[]) (fun gh=>G) (fun gh=>gh≤l.length∧uU (l.take gh)=true) (fun gh=>l.length - gh) (0) (by exact (H).sub ⟨rfl,rfl,rfl,rfl,aD⟩) ?_ ?_
 ·exact ⟨by omega,by simp [uU]⟩
 clear H;intro gh a w hI H;obtain ⟨k,hgh⟩:∃ x,x=gh:=⟨_,rfl⟩;subst hgh;obtain ⟨hk,hd⟩:=hI;dsimp only [lca,bD] at H;refine kP H (SR fun _ K5=>Rc rfl (Kz K5 (SQ fun _ K6=>Cd rfl ?_ ?_))) <;> clear H K5
 ·intro h12 a H
  try have pX:=dT h12
  have hk2:k < l.length:=by omega
  obtain ⟨b,o,pA,pn,pc,dA,dn,dc,yA,yn,yc,fA,fn,fc,rA,rn,rc,rfl,hrow,-⟩:=wX hk2 hg;have hsm:=akB hk2;have hle:=QA (l.take (k+1));have hle2:=akG l (k+1);refine kP H (Kc K6 (SQ fun _ K7=>SB (SR fun _ K8=>Ri fU dx rfl rfl ?_)));clear H K6;intro a H;refine bK dx (cs:=[_,_,_,_,_,_,_,_,_,_,_]) H wn rfl rfl (fun j v hj=>H.hp.aL (hrow j v hj)) rfl ?_;clear H;intro a H;refine eZ dx H wn rfl ?_;clear H;intro b6 a w hb6 H;refine bM dx 0 (vs:=[_,_,_,_,_,_,_,_,_,_,_]) _ H wn rfl rfl rfl rfl rfl rfl rfl rfl ?_;clear H;intro w H;dsimp only [List.set,setRow] at H;refine K8 _ _ ?_;clear K8;refine dH (fun _ K9=>?_);refine bK dx (cs:=[_,_,_,_,_,_,_,_,_,_,_]) H wn rfl rfl (H.hp.eF 0 rfl rfl) rfl ?_;clear H;intro a H;refine s_call Ng H wn rfl (QK _ _ H.ro _ _ _ _ _ _ _ _ _ _ (by have:=Yt (iM hk2);omega)) rfl ?_;clear H;rintro v17 _ a w ⟨rfl,rfl⟩ - H;refine kH H (Rm rfl ?_);clear H;intro a H;(iterate 2 refine jN H wn rfl rfl rfl ?_;clear H;intro a H);refine kH H (Ra rfl (ak K9 rfl (SQ fun _ aT=>SR fun _ bC=>Rm rfl (Rc rfl (Kz bC (Cd rfl ?_ ?_)))))) <;> clear H K9 bC
  ·intro h21 a H
   try have qb:=dT h21
   refine kP H (SR fun _ bJ=>Ra rfl (ak bJ rfl ?_));clear H bJ;intro a H;refine cB ?_;refine (eB H results18 (.cons (aR H rfl) (.cons (aR H rfl) .nil)) ?_).1;exact H.rt ⟨by simp [vC,xR,abT hk2 qb],rfl⟩
  intro h21 a H
  try have qb:=dF h21
  refine kP H (Kc aT (SC (Rm rfl (Rm rfl (Rd rfl ?_)))));clear H aT;intro a H;rw [← Int.natCast_add,← hsm] at H;refine kH H (aV K7 rfl (SC (Rd rfl (Rm rfl ?_))));clear H K7;intro a H;refine aI ?_;refine cK ((k+1)) (by exact (H.dV (Pl:=[_]) (dz:=[]) [] (by decide) rfl).sub ⟨rfl,rfl,rfl,rfl,aD⟩) ?_ ?_
  ·exact ⟨by omega,by rw [abU hk2,hd];simpa using qb⟩
  first|omega|(dsimp only;omega)
 intro h12 a H
 try have pX:=dF h12
 refine dQ ?_;refine K3 _ _ ?_;clear K3;refine kP H (SR fun _ bT=>Rm rfl (Ra rfl (ak bT rfl ?_)));clear H bT;intro a H;refine cB ?_;refine (eB H results18 (.cons (aR H rfl) (.cons (aR H rfl) .nil)) ?_).1;exact H.rt ⟨by rw [show l.take k=l from jQ (by omega)] at hd ⊢;simp [vC,xR,hd],rfl⟩
theorem abx (G:GH) (w0:World) (hG:Hold G w0) (rows:List (List Dat)) (A:Option Addr) (n c:Nat) (hv:av G (.sl 2 rows) (.slice A n c)) (hz:rows.length≤4294967296) :
  Calls prog 98 #[.slice A n c] w0 (bF w0 G fun v G'=>av G' (.sl 2 rows) v):=by
 obtain ⟨hn,hc1,hc2,hnil,hx⟩:=hv.cells;refine eN [(0,_)] func98 rfl ntmps98 rfl rfl hG ?_;intro a H;refine kP H (SR fun _ K1=>ak K1 rfl (SQ fun _ K2=>SR fun _ K3=>Rm rfl ?_));clear H K1;intro a H;refine Qm oU H wn rfl rfl ?_;clear H;intro a H;refine K3 _ _ ?_;clear K3;refine lW H rfl ?_ ?_
 ·intro h4
  exact kP H (SR fun _ K4=>ak K4 rfl (LR results98 rfl fun H=>H.rt (by rw [hnil (by simpa using h4)];exact av.jo rfl (by simp [maxLen]))))
 intro h4
 try have p4:=dF h4
 refine fT ?_;refine K2 _ _ ?_;clear K2;refine bG (fun _ K5=>?_)
 have hA:¬ A=none:=by intro e;rw [e] at h4;cases h4
 refine nY ?_;refine Ql oU nA H wn rfl ?_;clear H;intro b5 a w hb5 H;refine kH H (Rm rfl ?_);clear H;intro a H
 by_cases hr0:rows=[]
 ·have hn0:n=0:=by rw [hn,hr0];rfl
  subst hn0;refine KS oU nA H wn rfl rfl (bV _) rfl ?_;clear H;intro a H;exact kH H (aV K5 rfl (LR results98 rfl fun H=>H.rt (by rw [hr0];exact av.jo rfl (by simp [maxLen]))))
 obtain ⟨b,o,xs,rfl,hxl,hxc,hx1,jH⟩:=hx hr0;refine oN (Li:=[]) (Lo:=[_]) (news:=xs) oU nA rfl rfl H wn rfl rfl dJ.empty hxl (fun j u hj=>H.hp.aL (hxc j u hj)) hx1 (by omega) (by omega) rfl ?_;clear H;intro v7 Lo a w hrow H;obtain ⟨G',hm,hrep,H⟩:=H.uh hrow (rows:=rows) (by omega) (by simpa using jH)
 try clear hG
 obtain ⟨G2,hG2⟩:∃ g,g=G':=⟨_,rfl⟩;subst hG2;exact kH H (aV K5 rfl (LR results98 rfl fun H=>H.rt hrep))
theorem abv (G:GH) (w0:World) (hG:Hold G w0) (rows:List (List Dat)) (A:Option Addr) (n c:Nat) (hv:av G (.sl 2 rows) (.slice A n c)) (hz:rows.length≤4294967296) :
  Calls prog 99 #[.slice A n c] w0 (bF w0 G fun v G'=>av G' (.sl 2 rows) v):=by
 obtain ⟨hn,hc1,hc2,hnil,hx⟩:=hv.cells;refine eN [(0,_)] func99 rfl ntmps99 rfl rfl hG ?_;intro a H;refine kP H (SR fun _ K1=>ak K1 rfl (SQ fun _ K2=>SR fun _ K3=>Rm rfl ?_));clear H K1;intro a H;refine Qm qH H wn rfl rfl ?_;clear H;intro a H;refine K3 _ _ ?_;clear K3;refine lW H rfl ?_ ?_
 ·intro h4
  exact kP H (SR fun _ K4=>ak K4 rfl (LR results99 rfl fun H=>H.rt (by rw [hnil (by simpa using h4)];exact av.jo rfl (by simp [maxLen]))))
 intro h4
 try have p4:=dF h4
 refine fT ?_;refine K2 _ _ ?_;clear K2;refine bG (fun _ K5=>?_)
 have hA:¬ A=none:=by intro e;rw [e] at h4;cases h4
 refine nY ?_;refine Ql qH vH H wn rfl ?_;clear H;intro b5 a w hb5 H;refine kH H (Rm rfl ?_);clear H;intro a H
 by_cases hr0:rows=[]
 ·have hn0:n=0:=by rw [hn,hr0];rfl
  subst hn0;refine KS qH vH H wn rfl rfl (bV _) rfl ?_;clear H;intro a H;exact kH H (aV K5 rfl (LR results99 rfl fun H=>H.rt (by rw [hr0];exact av.jo rfl (by simp [maxLen]))))
 obtain ⟨b,o,xs,rfl,hxl,hxc,hx1,jH⟩:=hx hr0;refine oN (Li:=[]) (Lo:=[_]) (news:=xs) qH vH rfl rfl H wn rfl rfl dJ.empty hxl (fun j u hj=>H.hp.aL (hxc j u hj)) hx1 (by omega) (by omega) rfl ?_;clear H;intro v7 Lo a w hrow H;obtain ⟨G',hm,hrep,H⟩:=H.uh hrow (rows:=rows) (by omega) (by simpa using jH)
 try clear hG
 obtain ⟨G2,hG2⟩:∃ g,g=G':=⟨_,rfl⟩;subst hG2;exact kH H (aV K5 rfl (LR results99 rfl fun H=>H.rt hrep))
theorem abw (G:GH) (w0:World) (hG:Hold G w0) (rows:List (List Dat)) (A:Option Addr) (n c:Nat) (hv:av G (.sl 4 rows) (.slice A n c)) (hz:rows.length≤4294967296) :
  Calls prog 100 #[.slice A n c] w0 (bF w0 G fun v G'=>av G' (.sl 4 rows) v):=by
 obtain ⟨hn,hc1,hc2,hnil,hx⟩:=hv.cells;refine eN [(0,_)] func100 rfl ntmps100 rfl rfl hG ?_;intro a H;refine kP H (SR fun _ K1=>ak K1 rfl (SQ fun _ K2=>SR fun _ K3=>Rm rfl ?_));clear H K1;intro a H;refine Qm uJ H wn rfl rfl ?_;clear H;intro a H;refine K3 _ _ ?_;clear K3;refine lW H rfl ?_ ?_
 ·intro h4
  exact kP H (SR fun _ K4=>ak K4 rfl (LR results100 rfl fun H=>H.rt (by rw [hnil (by simpa using h4)];exact av.jo rfl (by simp [maxLen]))))
 intro h4
 try have p4:=dF h4
 refine fT ?_;refine K2 _ _ ?_;clear K2;refine bG (fun _ K5=>?_)
 have hA:¬ A=none:=by intro e;rw [e] at h4;cases h4
 refine nY ?_;refine Ql uJ vI H wn rfl ?_;clear H;intro b5 a w hb5 H;refine kH H (Rm rfl ?_);clear H;intro a H
 by_cases hr0:rows=[]
 ·have hn0:n=0:=by rw [hn,hr0];rfl
  subst hn0;refine KS uJ vI H wn rfl rfl (bV _) rfl ?_;clear H;intro a H;exact kH H (aV K5 rfl (LR results100 rfl fun H=>H.rt (by rw [hr0];exact av.jo rfl (by simp [maxLen]))))
 obtain ⟨b,o,xs,rfl,hxl,hxc,hx1,jH⟩:=hx hr0;refine oN (Li:=[]) (Lo:=[_]) (news:=xs) uJ vI rfl rfl H wn rfl rfl dJ.empty hxl (fun j u hj=>H.hp.aL (hxc j u hj)) hx1 (by omega) (by omega) rfl ?_;clear H;intro v7 Lo a w hrow H;obtain ⟨G',hm,hrep,H⟩:=H.uh hrow (rows:=rows) (by omega) (by simpa using jH)
 try clear hG
 obtain ⟨G2,hG2⟩:∃ g,g=G':=⟨_,rfl⟩;subst hG2;exact kH H (aV K5 rfl (LR results100 rfl fun H=>H.rt hrep))
theorem JA (G:GH) (w0:World) (hG:Hold G w0) (h:iG) (pA dA yA:Option Addr) (pn pc dn dc yn yc:Nat) (hv:jI G h (.slice pA pn pc) (.slice dA dn dc) (.slice yA yn yc)) (hz:qh h≤4294967296) :
  Calls prog 65 #[.agg #[.slice pA pn pc,vi h.marks.ins,vi h.marks.move,.slice dA dn dc,.slice yA yn yc]] w0 (bF w0 G fun v G'=>∃ p d l,v=.agg #[p,vi h.marks.ins,vi h.marks.move,d,l]∧jI G' h p d l):=by
 have he:=IK h;have h1:=sj (h.props.map iH.dat);have h2:=sj (h.marks.dh.map jE.dat);have h3:=sj (h.marks.layers.map jh.dat);refine eN [(0,_)] func65 rfl ntmps65 rfl rfl hG ?_;intro a H;refine dH (fun _ K1=>?_);refine fq (cs:=[_,_,_,_,_]) H wn rfl rfl rfl ?_;clear H;intro b1 a w hb1 H;refine eZ qG H wn rfl ?_;clear H;intro b2 a w hb2 H;refine K1 _ _ ?_;clear K1;refine kP H (SR fun _ K2=>aW CX AZ 1 rfl rfl ?_);clear H;intro a H;refine s_call adT H wn rfl (abx _ _ H.ro _ _ _ _ hv.props (by omega)) rfl ?_;clear H;rintro v5 G5 a w wD OM H;obtain ⟨A5,n5,c5,rfl⟩:=wD.form;refine kH H (Rf CX rfl ?_);clear H;intro a H;refine bM AZ 1 (vs:=[_]) _ H wn rfl rfl rfl rfl rfl rfl rfl rfl ?_;clear H;intro w H;dsimp only [List.set,setRow] at H;refine K2 _ _ ?_;clear K2;refine bG (fun _ K3=>?_);obtain ⟨hvp,hvd,hvy⟩:=hv.mono OM;clear hv
 have om:∀ (bH:Nat) (v:aj) (G G':GH),(∀ k o,G k=some o→G' k=some o)→(fun (bH:Nat) (v:aj) (G:GH)=>match bH with|0=>v=(aJ b1 1)|1=>v=(aJ b1 3)|2=>v=.slice dA dn dc|3=>av G (.sl 2 (h.marks.dh.map jE.dat)) v|4=>v=(aJ b1 1)|5=>v=(aJ b1 4)|6=>v=.slice yA yn yc|7=>av G (.sl 4 (h.marks.layers.map jh.dat)) v|8=>v=(aJ b1 1)|9=>v=(aJ b1 3)|_=>True) bH v G→(fun (bH:Nat) (v:aj) (G:GH)=>match bH with|0=>v=(aJ b1 1)|1=>v=(aJ b1 3)|2=>v=.slice dA dn dc|3=>av G (.sl 2 (h.marks.dh.map jE.dat)) v|4=>v=(aJ b1 1)|5=>v=(aJ b1 4)|6=>v=.slice yA yn yc|7=>av G (.sl 4 (h.marks.layers.map jh.dat)) v|8=>v=(aJ b1 1)|9=>v=(aJ b1 3)|_=>True) bH v G':=by
  intro bH v G G' hm h
  match bH,h with
  | 0,h=>exact h
  | 1,h=>exact h
  | 2,h=>exact h
  | 3,h=>exact av.mono hm h
  | 4,h=>exact h
  | 5,h=>exact h
  | 6,h=>exact h
  | 7,h=>exact av.mono hm h
  | 8,h=>exact h
  | 9,h=>exact h
  | 10,h=>exact trivial
  | 11,h=>exact trivial
  | 12,h=>exact trivial
  | 13,h=>exact trivial
  | _+14,h=>exact trivial
 refine yJ (hmx) [[],[0],[0,1],[0,1,2],[],[4],[4,5],(ra 0 7),(ra 0 7),(ra 0 7++[8]),(ra 0 10),(ra 0 11),(ra 0 12),(ra 0 13)] (ra 10 4) (by kernel_rfl) (by kernel_rfl) (fun (bH:Nat) (v:aj) (G:GH)=>match bH with|0=>v=(aJ b1 1)|1=>v=(aJ b1 3)|2=>v=.slice dA dn dc|3=>av G (.sl 2 (h.marks.dh.map jE.dat)) v|4=>v=(aJ b1 1)|5=>v=(aJ b1 4)|6=>v=.slice yA yn yc|7=>av G (.sl 4 (h.marks.layers.map jh.dat)) v|8=>v=(aJ b1 1)|9=>v=(aJ b1 3)|_=>True) om H ?_ ?_
 ·clear H;refine aG ?_ ?_ ?_ ?_ (aG ?_ ?_ ?_ ?_ (aG ?_ ?_ (bN rfl) (bN rfl) (aU (bN rfl) (aU (bN rfl) bZ))))
  ·refine bW [] rfl trivial (by kernel_rfl) om rfl rfl ?_;intro bg a w G1 hG HT H fin;exact kH H (Rf tY rfl fun _ H=>fin H iJ rfl)
  ·refine bW [(0,7,_)] rfl ⟨fun _ _ h=>h,aD⟩ (by kernel_rfl) om rfl rfl ?_;intro bg a w G1 hG HT H fin;exact kH H (Rf wo rfl fun _ H=>fin H iJ rfl)
  ·refine bW [(1,8,_)] rfl ⟨fun _ _ h=>h,aD⟩ (by kernel_rfl) om rfl rfl ?_;intro bg a w G1 hG HT H fin;exact kH H (Ro wI 1 rfl fun _ H=>fin H iJ rfl)
  ·refine bW [(2,9,_)] rfl ⟨fun _ _ h=>h,aD⟩ (by kernel_rfl) om rfl rfl ?_;intro bg a w G1 hG HT H fin;refine s_call adU H wn rfl (abv _ _ H.ro _ _ _ _ (hvd.mono hG) (by omega)) rfl ?_;clear H;rintro v10 yw a w xH ni H;exact fin H ni (xH)
  ·refine bW [] rfl trivial (by kernel_rfl) om rfl rfl ?_;intro bg a w G1 hG HT H fin;exact kH H (Rf tY rfl fun _ H=>fin H iJ rfl)
  ·refine bW [(4,11,_)] rfl ⟨fun _ _ h=>h,aD⟩ (by kernel_rfl) om rfl rfl ?_;intro bg a w G1 hG HT H fin;exact kH H (Rf CW rfl fun _ H=>fin H iJ rfl)
  ·refine bW [(5,12,_)] rfl ⟨fun _ _ h=>h,aD⟩ (by kernel_rfl) om rfl rfl ?_;intro bg a w G1 hG HT H fin;exact kH H (Ro Ec 1 rfl fun _ H=>fin H iJ rfl)
  ·refine bW [(6,13,_)] rfl ⟨fun _ _ h=>h,aD⟩ (by kernel_rfl) om rfl rfl ?_;intro bg a w G1 hG HT H fin;refine s_call acd H wn rfl (abw _ _ H.ro _ _ _ _ (hvy.mono hG) (by omega)) rfl ?_;clear H;rintro v14 FX a w Hz GX H;exact fin H GX (Hz)
  ·refine bW [] rfl trivial (by kernel_rfl) om rfl rfl ?_;intro bg a w G1 hG HT H fin;exact kH H (Rf tY rfl fun _ H=>fin H iJ rfl)
  refine bW [(8,15,_)] rfl ⟨fun _ _ h=>h,aD⟩ (by kernel_rfl) om rfl rfl ?_;intro bg a w G1 hG HT H fin;exact kH H (Rf wo rfl fun _ H=>fin H iJ rfl)
 clear H;intro a w G Ah H hv;obtain ⟨u10,O6,xH⟩:=hv 3 10 (by decide) rfl;(try dsimp only at xH);obtain ⟨Ze,n10,c10,rfl⟩:=xH.form;have H:=H.iY O6;obtain ⟨u14,agS,Hz⟩:=hv 7 14 (by decide) rfl;(try dsimp only at Hz);obtain ⟨QU,n14,c14,rfl⟩:=Hz.form;have H:=H.iY agS;have H:=H.aQ (hv 9 16 rfl rfl) rfl;clear hv;refine bM wI 1 (vs:=[_]) _ H wn rfl rfl rfl rfl rfl rfl rfl rfl ?_;clear H;intro w H;dsimp only [List.set,setRow] at H;refine kH H (Rf tY rfl (Rf CW rfl ?_));clear H;intro a H;refine bM Ec 1 (vs:=[_]) _ H wn rfl rfl rfl rfl rfl rfl rfl rfl ?_;clear H;intro w H;dsimp only [List.set,setRow] at H;refine aI ⟨rfl,?_⟩;refine K3 _ _ ?_;clear K3;refine dH (fun _ K4=>?_);refine bK qG (cs:=[_,_,_,_,_]) H wn rfl rfl (H.hp.eF 1 rfl rfl) rfl ?_;clear H;intro a H;refine bM qG 0 (vs:=[_,_,_,_,_]) _ H wn rfl rfl rfl rfl rfl rfl rfl rfl ?_;clear H;intro w H;dsimp only [List.set,setRow] at H;refine K4 _ _ ?_;clear K4;refine cB ?_;refine (leave1 H results65 (.cons (AO qG (cs:=[_,_,_,_,_]) H rfl rfl (H.hp.eF 0 rfl rfl)) .nil) ?_).1;exact H.rt ⟨_,_,_,rfl,wD.mono Ah,xH,Hz⟩
def El (fv:aj) (w0:World) (G:GH) (d:List Dat):Prop:=∀ (G1:GH) (w1:World) (cs:List aj),(∀ b o,G b=some o→G1 b=some o)→Hold G1 w1→aZ G1 d cs →
 sH prog fv [.agg cs.toArray] w1 (bF w1 G1 fun u G'=>∃ cs',u=.agg cs'.toArray∧aZ G' d cs')
theorem abY (G:GH) (w0:World) (hG:Hold G w0) (l:List ay) (v fv:aj) (hv:av G (.sl 11 (l.map ay.dat)) v) (hz:l.length≤4294967296) (hf:∀ x∈l,El fv w0 G x.dat) :
  Calls prog 63 #[v,fv] w0 (bF w0 G fun u G'=>av G' (.sl 11 (l.map ay.dat)) u):=by
 obtain ⟨A,c,rfl,hc1,hc2,hg⟩:=hv.slice
 have hml:4294967297≤maxLen:=by decide
 rw [bU] at *;refine eN [(0,_),(1,_)] func63 rfl ntmps63 rfl rfl hG ?_;intro a H;refine kP H (SR fun _ K1=>ak K1 rfl (SR fun _ K2=>ak K2 rfl (SQ fun _ K3=>SR fun _ K4=>Rm rfl (Rl fU rfl (Rm rfl (Kz K4 (SB ?_)))))));clear H K1 K2 K4;intro a H;skip;refine eU (ι:=Nat × aj × List aj × OL × GH) (Tc:=[(1,_),(8,_),(9,_)]) (Lc:=[]) (fun gh=>[(5,gh.2.1),(10,vi gh.1)]) (fun gh=>[]++gh.2.2.2.1) (fun gh=>gh.2.2.2.2) (fun gh=>gh.1≤l.length∧dJ 63 11 gh.2.1 gh.1 gh.2.2.1 gh.2.2.2.1∧fD gh.2.2.2.2 11 ((l.map ay.dat).take gh.1) gh.2.2.1∧(∀ b o,G b=some o→gh.2.2.2.2 b=some o)) (fun gh=>l.length - gh.1) ((0,.slice none 0 0,[],[],G)) (by exact (H).sub ⟨rfl,rfl,rfl,rfl,rfl,aD⟩) ?_ ?_
 ·exact ⟨by omega,dJ.nil,by simpa using fD.nil,fun _ _ h=>h⟩
 clear H;intro gh a w hI H;obtain ⟨k,v,xs,Lo,g⟩:=gh;dsimp only at hI H;obtain ⟨hk,hrw,jH,hgm⟩:=hI;dsimp only [lca,bD] at H;refine kP H (SR fun _ K5=>Rc rfl (Kz K5 (SQ fun _ K6=>Cd rfl ?_ ?_))) <;> clear H K5
 ·intro h11 a H
  try have nM:=dT h11
  have hk2:k < l.length:=by omega
  obtain ⟨b,o,cs,rfl,hcl,hrow,hrep⟩:=hg k l[k].dat (by simp [hk2]);obtain ⟨pA,pn,pc,dA,dn,dc,yA,yn,yc,fA,fn,fc,rA,rn,rc,rfl,-⟩:=hrep.item;replace hrow:=fun j u hj=>aM hgm (hrow j u hj);refine kP H (Kc K6 (SQ fun _ K7=>SB (SR fun _ K8=>Ri fU dx rfl rfl ?_)));clear H K6;intro a H;refine bK dx (cs:=[_,_,_,_,_,_,_,_,_,_,_]) H wn rfl rfl (fun j v hj=>H.hp.aL (hrow j v hj)) rfl ?_;clear H;intro a H;refine eZ dx H wn rfl ?_;clear H;intro b7 a w Dn H;refine bM dx 0 (vs:=[_,_,_,_,_,_,_,_,_,_,_]) _ H wn rfl rfl rfl rfl rfl rfl rfl rfl ?_;clear H;intro w H;dsimp only [List.set,setRow] at H;refine K8 _ _ ?_;clear K8;refine kP H (SC (Rm rfl (Rm rfl ?_)));clear H;intro a H;refine bK dx (cs:=[_,_,_,_,_,_,_,_,_,_,_]) H wn rfl rfl (H.hp.eF 0 rfl rfl) rfl ?_;clear H;intro a H;refine oq H wn rfl rfl (hf _ (iM hk2) _ _ _ hgm H.ro (hrep.mono hgm)) rfl ?_;clear H;rintro v17 zJ a w ⟨wR,rfl,eu⟩ qU H;obtain ⟨cs,hcs⟩:∃ cs,cs=wR:=⟨_,rfl⟩;obtain ⟨pA,pn,pc,dA,dn,dc,yA,yn,yc,fA,fn,fc,rA,rn,rc,uq,-⟩:=eu.item;rw [uq] at H;refine gU fU dx [_,_,_,_,_,_,_,_,_,_,_] [_,_,_,_,_,_,_,_,_,_,_] H wn rfl rfl rfl rfl rfl (by intro i q h;match i,h with|0,h=>exact h|n+1,h=>simp at h) rfl rfl ?_;clear H;intro b18 a w J2 H;refine oN (Li:=[_,_]) (Lo:=Lo) (news:=wR) fU dx rfl rfl H wn rfl rfl hrw (by rw [uq];rfl) (by rw [uq];exact H.hp.eF 0 rfl rfl) eu.one (by omega) (by omega) rfl ?_;clear H;intro v19 Cz a w wE H;refine kH H (aV K7 rfl (SC (Rd rfl (Rm rfl ?_))));clear H K7;intro a H;refine aI ?_;refine cK ((k+1,v19,xs++wR,Cz,zJ)) (by exact (H.dV (Pl:=[_,_]) (dz:=[]) [] (by decide) rfl).sub ⟨rfl,rfl,rfl,rfl,rfl,aD⟩) ?_ ?_
  ·(try dsimp only);refine ⟨by omega,wE,?_,fun b o h=>qU b o (hgm b o h)⟩;rw [jF (by simpa using hk2)];exact (jH.mono qU).snoc (by simpa using eu) (by rw [uq];rfl)
  first|omega|(dsimp only;omega)
 intro h11 a H
 try have nM:=dF h11
 refine dQ ?_;refine K3 _ _ ?_;clear K3;refine bG (fun _ K9=>?_);obtain ⟨G',hm,hrep,H⟩:=H.uh (Li:=[]) hrw (rows:=l.map ay.dat) (by simp;omega) (by rw [jQ (by simp;omega)] at jH;exact jH);exact kP H (SC (Rm rfl (aV K9 rfl (LR results63 rfl fun H=>H.rt hrep))))
theorem TF (G:GH) (w0:World) (hG:Hold G w0) (l:List bP) (v fv:aj) (hv:av G (.sl 6 (l.map bP.dat)) v) (hz:l.length≤4294967296) (hf:∀ x∈l,El fv w0 G x.dat) :
  Calls prog 66 #[v,fv] w0 (bF w0 G fun u G'=>av G' (.sl 6 (l.map bP.dat)) u):=by
 obtain ⟨A,c,rfl,hc1,hc2,hg⟩:=hv.slice
 have hml:4294967297≤maxLen:=by decide
 rw [bU] at *;refine eN [(0,_),(1,_)] func66 rfl ntmps66 rfl rfl hG ?_;intro a H;refine kP H (SR fun _ K1=>ak K1 rfl (SR fun _ K2=>ak K2 rfl (SQ fun _ K3=>SR fun _ K4=>Rm rfl (Rl lS rfl (Rm rfl (Kz K4 (SB ?_)))))));clear H K1 K2 K4;intro a H;skip;refine eU (ι:=Nat × aj × List aj × OL × GH) (Tc:=[(1,_),(8,_),(9,_)]) (Lc:=[]) (fun gh=>[(5,gh.2.1),(10,vi gh.1)]) (fun gh=>[]++gh.2.2.2.1) (fun gh=>gh.2.2.2.2) (fun gh=>gh.1≤l.length∧dJ 96 6 gh.2.1 gh.1 gh.2.2.1 gh.2.2.2.1∧fD gh.2.2.2.2 6 ((l.map bP.dat).take gh.1) gh.2.2.1∧(∀ b o,G b=some o→gh.2.2.2.2 b=some o)) (fun gh=>l.length - gh.1) ((0,.slice none 0 0,[],[],G)) (by exact (H).sub ⟨rfl,rfl,rfl,rfl,rfl,aD⟩) ?_ ?_
 ·exact ⟨by omega,dJ.nil,by simpa using fD.nil,fun _ _ h=>h⟩
 clear H;intro gh a w hI H;obtain ⟨k,v,xs,Lo,g⟩:=gh;dsimp only at hI H;obtain ⟨hk,hrw,jH,hgm⟩:=hI;dsimp only [lca,bD] at H;refine kP H (SR fun _ K5=>Rc rfl (Kz K5 (SQ fun _ K6=>Cd rfl ?_ ?_))) <;> clear H K5
 ·intro h11 a H
  try have nM:=dT h11
  have hk2:k < l.length:=by omega
  obtain ⟨b,o,cs,rfl,hcl,hrow,hrep⟩:=hg k l[k].dat (by simp [hk2]);obtain ⟨pA,pn,pc,dA,dn,dc,yA,yn,yc,fA,fn,fc,rfl,-⟩:=hrep.row;replace hrow:=fun j u hj=>aM hgm (hrow j u hj);refine kP H (Kc K6 (SQ fun _ K7=>SB (SR fun _ K8=>Ri lS jV rfl rfl ?_)));clear H K6;intro a H;refine bK jV (cs:=[_,_,_,_,_,_]) H wn rfl rfl (fun j v hj=>H.hp.aL (hrow j v hj)) rfl ?_;clear H;intro a H;refine eZ jV H wn rfl ?_;clear H;intro b7 a w Dn H;refine bM jV 0 (vs:=[_,_,_,_,_,_]) _ H wn rfl rfl rfl rfl rfl rfl rfl rfl ?_;clear H;intro w H;dsimp only [List.set,setRow] at H;refine K8 _ _ ?_;clear K8;refine kP H (SC (Rm rfl (Rm rfl ?_)));clear H;intro a H;refine bK jV (cs:=[_,_,_,_,_,_]) H wn rfl rfl (H.hp.eF 0 rfl rfl) rfl ?_;clear H;intro a H;refine oq H wn rfl rfl (hf _ (iM hk2) _ _ _ hgm H.ro (hrep.mono hgm)) rfl ?_;clear H;rintro v17 zJ a w ⟨wR,rfl,eu⟩ qU H;obtain ⟨cs,hcs⟩:∃ cs,cs=wR:=⟨_,rfl⟩;obtain ⟨pA,pn,pc,dA,dn,dc,yA,yn,yc,fA,fn,fc,uq,-⟩:=eu.row;rw [uq] at H;refine gU lS jV [_,_,_,_,_,_] [_,_,_,_,_,_] H wn rfl rfl rfl rfl rfl (by intro i q h;match i,h with|0,h=>exact h|n+1,h=>simp at h) rfl rfl ?_;clear H;intro b18 a w J2 H;refine oN (Li:=[_,_]) (Lo:=Lo) (news:=wR) lS jV rfl rfl H wn rfl rfl hrw (by rw [uq];rfl) (by rw [uq];exact H.hp.eF 0 rfl rfl) eu.one (by omega) (by omega) rfl ?_;clear H;intro v19 Cz a w wE H;refine kH H (aV K7 rfl (SC (Rd rfl (Rm rfl ?_))));clear H K7;intro a H;refine aI ?_;refine cK ((k+1,v19,xs++wR,Cz,zJ)) (by exact (H.dV (Pl:=[_,_]) (dz:=[]) [] (by decide) rfl).sub ⟨rfl,rfl,rfl,rfl,rfl,aD⟩) ?_ ?_
  ·(try dsimp only);refine ⟨by omega,wE,?_,fun b o h=>qU b o (hgm b o h)⟩;rw [jF (by simpa using hk2)];exact (jH.mono qU).snoc (by simpa using eu) (by rw [uq];rfl)
  first|omega|(dsimp only;omega)
 intro h11 a H
 try have nM:=dF h11
 refine dQ ?_;refine K3 _ _ ?_;clear K3;refine bG (fun _ K9=>?_);obtain ⟨G',hm,hrep,H⟩:=H.uh (Li:=[]) hrw (rows:=l.map bP.dat) (by simp;omega) (by rw [jQ (by simp;omega)] at jH;exact jH);exact kP H (SC (Rm rfl (aV K9 rfl (LR results66 rfl fun H=>H.rt hrep))))
theorem abX (G:GH) (w0:World) (hG:Hold G w0) (l:List bO) (v fv:aj) (hv:av G (.sl 7 (l.map bO.dat)) v) (hz:l.length≤4294967296) (hf:∀ x∈l,El fv w0 G x.dat) :
  Calls prog 101 #[v,fv] w0 (bF w0 G fun u G'=>av G' (.sl 7 (l.map bO.dat)) u):=by
 obtain ⟨A,c,rfl,hc1,hc2,hg⟩:=hv.slice
 have hml:4294967297≤maxLen:=by decide
 rw [bU] at *;refine eN [(0,_),(1,_)] func101 rfl ntmps101 rfl rfl hG ?_;intro a H;refine kP H (SR fun _ K1=>ak K1 rfl (SR fun _ K2=>ak K2 rfl (SQ fun _ K3=>SR fun _ K4=>Rm rfl (Rl oV rfl (Rm rfl (Kz K4 (SB ?_)))))));clear H K1 K2 K4;intro a H;skip;refine eU (ι:=Nat × aj × List aj × OL × GH) (Tc:=[(1,_),(8,_),(9,_)]) (Lc:=[]) (fun gh=>[(5,gh.2.1),(10,vi gh.1)]) (fun gh=>[]++gh.2.2.2.1) (fun gh=>gh.2.2.2.2) (fun gh=>gh.1≤l.length∧dJ 98 7 gh.2.1 gh.1 gh.2.2.1 gh.2.2.2.1∧fD gh.2.2.2.2 7 ((l.map bO.dat).take gh.1) gh.2.2.1∧(∀ b o,G b=some o→gh.2.2.2.2 b=some o)) (fun gh=>l.length - gh.1) ((0,.slice none 0 0,[],[],G)) (by exact (H).sub ⟨rfl,rfl,rfl,rfl,rfl,aD⟩) ?_ ?_
 ·exact ⟨by omega,dJ.nil,by simpa using fD.nil,fun _ _ h=>h⟩
 clear H;intro gh a w hI H;obtain ⟨k,v,xs,Lo,g⟩:=gh;dsimp only at hI H;obtain ⟨hk,hrw,jH,hgm⟩:=hI;dsimp only [lca,bD] at H;refine kP H (SR fun _ K5=>Rc rfl (Kz K5 (SQ fun _ K6=>Cd rfl ?_ ?_))) <;> clear H K5
 ·intro h11 a H
  try have nM:=dT h11
  have hk2:k < l.length:=by omega
  obtain ⟨b,o,cs,rfl,hcl,hrow,hrep⟩:=hg k l[k].dat (by simp [hk2]);obtain ⟨pA,pn,pc,dA,dn,dc,yA,yn,yc,fA,fn,fc,rfl,-⟩:=hrep.cell;replace hrow:=fun j u hj=>aM hgm (hrow j u hj);refine kP H (Kc K6 (SQ fun _ K7=>SB (SR fun _ K8=>Ri oV kN rfl rfl ?_)));clear H K6;intro a H;refine bK kN (cs:=[_,_,_,_,_,_,_]) H wn rfl rfl (fun j v hj=>H.hp.aL (hrow j v hj)) rfl ?_;clear H;intro a H;refine eZ kN H wn rfl ?_;clear H;intro b7 a w Dn H;refine bM kN 0 (vs:=[_,_,_,_,_,_,_]) _ H wn rfl rfl rfl rfl rfl rfl rfl rfl ?_;clear H;intro w H;dsimp only [List.set,setRow] at H;refine K8 _ _ ?_;clear K8;refine kP H (SC (Rm rfl (Rm rfl ?_)));clear H;intro a H;refine bK kN (cs:=[_,_,_,_,_,_,_]) H wn rfl rfl (H.hp.eF 0 rfl rfl) rfl ?_;clear H;intro a H;refine oq H wn rfl rfl (hf _ (iM hk2) _ _ _ hgm H.ro (hrep.mono hgm)) rfl ?_;clear H;rintro v17 zJ a w ⟨wR,rfl,eu⟩ qU H;obtain ⟨cs,hcs⟩:∃ cs,cs=wR:=⟨_,rfl⟩;obtain ⟨pA,pn,pc,dA,dn,dc,yA,yn,yc,fA,fn,fc,uq,-⟩:=eu.cell;rw [uq] at H;refine gU oV kN [_,_,_,_,_,_,_] [_,_,_,_,_,_,_] H wn rfl rfl rfl rfl rfl (by intro i q h;match i,h with|0,h=>exact h|n+1,h=>simp at h) rfl rfl ?_;clear H;intro b18 a w J2 H;refine oN (Li:=[_,_]) (Lo:=Lo) (news:=wR) oV kN rfl rfl H wn rfl rfl hrw (by rw [uq];rfl) (by rw [uq];exact H.hp.eF 0 rfl rfl) eu.one (by omega) (by omega) rfl ?_;clear H;intro v19 Cz a w wE H;refine kH H (aV K7 rfl (SC (Rd rfl (Rm rfl ?_))));clear H K7;intro a H;refine aI ?_;refine cK ((k+1,v19,xs++wR,Cz,zJ)) (by exact (H.dV (Pl:=[_,_]) (dz:=[]) [] (by decide) rfl).sub ⟨rfl,rfl,rfl,rfl,rfl,aD⟩) ?_ ?_
  ·(try dsimp only);refine ⟨by omega,wE,?_,fun b o h=>qU b o (hgm b o h)⟩;rw [jF (by simpa using hk2)];exact (jH.mono qU).snoc (by simpa using eu) (by rw [uq];rfl)
  first|omega|(dsimp only;omega)
 intro h11 a H
 try have nM:=dF h11
 refine dQ ?_;refine K3 _ _ ?_;clear K3;refine bG (fun _ K9=>?_);obtain ⟨G',hm,hrep,H⟩:=H.uh (Li:=[]) hrw (rows:=l.map bO.dat) (by simp;omega) (by rw [jQ (by simp;omega)] at jH;exact jH);exact kP H (SC (Rm rfl (aV K9 rfl (LR results101 rfl fun H=>H.rt hrep))))
def Cq (n:Nat):Prop:=∀ (G:GH) (w0:World),Hold G w0→∀ (l:List ay) (v:aj),av G (.sl 11 (l.map ay.dat)) v→bq l < n →
 Calls prog 40 #[v] w0 (bF w0 G fun u G'=>av G' (.sl 11 (l.map ay.dat)) u)
theorem abu {n:Nat} (ih:Cq n) (hn:n≤4294967296) (G:GH) (w0:World) (hG:Hold G w0) (x:bO) (cs:List aj) (hv:aZ G x.dat cs) (hz:dw x.dat < n+1) :
  Calls prog 102 #[.agg cs.toArray] w0 (bF w0 G fun u G'=>∃ cs',u=.agg cs'.toArray∧aZ G' x.dat cs'):=by
 have he:=Bd x;obtain ⟨pA,pn,pc,dA,dn,dc,yA,yn,yc,fA,fn,fc,rfl,hh,hf⟩:=hv.cell;refine eN [(0,_)] func102 rfl ntmps102 rfl rfl hG ?_;intro a H;refine dH (fun _ K1=>?_);refine fq (cs:=[_,_,_,_,_,_,_]) H wn rfl rfl rfl ?_;clear H;intro b1 a w hb1 H;refine eZ kN H wn rfl ?_;clear H;intro b2 a w hb2 H;refine K1 _ _ ?_;clear K1;refine bG (fun _ K2=>?_)
 have iV:∀ (bH:Nat) (v:aj) (G G':GH),(∀ k o,G k=some o→G' k=some o)→(fun (bH:Nat) (v:aj) (G:GH)=>match bH with|0=>v=(aJ b1 0)|1=>v=vi x.id|2=>v=(aJ b1 1)|3=>v=.agg #[.slice pA pn pc,vi x.head.marks.ins,vi x.head.marks.move,.slice dA dn dc,.slice yA yn yc]|4=>∃ p d l,v=.agg #[p,vi x.head.marks.ins,vi x.head.marks.move,d,l]∧jI G x.head p d l|5=>v=(aJ b1 6)|6=>v=.slice fA fn fc|7=>av G (.sl 11 (x.flow.map ay.dat)) v|_=>True) bH v G→(fun (bH:Nat) (v:aj) (G:GH)=>match bH with|0=>v=(aJ b1 0)|1=>v=vi x.id|2=>v=(aJ b1 1)|3=>v=.agg #[.slice pA pn pc,vi x.head.marks.ins,vi x.head.marks.move,.slice dA dn dc,.slice yA yn yc]|4=>∃ p d l,v=.agg #[p,vi x.head.marks.ins,vi x.head.marks.move,d,l]∧jI G x.head p d l|5=>v=(aJ b1 6)|6=>v=.slice fA fn fc|7=>av G (.sl 11 (x.flow.map ay.dat)) v|_=>True) bH v G':=by
  intro bH v G G' hm h
  match bH,h with
  | 0,h=>exact h
  | 1,h=>exact h
  | 2,h=>exact h
  | 3,h=>exact h
  | 4,h=>exact let ⟨p,d,l,h1,h2⟩:=h;⟨p,d,l,h1,h2.mono hm⟩
  | 5,h=>exact h
  | 6,h=>exact h
  | 7,h=>exact av.mono hm h
  | 8,h=>exact trivial
  | 9,h=>exact trivial
  | _+10,h=>exact trivial
 refine yJ (hmx) [[],[0],[],[2],[2,3],[],[5],(ra 2 5),(ra 0 8),(ra 0 9)] [8,9] (by kernel_rfl) (by kernel_rfl) (fun (bH:Nat) (v:aj) (G:GH)=>match bH with|0=>v=(aJ b1 0)|1=>v=vi x.id|2=>v=(aJ b1 1)|3=>v=.agg #[.slice pA pn pc,vi x.head.marks.ins,vi x.head.marks.move,.slice dA dn dc,.slice yA yn yc]|4=>∃ p d l,v=.agg #[p,vi x.head.marks.ins,vi x.head.marks.move,d,l]∧jI G x.head p d l|5=>v=(aJ b1 6)|6=>v=.slice fA fn fc|7=>av G (.sl 11 (x.flow.map ay.dat)) v|_=>True) iV H ?_ ?_
 ·clear H;refine aG ?_ ?_ ?_ ?_ (aG ?_ ?_ ?_ ?_ (aU (bN rfl) (aU (bN rfl) bZ)))
  ·refine bW [] rfl trivial (by kernel_rfl) iV rfl rfl ?_;intro bg a w G1 hG HT H fin;exact kH H (Rf EN rfl fun _ H=>fin H iJ rfl)
  ·refine bW [(0,3,_)] rfl ⟨fun _ _ h=>h,aD⟩ (by kernel_rfl) iV rfl rfl ?_;intro bg a w G1 hG HT H fin;exact kH H (Ro aH 1 rfl fun _ H=>fin H iJ rfl)
  ·refine bW [] rfl trivial (by kernel_rfl) iV rfl rfl ?_;intro bg a w G1 hG HT H fin;exact kH H (Rf UJ rfl fun _ H=>fin H iJ rfl)
  ·refine bW [(2,5,_)] rfl ⟨fun _ _ h=>h,aD⟩ (by kernel_rfl) iV rfl rfl ?_;intro bg a w G1 hG HT H fin;refine bK qG (cs:=[_,_,_,_,_]) H wn rfl rfl (H.hp.eF 1 rfl rfl) rfl ?_;clear H;intro a H;exact fin H iJ rfl
  ·refine bW [(3,6,_)] rfl ⟨fun _ _ h=>h,aD⟩ (by kernel_rfl) iV rfl rfl ?_;intro bg a w G1 hG HT H fin;refine s_call JD H wn rfl (JA _ _ H.ro x.head _ _ _ _ _ _ _ _ _ (hh.mono hG) (by omega)) rfl ?_;clear H;rintro v7 G7 a w Km xB H;exact fin H xB (Km)
  ·refine bW [] rfl trivial (by kernel_rfl) iV rfl rfl ?_;intro bg a w G1 hG HT H fin;exact kH H (Rf CZ rfl fun _ H=>fin H iJ rfl)
  ·refine bW [(5,8,_)] rfl ⟨fun _ _ h=>h,aD⟩ (by kernel_rfl) iV rfl rfl ?_;intro bg a w G1 hG HT H fin;exact kH H (Ro gW 1 rfl fun _ H=>fin H iJ rfl)
  refine bW [(6,9,_)] rfl ⟨fun _ _ h=>h,aD⟩ (by kernel_rfl) iV rfl rfl ?_;intro bg a w G1 hG HT H fin;refine s_call Nf H wn rfl (ih _ _ H.ro x.flow _ (hf.mono hG) (by omega)) rfl ?_;clear H;rintro v10 yw a w xH ni H;exact fin H ni (xH)
 clear H;intro a w G ng H hv;have H:=H.aQ (hv 1 4 rfl rfl) rfl;obtain ⟨u7,hu7,Km⟩:=hv 4 7 (by decide) rfl;(try dsimp only at Km);obtain ⟨p7,d7,l7,rfl,J7⟩:=Km;obtain ⟨a1,a2,a3,rfl⟩:=J7.props.form;obtain ⟨a4,a5,a6,rfl⟩:=J7.dh.form;obtain ⟨a7,a8,a9,rfl⟩:=J7.layers.form;have H:=H.iY hu7;obtain ⟨u10,O6,xH⟩:=hv 7 10 (by decide) rfl;(try dsimp only at xH);obtain ⟨Ze,n10,c10,rfl⟩:=xH.form;have H:=H.iY O6;clear hv;refine ku aku [_,_,_,_,_,_,_] H wn rfl rfl rfl rfl ?_;clear H;intro a H;refine bM kN 0 (vs:=[_,_,_,_,_,_,_]) _ H wn rfl rfl rfl rfl rfl rfl rfl rfl ?_;clear H;intro w H;dsimp only [List.set,setRow] at H;refine aI ⟨rfl,?_⟩;refine K2 _ _ ?_;clear K2;refine cB ?_;refine (leave1 H results102 (.cons (AO kN (cs:=[_,_,_,_,_,_,_]) H rfl rfl (H.hp.eF 0 rfl rfl)) .nil) ?_).1;exact H.rt ⟨_,rfl,aZ.WY J7 xH⟩
theorem abt {n:Nat} (ih:Cq n) (hn:n≤4294967296) {G:GH} {w0:World} (x:bO) (hz:dw x.dat < n+1):El (.func (.func 102) #[] #[]) w0 G x.dat:=by
 intro G1 w1 cs hm1 hG1 hr;have h:=abu ih hn _ _ hG1 x cs hr hz;have h2:=mo (P:=prog) (caps:=[]) (args:=[.agg cs.toArray]) acf h;exact h2
theorem abz {n:Nat} (ih:Cq n) (hn:n≤4294967296) (G:GH) (w0:World) (hG:Hold G w0) (x:bP) (cs:List aj) (hv:aZ G x.dat cs) (hz:dw x.dat < n+1) :
  Calls prog 67 #[.agg cs.toArray] w0 (bF w0 G fun u G'=>∃ cs',u=.agg cs'.toArray∧aZ G' x.dat cs'):=by
 have he:=Bf x;have hl:=FR x.cells;obtain ⟨pA,pn,pc,dA,dn,dc,yA,yn,yc,fA,fn,fc,rfl,hh,hf⟩:=hv.row;refine eN [(0,_)] func67 rfl ntmps67 rfl rfl hG ?_;intro a H;refine dH (fun _ K1=>?_);refine fq (cs:=[_,_,_,_,_,_]) H wn rfl rfl rfl ?_;clear H;intro b1 a w hb1 H;refine eZ jV H wn rfl ?_;clear H;intro b2 a w hb2 H;refine K1 _ _ ?_;clear K1;refine bG (fun _ K2=>?_)
 have iV:∀ (bH:Nat) (v:aj) (G G':GH),(∀ k o,G k=some o→G' k=some o)→(fun (bH:Nat) (v:aj) (G:GH)=>match bH with|0=>v=(aJ b1 0)|1=>v=.agg #[.slice pA pn pc,vi x.head.marks.ins,vi x.head.marks.move,.slice dA dn dc,.slice yA yn yc]|2=>∃ p d l,v=.agg #[p,vi x.head.marks.ins,vi x.head.marks.move,d,l]∧jI G x.head p d l|3=>v=(aJ b1 5)|4=>v=.slice fA fn fc|5=>av G (.sl 7 (x.cells.map bO.dat)) v|_=>True) bH v G→(fun (bH:Nat) (v:aj) (G:GH)=>match bH with|0=>v=(aJ b1 0)|1=>v=.agg #[.slice pA pn pc,vi x.head.marks.ins,vi x.head.marks.move,.slice dA dn dc,.slice yA yn yc]|2=>∃ p d l,v=.agg #[p,vi x.head.marks.ins,vi x.head.marks.move,d,l]∧jI G x.head p d l|3=>v=(aJ b1 5)|4=>v=.slice fA fn fc|5=>av G (.sl 7 (x.cells.map bO.dat)) v|_=>True) bH v G':=by
  intro bH v G G' hm h
  match bH,h with
  | 0,h=>exact h
  | 1,h=>exact h
  | 2,h=>exact let ⟨p,d,l,h1,h2⟩:=h;⟨p,d,l,h1,h2.mono hm⟩
  | 3,h=>exact h
  | 4,h=>exact h
  | 5,h=>exact av.mono hm h
  | 6,h=>exact trivial
  | 7,h=>exact trivial
  | _+8,h=>exact trivial
 refine yJ (hmx) [[],[0],[0,1],[],[3],(ra 0 5),(ra 0 6),(ra 0 7)] [6,7] (by kernel_rfl) (by kernel_rfl) (fun (bH:Nat) (v:aj) (G:GH)=>match bH with|0=>v=(aJ b1 0)|1=>v=.agg #[.slice pA pn pc,vi x.head.marks.ins,vi x.head.marks.move,.slice dA dn dc,.slice yA yn yc]|2=>∃ p d l,v=.agg #[p,vi x.head.marks.ins,vi x.head.marks.move,d,l]∧jI G x.head p d l|3=>v=(aJ b1 5)|4=>v=.slice fA fn fc|5=>av G (.sl 7 (x.cells.map bO.dat)) v|_=>True) iV H ?_ ?_
 ·clear H;refine aG ?_ ?_ ?_ ?_ (aG ?_ ?_ (bN rfl) (bN rfl) bZ)
  ·refine bW [] rfl trivial (by kernel_rfl) iV rfl rfl ?_;intro bg a w G1 hG HT H fin;exact kH H (Rf UH rfl fun _ H=>fin H iJ rfl)
  ·refine bW [(0,3,_)] rfl ⟨fun _ _ h=>h,aD⟩ (by kernel_rfl) iV rfl rfl ?_;intro bg a w G1 hG HT H fin;refine bK qG (cs:=[_,_,_,_,_]) H wn rfl rfl (H.hp.eF 1 rfl rfl) rfl ?_;clear H;intro a H;exact fin H iJ rfl
  ·refine bW [(1,4,_)] rfl ⟨fun _ _ h=>h,aD⟩ (by kernel_rfl) iV rfl rfl ?_;intro bg a w G1 hG HT H fin;refine s_call JD H wn rfl (JA _ _ H.ro x.head _ _ _ _ _ _ _ _ _ (hh.mono hG) (by omega)) rfl ?_;clear H;rintro v5 G5 a w wD lM H;exact fin H lM (wD)
  ·refine bW [] rfl trivial (by kernel_rfl) iV rfl rfl ?_;intro bg a w G1 hG HT H fin;exact kH H (Rf uf rfl fun _ H=>fin H iJ rfl)
  ·refine bW [(3,6,_)] rfl ⟨fun _ _ h=>h,aD⟩ (by kernel_rfl) iV rfl rfl ?_;intro bg a w G1 hG HT H fin;exact kH H (Ro uI 1 rfl fun _ H=>fin H iJ rfl)
  refine bW [(4,7,_)] rfl ⟨fun _ _ h=>h,aD⟩ (by kernel_rfl) iV rfl rfl ?_;intro bg a w G1 hG HT H fin;refine s_call ace H wn rfl (abX _ _ H.ro x.cells _ _ (hf.mono hG) (by omega) (fun y hy=>abt ih hn y (by have:=alj hy;omega))) rfl ?_;clear H;rintro v8 G8 a w xI qQ H;exact fin H qQ (xI)
 clear H;intro a w G ng H hv;obtain ⟨u5,O8,wD⟩:=hv 2 5 (by decide) rfl;(try dsimp only at wD);obtain ⟨p5,d5,l5,rfl,Am⟩:=wD;obtain ⟨a1,a2,a3,rfl⟩:=Am.props.form;obtain ⟨a4,a5,a6,rfl⟩:=Am.dh.form;obtain ⟨a7,a8,a9,rfl⟩:=Am.layers.form;have H:=H.iY O8;obtain ⟨u8,O9,xI⟩:=hv 5 8 (by decide) rfl;(try dsimp only at xI);obtain ⟨A8,n8,c8,rfl⟩:=xI.form;have H:=H.iY O9;clear hv;refine ku akt [_,_,_,_,_,_] H wn rfl rfl rfl rfl ?_;clear H;intro a H;refine bM jV 0 (vs:=[_,_,_,_,_,_]) _ H wn rfl rfl rfl rfl rfl rfl rfl rfl ?_;clear H;intro w H;dsimp only [List.set,setRow] at H;refine aI ⟨rfl,?_⟩;refine K2 _ _ ?_;clear K2;refine cB ?_;refine (leave1 H results67 (.cons (AO jV (cs:=[_,_,_,_,_,_]) H rfl rfl (H.hp.eF 0 rfl rfl)) .nil) ?_).1;exact H.rt ⟨_,rfl,aZ.WZ Am xI⟩
theorem aby {n:Nat} (ih:Cq n) (hn:n≤4294967296) {G:GH} {w0:World} (x:bP) (hz:dw x.dat < n+1):El (.func (.func 67) #[] #[]) w0 G x.dat:=by
 intro G1 w1 cs hm1 hG1 hr;have h:=abz ih hn _ _ hG1 x cs hr hz;have h2:=mo (P:=prog) (caps:=[]) (args:=[.agg cs.toArray]) adD h;exact h2
theorem abr {n:Nat} (ih:Cq n) (hn:n≤4294967296) (G:GH) (w0:World) (hG:Hold G w0) (x:ay) (cs:List aj) (hv:aZ G x.dat cs) (hz:dw x.dat < n+1) :
  Calls prog 64 #[.agg cs.toArray] w0 (bF w0 G fun u G'=>∃ cs',u=.agg cs'.toArray∧aZ G' x.dat cs'):=by
 have he:=nU x;have hl:=FT x.rows;obtain ⟨pA,pn,pc,dA,dn,dc,yA,yn,yc,fA,fn,fc,rA,rn,rc,rfl,hh,hf,hr⟩:=hv.item;refine eN [(0,_)] func64 rfl ntmps64 rfl rfl hG ?_;intro a H;refine dH (fun _ K1=>?_);refine fq (cs:=[_,_,_,_,_,_,_,_,_,_,_]) H wn rfl rfl rfl ?_;clear H;intro b1 a w hb1 H;refine eZ dx H wn rfl ?_;clear H;intro b2 a w hb2 H;refine K1 _ _ ?_;clear K1;refine bG (fun _ K2=>?_)
 have iV:∀ (bH:Nat) (v:aj) (G G':GH),(∀ k o,G k=some o→G' k=some o)→(fun (bH:Nat) (v:aj) (G:GH)=>match bH with|0=>v=(aJ b1 4)|1=>v=.agg #[.slice pA pn pc,vi x.head.marks.ins,vi x.head.marks.move,.slice dA dn dc,.slice yA yn yc]|2=>∃ p d l,v=.agg #[p,vi x.head.marks.ins,vi x.head.marks.move,d,l]∧jI G x.head p d l|3=>v=(aJ b1 9)|4=>v=.slice fA fn fc|5=>av G (.sl 11 (x.flow.map ay.dat)) v|6=>v=(aJ b1 10)|7=>v=.slice rA rn rc|8=>av G (.sl 6 (x.rows.map bP.dat)) v|9=>v=(aJ b1 4)|_=>True) bH v G→(fun (bH:Nat) (v:aj) (G:GH)=>match bH with|0=>v=(aJ b1 4)|1=>v=.agg #[.slice pA pn pc,vi x.head.marks.ins,vi x.head.marks.move,.slice dA dn dc,.slice yA yn yc]|2=>∃ p d l,v=.agg #[p,vi x.head.marks.ins,vi x.head.marks.move,d,l]∧jI G x.head p d l|3=>v=(aJ b1 9)|4=>v=.slice fA fn fc|5=>av G (.sl 11 (x.flow.map ay.dat)) v|6=>v=(aJ b1 10)|7=>v=.slice rA rn rc|8=>av G (.sl 6 (x.rows.map bP.dat)) v|9=>v=(aJ b1 4)|_=>True) bH v G':=by
  intro bH v G G' hm h
  match bH,h with
  | 0,h=>exact h
  | 1,h=>exact h
  | 2,h=>exact let ⟨p,d,l,h1,h2⟩:=h;⟨p,d,l,h1,h2.mono hm⟩
  | 3,h=>exact h
  | 4,h=>exact h
  | 5,h=>exact av.mono hm h
  | 6,h=>exact h
  | 7,h=>exact h
  | 8,h=>exact av.mono hm h
  | 9,h=>exact h
  | 10,h=>exact trivial
  | 11,h=>exact trivial
  | 12,h=>exact trivial
  | 13,h=>exact trivial
  | 14,h=>exact trivial
  | _+15,h=>exact trivial
 refine yJ (hmx) [[],[0],[0,1],[],[3],(ra 0 5),[],[6],(ra 0 8),[0,1,2,3,4,6,7],(ra 0 10),(ra 0 11),(ra 0 12),(ra 0 13),(ra 0 14)] (ra 10 5) (by kernel_rfl) (by kernel_rfl) (fun (bH:Nat) (v:aj) (G:GH)=>match bH with|0=>v=(aJ b1 4)|1=>v=.agg #[.slice pA pn pc,vi x.head.marks.ins,vi x.head.marks.move,.slice dA dn dc,.slice yA yn yc]|2=>∃ p d l,v=.agg #[p,vi x.head.marks.ins,vi x.head.marks.move,d,l]∧jI G x.head p d l|3=>v=(aJ b1 9)|4=>v=.slice fA fn fc|5=>av G (.sl 11 (x.flow.map ay.dat)) v|6=>v=(aJ b1 10)|7=>v=.slice rA rn rc|8=>av G (.sl 6 (x.rows.map bP.dat)) v|9=>v=(aJ b1 4)|_=>True) iV H ?_ ?_
 ·clear H;refine aG ?_ ?_ ?_ ?_ (aG ?_ ?_ ?_ ?_ (aG ?_ ?_ (bN rfl) (bN rfl) (aU (bN rfl) (aU (bN rfl) (aU (bN rfl) bZ)))))
  ·refine bW [] rfl trivial (by kernel_rfl) iV rfl rfl ?_;intro bg a w G1 hG HT H fin;exact kH H (Rf Bq rfl fun _ H=>fin H iJ rfl)
  ·refine bW [(0,3,_)] rfl ⟨fun _ _ h=>h,aD⟩ (by kernel_rfl) iV rfl rfl ?_;intro bg a w G1 hG HT H fin;refine bK qG (cs:=[_,_,_,_,_]) H wn rfl rfl (H.hp.eF 1 rfl rfl) rfl ?_;clear H;intro a H;exact fin H iJ rfl
  ·refine bW [(1,4,_)] rfl ⟨fun _ _ h=>h,aD⟩ (by kernel_rfl) iV rfl rfl ?_;intro bg a w G1 hG HT H fin;refine s_call JD H wn rfl (JA _ _ H.ro x.head _ _ _ _ _ _ _ _ _ (hh.mono hG) (by omega)) rfl ?_;clear H;rintro v5 G5 a w wD lM H;exact fin H lM (wD)
  ·refine bW [] rfl trivial (by kernel_rfl) iV rfl rfl ?_;intro bg a w G1 hG HT H fin;exact kH H (Rf wW rfl fun _ H=>fin H iJ rfl)
  ·refine bW [(3,6,_)] rfl ⟨fun _ _ h=>h,aD⟩ (by kernel_rfl) iV rfl rfl ?_;intro bg a w G1 hG HT H fin;exact kH H (Ro gW 1 rfl fun _ H=>fin H iJ rfl)
  ·refine bW [(4,7,_)] rfl ⟨fun _ _ h=>h,aD⟩ (by kernel_rfl) iV rfl rfl ?_;intro bg a w G1 hG HT H fin;refine s_call Nf H wn rfl (ih _ _ H.ro x.flow _ (hf.mono hG) (by omega)) rfl ?_;clear H;rintro v8 G8 a w xI qQ H;exact fin H qQ (xI)
  ·refine bW [] rfl trivial (by kernel_rfl) iV rfl rfl ?_;intro bg a w G1 hG HT H fin;exact kH H (Rf oH rfl fun _ H=>fin H iJ rfl)
  ·refine bW [(6,9,_)] rfl ⟨fun _ _ h=>h,aD⟩ (by kernel_rfl) iV rfl rfl ?_;intro bg a w G1 hG HT H fin;exact kH H (Ro oQ 1 rfl fun _ H=>fin H iJ rfl)
  ·refine bW [(7,10,_)] rfl ⟨fun _ _ h=>h,aD⟩ (by kernel_rfl) iV rfl rfl ?_;intro bg a w G1 hG HT H fin;refine s_call Uc H wn rfl (TF _ _ H.ro x.rows _ _ (hr.mono hG) (by omega) (fun y hy=>aby ih hn y (by have:=alo hy;omega))) rfl ?_;clear H;rintro v11 wM a w Hy jS H;exact fin H jS (Hy)
  refine bW [] rfl trivial (by kernel_rfl) iV rfl rfl ?_;intro bg a w G1 hG HT H fin;exact kH H (Rf Bq rfl fun _ H=>fin H iJ rfl)
 clear H;intro a w G ng H hv;obtain ⟨u5,O8,wD⟩:=hv 2 5 (by decide) rfl;(try dsimp only at wD);obtain ⟨p5,d5,l5,rfl,Am⟩:=wD;obtain ⟨a1,a2,a3,rfl⟩:=Am.props.form;obtain ⟨a4,a5,a6,rfl⟩:=Am.dh.form;obtain ⟨a7,a8,a9,rfl⟩:=Am.layers.form;have H:=H.iY O8;obtain ⟨u8,O9,xI⟩:=hv 5 8 (by decide) rfl;(try dsimp only at xI);obtain ⟨A8,n8,c8,rfl⟩:=xI.form;have H:=H.iY O9;obtain ⟨u11,agR,Hy⟩:=hv 8 11 (by decide) rfl;(try dsimp only at Hy);obtain ⟨A11,n11,c11,rfl⟩:=Hy.form;have H:=H.iY agR;have H:=H.aQ (hv 9 12 rfl rfl) rfl;clear hv;refine bM qG 1 (vs:=[_,_,_,_,_]) _ H wn rfl rfl rfl rfl rfl rfl rfl rfl ?_;clear H;intro w H;dsimp only [List.set,setRow] at H;refine kH H (Rf wW rfl ?_);clear H;intro a H;refine bM gW 1 (vs:=[_]) _ H wn rfl rfl rfl rfl rfl rfl rfl rfl ?_;clear H;intro w H;dsimp only [List.set,setRow] at H;refine kH H (Rf oH rfl ?_);clear H;intro a H;refine bM oQ 1 (vs:=[_]) _ H wn rfl rfl rfl rfl rfl rfl rfl rfl ?_;clear H;intro w H;dsimp only [List.set,setRow] at H;refine aI ⟨rfl,?_⟩;refine K2 _ _ ?_;clear K2;refine dH (fun _ K3=>?_);refine bK dx (cs:=[_,_,_,_,_,_,_,_,_,_,_]) H wn rfl rfl (H.hp.eF 1 rfl rfl) rfl ?_;clear H;intro a H;refine bM dx 0 (vs:=[_,_,_,_,_,_,_,_,_,_,_]) _ H wn rfl rfl rfl rfl rfl rfl rfl rfl ?_;clear H;intro w H;dsimp only [List.set,setRow] at H;refine K3 _ _ ?_;clear K3;refine cB ?_;refine (leave1 H results64 (.cons (AO dx (cs:=[_,_,_,_,_,_,_,_,_,_,_]) H rfl rfl (H.hp.eF 0 rfl rfl)) .nil) ?_).1;exact H.rt ⟨_,rfl,aZ.mkItem Am xI Hy⟩
theorem abq {n:Nat} (ih:Cq n) (hn:n≤4294967296) {G:GH} {w0:World} (x:ay) (hz:dw x.dat < n+1):El (.func (.func 64) #[] #[]) w0 G x.dat:=by
 intro G1 w1 cs hm1 hG1 hr;have h:=abr ih hn _ _ hG1 x cs hr hz;have h2:=mo (P:=prog) (caps:=[]) (args:=[.agg cs.toArray]) adC h;exact h2
theorem Ti:∀ n:Nat,n≤4294967297→Cq n
 | 0,_=>fun _ _ _ _ _ _ h=>absurd h (by omega)
 | n+1,hn=>by
  intro G w0 hG l v hv hz;have ih:=Ti n (by omega);have hl:=zF l;refine eN [(0,_)] func40 rfl ntmps40 rfl rfl hG ?_;intro a H;refine kP H (SR fun _ K1=>ak K1 rfl (SR fun _ K2=>Rm rfl ?_));clear H K1;intro a H;refine s_call adB H wn rfl (abY _ _ H.ro l _ _ hv (by omega) (fun y hy=>abq ih (by omega) y (by have:=Ei hy;omega))) rfl ?_;clear H;rintro v4 G4 a w hp4 Ai H;exact kH H (ak K2 rfl (LR results40 rfl fun H=>H.rt hp4))
theorem abA (G:GH) (w0:World) (hG:Hold G w0) (l:List ay) (v:aj) (hv:av G (.sl 11 (l.map ay.dat)) v) (hz:bq l≤4294967296) :
  Calls prog 40 #[v] w0 (bF w0 G fun u G'=>av G' (.sl 11 (l.map ay.dat)) u):=Ti 4294967297 (by omega) G w0 hG l v hv (by omega)
end
section
open Go.RowKit
section
variable {P:Program} {N:Nat} {D:List Deferred} {w0 w w':World} {F:Nat→Prop} {G0 G G':GH} {L L' Li Lo:OL} {T:List (Nat × aj)} {a a':Act} {Q:Exit→Act→World→Prop}
theorem St.cast (h:St N D w0 F G0 G L T a w) (e:L=L'):St N D w0 F G0 G L' T a w:=e ▸ h
theorem St.assoc {A B C:OL} (h:St N D w0 F G0 G ((A++B)++C) T a w):St N D w0 F G0 G (A++(B++C)) T a w:=h.cast (nW _ _ _)
theorem St.un {A B C:OL} (h:St N D w0 F G0 G (A++(B++C)) T a w):St N D w0 F G0 G ((A++B)++C) T a w:=h.cast (nW _ _ _).symm
theorem St.Xi {A B:OL} (h:St N D w0 F G0 G (A++B) T a w):St N D w0 F G0 G (A++(B++[])) T a w:=h.cast (by rw [oF])
theorem SY {ι κ:Type} {Lc:OL} {wZ:Operand} {ps:List Nat} {assign body:Code} {gf:FuncId} {caps:List aj} {xs:List AP} {Gi:GH}
  (Lv:Nat→ι→OL) (Lt:Nat→ι→OL) (inv:Nat→ι→GH→Prop) (cx:κ→Code) (Lx CG:κ→OL) (xP:κ→GH→Prop) (i0:ι)
  (H:St N D w0 F G0 G (Lc++Lv 0 i0++Lt 0 i0) T a w) (hg:ev T wZ=some (.func (.func gf) #[] caps.toArray)) (en:∀ args w,(callFunc gf args).run P w=.ok (.enter gf args) w) (hit:Iter P Gi (.func (.func gf) #[] caps.toArray) xs) (hGi:∀ b o,Gi b=some o→G b=some o)
  (hps:ps.all (Nat.blt · N)=true) (hlen:∀ k args g,uK xs k args g→args.length=ps.length) (hinv:∀ k i (G G':GH),(∀ b o,G b=some o→G' b=some o)→inv k i G→inv k i G') (OG:∀ x (G G':GH),(∀ b o,G b=some o→G' b=some o)→xP x G→xP x G') (h0:inv 0 i0 G)
  (round:∀ (l:Nat) (BS yH:Obj) (bk:OL) (k:Nat) (args:List aj) (i:ι) (G1:GH) (w1:World) (F1:Nat→Prop) (B1:Code→Exit→Act→World→Prop) (a1:Act),uK xs k args G1→(∀ b o,G b=some o→G1 b=some o)→inv k i G1 →
   (∀ T' G2 L2 a2 w2 c,St N [] w1 F1 G1 G2 ((l,BS) :: L2) T' a2 w2→(∀ w3,St N [] w1 F1 G1 G2 ((l,yH) :: L2) T' a2 w3→WP (some l) P c (B1 c) a2 w3)→Exit.then (fun a2 w2=>∃ w3,(Instr.beginRound l).run P w2=.ok () w3∧c.wpIn (FW (some l)) 0 P (B1 c) a2 w3) (fun _ _ _=>False) .normal a2 w2) →
   (∀ i' T' G2 a2 w2 c,St N [] w1 F1 G1 G2 ((l,yH) :: (Lc++Lv (k+1) i'++(bk++Lt (k+1) i'))) T' a2 w2→inv (k+1) i' G2→B1 c .normal a2 w2) →
   (∀ x T' G2 a2 w2 c,St N [] w1 F1 G1 G2 ((l,yH) :: (Lc++Lx x++(bk++CG x))) T' a2 w2→xP x G2→(cx x=.ret→B1 c .ret a2 w2)∧∀ n,cx x=.exit n→B1 c (.exit n) a2 w2) →
   St N [] w1 F1 G1 G1 ((l,BS) :: (Lc++Lv k i++(bk++Lt k i))) (wP ps args T) a1 w1 →
   WP (some l) P assign (Exit.then (fun a2 w2=>∃ w3,(Instr.beginRound l).run P w2=.ok () w3∧body.wpIn (FW (some l)) 0 P (B1 body) a2 w3) (fun _ _ _=>False)) a1 w1)
  (hdone:∀ Dk i G1 a1 w1,(∀ b o,G b=some o→G1 b=some o)→inv xs.length i G1→St N ({ target:=.collected Dk,args:=#[] } :: D) w0 F G0 G1 ((Dk,.deferred (some [])) :: (Lc++Lv xs.length i++Lt xs.length i)) T a1 w1→Q .normal a1 w1)
  (hstop:∀ Dk x G1 a1 w1,(∀ b o,G b=some o→G1 b=some o)→xP x G1→St N ({ target:=.collected Dk,args:=#[] } :: D) w0 F G0 G1 ((Dk,.deferred (some [])) :: (Lc++Lx x++CG x)) T a1 w1→WP none P (cx x) Q a1 w1) :
  WP none P (.rangeFunc wZ ps.toArray assign body) Q a w:=by
 refine aaJ (J:=fun k g L=>∃ i,L=Lc++Lv k i++Lt k i∧inv k i g) (Jx:=fun c g L=>∃ x,c=cx x∧L=Lc++Lx x++CG x∧xP x g) H hg en hit hGi hps hlen (fun k G G' L hm ⟨i,e,h⟩=>⟨i,e,hinv k i G G' hm h⟩) (fun c G G' L hm ⟨x,e1,e2,h⟩=>⟨x,e1,e2,OG x G G' hm h⟩) ⟨i0,rfl,h0⟩ ?_ ?_ ?_
 ·rintro l q bk k args G1 L1 w1 a1 hk hm ⟨i,rfl,hi⟩ H1
  have pm:∀ A B:OL,(bk++(A++B)).Perm (A++(bk++B)):=fun A B=>by
   rw [← nW,← nW]
   exact List.Perm.append_right B zR
  refine round l (q.at .ready none) (q.at .busy none) bk k args i G1 w1 _ (fun _=>roundPost P l _) a1 hk hm hi ?_ ?_ ?_ (H1.perm (List.Perm.cons _ (pm _ _)))
  ·intro T' G2 L2 a2 w2 c H2 h
   exact SS H2 h
  ·intro i' T' G2 a2 w2 c H2 h2
   exact Fw none (H2.perm (List.Perm.cons _ (pm _ _).symm)) ⟨_,rfl,i',rfl,h2⟩
  ·intro x T' G2 a2 w2 c H2 h2
   have H3:=H2.perm (List.Perm.cons _ (pm _ _).symm)
   refine ⟨fun e=>?_,fun n e=>?_⟩
   ·exact Fw (some .ret) H3 ⟨_,_,rfl,x,e.symm,rfl,h2⟩
   ·exact Fw (some (.exit n)) H3 ⟨_,_,rfl,x,e.symm,rfl,h2⟩
 ·rintro Dk G1 L1 a1 w1 hm ⟨i,rfl,hi⟩ H1
  exact hdone Dk i G1 a1 w1 hm hi H1
 ·rintro Dk c G1 L1 a1 w1 hm ⟨x,rfl,rfl,hx⟩ H1
  exact hstop Dk x G1 a1 w1 hm hx H1
def PL (ds:List Nat):List Deferred:=ds.map fun b=>{ target:=.collected b,args:=#[] }
def DV (ds:List Nat):OL:=ds.map fun b=>(b,.deferred (some []))
theorem aaI {r:Option Nat} {ι:Type} {c:Code} {Tc:List (Nat × aj)} {Lc:List (Nat × Obj)} (Dv:ι→List Deferred) (Tv:ι→List (Nat × aj)) (Lv:ι→List (Nat × Obj)) (Gv:ι→GH) (Pr:ι→Prop) (m:ι→Nat) (i0:ι)
  (H:St N (Dv i0) w0 F G0 (Gv i0) (Lc++Lv i0) (Tv i0++Tc) a w) (hP:Pr i0)
  (round:∀ i a w,Pr i→St N (Dv i) w0 F G0 (Gv i) (Lc++Lv i) (Tv i++Tc) a w →
   WP r P c (Exit.then (fun a' w'=>∃ i',(St N (Dv i') w0 F G0 (Gv i') (Lc++Lv i') (Tv i'++Tc) a' w'∧Pr i')∧m i' < m i) Q) a w):WP r P (.loop c) Q a w :=
 SX (fun i a w=>St N (Dv i) w0 F G0 (Gv i) (Lc++Lv i) (Tv i++Tc) a w∧Pr i) m i0 ⟨H,hP⟩ fun i a w hI=>round i a w hI.2 hI.1
theorem aia {ι:Type} {Dv:ι→List Deferred} {Tc:List (Nat × aj)} {Lc:List (Nat × Obj)} {Tv:ι→List (Nat × aj)} {Lv:ι→List (Nat × Obj)} {Gv:ι→GH} {Pr:ι→Prop} {m:ι→Nat} {i:ι} (i':ι)
  (H:St N (Dv i') w0 F G0 (Gv i') (Lc++Lv i') (Tv i'++Tc) a w) (hP:Pr i') (hm:m i' < m i) :
  ∃ i',(St N (Dv i') w0 F G0 (Gv i') (Lc++Lv i') (Tv i'++Tc) a w∧Pr i')∧m i' < m i:=⟨i',⟨H,hP⟩,hm⟩
theorem Py {fn:Func} {R:Ending→World→Prop} {Lh Lt:OL}:∀ (ds:List Nat) {a:Act} {w:World},St N (PL ds) w0 F G0 G (Lh++(DV ds++Lt)) T a w →
  (∀ a' w',St N [] w0 F G0 G (Lh++Lt) T a' w'→bodyPostM (FW none) 0 P fn R .ret a' w')→bodyPostM (FW none) 0 P fn R .ret a w∧bodyPostM (FW none) 0 P fn R .normal a w
 | [],a,w,H,k=>⟨k a w H,k a w H⟩
 | b :: ds,a,w,H,k=>by
  refine Ih (b:=b) (D:=PL ds) H Lh.length (by rw [vT (bV _),Nat.sub_self];rfl) fun a' w' H'=>?_
  refine (Py ds (Lh:=Lh) (Lt:=Lt) (H'.cast ?_) k).1
  rw [List.eraseIdx_append_of_length_le (bV _),Nat.sub_self];rfl
end
end
section
open Go.RowKit
def n1 (x:ay):Nat:=if rC x=0 then eD x else 0
theorem ahR (x:ay):vC [x]=n1 x:=by
 simp only [vC,uU,n1,iW,List.all_cons,List.all_nil,Bool.and_true,pG]
 split <;> simp_all
mutual
/-- The positions of a flow and of those within it, from an item on. -/
def Cn (flow:Int) (at_:Nat):ay→List (Int × Int)
 | .mk k c i t h f r=>(List.range (n1 (.mk k c i t h f r))).map (fun q=>(flow,((at_+q:Nat):Int)))++((if k=6 then vJ i 0 f else [])++sG r)
def vJ (flow:Int):Nat→List ay→List (Int × Int)
 | at_,[]=>[(flow,(at_:Int))]
 | at_,x :: l=>Cn flow at_ x++vJ flow (at_+n1 x) l
def sG:List bP→List (Int × Int)
 | []=>[]
 | r :: l=>Co r++sG l
def Co:bP→List (Int × Int)
 | .mk _ cs=>yu cs
def yu:List bO→List (Int × Int)
 | []=>[]
 | c :: l=>Cm c++yu l
def Cm:bO→List (Int × Int)
 | .mk i _ f=>vJ i 0 f
end
theorem av.len {G:GH} {sz:Nat} {rows:List (List Dat)} {A:Option Addr} {n c:Nat} (h:av G (.sl sz rows) (.slice A n c)):n=rows.length:=h.cells.1
theorem av.at_ {G:GH} {sz:Nat} {rows:List (List Dat)} {A:Option Addr} {n c:Nat} (h:av G (.sl sz rows) (.slice A n c)):∀ k r,rows[k]?=some r→∃ b o cs,A=some ⟨b,o,none⟩∧cs.length=sz∧(∀ j u,cs[j]?=some u→aL G b (o+k*sz+j)=some u)∧aZ G r cs:=by
 obtain ⟨A2,c2,e,_,_,hg⟩:=h.slice
 cases e;exact hg
theorem Fx {G:GH} {l:List bP} {A:Option Addr} {k:Nat} (hk:k < l.length) (hg:∀ k r,(l.map bP.dat)[k]?=some r→∃ b o cs,A=some ⟨b,o,none⟩∧cs.length=6∧(∀ j u,cs[j]?=some u→aL G b (o+k*6+j)=some u)∧aZ G r cs) :
  ∃ b o pA pn pc dA dn dc yA yn yc cA cn cc,A=some ⟨b,o,none⟩∧(∀ j u,[.slice pA pn pc,vi l[k].head.marks.ins,vi l[k].head.marks.move,.slice dA dn dc,.slice yA yn yc,.slice cA cn cc][j]?=some u→aL G b (o+k*6+j)=some u) ∧
   jI G l[k].head (.slice pA pn pc) (.slice dA dn dc) (.slice yA yn yc)∧av G (.sl 7 (l[k].cells.map bO.dat)) (.slice cA cn cc):=by
 obtain ⟨b,o,cs,h1,h2,h3,h4⟩:=hg k l[k].dat (by simp [hk]);obtain ⟨pA,pn,pc,dA,dn,dc,yA,yn,yc,cA,cn,cc,rfl,h5,h6⟩:=h4.row;exact ⟨b,o,pA,pn,pc,dA,dn,dc,yA,yn,yc,cA,cn,cc,h1,h3,h5,h6⟩
theorem EC {G:GH} {l:List bO} {A:Option Addr} {k:Nat} (hk:k < l.length) (hg:∀ k r,(l.map bO.dat)[k]?=some r→∃ b o cs,A=some ⟨b,o,none⟩∧cs.length=7∧(∀ j u,cs[j]?=some u→aL G b (o+k*7+j)=some u)∧aZ G r cs) :
  ∃ b o pA pn pc dA dn dc yA yn yc fA fn fc,A=some ⟨b,o,none⟩∧(∀ j u,[vi l[k].id,.slice pA pn pc,vi l[k].head.marks.ins,vi l[k].head.marks.move,.slice dA dn dc,.slice yA yn yc,.slice fA fn fc][j]?=some u→aL G b (o+k*7+j)=some u) ∧
   jI G l[k].head (.slice pA pn pc) (.slice dA dn dc) (.slice yA yn yc)∧av G (.sl 11 (l[k].flow.map ay.dat)) (.slice fA fn fc):=by
 obtain ⟨b,o,cs,h1,h2,h3,h4⟩:=hg k l[k].dat (by simp [hk]);obtain ⟨pA,pn,pc,dA,dn,dc,yA,yn,yc,fA,fn,fc,rfl,h5,h6⟩:=h4.cell;exact ⟨b,o,pA,pn,pc,dA,dn,dc,yA,yn,yc,fA,fn,fc,h1,h3,h5,h6⟩
end
section
open Go.RowKit
structure nE where
 (f p d y r s1 s2 s3 s4:Option Addr × Nat × Nat)
 (ins move:Int)
abbrev fI (x:Option Addr × Nat × Nat):aj:=.slice x.1 x.2.1 x.2.2
abbrev nE.cells (D:nE):List aj:=[fI D.f,fI D.p,vi D.ins,vi D.move,fI D.d,fI D.y,fI D.r,fI D.s1,fI D.s2,fI D.s3,fI D.s4]
abbrev nE.val (D:nE):aj:=.agg D.cells.toArray
end
section
open Go.RowKit
theorem Nk:∀ args w,(callFunc 97 args).run prog w=.ok (.enter 97 args) w:=enters func97 rfl (by kernel_rfl)
theorem Lm:Ty prog 106 3 16 [.bool false,.bool false,.int .i64 0] true:=⟨by kernel_rfl,by kernel_rfl⟩
theorem ako:qm prog 108 [(0,1),(1,3)] [.slice none 0 0,.bool false,.bool false,.int .i64 0]:=⟨by kernel_rfl,by kernel_rfl⟩
theorem yO:bY prog 63 2 2:=⟨by kernel_rfl⟩
theorem GJ:bY prog 106 2 2:=⟨by kernel_rfl⟩
theorem Cb:qm prog 106 [(0,1),(1,1),(2,1)] [.bool false,.bool false,.int .i64 0]:=⟨by kernel_rfl,by kernel_rfl⟩
theorem Nl:bY prog 106 1 1:=⟨by kernel_rfl⟩
theorem yg:Ty prog 4 1 1 [.bool false] false:=⟨by kernel_rfl,by kernel_rfl⟩
theorem Bo:bY prog 38 0 0:=⟨by kernel_rfl⟩
theorem adA:∀ args w,(callFunc 62 args).run prog w=.ok (.enter 62 args) w:=enters func62 rfl (by kernel_rfl)
theorem Ug:∀ args w,(callFunc 96 args).run prog w=.ok (.enter 96 args) w:=enters func96 rfl (by kernel_rfl)
structure jg where
 id:Int
 items:List ay
 body:Bool
 note:Bool
 tables:Int
mutual
def vL (note:Bool) (t:Int):ay→List jg
 | .mk k _ i _ _ f r=>if k=6 then ⟨i,f,false,true,t⟩ :: iT true t f else if k=7 then nR note t r else []
def iT (note:Bool) (t:Int):List ay→List jg
 | []=>[]
 | x :: l=>vL note t x++iT note t l
def nR (note:Bool) (t:Int):List bP→List jg
 | []=>[]
 | r :: l=>vM note t r++nR note t l
def vM (note:Bool) (t:Int):bP→List jg
 | .mk _ cs=>ow note t cs
def ow (note:Bool) (t:Int):List bO→List jg
 | []=>[]
 | c :: l=>vK note t c++ow note t l
def vK (note:Bool) (t:Int):bO→List jg
 | .mk i _ f=>⟨i,f,false,note,t+1⟩ :: iT note (t+1) f
end
theorem akZ (note:Bool) (t:Int) (x:ay):vL note t x=if x.kind=6 then ⟨x.id,x.flow,false,true,t⟩ :: iT true t x.flow else if x.kind=7 then nR note t x.rows else []:=by cases x;rw [vL];rfl
theorem alb (note:Bool) (t:Int) (x:bP):vM note t x=ow note t x.cells:=by cases x;rw [vM];rfl
theorem akX (note:Bool) (t:Int) (x:bO):vK note t x=⟨x.id,x.flow,false,note,t+1⟩ :: iT note (t+1) x.flow:=by cases x;rw [vK];rfl
def Ab (a:jg):AP:=fun args g=>∃ v,args=[vi a.id,.agg #[v,.bool a.body,.bool a.note,vi a.tables]]∧av g (.sl 11 (a.items.map ay.dat)) v
def Mj (n:Nat):Prop:=∀ (fv:aj) (Gi:GH) (xs:List AP) (J:Nat→GH→OL→Prop) (Jx:GH→OL→Prop) (G:GH) (L:OL) (w0:World) (j:Nat) (l:List ay) (id:Int) (body note:Bool) (t:Int) (v:aj),
 (∀ b o,Gi b=some o→G b=some o)→FU prog fv Gi xs J Jx→Cw J→Ev Jx→J j G L→gX G L w0→av G (.sl 11 (l.map ay.dat)) v→bq l < n→0≤t→t+bq l≤4294967296→(∀ i a,(⟨id,l,body,note,t⟩ :: iT note t l)[i]?=some a→xs[j+i]?=some (Ab a)) →
 Calls prog 97 #[vi id,v,.agg #[.bool body,.bool note,vi t],fv] w0 (gH w0 G L fun u G' L'=>∃ b,u=.bool b∧(b=true→J (j+((iT note t l).length+1)) G' L')∧(b=false→Jx G' L'))
set_option maxHeartbeats 1000000 in
theorem ald {n:Nat} (ih:Mj n) (hn:n≤4294967296):Mj (n+1):=by
 intro fv Gi xs J Jx G L w0 j0 l id body note t v hGi hcb vg hJx hJ0 hO hv hz ht0 ht1 hx0;obtain ⟨A,c,rfl,hc1,hc2,hg⟩:=hv.slice;rw [bU] at *;have hll:=zF l;have OU:Now xs Ab J (j0+((iT note t l).length+1)) j0 (⟨id,l,body,note,t⟩ :: iT note t l) G L:=⟨hJ0,hx0,rfl⟩;refine kg (N:=74) (T:=[(0,_),(1,_),(2,_),(3,_)]) func97 rfl ntmps97 rfl rfl hO ?_;intro a H;refine dH (fun _ K1=>?_);refine fq (cs:=[_,_,_]) H wn rfl rfl rfl ?_;clear H;intro b6 a w hb6 H;refine kH H (ak K1 rfl (SQ fun _ K2=>SR fun _ K3=>Rm rfl (Rm rfl (Rm rfl ?_))));clear H K1;intro a H;refine bK Lm (cs:=[_,_,_]) H wn rfl rfl (H.hp.eF 0 rfl rfl) rfl ?_;clear H;intro a H;refine ku ako [_,_,_,_] H wn rfl rfl rfl rfl ?_;clear H;intro a H;refine FB (Li:=[_]) (L:=L) H wn rfl rfl (hcb _ _ _ _ _ ⟨_,OU.head,_,rfl,hv⟩ hGi OU.now (Hp.owns (Li:=[_]) H.hp)) rfl ?_;clear H;rintro v20 En F7 a w ⟨b20,rfl,hb1,hb2⟩ BG H;refine kH H (Rn rfl (Kz K3 (Cd rfl ?_ ?_))) <;> clear H K3
 ·intro h21 a H
  try have qb:=dT h21
  refine kP H (SR fun _ K4=>ak K4 rfl ?_);clear H K4;intro a H;refine lr H results97 rfl ?_
  first
   | exact H.hp.gT (L':=F7) (by repeat (first|exact iN _|apply List.Sublist.cons)) ⟨_,rfl,fun e=>(by cases e),fun _=>hb2 (by simpa using h21)⟩
   | exact H.hp.gT (L':=F8) (by repeat (first|exact iN _|apply List.Sublist.cons)) ⟨_,rfl,fun e=>(by cases e),fun _=>hb4 (by simpa using Bv)⟩
   | exact H.hp.gT (L':=F9) (by repeat (first|exact iN _|apply List.Sublist.cons)) ⟨_,rfl,fun e=>(by cases e),fun _=>hb6 (by simpa using qO)⟩
   | exact H.hp.gT (L':=Lt) (by repeat (first|exact iN _|apply List.Sublist.cons)) ⟨_,rfl,fun _=>(by rw [iq (by omega),iT] at eH;have:=eH.len;simp only [List.length_nil,tN] at this;rw [← this];exact eH.now),fun e=>(by cases e)⟩
 intro h21 a H
 try have qb:=dF h21
 refine kP H (Kc K2 (SQ fun _ K5=>SR fun _ K6=>Rm rfl (Rl fU rfl (Rm rfl (Kz K6 (SB ?_))))));clear H K2 K6;intro a H;skip;refine eU (ι:=Nat × Nat × OL × GH) (Tc:=[(3,_),(6,_),(22,_),(23,_)]) (Lc:=[(_,_)]) (fun gh=>[(24,vi gh.1)]) (fun gh=>[]++gh.2.2.1) (fun gh=>gh.2.2.2) (fun gh=>gh.1≤l.length∧(∀ b o,G b=some o→gh.2.2.2 b=some o)∧Now xs Ab J (j0+((iT note t l).length+1)) gh.2.1 (iT note t (l.drop gh.1)) gh.2.2.2 gh.2.2.1) (fun gh=>l.length - gh.1) ((0,j0+1,F7,En)) (by exact (H).sub ⟨rfl,rfl,rfl,rfl,rfl,aD⟩) ?_ ?_
 ·exact ⟨by omega,BG,OU.step (hb1 (by simpa using h21))⟩
 clear H;intro gh a w hI H;obtain ⟨k,j1,Lt,g⟩:=gh;dsimp only at hI H;obtain ⟨hk,hgm,eH⟩:=hI;dsimp only [lca,bD] at H;refine kP H (SR fun _ K7=>Rc rfl (Kz K7 (SQ fun _ K8=>Cd rfl ?_ ?_))) <;> clear H K7
 ·intro lY a H
  try have p25:=dT lY
  have hk2:k < l.length:=by omega
  obtain ⟨b,o,pA,pn,pc,dA,dn,dc,yA,yn,yc,fA,fn,fc,rA,rn,rc,rfl,hrow,hhd,hfl,hrw⟩:=wX hk2 hg;replace hrow:=fun j u hj=>aM hgm (hrow j u hj);have hrn:=hrw.len;rw [bU] at hrn;subst hrn;have hrs:=FT l[k].rows;have hsz1:=Y9 hk2;rw [kS hk2] at eH
  simp only [iT,akZ] at eH
  refine kP H (Kc K8 (SQ fun _ K9=>SB (SR fun _ aT=>Ri fU dx rfl rfl ?_)));clear H K8;intro a H;refine bK dx (cs:=[_,_,_,_,_,_,_,_,_,_,_]) H wn rfl rfl (fun j v hj=>H.hp.aL (hrow j v hj)) rfl ?_;clear H;intro a H;refine eZ dx H wn rfl ?_;clear H;intro b10 a w Ot H;refine bM dx 0 (vs:=[_,_,_,_,_,_,_,_,_,_,_]) _ H wn rfl rfl rfl rfl rfl rfl rfl rfl ?_;clear H;intro w H;dsimp only [List.set,setRow] at H;refine aT _ _ ?_;clear aT;refine kP H (SR fun _ bC=>aW jD aH 0 rfl rfl (Kz bC (SB (SR fun _ bJ=>Rc rfl (ak bJ rfl (Cd rfl ?_ ?_)))))) <;> clear H bC bJ
  ·intro qM a H
   try have p30:=dT qM
   rw [au p30] at eH;refine kP H (SR fun _ bT=>aW yO aH 0 rfl rfl (aW wW gW 0 rfl rfl (aW GJ aH 1 rfl rfl ?_)));clear H;intro a H;refine ku Cb [_,_,_] H wn rfl rfl rfl rfl ?_;clear H;intro a H;refine kH H (Rm rfl ?_);clear H;intro a H;refine gV Nk (Li:=[_,_]) (L:=Lt) H wn rfl (ih fv Gi xs J Jx _ _ _ j1 l[k].flow l[k].id false true t _ (fun b o h=>hgm b o (hGi b o h)) hcb vg hJx eH.now (Hp.owns (Li:=[_,_]) H.hp) (hfl.mono hgm) (by omega) ht0 (by omega) eH.part) rfl ?_;clear H;rintro v40 Rb F8 a w ⟨b40,rfl,hb3,hb4⟩ Ke H;refine kH H (Rn rfl (Kz bT (Cd rfl ?_ ?_))) <;> clear H bT
   ·intro Bv a H
    try have p41:=dT Bv
    refine kP H (SR fun _ bS=>ak bS rfl ?_);clear H bS;intro a H;refine lr H results97 rfl ?_
    first
     | exact H.hp.gT (L':=F7) (by repeat (first|exact iN _|apply List.Sublist.cons)) ⟨_,rfl,fun e=>(by cases e),fun _=>hb2 (by simpa using h21)⟩
     | exact H.hp.gT (L':=F8) (by repeat (first|exact iN _|apply List.Sublist.cons)) ⟨_,rfl,fun e=>(by cases e),fun _=>hb4 (by simpa using Bv)⟩
     | exact H.hp.gT (L':=F9) (by repeat (first|exact iN _|apply List.Sublist.cons)) ⟨_,rfl,fun e=>(by cases e),fun _=>hb6 (by simpa using qO)⟩
     | exact H.hp.gT (L':=Lt) (by repeat (first|exact iN _|apply List.Sublist.cons)) ⟨_,rfl,fun _=>(by rw [iq (by omega),iT] at eH;have:=eH.len;simp only [List.length_nil,tN] at this;rw [← this];exact eH.now),fun e=>(by cases e)⟩
   intro Bv a H
   try have p41:=dF Bv
   refine kP H (Kc K9 (SC (Rd rfl (Rm rfl ?_))));clear H K9;intro a H;refine aI ?_;refine cK ((k+1,j1+((iT true t l[k].flow).length+1),F8,Rb)) (by exact (H.dV (Pl:=[_,_]) (dz:=[_]) [1] (by decide) rfl).sub ⟨rfl,rfl,rfl,rfl,rfl,aD⟩) ?_ ?_
   ·(try dsimp only);exact ⟨by omega,fun b o h=>Ke b o (hgm b o h),eH.jump (hb3 (by simpa using Bv))⟩
   first|omega|(dsimp only;omega)
  intro qM a H
  try have p30:=dF qM
  refine kP H (SR fun _ dD=>Rc rfl (ak dD rfl (Cd rfl ?_ ?_))) <;> clear H dD
  ·intro C9 a H
   try have p42:=dT C9
   rw [ah p30,au p42] at eH;refine kP H (SR fun _ dM=>aW oH oQ 0 rfl rfl (Rl lS rfl (Rm rfl (Kz dM (SB ?_)))));clear H dM;intro a H;skip;refine eU (ι:=Nat × Nat × OL × GH) (Tc:=[(3,_),(6,_),(22,_),(23,_),(24,_),(45,_),(46,_)]) (Lc:=[(_,_),(_,_)]) (fun gh=>[(47,vi gh.1)]) (fun gh=>[]++gh.2.2.1) (fun gh=>gh.2.2.2) (fun gh=>gh.1≤l[k].rows.length∧(∀ b o,G b=some o→gh.2.2.2 b=some o)∧Now xs Ab J (j0+((iT note t l).length+1)) gh.2.1 (nR note t (l[k].rows.drop gh.1)++iT note t (l.drop (k+1))) gh.2.2.2 gh.2.2.1) (fun gh=>l[k].rows.length - gh.1) ((0,j1,Lt,g)) (by exact (H).sub ⟨rfl,rfl,rfl,rfl,rfl,rfl,rfl,rfl,aD⟩) ?_ ?_
   ·exact ⟨by omega,hgm,eH⟩
   clear H;intro gh a w hI H;obtain ⟨rk,j3,Lt3,g3⟩:=gh;dsimp only at hI H;obtain ⟨HY,Al,rT⟩:=hI;dsimp only [lca,bD] at H;refine kP H (SR fun _ cZ=>Rc rfl (Kz cZ (SQ fun _ dW=>Cd rfl ?_ ?_))) <;> clear H cZ
   ·intro h48 a H
    try have p48:=dT h48
    have hk3:rk < l[k].rows.length:=by omega
    obtain ⟨b2,o2,qA,qn,qc,eA,en,ec,zA,zn,zc,cA,cn,cc,rfl,hrow,xJ,hcl⟩:=Fx hk3 hrw.at_;replace hrow:=fun j u hj=>aM Al (hrow j u hj);have hcn:=hcl.len;rw [bU] at hcn;subst hcn;have hsz2:=IQ hk3;have hcs:=FR l[k].rows[rk].cells;rw [kS hk3] at rT
    simp only [nR,alb,nW] at rT
    refine kP H (Kc dW (SQ fun _ fZ=>SB (SR fun _ eG=>Ri lS jV rfl rfl ?_)));clear H dW;intro a H;refine bK jV (cs:=[_,_,_,_,_,_]) H wn rfl rfl (fun j v hj=>H.hp.aL (hrow j v hj)) rfl ?_;clear H;intro a H;refine eZ jV H wn rfl ?_;clear H;intro b12 a w BD H;refine bM jV 0 (vs:=[_,_,_,_,_,_]) _ H wn rfl rfl rfl rfl rfl rfl rfl rfl ?_;clear H;intro w H;dsimp only [List.set,setRow] at H;refine eG _ _ ?_;clear eG;refine kP H (SR fun _ gq=>aW uf uI 0 rfl rfl (Rl oV rfl (Rm rfl (Kz gq (SB ?_)))));clear H gq;intro a H;skip;refine eU (ι:=Nat × Nat × OL × GH) (Tc:=[(3,_),(6,_),(22,_),(23,_),(24,_),(45,_),(46,_),(47,_),(52,_),(53,_)]) (Lc:=[(_,_),(_,_),(_,_)]) (fun gh=>[(54,vi gh.1)]) (fun gh=>[]++gh.2.2.1) (fun gh=>gh.2.2.2) (fun gh=>gh.1≤l[k].rows[rk].cells.length∧(∀ b o,G b=some o→gh.2.2.2 b=some o)∧Now xs Ab J (j0+((iT note t l).length+1)) gh.2.1 (ow note t (l[k].rows[rk].cells.drop gh.1)++(nR note t (l[k].rows.drop (rk+1))++iT note t (l.drop (k+1)))) gh.2.2.2 gh.2.2.1) (fun gh=>l[k].rows[rk].cells.length - gh.1) ((0,j3,Lt3,g3)) (by exact (H).sub ⟨rfl,rfl,rfl,rfl,rfl,rfl,rfl,rfl,rfl,rfl,rfl,aD⟩) ?_ ?_
    ·exact ⟨by omega,Al,rT⟩
    clear H;intro gh a w hI H;obtain ⟨ck,j4,Lt4,g4⟩:=gh;dsimp only at hI H;obtain ⟨hck,Hl,sW⟩:=hI;dsimp only [lca,bD] at H;refine kP H (SR fun _ iB=>Rc rfl (Kz iB (SQ fun _ jv=>Cd rfl ?_ ?_))) <;> clear H iB
    ·intro lK a H
     try have p55:=dT lK
     have hk4:ck < l[k].rows[rk].cells.length:=by omega
     obtain ⟨b3,o3,sA,sn,sc,tA,tn,tc,uA,un,uc,gA,gn,gc,rfl,hrow,hch,hcf⟩:=EC hk4 hcl.at_;replace hrow:=fun j u hj=>aM Hl (hrow j u hj);have H7:=IJ hk4;rw [kS hk4] at sW
     simp only [ow,akX,nW] at sW
     refine kP H (Kc jv (SQ fun _ jB=>SB (SR fun _ iX=>Ri oV kN rfl rfl ?_)));clear H jv;intro a H;refine bK kN (cs:=[_,_,_,_,_,_,_]) H wn rfl rfl (fun j v hj=>H.hp.aL (hrow j v hj)) rfl ?_;clear H;intro a H;refine eZ kN H wn rfl ?_;clear H;intro b14 a w Ou H;refine bM kN 0 (vs:=[_,_,_,_,_,_,_]) _ H wn rfl rfl rfl rfl rfl rfl rfl rfl ?_;clear H;intro w H;dsimp only [List.set,setRow] at H;refine iX _ _ ?_;clear iX;refine kP H (SR fun _ kD=>aW EN aH 0 rfl rfl (aW CZ gW 0 rfl rfl (aW Nl yg 3 rfl rfl (aW GJ aH 3 rfl rfl (Rd rfl ?_)))));clear H;intro a H;refine ku Cb [_,_,_] H wn rfl rfl rfl rfl ?_;clear H;intro a H;refine kH H (Rm rfl ?_);clear H;intro a H;refine gV Nk (Li:=[_,_,_,_]) (L:=Lt4) H wn rfl (ih fv Gi xs J Jx _ _ _ j4 l[k].rows[rk].cells[ck].flow l[k].rows[rk].cells[ck].id false note (t+1) _ (fun b o h=>Hl b o (hGi b o h)) hcb vg hJx sW.now (Hp.owns (Li:=[_,_,_,_]) H.hp) (hcf.mono Hl) (by omega) (by omega) (by omega) sW.part) rfl ?_;clear H;rintro v69 Rj F9 a w ⟨b69,rfl,hb5,hb6⟩ ags H;refine kH H (Rn rfl (Kz kD (Cd rfl ?_ ?_))) <;> clear H kD
     ·intro qO a H
      try have p70:=dT qO
      refine kP H (SR fun _ kZ=>ak kZ rfl ?_);clear H kZ;intro a H;refine lr H results97 rfl ?_
      first
       | exact H.hp.gT (L':=F7) (by repeat (first|exact iN _|apply List.Sublist.cons)) ⟨_,rfl,fun e=>(by cases e),fun _=>hb2 (by simpa using h21)⟩
       | exact H.hp.gT (L':=F8) (by repeat (first|exact iN _|apply List.Sublist.cons)) ⟨_,rfl,fun e=>(by cases e),fun _=>hb4 (by simpa using Bv)⟩
       | exact H.hp.gT (L':=F9) (by repeat (first|exact iN _|apply List.Sublist.cons)) ⟨_,rfl,fun e=>(by cases e),fun _=>hb6 (by simpa using qO)⟩
       | exact H.hp.gT (L':=Lt) (by repeat (first|exact iN _|apply List.Sublist.cons)) ⟨_,rfl,fun _=>(by rw [iq (by omega),iT] at eH;have:=eH.len;simp only [List.length_nil,tN] at this;rw [← this];exact eH.now),fun e=>(by cases e)⟩
     intro qO a H
     try have p70:=dF qO
     refine kP H (Kc jB (SC (Rd rfl (Rm rfl ?_))));clear H jB;intro a H;refine aI ?_;refine cK ((ck+1,j4+((iT note (t+1) l[k].rows[rk].cells[ck].flow).length+1),F9,Rj)) (by exact (H.dV (Pl:=[_,_,_,_]) (dz:=[_,_,_]) [1,2,3] (by decide) rfl).sub ⟨rfl,rfl,rfl,rfl,rfl,rfl,rfl,rfl,rfl,rfl,rfl,aD⟩) ?_ ?_
     ·(try dsimp only);exact ⟨by omega,fun b o h=>ags b o (Hl b o h),sW.jump (hb5 (by simpa using qO))⟩
     first|omega|(dsimp only;omega)
    intro lK a H
    try have p55:=dF lK
    refine dQ ?_;refine fZ _ _ ?_;clear fZ;refine kP H (SC (Rd rfl (Rm rfl ?_)));clear H;intro a H;refine aI ?_;refine cK ((rk+1,j4,Lt4,g4)) (by exact (H.dV (Pl:=[_,_,_]) (dz:=[_,_]) [1,2] (by decide) rfl).sub ⟨rfl,rfl,rfl,rfl,rfl,rfl,rfl,rfl,aD⟩) ?_ ?_
    ·(try dsimp only);exact ⟨by omega,Hl,by rw [iq (by omega),ow,jX] at sW;exact sW⟩
    first|omega|(dsimp only;omega)
   intro h48 a H
   try have p48:=dF h48
   refine dQ ?_;refine K9 _ _ ?_;clear K9;refine kP H (SC (Rd rfl (Rm rfl ?_)));clear H;intro a H;refine aI ?_;refine cK ((k+1,j3,Lt3,g3)) (by exact (H.dV (Pl:=[_,_]) (dz:=[_]) [1] (by decide) rfl).sub ⟨rfl,rfl,rfl,rfl,rfl,aD⟩) ?_ ?_
   ·(try dsimp only);exact ⟨by omega,Al,by rw [iq (by omega),nR,jX] at rT;exact rT⟩
   first|omega|(dsimp only;omega)
  intro C9 a H
  try have p42:=dF C9
  refine kP H (Kc K9 (SC (Rd rfl (Rm rfl ?_))));clear H K9;intro a H;refine aI ?_;refine cK ((k+1,j1,Lt,g)) (by exact (H.dV (Pl:=[_,_]) (dz:=[_]) [1] (by decide) rfl).sub ⟨rfl,rfl,rfl,rfl,rfl,aD⟩) ?_ ?_
  ·(try dsimp only);exact ⟨by omega,hgm,by rw [ah p30,ah p42,jX] at eH;exact eH⟩
  first|omega|(dsimp only;omega)
 intro lY a H
 try have p25:=dF lY
 refine dQ ?_;refine K5 _ _ ?_;clear K5;refine kP H (SR fun _ jC=>ak jC rfl ?_);clear H jC;intro a H;refine lr H results97 rfl ?_
 first
  | exact H.hp.gT (L':=F7) (by repeat (first|exact iN _|apply List.Sublist.cons)) ⟨_,rfl,fun e=>(by cases e),fun _=>hb2 (by simpa using h21)⟩
  | exact H.hp.gT (L':=F8) (by repeat (first|exact iN _|apply List.Sublist.cons)) ⟨_,rfl,fun e=>(by cases e),fun _=>hb4 (by simpa using Bv)⟩
  | exact H.hp.gT (L':=F9) (by repeat (first|exact iN _|apply List.Sublist.cons)) ⟨_,rfl,fun e=>(by cases e),fun _=>hb6 (by simpa using qO)⟩
  | exact H.hp.gT (L':=Lt) (by repeat (first|exact iN _|apply List.Sublist.cons)) ⟨_,rfl,fun _=>(by rw [iq (by omega),iT] at eH;have:=eH.len;simp only [List.length_nil,tN] at this;rw [← this];exact eH.now),fun e=>(by cases e)⟩
theorem YT:∀ n:Nat,n≤4294967297→Mj n
 | 0,_=>fun _ _ _ _ _ _ _ _ _ _ _ _ _ _ _ _ _ _ _ _ _ _ h=>absurd h (by omega)
 | n+1,hn=>ald (YT n (by omega)) (by omega)
def Bt (l:List ay):List jg:=⟨0,l,true,false,0⟩ :: iT false 0 l
theorem aeT {G:GH} {ba bl bp:Nat} {l:List ay} {v:aj} {id t:Int} {body note:Bool} (h1:aL G ba 0=some (vi id)) (h2:aL G bl 0=some v) (h3:G bp=some (.cells #[.bool body,.bool note,vi t] 106 (0,0))) (hv:av G (.sl 11 (l.map ay.dat)) v) (hz:bq l≤4294967296) (ht0:0≤t) (ht1:t+bq l≤4294967296) :
  Iter prog G (.func (.func 96) #[] #[(aJ ba 0),(aJ bl 0),(aJ bp 0)]) ((⟨id,l,body,note,t⟩ :: iT note t l).map Ab):=by
 intro J Jx fv G1 L w0 Vk hGi vg hJx hJ hO hcb;refine mo (caps:=[(aJ ba 0),(aJ bl 0),(aJ bp 0)]) Ug ?_;replace h1:=aM hGi h1;replace h2:=aM hGi h2
 have hrow:∀ j u,[.bool body,.bool note,vi t][j]?=some u→aL G1 bp (0+j)=some u:=by
  intro j u hj;refine aM hGi ?_
  unfold aL;rw [h3];simpa using hj
 refine kg (N:=10) (T:=[(0,_),(1,_),(2,_),(3,_)]) func96 rfl ntmps96 rfl rfl hO ?_;intro a H;refine kP H (SC (Rg aH rfl (by assumption) ?_));clear H;intro a H;refine kH H (Rg gW rfl (by assumption) ?_);clear H;intro a H;refine bK Lm (cs:=[_,_,_]) H wn rfl rfl (fun j v hj=>H.hp.aL (hrow j v hj)) rfl ?_;clear H;intro a H;refine kH H (Rm rfl ?_);clear H;intro a H;refine gV Nk (Li:=[]) (L:=L) H wn rfl (YT 4294967297 (by omega) _ G1 _ J Jx G1 _ _ 0 l id body note t _ (fun _ _ h=>h) hcb vg hJx hJ (Hp.owns (Li:=[]) H.hp) (hv.mono hGi) (by omega) ht0 ht1 (fun i a h=>by rw [kT,qp,h];rfl)) rfl ?_;clear H;rintro v9 G9 L9 a w ⟨b9,rfl,h1,h2⟩ xG H;refine aI ?_;refine (leave0 H results96 ?_).2
 cases b9
 ·exact H.hp.eP (.inr (h2 rfl))
 exact H.hp.eP (.inl (by simpa using h1 rfl))
theorem aeU (G:GH) (w0:World) (hG:Hold G w0) (l:List ay) (v:aj) (id t:Int) (body note:Bool) (hv:av G (.sl 11 (l.map ay.dat)) v) (hz:bq l≤4294967296) (ht0:0≤t) (ht1:t+bq l≤4294967296) :
  Calls prog 62 #[vi id,v,.agg #[.bool body,.bool note,vi t]] w0 (bF w0 G fun u G'=>∃ ba bl bp,u=.func (.func 96) #[] #[(aJ ba 0),(aJ bl 0),(aJ bp 0)]∧Iter prog G' u ((⟨id,l,body,note,t⟩ :: iT note t l).map Ab)):=by
 obtain ⟨A,c,rfl,hc1,hc2,hg⟩:=hv.slice;refine eN [(0,_),(1,_),(2,_)] func62 rfl ntmps62 rfl rfl hG ?_;intro a H;refine dH (fun _ K1=>?_);refine fq (cs:=[_]) H wn rfl rfl rfl ?_;clear H;intro b3 a w hb3 H;refine fq (cs:=[_]) H wn rfl rfl rfl ?_;clear H;intro b4 a w hb4 H;refine fq (cs:=[_,_,_]) H wn rfl rfl rfl ?_;clear H;intro b5 a w hb5 H;refine kH H (ak K1 rfl (SR fun _ K2=>?_));clear H K1;intro a H;refine qd H wn rfl rfl ?_;clear H;intro a H;refine kH H (ak K2 rfl ?_);clear H K2;intro a H;refine cB ?_;obtain ⟨G2,hm2,hb5,H⟩:=H.dS;obtain ⟨G3,OI,hb4,H⟩:=H.dS;obtain ⟨G4,EY,hb3,H⟩:=H.dS;refine lv H results62 rfl ?_;exact H.rt ⟨b3,b4,b5,rfl,aeT (by unfold aL;rw [hb3];rfl) (aM EY (by unfold aL;rw [hb4];rfl)) (EY _ _ (OI _ _ hb5)) (hv.mono fun b o h=>EY _ _ (OI _ _ (hm2 _ _ h))) hz ht0 ht1⟩
theorem aiE (G:GH) (w0:World) (hG:Hold G w0) (D:nE) (l:List ay) (hv:av G (.sl 11 (l.map ay.dat)) (fI D.f)) (hz:bq l≤4294967296) :
  Calls prog 39 #[D.val] w0 (bF w0 G fun u G'=>∃ ba bl bp,u=.func (.func 96) #[] #[(aJ ba 0),(aJ bl 0),(aJ bp 0)]∧Iter prog G' u ((Bt l).map Ab)):=by
 refine eN [(0,_)] func39 rfl ntmps39 rfl rfl hG ?_;intro a H;refine dH (fun _ K1=>?_);refine fq (cs:=[_,_,_,_,_,_,_,_,_,_,_]) H wn rfl rfl rfl ?_;clear H;intro b1 a w hb1 H;refine kH H (ak K1 rfl (SR fun _ K2=>aW Bo gW 0 rfl rfl ?_));clear H K1;intro a H;refine ku Cb [_,_,_] H wn rfl rfl rfl rfl ?_;clear H;intro a H;refine s_call adA H wn rfl (aeU _ _ H.ro l _ 0 0 true false hv hz (by omega) (by omega)) rfl ?_;clear H;rintro v6 G6 a w ⟨ba,bl,bp,rfl,hit⟩ hm6 H;exact kH H (ak K2 rfl (LR results39 rfl fun H=>H.rt ⟨ba,bl,bp,rfl,hit⟩))
end
section
open Go.RowKit
theorem rz:Ty prog 38 11 232 [.slice none 0 0,.slice none 0 0,.int .i64 0,.int .i64 0,.slice none 0 0,.slice none 0 0,.slice none 0 0,.slice none 0 0,.slice none 0 0,.slice none 0 0,.slice none 0 0] true:=⟨by kernel_rfl,by kernel_rfl⟩
theorem adq:∀ args w,(callFunc 39 args).run prog w=.ok (.enter 39 args) w:=enters func39 rfl (by kernel_rfl)
theorem Yv:Ty prog 108 4 40 [.slice none 0 0,.bool false,.bool false,.int .i64 0] true:=⟨by kernel_rfl,by kernel_rfl⟩
theorem aeo:bY prog 108 0 0:=⟨by kernel_rfl⟩
mutual
theorem ala {note:Bool} {t:Int} {f:jg}:∀ {x:ay},f∈vL note t x→bq f.items < dw x.dat
 | .mk k c i tx h fl r,hf=>by
  have h4:=nU (.mk k c i tx h fl r)
  simp only [ay.text,ay.head,ay.flow,ay.rows] at h4
  rw [vL] at hf
  split at hf
  ·rcases lq.1 hf with rfl|hf
   ·show bq fl < _;omega
   have:=LM hf;omega
  split at hf
  ·have:=YS hf;omega
  cases hf
theorem LM {note:Bool} {t:Int} {f:jg}:∀ {l:List ay},f∈iT note t l→bq f.items≤bq l
 | [],hf=>by simp [iT] at hf
 | x :: l,hf=>by
  rw [iT] at hf
  simp only [bq,eT,eX]
  rcases kR.1 hf with hf|hf
  ·have:=ala hf;simp only [bq] at this;omega
  have:=LM hf;simp only [bq] at this;omega
theorem YS {note:Bool} {t:Int} {f:jg}:∀ {l:List bP},f∈nR note t l→bq f.items≤gZ l
 | [],hf=>by simp [nR] at hf
 | x :: l,hf=>by
  rw [nR] at hf
  simp only [gZ,eT,eX]
  rcases kR.1 hf with hf|hf
  ·have:=alc hf;simp only [bq] at *;omega
  have:=YS hf;simp only [bq,gZ] at *;omega
theorem alc {note:Bool} {t:Int} {f:jg}:∀ {x:bP},f∈vM note t x→bq f.items≤dw x.dat
 | .mk h cs,hf=>by
  have h4:=Bf (.mk h cs)
  simp only [bP.head,bP.cells] at h4
  rw [vM] at hf;have:=YQ hf;omega
theorem YQ {note:Bool} {t:Int} {f:jg}:∀ {l:List bO},f∈ow note t l→bq f.items≤jA l
 | [],hf=>by simp [ow] at hf
 | x :: l,hf=>by
  rw [ow] at hf
  simp only [jA,eT,eX]
  rcases kR.1 hf with hf|hf
  ·have:=akY hf;simp only [bq] at *;omega
  have:=YQ hf;simp only [bq,jA] at *;omega
theorem akY {note:Bool} {t:Int} {f:jg}:∀ {x:bO},f∈vK note t x→bq f.items≤dw x.dat
 | .mk i h fl,hf=>by
  have h4:=Bd (.mk i h fl)
  simp only [bO.head,bO.flow] at h4
  rw [vK] at hf
  rcases lq.1 hf with rfl|hf
  ·show bq fl≤_;omega
  have:=LM hf;omega
end
theorem UW {f:jg} {l:List ay} (h:f∈Bt l):bq f.items≤bq l:=by
 rcases lq.1 h with rfl|h
 ·exact bV _
 exact LM h
def jc (l:List ay) (id:Int):Option (List ay):=((Bt l).find? fun f=>decide (f.id=id)).map jg.items
theorem UR {f:List ay} {l:List ay} {id:Int} (h:jc l id=some f):bq f≤bq l:=by
 obtain ⟨a,ha,rfl⟩:=lu.1 h;exact UW (List.mem_of_find?_eq_some ha)
theorem aeM {α:Type} {p:α→Bool} {A:List α} {k:Nat} (hk:k < A.length) (h:(A.take k).find? p=none) (hp:p A[k]=false):(A.take (k+1)).find? p=none:=by
 rw [jF hk,List.find?_append,h]
 simp [hp]
theorem aeN {α:Type} {p:α→Bool} {A:List α} {k:Nat} (hk:k < A.length) (h:(A.take k).find? p=none) (hp:p A[k]=true):A.find? p=some A[k]:=by
 have e:A.find? p=(A.take k++A.drop k).find? p:=by rw [List.take_append_drop]
 rw [e,List.find?_append,h,kS hk,List.find?_cons,hp]
 rfl
theorem UL {α:Type} {p:α→Bool} {A:List α} (h:(A.take A.length).find? p=none):A.find? p=none:=by rwa [uP] at h
theorem UO {A:List jg} {k:Nat} {args:List aj} {g:GH} (h:uK (A.map Ab) k args g):∃ (hk:k < A.length) (a:Option Addr) (n c:Nat),args=[vi A[k].id,.agg #[.slice a n c,.bool A[k].body,.bool A[k].note,vi A[k].tables]]∧av g (.sl 11 (A[k].items.map ay.dat)) (.slice a n c):=by
 obtain ⟨p,hp,hargs⟩:=h;rw [qp] at hp;obtain ⟨q,hq,rfl⟩:=lu.1 hp;obtain ⟨hk,rfl⟩:=ji.1 hq;obtain ⟨v,h1,h2⟩:=hargs;obtain ⟨a,n,c,rfl⟩:=h2.form;exact ⟨hk,a,n,c,h1,h2⟩
theorem UU (G:GH) (w0:World) (hG:Hold G w0) (D:nE) (l:List ay) (id:Int) (hv:av G (.sl 11 (l.map ay.dat)) (fI D.f)) (hz:bq l≤4294967296) :
  Calls prog 17 #[D.val,vi id] w0 (bF w0 G fun u G'=>∃ v,u=.tuple #[v,.bool (jc l id).isSome]∧av G' (.sl 11 (((jc l id).getD []).map ay.dat)) v):=by
 refine eN [(0,_),(1,_)] func17 rfl ntmps17 rfl rfl hG ?_;intro a H;refine dH (fun _ K1=>?_);refine fq (cs:=[_,_,_,_,_,_,_,_,_,_,_]) H wn rfl rfl rfl ?_;clear H;intro b2 a w hb2 H;refine fq (cs:=[_]) H wn rfl rfl rfl ?_;clear H;intro b3 a w hb3 H;refine eZ gW H wn rfl ?_;clear H;intro b4 a w hb4 H;refine eZ yg H wn rfl ?_;clear H;intro b5 a w hb5 H;refine K1 _ _ ?_;clear K1;refine bG (fun _ K2=>?_);refine dH (fun _ K3=>?_);refine bK rz (cs:=[_,_,_,_,_,_,_,_,_,_,_]) H wn rfl rfl (H.hp.eF 3 rfl rfl) rfl ?_;clear H;intro a H;refine s_call adq H wn rfl (aiE _ _ H.ro D l hv hz) rfl ?_;clear H;rintro v9 G9 a w ⟨ba,bl,bp,rfl,hit⟩ xG H;refine K3 _ _ ?_;clear K3;refine yI ?_;skip;refine SY (ι:=Unit) (κ:=aj) (Lc:=[(_,_),(_,_)]) (fun (k:Nat) (gh:Unit)=>[(b4,.cells #[.slice none 0 0] 22 (0,0)),(b5,.cells #[.bool false] 4 (0,0))]) (fun (k:Nat) (gh:Unit)=>[]) (fun (k:Nat) (gh:Unit) (g:GH)=>((Bt l).take k).find? (fun f=>decide (f.id=id))=none) (fun (gx:aj)=>Code.ret) (fun (gx:aj)=>[(b4,.cells #[gx] 22 (0,0)),(b5,.cells #[.bool true] 4 (0,0))]) (fun (gx:aj)=>[]) (fun (gx:aj) (g:GH)=>∃ f,jc l id=some f∧av g (.sl 11 (f.map ay.dat)) gx) (()) (by exact H.dV (Pl:=[_,_,_,_]) (dz:=[_,_,_,_]) [2,3,1,0] (by decide) rfl) rfl Ug (hit) (fun _ _ h=>h) rfl (fun k args g h=>by obtain ⟨_,_,_,_,rfl,_⟩:=UO h;rfl) (fun _ _ _ _ _ h=>h) (fun x G G' hm h=>let ⟨f,h1,h2⟩:=h;⟨f,h1,h2.mono hm⟩) (rfl) ?_ ?_ ?_
 ·clear H;intro l2 BS yH bk k args gh G2 w2 F2 B2 a hk2 hm2 hI Oy Ki VX H;obtain ⟨hk,vA,vn,vc,rfl,hrep⟩:=UO hk2;dsimp only [wP,List.cons_append,List.nil_append] at H;refine kP H (SR fun _ K4=>ak K4 rfl (SC ?_));clear H K4;intro a H;refine eZ Yv H wn rfl ?_;clear H;intro b7 a w Dn H;refine bM Yv 0 (vs:=[_,_,_,_]) _ H wn rfl rfl rfl rfl rfl rfl rfl rfl ?_;clear H;intro w H;dsimp only [List.set,setRow] at H;refine aI ?_;refine Oy _ _ _ _ _ _ (by exact H.dV (Pl:=[_,_,_,_,_,_]) (dz:=[_,_,_,_,_,_]) [1,0,2,3,4,5] (by decide) rfl) ?_;clear H;intro w H;refine kP H (SB (SR fun _ K5=>Rm rfl (Ro aH 2 rfl (Rc rfl (Kz K5 (Cd rfl ?_ ?_)))))) <;> clear H K5
  ·intro dN a H
   try have mH:=dT dN
   refine kP H (SR fun _ K6=>aW aeo gW 1 rfl rfl ?_);clear H;intro a H;refine s_call Nf H wn rfl (abA _ _ H.ro _ _ hrep (by have:=UW (iM hk);omega)) rfl ?_;clear H;rintro v17 zJ a w VF qU H;obtain ⟨Zg,n17,c17,rfl⟩:=VF.form;refine bM gW 4 (vs:=[_]) _ H wn rfl rfl rfl rfl rfl rfl rfl rfl ?_;clear H;intro w H;dsimp only [List.set,setRow] at H;refine bM yg 5 (vs:=[_]) _ H wn rfl rfl rfl rfl rfl rfl rfl rfl ?_;clear H;intro w H;dsimp only [List.set,setRow] at H;refine K6 _ _ ?_;clear K6;refine cB ?_;refine (VX (.slice Zg n17 c17) _ _ _ _ _ (by exact H.dV (Pl:=[_,_,_,_,_,_]) (dz:=[_,_,_,_,_]) [0,2,3,4,5] (by decide) rfl) ?_).1 rfl;exact ⟨_,by unfold jc;rw [aeN hk hI dN];rfl,VF⟩
  intro dN a H
  refine fT ?_;refine Ki (()) _ _ _ _ _ (by exact H.dV (Pl:=[_,_,_,_,_,_]) (dz:=[_,_,_,_,_]) [0,2,3,4,5] (by decide) rfl) ?_;exact aeM hk hI dN
 ·clear H;intro QY gh Rp a w hm2 hI H;dsimp only [lca,bD] at H;refine K2 _ _ ?_;clear K2;refine dH (fun _ K7=>?_);refine bM gW 3 (vs:=[_]) _ H wn rfl rfl rfl rfl rfl rfl rfl rfl ?_;clear H;intro w H;dsimp only [List.set,setRow] at H;refine bM yg 4 (vs:=[_]) _ H wn rfl rfl rfl rfl rfl rfl rfl rfl ?_;clear H;intro w H;dsimp only [List.set,setRow] at H;refine K7 _ _ ?_;clear K7;refine cB ?_;refine (Ih H 0 rfl ?_).1;clear H;intro a w H;dsimp only [List.eraseIdx_cons_succ,List.eraseIdx_cons_zero] at H;refine (eB H results17 (.cons (tC gW H rfl (H.hp.nL 2 rfl rfl)) (.cons (tC yg H rfl (H.hp.nL 3 rfl rfl)) .nil)) ?_).1;exact H.rt ⟨_,by unfold jc;rw [UL (by simpa using hI)];rfl,by unfold jc;rw [UL (by simpa using hI)];exact av.jo rfl (by decide)⟩
 clear H;intro QY gx Rp a w hm2 hI H;obtain ⟨x,hgh⟩:∃ x,x=gx:=⟨_,rfl⟩;subst hgh;dsimp only [lca,bD] at H;obtain ⟨f,hf,hrep⟩:=hI;obtain ⟨xA,xn,xc,rfl⟩:=hrep.form;refine cB ?_;refine (Ih H 0 rfl ?_).1;clear H;intro a w H;dsimp only [List.eraseIdx_cons_succ,List.eraseIdx_cons_zero] at H;refine (eB H results17 (.cons (tC gW H rfl (H.hp.nL 2 rfl rfl)) (.cons (tC yg H rfl (H.hp.nL 3 rfl rfl)) .nil)) ?_).1;exact H.rt ⟨_,by rw [hf];rfl,by rw [hf];exact hrep⟩
end
section
open Go.RowKit
def jR (xs:Array aj) (o:Nat):Option Int:=match xs[o]? with|some (.int .i64 n)=>some n|_=>none
def Ib (u:Option TypeDesc):Bool:=match u with|some (.int .i64)=>true|_=>false
structure zG (P:Program) (t:TypeId) (gJ:List Nat):Prop where
 und:P.underlying t=some (.struct (P.fieldsOf t))
 held:P.stoodInHeld t=false
 guard:P.eqGuardType P.depth t=false
 ug:(P.fieldsOf t).toList.map (·.offset)=gJ
 ok:(P.fieldsOf t).toList.all (fun f=>decide (f.name ≠ "_") && P.plainKey f.type && Ib (P.underlying f.type))=true
theorem Qf {P:Program} {w:World} {d:Nat} {xs ys:Array aj}:∀ fs:List Field,fs.all (fun f=>decide (f.name ≠ "_") && P.plainKey f.type && Ib (P.underlying f.type))=true →
  (fs.map (·.offset)).all (fun o=>(jR xs o).isSome && (jR ys o).isSome)=true→(Op.eqFields (d+1) xs ys fs).run P w=.ok ((fs.map (·.offset)).all fun o=>jR xs o == jR ys o) w
 | [],_,_=>by simp [Op.eqFields]
 | f :: fs,h1,h2=>by
  simp only [List.all_cons,lD,pG,eT] at h1 h2
  obtain ⟨⟨⟨hn,hp⟩,hi⟩,h1⟩:=h1
  obtain ⟨⟨hx,hy⟩,h2⟩:=h2
  have ih:=Qf (w:=w) (d:=d) fs (by simpa using h1) h2
  unfold Ib at hi
  split at hi
  ·rename_i hu
   unfold jR at hx hy
   split at hx
   ·rename_i m hxm
    split at hy
    ·rename_i m2 hym
     have e1:jR xs f.offset=some m:=by unfold jR;rw [hxm]
     have e2:jR ys f.offset=some m2:=by unfold jR;rw [hym]
     simp only [Op.eqFields,hn,ne_eq,not_false_eq_true,if_true,cO,run_part_plain w hp hxm,run_part_plain w hp hym,jW,run_equalIn_int w d f.type .i64 .i64 m m2 hu,eT,List.all_cons,e1,e2]
     by_cases e:m=m2
     ·subst e;simp [ih,List.all_map]
     ·simp [e]
    ·simp at hy
   ·simp at hx
  ·simp at hi
def ko (xs:Array aj) (o:Nat × Bool):Option (Int × Bool):=match xs[o.1]?,o.2 with|some (.int .i64 n),false=>some (n,false)|some (.bool b),true=>some (0,b)|_,_=>none
def yZ (u:Option TypeDesc) (b:Bool):Bool:=match u,b with|some (.int .i64),false=>true|some .bool,true=>true|_,_=>false
structure I4 (P:Program) (t:TypeId) (gJ:List (Nat × Bool)):Prop where
 und:P.underlying t=some (.struct (P.fieldsOf t))
 held:P.stoodInHeld t=false
 guard:P.eqGuardType P.depth t=false
 ug:(P.fieldsOf t).toList.map (fun f=>(f.offset,yZ (P.underlying f.type) true))=gJ
 ok:(P.fieldsOf t).toList.all (fun f=>decide (f.name ≠ "_") && P.plainKey f.type && yZ (P.underlying f.type) (yZ (P.underlying f.type) true))=true
theorem XH {P:Program} {w:World} {d:Nat} {xs ys:Array aj}:∀ fs:List Field,fs.all (fun f=>decide (f.name ≠ "_") && P.plainKey f.type && yZ (P.underlying f.type) (yZ (P.underlying f.type) true))=true →
  (fs.map (fun f=>(f.offset,yZ (P.underlying f.type) true))).all (fun o=>(ko xs o).isSome && (ko ys o).isSome)=true→(Op.eqFields (d+1) xs ys fs).run P w=.ok ((fs.map (fun f=>(f.offset,yZ (P.underlying f.type) true))).all fun o=>ko xs o == ko ys o) w
 | [],_,_=>by simp [Op.eqFields]
 | f :: fs,h1,h2=>by
  simp only [List.all_cons,lD,pG,eT] at h1 h2
  obtain ⟨⟨⟨hn,hp⟩,hi⟩,h1⟩:=h1
  obtain ⟨⟨hx,hy⟩,h2⟩:=h2
  have ih:=XH (w:=w) (d:=d) fs (by simpa using h1) h2
  obtain ⟨kb,hkb⟩:∃ kb,kb=yZ (P.underlying f.type) true:=⟨_,rfl⟩
  rw [← hkb] at hi hx hy
  cases kb with
  | false =>
   have hu:P.underlying f.type=some (.int .i64):=by clear hkb ih h1 h2 hx hy;unfold yZ at hi;split at hi <;> simp_all
   obtain ⟨m,hxm⟩:∃ m,xs[f.offset]?=some (.int .i64 m):=by clear hkb ih h1 h2 hi hy;unfold ko at hx;split at hx <;> simp_all
   obtain ⟨m2,hym⟩:∃ m,ys[f.offset]?=some (.int .i64 m):=by clear hkb ih h1 h2 hi hx;unfold ko at hy;split at hy <;> simp_all
   have e1:ko xs (f.offset,false)=some (m,false):=by unfold ko;rw [hxm]
   have e2:ko ys (f.offset,false)=some (m2,false):=by unfold ko;rw [hym]
   simp only [Op.eqFields,hn,ne_eq,not_false_eq_true,if_true,cO,run_part_plain w hp hxm,run_part_plain w hp hym,jW,run_equalIn_int w d f.type .i64 .i64 m m2 hu,eT,List.all_cons,← hkb,e1,e2]
   by_cases e:m=m2
   ·subst e;simp [ih,List.all_map]
   ·simp [e]
  | true =>
   have hu:P.underlying f.type=some .bool:=by clear hkb ih h1 h2 hx hy;unfold yZ at hi;split at hi <;> simp_all
   obtain ⟨m,hxm⟩:∃ m,xs[f.offset]?=some (.bool m):=by clear hkb ih h1 h2 hi hy;unfold ko at hx;split at hx <;> simp_all
   obtain ⟨m2,hym⟩:∃ m,ys[f.offset]?=some (.bool m):=by clear hkb ih h1 h2 hi hx;unfold ko at hy;split at hy <;> simp_all
   have e1:ko xs (f.offset,true)=some (0,m):=by unfold ko;rw [hxm]
   have e2:ko ys (f.offset,true)=some (0,m2):=by unfold ko;rw [hym]
   simp only [Op.eqFields,hn,ne_eq,not_false_eq_true,if_true,cO,run_part_plain w hp hxm,run_part_plain w hp hym,jW,run_equalIn_bool' w d f.type m m2 hu,eT,List.all_cons,← hkb,e1,e2]
   by_cases e:m=m2
   ·subst e;simp [ih,List.all_map]
   ·simp [e]
section
variable {N:Nat} {D:List Deferred} {w0:World} {F:Nat→Prop} {G0 G:GH} {L:List (Nat × Obj)} {T:List (Nat × aj)}
variable {r:Option Nat} {P:Program} {ops:Array Oper} {Q:Exit→Act→World→Prop} {rest:List Oper} {a:Act} {w:World}
variable {d:Nat} {ty:TypeId} {pos:String} {aP:Array Edge} {g:Option (Nat × Bool)}
theorem BZ {t yt:TypeId} {x y:Operand} {p q:ByteArray} (H:St N D w0 F G0 G L T a w) (hw:Region.wanted ⟨some d,.binOp .eql t x y yt,ty,pos,aP,g⟩ (yielded ops a.tmps)=true) (hx:ev T x=some (.string p)) (hy:ev T y=some (.string q)) (hd:Nat.blt d N=true)
  (k:∀ a',St N D w0 F G0 G L ((d,.bool (p.toList == q.toList)) :: T) a' w→WL r P ops Q rest a' w):WL r P ops Q (⟨some d,.binOp .eql t x y yt,ty,pos,aP,g⟩ :: rest) a w:=by
 refine fO (v:=.bool (p.toList == q.toList)) (w':=w) hw rfl ?_ (k _ (H.put hd _ H.hp))
 simp [execOp,H.ev hx,H.ev hy,cO,eqGuard,binOp,Op.stringOp]
theorem Qn {op:BinOp} {t yt:TypeId} {gJ:List (Nat × Bool)} (ho:op=.eql∨op=.neq) (he:I4 P t gJ) {x y:Operand} {xs ys:Array aj} (H:St N D w0 F G0 G L T a w) (hw:Region.wanted ⟨some d,.binOp op t x y yt,ty,pos,aP,g⟩ (yielded ops a.tmps)=true) (hx:ev T x=some (.agg xs)) (hy:ev T y=some (.agg ys))
  (hi:gJ.all (fun o=>(ko xs o).isSome && (ko ys o).isSome)=true) (hd:Nat.blt d N=true)
  (k:∀ a',St N D w0 F G0 G L ((d,.bool (if op=.eql then gJ.all fun o=>ko xs o == ko ys o else !(gJ.all fun o=>ko xs o == ko ys o))) :: T) a' w→WL r P ops Q rest a' w):WL r P ops Q (⟨some d,.binOp op t x y yt,ty,pos,aP,g⟩ :: rest) a w:=by
 have h1:=XH (P:=P) (w:=w) (d:=9998) (xs:=xs) (ys:=ys) _ he.ok (by rw [he.ug];exact hi)
 rw [he.ug] at h1
 rcases ho with rfl|rfl
 ·refine fO (v:=_) (w':=w) hw rfl ?_ (k _ (H.put hd _ H.hp))
  simp only [execOp,H.ev hx,H.ev hy,cO,run_eqGuard_agg w .eql t x y xs ys he.guard,jW,run_eql_struct,run_equalIn_struct w 9999 t xs ys he.und he.held,h1]
  rfl
 ·refine fO (v:=_) (w':=w) hw rfl ?_ (k _ (H.put hd _ H.hp))
  simp only [execOp,H.ev hx,H.ev hy,cO,run_eqGuard_agg w .neq t x y xs ys he.guard,jW,run_neq_struct,run_equalIn_struct w 9999 t xs ys he.und he.held,h1]
  rfl
end
end
section
open Go.RowKit
theorem Aw {α:Type} {p:α→Bool} {A:List α} {k:Nat} (hk:k < A.length) (h:(A.take k).findIdx? p=none) (hp:p A[k]=false):(A.take (k+1)).findIdx? p=none:=by
 rw [List.findIdx?_eq_none_iff] at h ⊢;rw [jF hk];intro x hx
 rcases kR.1 hx with hx|hx
 ·exact h x hx
 rw [sM.1 hx];exact hp
theorem uF {α:Type} {p:α→Bool} {A:List α} {k:Nat} (hk:k < A.length) (h:(A.take k).findIdx? p=none) (hp:p A[k]=true):A.findIdx? p=some k:=by
 have e:A.findIdx? p=(A.take k++A.drop k).findIdx? p:=by rw [List.take_append_drop]
 rw [e,List.findIdx?_append,h,kS hk,List.findIdx?_cons,hp]
 simp;omega
end
section
open Go.RowKit
theorem FH:Es prog 121:=⟨by kernel_rfl⟩
theorem u8B:U8 prog 5:=⟨by kernel_rfl⟩
theorem ahU:liesAt prog prog.depth 121 (2 / prog.cellsOf 121) 0 121 1=true:=by kernel_rfl
theorem Te:prog.cellsOf 5=1:=by kernel_rfl
theorem Xj (v:aj) (w:World):(callFunc 109 #[v]).run prog w=.ok (.value v) w:=aju func109 (by kernel_rfl) (by kernel_rfl) (by kernel_rfl) (by kernel_rfl) v w
theorem zB:prog.underlying 118=some (.pointer 121):=by kernel_rfl
theorem LJ:prog.underlying 207=some .unsafePointer:=by kernel_rfl
theorem zY:bY prog 121 0 0:=⟨by kernel_rfl⟩
theorem AY:Ty prog 118 1 8 [.pointer none] false:=⟨by kernel_rfl,by kernel_rfl⟩
theorem Ud:∀ args w,(callFunc 74 args).run prog w=.ok (.enter 74 args) w:=enters func74 rfl (by kernel_rfl)
theorem Ba:prog.underlying 119=some (.slice 5):=by kernel_rfl
theorem yM:bY prog 121 1 1:=⟨by kernel_rfl⟩
theorem zw:Ty prog 119 1 24 [.slice none 0 0] false:=⟨by kernel_rfl,by kernel_rfl⟩
theorem Yx:prog.underlying 162=some (.pointer 5):=by kernel_rfl
abbrev bB (b:Nat) (p v:aj):Nat × Obj:=(b,.cells #[p,v] 121 (0,0))
theorem abL (G:GH) (L:OL) (w0:World) (b:Nat) (A:Option Addr) (n c:Nat) (hO:gX G (bB b (.pointer none) (.slice A n c) :: L) w0) :
  Calls prog 74 #[(aJ b 0)] w0 (gH w0 G (bB b (.pointer none) (.slice A n c) :: L) fun u G' L'=>L'=bB b (aJ b 0) (.slice A n c) :: L∧G'=G):=by
 refine kg (N:=20) (T:=[(0,_)]) func74 rfl ntmps74 rfl rfl hO ?_;intro a H;refine kP H (SR fun _ K1=>Rm rfl (Rk rfl (aW zY AY 0 rfl rfl ?_)));clear H;intro a H;refine KU zB H wn rfl rfl ?_;clear H;intro a H;refine K1 _ _ ?_;clear K1;refine lW H rfl ?_ ?_
 ·intro h6
  refine kP H (SC (Rm rfl (Rm rfl ?_)));clear H;intro a H;refine X6 zB LJ FH H wn rfl 0 rfl rfl rfl ?_;clear H;intro a H;refine XV (xs:=[.tmp 9]) (Xj _) H wn rfl rfl ?_;clear H;intro a H;refine XQ LJ zB FH H wn rfl 0 rfl ahU rfl ?_;clear H;intro a H;refine kH H (Rk rfl (Rf zY rfl ?_));clear H;intro a H;refine bM AY 0 (vs:=[_]) _ H wn rfl rfl rfl rfl rfl rfl rfl rfl ?_;clear H;intro w H;dsimp only [List.set,setRow] at H;refine aI ?_;refine (leave0 H results74 ?_).2;exact H.hp.eP ⟨rfl,rfl⟩
 intro h6
 exact absurd h6 (by decide)
theorem abM (G:GH) (L:OL) (w0:World) (b:Nat) (A:Option Addr) (n c:Nat) (hO:gX G (bB b (aJ b 0) (.slice A n c) :: L) w0) :
  Calls prog 74 #[(aJ b 0)] w0 (gH w0 G (bB b (aJ b 0) (.slice A n c) :: L) fun u G' L'=>L'=bB b (aJ b 0) (.slice A n c) :: L∧G'=G):=by
 refine kg (N:=20) (T:=[(0,_)]) func74 rfl ntmps74 rfl rfl hO ?_;intro a H;refine kP H (SR fun _ K1=>Rm rfl (Rk rfl (aW zY AY 0 rfl rfl ?_)));clear H;intro a H;refine KU zB H wn rfl rfl ?_;clear H;intro a H;refine K1 _ _ ?_;clear K1;refine lW H rfl ?_ ?_
 ·intro h6
  exact absurd h6 (by simp)
 intro h6
 refine kP H (SR fun _ K2=>Rm rfl (Rk rfl (aW zY AY 0 rfl rfl (Rm rfl ?_))));clear H;intro a H;refine XU zB FH H wn rfl rfl rfl ?_;clear H;intro a H;refine K2 _ _ ?_;clear K2;refine lW H rfl ?_ ?_
 ·intro h19
  exact absurd h19 (by decide)
 intro h19
 refine fT ?_;refine (leave0 H results74 ?_).2;exact H.hp.eP ⟨rfl,rfl⟩
theorem abN (G:GH) (L:OL) (w0:World) (b:Nat) (p:aj) (A:Option Addr) (n c:Nat) (hp:p=.pointer none∨p=(aJ b 0)) (hO:gX G (bB b p (.slice A n c) :: L) w0) :
  Calls prog 74 #[(aJ b 0)] w0 (gH w0 G (bB b p (.slice A n c) :: L) fun u G' L'=>L'=bB b (aJ b 0) (.slice A n c) :: L∧G'=G):=by
 rcases hp with rfl|rfl
 ·exact abL G L w0 b A n c hO
 exact abM G L w0 b A n c hO
theorem ali (G:GH) (Lo:OL) (w0:World) (b:Nat) (p v:aj) (n:Nat) (xs:List aj) (s:ByteArray) (hp:p=.pointer none∨p=(aJ b 0)) (hO:gX G (bB b p v :: Lo) w0) (hrow:dJ 5 1 v n xs Lo) (hn:n+s.size≤140737488355328) :
  Calls prog 48 #[(aJ b 0),.string s] w0 (gH w0 G (bB b p v :: Lo) fun u G' L'=>∃ v' fC,L'=bB b (aJ b 0) v' :: fC∧dJ 5 1 v' (n+s.size) (xs++Lib.strCells s) fC∧G'=G):=by
 obtain ⟨A,c,rfl,-,-⟩:=hrow.shape;refine kg (N:=19) (T:=[(0,_),(1,_)]) func48 rfl ntmps48 rfl rfl hO ?_;intro a H;refine kP H (SR fun _ K1=>Ra rfl (ak K1 rfl (SR fun _ K2=>Rm rfl ?_)));clear H K1;intro a H;refine gV Ud (Li:=[]) (L:=bB b p _ :: Lo) H wn rfl (abN _ _ _ b p A n c hp (Hp.owns (Li:=[]) H.hp)) rfl ?_;clear H;rintro v7 _ L7 a w ⟨rfl,rfl⟩ Ao H;dsimp only [List.nil_append] at H;refine K2 _ _ ?_;clear K2;refine kP H (SR fun _ K3=>Rm rfl (Rm rfl (Rk rfl (aW yM zw 0 rfl rfl (Rm rfl ?_)))));clear H;intro a H;refine ajz (Li:=[_]) (Lo:=Lo) Ba gy u8B H wn rfl rfl hrow hn rfl ?_;clear H;intro v14 RZ a w H6 H;obtain ⟨QU,c14,rfl,-,-⟩:=H6.shape;refine kH H (Rk rfl (Rf yM rfl ?_));clear H;intro a H;refine bM zw 0 (vs:=[_]) _ H wn rfl rfl rfl rfl rfl rfl rfl rfl ?_;clear H;intro w H;dsimp only [List.set,setRow] at H;refine K3 _ _ ?_;clear K3;refine kP H (SR fun _ K4=>Rm rfl (Rv gy rfl (Ra rfl (ak K4 rfl ?_))));clear H K4;intro a H;refine cB ?_;refine (eB H results48 (.cons (aR H rfl) (.cons (aR H rfl) .nil)) ?_).1;exact H.hp.eP ⟨_,_,rfl,H6,rfl⟩
theorem akx (G:GH) (Lo:OL) (w0:World) (b:Nat) (p v:aj) (l:List UInt8) (hO:gX G (bB b p v :: Lo) w0) (hrow:dJ 5 1 v l.length (Lib.byteCells l) Lo) (h0:l≠[]) :
  Calls prog 49 #[(aJ b 0)] w0 (gH w0 G (bB b p v :: Lo) fun u G' L'=>u=.string ⟨l.toArray⟩):=by
 rcases hrow.2 with ⟨-,h,-⟩|⟨b2,cap,cur,rfl,rfl,hc1,hc2,hc3,hc4⟩
 ·exact absurd (List.eq_nil_of_length_eq_zero h) h0
 have hl0:l.length≠0:=fun h=>h0 (List.eq_nil_of_length_eq_zero h);have hml:maxLen=9223372036854775807:=rfl;refine kg (N:=14) (T:=[(0,_)]) func49 rfl ntmps49 rfl rfl hO ?_;intro a H;refine kP H (SR fun _ K1=>ak K1 rfl (SQ fun _ K2=>?_));clear H K1;intro a H;have H:=H.sub (T':=[(0,_)]) ⟨rfl,aD⟩;refine dI hmx [[],[0],[0,1],[0,1,2],(ra 0 4),[],[5],[5,6],[5,6,7],(ra 5 4),(ra 0 10),(ra 0 11)] [10,11] (by kernel_rfl) [_,_,_,.slice (some ⟨b2,0,none⟩) l.length cap,(aJ b2 0),_,_,_,.slice (some ⟨b2,0,none⟩) l.length cap,_] H (aG (Z0 rfl (Rm rfl)) (Z1 0 3 rfl (Rk rfl)) (Z1 1 4 rfl (Rf yM rfl)) (Z1 2 5 rfl (Ro zw 0 rfl)) (aG ?_ (Z0 rfl (Rm rfl)) (Z1 5 8 rfl (Rk rfl)) (Z1 6 9 rfl (Rf yM rfl)) (aG (Z1 7 10 rfl (Ro zw 0 rfl)) (Z1 8 11 rfl (Rl Ba rfl)) (bN rfl) (bN rfl) bZ))) ?_
 ·refine dO 3 6 rfl rfl fun _ a w G1 hG HT H fin=>?_;refine X4 H wn rfl (by omega) rfl ?_;clear H;intro a H;exact fin H iJ rfl
 clear H;intro a w G ng H hv;have H:=H.aQ (hv 4 7 rfl rfl) rfl;have H:=H.aQ (hv 9 12 rfl rfl) rfl;clear hv;refine X7 (i:=1) l Yx Te h0 (by omega) H wn rfl rfl rfl (by rw [← hc4,Nat.mul_one]) rfl ?_;clear H;intro fz a w H;dsimp only [List.set] at H;refine kH H (Ra rfl ?_);clear H;intro a H;refine aI ⟨rfl,?_⟩;refine K2 _ _ ?_;clear K2;refine lr H results49 rfl ?_;exact H.hp.eP rfl
end
section
open Go.RowKit
def xM (p:Nat→Bool):Nat→Nat→Nat→Nat
 | 0,i,_=>i
 | f+1,i,j=>if i < j then (if p ((i+j) / 2) then xM p f i ((i+j) / 2) else xM p f ((i+j) / 2+1) j) else i
theorem ahh {p:Nat→Bool} {f i j:Nat} (hf:j - i≤f) (h:i < j):xM p f i j=if p ((i+j) / 2) then xM p (f - 1) i ((i+j) / 2) else xM p (f - 1) ((i+j) / 2+1) j:=by
 match f,hf with
 | 0,hf=>omega
 | f+1,_=>rw [xM,au h];rfl
theorem ahf {p:Nat→Bool} {f i j:Nat} (h:¬ i < j):xM p f i j=i:=by
 match f with
 | 0=>rfl
 | f+1=>rw [xM,ah h]
theorem ahi {z:Int} (h1:0≤z) (h2:z < 18446744073709551616):IntKind.u64.wrap z=z:=by
 simp only [IntKind.wrap,IntKind.bits,IntKind.signed,uQ,CJ,if_false]
 omega
theorem ahg (n:Nat):((n:Nat):Int).fdiv (2 ^ 1)=((n / 2:Nat):Int):=by
 rw [Int.fdiv_eq_ediv_of_nonneg _ (by decide)];omega
def zV (a b:Int):Int:=if a < b then -1 else if b < a then 1 else 0
theorem Tk {a b:Int}:zV a b < 0↔a < b:=by
 unfold zV
 split
 ·simp [*]
 ·split <;> simp_all
theorem abD {a b:Int}:zV a b=0↔a=b:=by
 unfold zV
 split
 ·omega
 ·split <;> omega
def yG (ks:List Int) (t:Int):Nat:=xM (fun h=>decide (¬ ks.getD h 0 < t)) ks.length 0 ks.length
def BA (ks:List Int) (t:Int):Bool:=decide (ks[yG ks t]?=some t)
theorem afE {ks:List Int} {t:Int} (h:BA ks t=true):yG ks t < ks.length:=by
 have:=rF h
 exact (ji.1 this).1
theorem afD {ks:List Int} {t:Int} {n:Nat} (e:yG ks t=n) (h:n < ks.length):BA ks t=decide (zV ks[n] t=0):=by
 unfold BA
 rw [e,gY h]
 simp [abD]
theorem afF {ks:List Int} {t:Int} {n:Nat} (e:yG ks t=n) (h:¬ n < ks.length):BA ks t=false:=by
 unfold BA
 rw [e,List.getElem?_eq_none (by omega)]
 simp
theorem getD_map {α:Type} {f:α→Int} {l:List α} {n:Nat} (h:n < l.length):(l.map f).getD n 0=f l[n]:=by
 simp [List.getD,h]
end
section
open Go.RowKit
structure Sc (P:Program) (s n off:Nat):Prop where
 h:(match P.underlying s with|some (.struct fs)=>(fs[n]?).bind fun f=>((P.underlying f.type).map (fun|.struct _=>true|.array _ _=>true|_=>false)).map fun g=>(f.offset,g)|_=>none)=some (off,false)
theorem Sc.parts {P:Program} {s n off:Nat} (h:Sc P s n off):∃ fs fl u,P.underlying s=some (.struct fs)∧fs[n]?=some fl∧P.underlying fl.type=some u∧(match u with|.struct _=>true|.array _ _=>true|_=>false)=false∧fl.offset=off:=by
 obtain ⟨h⟩:=h
 split at h
 ·rename_i fs hs
  obtain ⟨fl,hf,h2⟩:=Option.bind_eq_some_iff.1 h
  obtain ⟨b,hb,h3⟩:=lu.1 h2
  obtain ⟨u,hu,h4⟩:=lu.1 hb
  simp only [gK] at h3
  refine ⟨fs,fl,u,hs,hf,hu,?_,h3.1⟩
  rw [← h3.2,← h4]
  cases u <;> rfl
 ·cases h
section
variable {N:Nat} {D:List Deferred} {w0:World} {F:Nat→Prop} {G0 G:GH} {L Li Lo:OL} {T:List (Nat × aj)}
variable {r:Option Nat} {P:Program} {ops:Array Oper} {Q:Exit→Act→World→Prop} {rest:List Oper} {a:Act} {w:World}
variable {d:Nat} {ty:TypeId} {pos:String} {aP:Array Edge} {g:Option (Nat × Bool)}
theorem Qq {t:TypeId} {x y:Operand} {s:ByteArray} {ky:IntKind} {p:Int} (lo:Nat) (ht:P.underlying t=some .string) (H:St N D w0 F G0 G L T a w) (hw:Region.wanted ⟨some d,.slice t x (some y) none none,ty,pos,aP,g⟩ (yielded ops a.tmps)=true) (hx:ev T x=some (.string s)) (hy:ev T y=some (.int ky p)) (hp:p=(lo:Int)) (h1:lo≤s.size) (hd:Nat.blt d N=true)
  (k:∀ a',St N D w0 F G0 G L ((d,.string (s.extract lo s.size)) :: T) a' w→WL r P ops Q rest a' w):WL r P ops Q (⟨some d,.slice t x (some y) none none,ty,pos,aP,g⟩ :: rest) a w:=by
 subst hp
 have hr:=run_slice_string_l (P:=P) w t s ht ky (lo:Int) (by omega) (by omega)
 rw [Int.toNat_natCast] at hr
 refine fO (v:=.string (s.extract lo s.size)) (w':=w) hw rfl ?_ (k _ (H.put hd _ H.hp))
 simp only [execOp,H.ev hx,Option.map_some,Option.map_none,H.ev hy,cO,run_sliceAt_string w t _ _ _ _ ht,hr,jW,qw]
end
end
section
open Go.RowKit
theorem Iz:prog.underlying 249=some (.slice 233):=by kernel_rfl
theorem sD:Ty prog 233 6 56 [.int .i64 0,.int .i64 0,.int .i64 0,.int .i64 0,.int .i64 0,.string ⟨#[]⟩] true:=⟨by kernel_rfl,by kernel_rfl⟩
theorem Yk:qm prog 233 [(0,1),(1,1),(2,1),(3,1),(4,1),(5,1)] [.int .i64 0,.int .i64 0,.int .i64 0,.int .i64 0,.int .i64 0,.string ⟨#[]⟩]:=⟨by kernel_rfl,by kernel_rfl⟩
theorem TL:∀ args w,(callFunc 156 args).run prog w=.ok (.enter 156 args) w:=enters func156 rfl (by kernel_rfl)
structure jw where
 num:Int
 yQ:Int
 low:Int
 high:Int
 std:Int
 name:ByteArray
def jw.dat (x:jw):List Dat:=[li x.num,li x.yQ,li x.low,li x.high,li x.std,.lf (.string x.name)]
def jw.cells (x:jw):List aj:=[vi x.num,vi x.yQ,vi x.low,vi x.high,vi x.std,.string x.name]
def iH.cells (x:iH):List aj:=[vi x.key,vi x.value]
theorem ahF (G:GH) (x:jw):aZ G x.dat x.cells:=by
 simp only [jw.dat,jw.cells,aZ]
 exact ⟨_,_,rfl,by simp [av,Value.oneCell'],_,_,rfl,by simp [av,Value.oneCell'],_,_,rfl,by simp [av,Value.oneCell'],_,_,rfl,by simp [av,Value.oneCell'],_,_,rfl,by simp [av,Value.oneCell'],_,_,rfl,by simp [av,Value.oneCell'],rfl⟩
theorem ahE {G:GH} {x:jw} {cs:List aj} (h:aZ G x.dat cs):cs=x.cells:=by
 simp only [jw.dat,aZ,av] at h
 obtain ⟨v1,_,rfl,⟨rfl,-⟩,v2,_,rfl,⟨rfl,-⟩,v3,_,rfl,⟨rfl,-⟩,v4,_,rfl,⟨rfl,-⟩,v5,_,rfl,⟨rfl,-⟩,v6,_,rfl,⟨rfl,-⟩,rfl⟩:=h
 rfl
theorem Qb {G:GH} {x:iH} {cs:List aj} (h:aZ G x.dat cs):cs=x.cells:=by
 simp only [iH.dat,aZ,av] at h
 obtain ⟨v1,_,rfl,⟨rfl,-⟩,v2,_,rfl,⟨rfl,-⟩,rfl⟩:=h
 rfl
theorem Wy (G:GH):∀ (B A:List jw),fD G 6 (A.map jw.dat) (A.map jw.cells).flatten→fD G 6 ((A++B).map jw.dat) ((A++B).map jw.cells).flatten
 | [],A,h=>by rw [oF];exact h
 | x :: B,A,h=>by
  have h2:=h.snoc (ahF G x) rfl;have h3:=Wy G B (A++[x]) (by simpa using h2)
  simpa using h3
theorem ahG (G:GH) (A:List jw):fD G 6 (A.map jw.dat) (A.map jw.cells).flatten:=Wy G A [] fD.nil
theorem Pw {G:GH} {l:List jw} {A:Option Addr} {n c k:Nat} (hv:av G (.sl 6 (l.map jw.dat)) (.slice A n c)) (hk:k < l.length):∃ b o,A=some ⟨b,o,none⟩∧(∀ j u,[vi l[k].num,vi l[k].yQ,vi l[k].low,vi l[k].high,vi l[k].std,.string l[k].name][j]?=some u→aL G b (o+k*6+j)=some u):=by
 obtain ⟨A',c',he,_,_,hg⟩:=hv.slice
 injection he with e1 e2 e3
 subst e1;obtain ⟨b,o,cs,h1,h2,h3,h4⟩:=hg k l[k].dat (by simp [hk]);obtain rfl:=ahE h4;exact ⟨b,o,h1,h3⟩
theorem KO {G:GH} {l:List iH} {A:Option Addr} {n c k:Nat} (hv:av G (.sl 2 (l.map iH.dat)) (.slice A n c)) (hk:k < l.length):∃ b o,A=some ⟨b,o,none⟩∧(∀ j u,[vi l[k].key,vi l[k].value][j]?=some u→aL G b (o+k*2+j)=some u):=by
 obtain ⟨A',c',he,_,_,hg⟩:=hv.slice
 injection he with e1 e2 e3
 subst e1;obtain ⟨b,o,cs,h1,h2,h3,h4⟩:=hg k l[k].dat (by simp [hk]);obtain rfl:=Qb h4;exact ⟨b,o,h1,h3⟩
def DL:List jw:=[⟨1,1,0,1073741824,0,⟨#[99,104,97,114,97,99,116,101,114,45,115,116,121,108,101]⟩⟩,⟨2,1,0,1,0,⟨#[98,111,108,100]⟩⟩,⟨3,1,0,1,0,⟨#[105,116,97,108,105,99]⟩⟩,⟨4,1,0,3,0,⟨#[117,110,100,101,114,108,105,110,101]⟩⟩,⟨5,1,2,1638,22,⟨#[115,105,122,101]⟩⟩,⟨6,1,0,16777215,0,⟨#[99,111,108,111,114]⟩⟩,⟨7,1,0,63,0,⟨#[102,111,110,116]⟩⟩,⟨8,1,0,255,0,⟨#[108,97,110,103,117,97,103,101]⟩⟩,⟨9,1,-400,400,0,⟨#[114,97,105,115,101]⟩⟩,⟨10,1,0,1,0,⟨#[104,105,100,100,101,110]⟩⟩,⟨20,2,0,1073741824,0,⟨#[112,97,114,97,103,114,97,112,104,45,115,116,121,108,101]⟩⟩,⟨21,2,0,3,0,⟨#[97,108,105,103,110]⟩⟩,⟨22,2,-31680,31680,0,⟨#[108,101,102,116]⟩⟩,⟨23,2,-31680,31680,0,⟨#[114,105,103,104,116]⟩⟩,⟨24,2,-31680,31680,0,⟨#[102,105,114,115,116]⟩⟩,⟨25,2,0,31680,0,⟨#[98,101,102,111,114,101]⟩⟩,⟨26,2,0,31680,0,⟨#[97,102,116,101,114]⟩⟩,⟨27,2,0,31680,0,⟨#[108,101,97,100,105,110,103]⟩⟩,⟨28,2,0,1,0,⟨#[107,101,101,112,45,110,101,120,116]⟩⟩,⟨29,2,0,1,0,⟨#[107,101,101,112,45,108,105,110,101,115]⟩⟩,⟨30,2,0,1,1,⟨#[119,105,100,111,119]⟩⟩,⟨31,2,0,1,0,⟨#[112,97,103,101,45,98,101,102,111,114,101]⟩⟩,⟨32,2,0,9,0,⟨#[111,117,116,108,105,110,101]⟩⟩,⟨33,2,0,1073741824,0,⟨#[108,105,115,116]⟩⟩,⟨34,2,1,9,1,⟨#[108,101,118,101,108]⟩⟩,⟨35,2,0,32767,0,⟨#[114,101,115,116,97,114,116]⟩⟩,⟨36,2,1,31680,720,⟨#[116,97,98,45,115,116,111,112]⟩⟩,⟨37,2,0,1,0,⟨#[104,121,112,104,101,110,97,116,101]⟩⟩,⟨40,3,720,31680,12240,⟨#[112,97,103,101,45,119,105,100,116,104]⟩⟩,⟨41,3,720,31680,15840,⟨#[112,97,103,101,45,104,101,105,103,104,116]⟩⟩,⟨42,3,0,31680,1440,⟨#[116,111,112]⟩⟩,⟨43,3,0,31680,1440,⟨#[98,111,116,116,111,109]⟩⟩,⟨44,3,0,31680,1440,⟨#[105,110,110,101,114]⟩⟩,⟨45,3,0,31680,1440,⟨#[111,117,116,101,114]⟩⟩,⟨46,3,0,32767,0,⟨#[102,105,114,115,116,45,112,97,103,101]⟩⟩,⟨47,3,1,6,1,⟨#[112,97,103,101,45,102,111,114,109,97,116]⟩⟩,⟨50,4,0,1,0,⟨#[104,101,97,100,101,114]⟩⟩,⟨51,4,0,1,0,⟨#[99,97,110,116,45,115,112,108,105,116]⟩⟩,⟨52,4,0,31680,0,⟨#[114,111,119,45,104,101,105,103,104,116]⟩⟩,⟨60,5,1,32,1,⟨#[99,111,108,117,109,110,45,115,112,97,110]⟩⟩,⟨61,5,0,2,0,⟨#[118,101,114,116,105,99,97,108,45,109,101,114,103,101]⟩⟩,⟨62,5,0,31680,0,⟨#[99,101,108,108,45,119,105,100,116,104]⟩⟩,⟨63,5,0,16777215,16777215,⟨#[115,104,97,100,101]⟩⟩,⟨70,6,0,31680,0,⟨#[116,97,98,108,101,45,119,105,100,116,104]⟩⟩,⟨71,6,0,2,0,⟨#[116,97,98,108,101,45,97,108,105,103,110]⟩⟩]
set_option maxRecDepth 20000 in
theorem ahH (G:GH) (w0:World) (hG:Hold G w0):Calls prog 147 #[] w0 (bF w0 G fun u G'=>av G' (.sl 6 (DL.map jw.dat)) u):=by
 refine eN [] func147 rfl ntmps147 rfl rfl hG ?_;intro a H;refine kP H (SR fun _ K1=>ak K1 rfl (SR fun _ K2=>?_));clear H K1;intro a H;(iterate 45 refine ku Yk [_,_,_,_,_,_] H wn rfl rfl rfl rfl ?_;clear H;intro a H);refine ajB Iz sD (DL.map jw.cells) H wn rfl rfl rfl rfl rfl rfl rfl ?_;clear H;intro b46 a w alN H;refine kH H (ak K2 rfl ?_);clear H K2;intro a H;refine lr H results147 rfl ?_;obtain ⟨Gz,hmz,hbz,H⟩:=H.dS;exact H.rt (av.eO (n:=45) (cap:=45) hbz rfl (bV _) (show 45≤maxLen by decide) (jQ (bV _)) (ahG _ _))
theorem Ws (G:GH) (w0:World) (hG:Hold G w0) (x:Int):Calls prog 156 #[vi x] w0 (bF w0 G fun u G'=>u=.bool false∧G=G'):=by
 refine eN [(0,_)] func156 rfl ntmps156 rfl rfl hG ?_;intro a H;exact kP H (SR fun _ K1=>ak K1 rfl (SR fun _ K2=>Rm rfl (Rm rfl (Rc rfl (ak K2 rfl (LR results156 rfl fun H=>H.rt ⟨by simp,rfl⟩))))))
theorem ML {x y z:Int} (h:(x < y∧z=-1)∨(y < x∧z=1)∨(x=y∧z=0)):z=zV x y:=by
 unfold zV;split
 ·omega
 split <;> omega
theorem abG (G:GH) (w0:World) (hG:Hold G w0) (x y:Int):Calls prog 150 #[vi x,vi y] w0 (bF w0 G fun u G'=>u=vi (zV x y)):=by
 refine eN [(0,_),(1,_)] func150 rfl ntmps150 rfl rfl hG ?_;intro a H;refine kP H (SR fun _ K1=>ak K1 rfl (SR fun _ K2=>Rm rfl ?_));clear H K1;intro a H;refine s_call TL H wn rfl (Ws _ _ H.ro x) rfl ?_;clear H;rintro v8 G8 a w ⟨rfl,-⟩ yV H;refine kH H (ak K2 rfl (SR fun _ K3=>Rm rfl ?_));clear H K2;intro a H;refine s_call TL H wn rfl (Ws _ _ H.ro y) rfl ?_;clear H;rintro v10 yw a w ⟨rfl,-⟩ yU H;refine kH H (ak K3 rfl (SQ fun _ K4=>SR fun _ K5=>Rm rfl (Kz K5 (Cd rfl ?_ ?_)))) <;> clear H K3 K5
 ·intro h11 a H
  cases h11
 intro h11 a H
 try have nM:=dF h11
 refine kP H (Kc K4 (SQ fun _ K6=>SR fun _ K7=>Rm rfl (Kz K7 (Cd rfl ?_ ?_)))) <;> clear H K4 K7
 ·intro gu a H
  cases gu
 intro gu a H
 try have qF:=dF gu
 refine kP H (Kc K6 (SQ fun _ K8=>SR fun _ K9=>Rm rfl (Rm rfl (Rc rfl (Kz K9 (Cd rfl ?_ ?_)))))) <;> clear H K6 K9
 ·intro h16 a H
  try have p16:=dT h16
  exact kP H (SR fun _ aT=>ak aT rfl (LR results150 rfl fun H=>H.rt (aF vi (ML (by omega)))))
 intro h16 a H
 try have p16:=dF h16
 refine kP H (Kc K8 (SQ fun _ bC=>SR fun _ bJ=>Rm rfl (Rm rfl (Rc rfl (Kz bJ (Cd rfl ?_ ?_)))))) <;> clear H K8 bJ
 ·intro h19 a H
  try have pY:=dT h19
  exact kP H (SR fun _ bT=>ak bT rfl (LR results150 rfl fun H=>H.rt (aF vi (ML (by omega)))))
 intro h19 a H
 try have pY:=dF h19
 exact kP H (Kc bC (SR fun _ bS=>ak bS rfl (LR results150 rfl fun H=>H.rt (aF vi (ML (by omega))))))
end
section
open Go.RowKit
theorem aex:bY prog 233 0 0:=⟨by kernel_rfl⟩
theorem acV:∀ args w,(callFunc 150 args).run prog w=.ok (.enter 150 args) w:=enters func150 rfl (by kernel_rfl)
theorem Yy:prog.underlying 240=some (.int .u64):=by kernel_rfl
theorem acU:∀ args w,(callFunc 149 args).run prog w=.ok (.enter 149 args) w:=enters func149 rfl (by kernel_rfl)
theorem Ta (G:GH) (w0:World) (hG:Hold G w0) (x:jw) (t:Int):sH prog (.func (.func 149) #[] #[]) [.agg x.cells.toArray,vi t] w0 (bF w0 G fun u G'=>u=vi (zV x.num t)):=by
 refine mo (caps:=[]) acU ?_;refine eN [(0,_),(1,_)] func149 rfl ntmps149 rfl rfl hG ?_;intro a H;refine dH (fun _ K1=>?_);refine fq (cs:=[_,_,_,_,_,_]) H wn rfl rfl rfl ?_;clear H;intro b2 a w hb2 H;refine kH H (ak K1 rfl (SR fun _ K2=>aW aex aH 0 rfl rfl (Rm rfl ?_)));clear H K1;intro a H;refine s_call acV H wn rfl (abG _ _ H.ro x.num t) rfl ?_;clear H;rintro v8 G8 a w rfl yV H;exact kH H (ak K2 rfl (LR results149 rfl fun H=>H.rt rfl))
theorem aaB (G:GH) (w0:World) (hG:Hold G w0) (l:List jw) (t:Int) (v:aj) (hv:av G (.sl 6 (l.map jw.dat)) v) (hl:l.length≤4294967296) :
  Calls prog 148 #[v,vi t,.func (.func 149) #[] #[]] w0 (bF w0 G fun u G'=>u=.tuple #[vi (yG (l.map jw.num) t),.bool (BA (l.map jw.num) t)]):=by
 obtain ⟨A,c,rfl,hc1,hc2,-⟩:=hv.slice;rw [bU] at *;obtain ⟨p,hp⟩:∃ p:Nat→Bool,p=fun h=>decide (¬ (l.map jw.num).getD h 0 < t):=⟨_,rfl⟩
 have hbs:yG (l.map jw.num) t=xM p l.length 0 l.length:=by rw [hp,yG,bU]
 refine eN [(0,_),(1,_),(2,_)] func148 rfl ntmps148 rfl rfl hG ?_;intro a H;refine kP H (SR fun _ K1=>Ra rfl (ak K1 rfl (SR fun _ K2=>Rm rfl (Rl Iz rfl (ak K2 rfl (SR fun _ K3=>Rm rfl (Ra rfl (ak K3 rfl (SQ fun _ K4=>SB ?_)))))))));clear H K1 K2 K3;intro a H;skip;refine eU (ι:=Nat × Nat × Nat × GH) (Tc:=[(0,_),(1,_),(2,_),(8,_)]) (Lc:=[]) (fun gh=>[(9,vi gh.1),(10,vi gh.2.1)]) (fun gh=>[]) (fun gh=>gh.2.2.2) (fun gh=>gh.1≤gh.2.1∧gh.2.1≤l.length∧gh.2.1 - gh.1≤gh.2.2.1∧xM p gh.2.2.1 gh.1 gh.2.1=yG (l.map jw.num) t∧(∀ b o,G b=some o→gh.2.2.2 b=some o)) (fun gh=>gh.2.1 - gh.1) ((0,l.length,l.length,G)) (by exact (H).sub ⟨rfl,rfl,rfl,rfl,rfl,rfl,aD⟩) ?_ ?_
 ·exact ⟨ig _,bV _,Nat.sub_le _ _,hbs.symm,fun _ _ h=>h⟩
 clear H;intro gh a w hI H;obtain ⟨i,j,f,g⟩:=gh;dsimp only at hI H;obtain ⟨hij,hj,hf1,heq,hgm⟩:=hI;have DC:=hv.mono hgm;dsimp only [lca,bD] at H;refine kP H (SQ fun _ K5=>SR fun _ K6=>Rm rfl (Rm rfl (Rc rfl (Kz K6 (Cd rfl ?_ ?_))))) <;> clear H K6
 ·intro eu a H
  try have mI:=dT eu
  have hlt:i < j:=by omega
  rw [ahh hf1 hlt] at heq;obtain ⟨m,hm⟩:∃ m,m=(i+j) / 2:=⟨_,rfl⟩;rw [← hm] at heq
  have hml:m < l.length:=by omega
  obtain ⟨b,o,rfl,hrow⟩:=Pw DC hml
  have hpm:p m=decide (¬ l[m].num < t):=by rw [hp];dsimp only;rw [getD_map hml]
  rw [hpm] at heq;refine kP H (Kc K5 (SB (SR fun _ K7=>Rm rfl (Rm rfl (Rd rfl ?_)))));clear H K5;intro a H;rw [show ((i:Int)+(j:Int))=((i+j:Nat):Int) by push_cast;rfl] at H;refine FD ((i+j:Nat):Int) Yy nD H wn rfl (ahi (by omega) (by omega)) rfl ?_;clear H;intro a H;refine XY _ H wn rfl rfl rfl (by decide) rfl ?_;clear H;intro a H;rw [ahg,← hm] at H;refine FD (m:Int) nD Yy H wn rfl (Ia (by omega) (by omega)) rfl ?_;clear H;intro a H;refine kH H (ak K7 rfl (SR fun _ K8=>Rm rfl (Rm rfl (Rm rfl (Ri Iz sD rfl rfl ?_)))));clear H K7;intro a H;refine bK sD (cs:=[_,_,_,_,_,_]) H wn rfl rfl (fun j v hj=>H.hp.aL (hrow j v hj)) rfl ?_;clear H;intro a H;refine kH H (Rm rfl ?_);clear H;intro a H;refine oq H wn rfl rfl (Ta _ _ H.ro l[m] t) rfl ?_;clear H;rintro v30 Cu a w rfl Dq H;refine kH H (Rc rfl (Kz K8 (Cd rfl ?_ ?_))) <;> clear H K8
  ·intro h31 a H
   try have p31:=dT h31
   rw [ah (by simpa using Tk.1 p31)] at heq;refine kP H (SC (Rm rfl (Rd rfl (Ra rfl ?_))));clear H;intro a H;refine aI ?_;refine cK ((m+1,j,f - 1,Cu)) (by exact (H).sub ⟨rfl,rfl,rfl,rfl,rfl,rfl,aD⟩) ?_ ?_
   ·(try dsimp only);exact ⟨by omega,hj,by omega,heq,fun b o h=>Dq b o (hgm b o h)⟩
   first|omega|(dsimp only;omega)
  intro h31 a H
  try have p31:=dF h31
  rw [au (by simpa using fun h=>p31 (Tk.2 h))] at heq;refine kP H (SC (Rm rfl (Ra rfl ?_)));clear H;intro a H;refine aI ?_;refine cK ((i,m,f - 1,Cu)) (by exact (H).sub ⟨rfl,rfl,rfl,rfl,rfl,rfl,aD⟩) ?_ ?_
  ·(try dsimp only);exact ⟨by omega,by omega,by omega,heq,fun b o h=>Dq b o (hgm b o h)⟩
  first|omega|(dsimp only;omega)
 intro eu a H
 try have mI:=dF eu
 refine dQ ?_;refine K4 _ _ ?_;clear K4;refine bG (fun _ K9=>?_);rw [ahf (by omega)] at heq;refine kP H (SC (Rm rfl (Rm rfl (Rm rfl (Rc rfl (Rm rfl (Sp 39 rfl ?_ ?_))))))) <;> clear H
 ·intro kU a H
  try have p39:=dT kU
  have hil:i < l.length:=by omega
  obtain ⟨b,o,rfl,hrow⟩:=Pw DC hil;refine kH H (YM kU rfl (YM kU rfl (YM kU rfl (YI Iz sD kU rfl rfl ?_))));clear H;intro a H;refine bK sD (cs:=[_,_,_,_,_,_]) H (wg H rfl rfl kU) rfl rfl (fun j v hj=>H.hp.aL (hrow j v hj)) rfl ?_;clear H;intro a H;refine kH H (YM kU rfl ?_);clear H;intro a H;refine oq H (wg H rfl rfl kU) rfl rfl (Ta _ _ H.ro l[i] t) rfl ?_;clear H;rintro v46 ZB a w rfl agl H;refine kH H (YC kU rfl (Pt kU rfl (Ra rfl (aV K9 rfl ?_))));clear H K9;intro a H;refine cB ?_;refine (eB H results148 (.cons (aR H rfl) (.cons (aR H rfl) .nil)) ?_).1;exact H.rt (by rw [afD heq.symm (by rw [bU];omega),← heq];simp)
 intro kU a H
 try have p39:=dF kU
 refine kH H (aY kU rfl (aY kU rfl (aS kU rfl (Pf kU rfl (Ra rfl (aV K9 rfl ?_))))));clear H K9;intro a H;refine cB ?_;refine (eB H results148 (.cons (aR H rfl) (.cons (aR H rfl) .nil)) ?_).1;exact H.rt (by rw [afF heq.symm (by rw [bU];omega),← heq])
end
section
open Go.RowKit
end
section
open Go.RowKit
def vQ (fv:aj) (G:GH) (d:List Dat) (b:Bool):Prop:=∀ (G1:GH) (w1:World) (cs:List aj),(∀ b o,G b=some o→G1 b=some o)→Hold G1 w1→aZ G1 d cs →
 sH prog fv [.agg cs.toArray] w1 (bF w1 G1 fun u G'=>u=.bool b)
def nK (o:Option Nat):Int:=match o with|some i=>i|none=>-1
theorem ahn (G:GH) (w0:World) (hG:Hold G w0) (l:List bP) (p:bP→Bool) (v fv:aj) (hv:av G (.sl 6 (l.map bP.dat)) v) (hf:∀ x∈l,vQ fv G x.dat (p x)) :
  Calls prog 104 #[v,fv] w0 (bF w0 G fun u G'=>u=vi (nK (l.findIdx? p))):=by
 obtain ⟨A,c,rfl,hc1,hc2,hg⟩:=hv.slice;have hml:maxLen=9223372036854775807:=rfl;rw [bU] at *;refine eN [(0,_),(1,_)] func104 rfl ntmps104 rfl rfl hG ?_;intro a H;refine kP H (SR fun _ K1=>ak K1 rfl (SQ fun _ K2=>SR fun _ K3=>Rm rfl (Rl lS rfl (Rm rfl (Kz K3 (SB ?_))))));clear H K1 K3;intro a H;skip;refine eU (ι:=Nat × GH) (Tc:=[(0,_),(1,_),(7,_)]) (Lc:=[]) (fun gh=>[(8,vi gh.1)]) (fun gh=>[]) (fun gh=>gh.2) (fun gh=>gh.1≤l.length∧(l.take gh.1).findIdx? p=none∧(∀ b o,G b=some o→gh.2 b=some o)) (fun gh=>l.length - gh.1) ((0,G)) (by exact (H).sub ⟨rfl,rfl,rfl,rfl,aD⟩) ?_ ?_
 ·exact ⟨by omega,rfl,fun _ _ h=>h⟩
 clear H;intro gh a w hI H;obtain ⟨k,g⟩:=gh;dsimp only at hI H;obtain ⟨hk,hno,hgm⟩:=hI;dsimp only [lca,bD] at H;refine kP H (SR fun _ K4=>Rc rfl (Kz K4 (SQ fun _ K5=>Cd rfl ?_ ?_))) <;> clear H K4
 ·intro h9 a H
  try have p9:=dT h9
  have hk2:k < l.length:=by omega
  obtain ⟨b,o,cs,rfl,hcl,hrow,hrep⟩:=hg k l[k].dat (by simp [hk2]);obtain ⟨pA,pn,pc,dA,dn,dc,yA,yn,yc,fA,fn,fc,rfl,-⟩:=hrep.row;replace hrow:=fun j u hj=>aM hgm (hrow j u hj);refine kP H (Kc K5 (SQ fun _ K6=>SB (SR fun _ K7=>Rm rfl (ak K7 rfl (SR fun _ K8=>Rm rfl (Rm rfl (Rm rfl (Ri lS jV rfl rfl ?_))))))));clear H K5 K7;intro a H;refine bK jV (cs:=[_,_,_,_,_,_]) H wn rfl rfl (fun j v hj=>H.hp.aL (hrow j v hj)) rfl ?_;clear H;intro a H;refine oq H wn rfl rfl (hf _ (iM hk2) _ _ _ hgm H.ro (hrep.mono hgm)) rfl ?_;clear H;rintro v16 oW a w rfl kV H;refine K8 _ _ ?_;clear K8;refine lW H rfl ?_ ?_
  ·intro h16
   try have p16:=dT h16
   refine kP H (SR fun _ K9=>Rm rfl (ak K9 rfl ?_));clear H K9;intro a H;refine lr H results104 rfl ?_
   first
    | exact H.rt (by rw [uF hk2 hno h16];rfl)
    | exact H.rt (by rw [show l.take k=l from jQ (by omega)] at hno;rw [hno];rfl)
  intro h16
  try have p16:=dF h16
  refine kP H (Kc K6 (SC (Rd rfl (Rm rfl ?_))));clear H K6;intro a H;refine aI ?_;refine cK ((k+1,oW)) (by exact (H).sub ⟨rfl,rfl,rfl,rfl,aD⟩) ?_ ?_
  ·(try dsimp only);exact ⟨by omega,Aw hk2 hno h16,fun b o h=>kV b o (hgm b o h)⟩
  first|omega|(dsimp only;omega)
 intro h9 a H
 try have p9:=dF h9
 refine dQ ?_;refine K2 _ _ ?_;clear K2;refine kP H (SR fun _ aT=>ak aT rfl ?_);clear H aT;intro a H;refine lr H results104 rfl ?_
 first
  | exact H.rt (by rw [uF hk2 hno h16];rfl)
  | exact H.rt (by rw [show l.take k=l from jQ (by omega)] at hno;rw [hno];rfl)
end
section
open Go.RowKit
theorem acS:∀ args w,(callFunc 147 args).run prog w=.ok (.enter 147 args) w:=enters func147 rfl (by kernel_rfl)
theorem acT:∀ args w,(callFunc 148 args).run prog w=.ok (.enter 148 args) w:=enters func148 rfl (by kernel_rfl)
theorem kY:prog.underlying 68=some (.slice 3):=by kernel_rfl
theorem acW:∀ args w,(callFunc 151 args).run prog w=.ok (.enter 151 args) w:=enters func151 rfl (by kernel_rfl)
theorem TJ:∀ args w,(callFunc 137 args).run prog w=.ok (.enter 137 args) w:=enters func137 rfl (by kernel_rfl)
theorem acL:∀ args w,(callFunc 139 args).run prog w=.ok (.enter 139 args) w:=enters func139 rfl (by kernel_rfl)
theorem aey:bY prog 233 1 1:=⟨by kernel_rfl⟩
theorem acK:∀ args w,(callFunc 138 args).run prog w=.ok (.enter 138 args) w:=enters func138 rfl (by kernel_rfl)
theorem aez:bY prog 233 2 2:=⟨by kernel_rfl⟩
theorem aeA:bY prog 233 3 3:=⟨by kernel_rfl⟩
def kz:jw:=⟨0,0,0,0,0,⟨#[]⟩⟩
def DK:List Int:=DL.map jw.num
def lX (k:Int):jw × Bool:=if BA DK k=true then (DL.getD (yG DK k) kz,true) else (kz,false)
theorem find_spec (G:GH) (w0:World) (hG:Hold G w0) (k:Int):Calls prog 137 #[vi k] w0 (bF w0 G fun u G'=>u=.tuple #[.agg (lX k).1.cells.toArray,.bool (lX k).2]):=by
 refine eN [(0,_)] func137 rfl ntmps137 rfl rfl hG ?_;intro a H;refine dH (fun _ K1=>?_);refine eZ sD H wn rfl ?_;clear H;intro b2 a w hb2 H;refine kH H (ak K1 rfl (SR fun _ K2=>?_));clear H K1;intro a H;refine s_call acS H wn rfl (ahH _ _ H.ro) rfl ?_;clear H;rintro v7 G7 a w hv7 Ao H;obtain ⟨A,c,rfl,hc1,hc2,-⟩:=hv7.slice;rw [bU] at *;refine kH H (ak K2 rfl (SR fun _ K3=>Rm rfl (Rm rfl ?_)));clear H K2;intro a H;refine s_call acT H wn rfl (aaB _ _ H.ro DL k _ hv7 (by decide)) rfl ?_;clear H;rintro v11 wM a w rfl J8 H;have hv7:=hv7.mono J8;have hkn:DL.map jw.num=DK:=rfl;rw [hkn] at H;obtain ⟨n,hn⟩:∃ n,n=yG DK k:=⟨_,rfl⟩;obtain ⟨q,hq⟩:∃ q,q=BA DK k:=⟨_,rfl⟩;rw [← hn,← hq] at H;refine kH H (Rm rfl ?_);clear H;intro a H;(iterate 2 refine jN H wn rfl rfl rfl ?_;clear H;intro a H);refine kH H (Ra rfl (ak K3 rfl (SQ fun _ K4=>SR fun _ K5=>Rm rfl (Rn rfl (Kz K5 (Cd rfl ?_ ?_)))))) <;> clear H K3 K5
 ·intro nZ a H
  refine dH (fun _ K6=>?_);refine ku Yk [_,_,_,_,_,_] H wn rfl rfl rfl rfl ?_;clear H;intro a H;refine bM sD 0 (vs:=[_,_,_,_,_,_]) _ H wn rfl rfl rfl rfl rfl rfl rfl rfl ?_;clear H;intro w H;dsimp only [List.set,setRow] at H;refine kH H (ak K6 rfl ?_);clear H K6;intro a H;refine cB ?_;refine (eB H results137 (.cons (AO sD (cs:=[_,_,_,_,_,_]) H rfl rfl (H.hp.eF 0 rfl rfl)) (.cons (aR H rfl) .nil)) ?_).1;exact H.rt (by rw [lX,ah (by rw [← hq];simpa using nZ)];rfl)
 intro nZ a H
 try have tq:=dF nZ
 have hlt:n < DL.length:=by have:=afE (ks:=DK) (t:=k) (by rw [← hq];simpa using nZ);rw [← hn] at this;simpa [DK] using this
 obtain ⟨b,o,rfl,hrow⟩:=Pw hv7 hlt;refine kP H (Kc K4 (SR fun _ K7=>Rm rfl (Rm rfl (Ri Iz sD rfl rfl ?_))));clear H K4;intro a H;refine bK sD (cs:=[_,_,_,_,_,_]) H wn rfl rfl (fun j v hj=>H.hp.aL (hrow j v hj)) rfl ?_;clear H;intro a H;refine bM sD 0 (vs:=[_,_,_,_,_,_]) _ H wn rfl rfl rfl rfl rfl rfl rfl rfl ?_;clear H;intro w H;dsimp only [List.set,setRow] at H;refine kH H (ak K7 rfl ?_);clear H K7;intro a H;refine cB ?_;refine (eB H results137 (.cons (AO sD (cs:=[_,_,_,_,_,_]) H rfl rfl (H.hp.eF 0 rfl rfl)) (.cons (aR H rfl) .nil)) ?_).1;exact H.rt (by rw [lX,au (by rw [← hq];simpa using nZ),← hn,List.getD_eq_getElem?_getD,gY hlt];rfl)
def dL (e:Int):List Int:=if e=1∨e=4∨e=5∨e=6 then [1] else if e=2 then [1,2] else if e=3 then [3] else if e=7 then [6] else if e=9 then [4] else if e=10 then [5] else []
theorem fu (G:GH) (A:List Int):fD G 1 (A.map fun k=>[li k]) (A.map vi):=by
 refine ⟨A.map fun k=>[vi k],?_,by simp,fun j r cs hr hc=>?_⟩
 ·induction A with
  | nil=>rfl
  | cons a A ih=>simpa using ih
 rw [qp] at hr hc
 cases h:A[j]? with
 | none=>rw [h] at hr;cases hr
 | some x =>
  rw [h] at hr hc
  cases hr;cases hc
  exact ⟨by simp only [aZ];exact ⟨_,_,rfl,by simp [av,Value.oneCell'],rfl⟩,rfl⟩
theorem afd (G:GH) (w0:World) (hG:Hold G w0) (e:Int):Calls prog 139 #[vi e] w0 (bF w0 G fun u G'=>av G' (.sl 1 ((dL e).map fun k=>[li k])) u):=by
  refine eN [(0,_)] func139 rfl ntmps139 rfl rfl hG ?_;intro a H;refine kP H (SR fun _ K1=>ak K1 rfl (SQ fun _ K2=>SR fun _ K3=>Rm rfl (Kz K3 (SB (SQ fun _ K4=>SR fun _ K5=>Rc rfl (ak K5 rfl (Cd rfl ?_ ?_))))))) <;> clear H K1 K3 K5
  · intro h4 a H
    try have p4:=dT h4
    refine kP H (Kc K4 (Ct rfl h4 (SR fun _ K6=>?_)));clear H K4;intro a H;refine gU kY aH [_] [_] H wn rfl rfl rfl rfl rfl (by intro i q h;match i,h with|0,h=>exact h|n+1,h=>simp at h) rfl rfl ?_;clear H;intro b9 a w yS H;refine kH H (ak K6 rfl ?_);clear H K6;intro a H;refine lr H results139 rfl ?_
    first
      | exact H.rt (by rw [dL,ah (by omega),ah (by omega),ah (by omega),ah (by omega),ah (by omega),ah (by omega)];exact av.jo rfl (by decide))
      | (obtain ⟨Gz,hmz,hbz,H⟩:=H.dS
         first
           | exact H.rt (by rw [dL,au (by omega)];exact av.eO (n:=1) (cap:=1) hbz rfl (bV _) (show 1≤maxLen by decide) rfl (fu _ [1]))
           | exact H.rt (by rw [dL,ah (by omega),au (by omega)];exact av.eO (n:=2) (cap:=2) hbz rfl (bV _) (show 2≤maxLen by decide) rfl (fu _ [1,2]))
           | exact H.rt (by rw [dL,ah (by omega),ah (by omega),au (by omega)];exact av.eO (n:=1) (cap:=1) hbz rfl (bV _) (show 1≤maxLen by decide) rfl (fu _ [3]))
           | exact H.rt (by rw [dL,ah (by omega),ah (by omega),ah (by omega),au (by omega)];exact av.eO (n:=1) (cap:=1) hbz rfl (bV _) (show 1≤maxLen by decide) rfl (fu _ [6]))
           | exact H.rt (by rw [dL,ah (by omega),ah (by omega),ah (by omega),ah (by omega),au (by omega)];exact av.eO (n:=1) (cap:=1) hbz rfl (bV _) (show 1≤maxLen by decide) rfl (fu _ [4]))
           | exact H.rt (by rw [dL,ah (by omega),ah (by omega),ah (by omega),ah (by omega),ah (by omega),au (by omega)];exact av.eO (n:=1) (cap:=1) hbz rfl (bV _) (show 1≤maxLen by decide) rfl (fu _ [5])))
  intro h4 a H
  try have p4:=dF h4
  refine kP H (SR fun _ K7=>Rc rfl (ak K7 rfl (Cd rfl ?_ ?_))) <;> clear H K7
  · intro h4 a H
    try have p4:=dT h4
    refine kP H (Kc K4 (Ct rfl h4 (SR fun _ K8=>?_)));clear H K4;intro a H;refine gU kY aH [_] [_] H wn rfl rfl rfl rfl rfl (by intro i q h;match i,h with|0,h=>exact h|n+1,h=>simp at h) rfl rfl ?_;clear H;intro b9 a w yS H;refine kH H (ak K8 rfl ?_);clear H K8;intro a H;refine lr H results139 rfl ?_
    first
      | exact H.rt (by rw [dL,ah (by omega),ah (by omega),ah (by omega),ah (by omega),ah (by omega),ah (by omega)];exact av.jo rfl (by decide))
      | (obtain ⟨Gz,hmz,hbz,H⟩:=H.dS
         first
           | exact H.rt (by rw [dL,au (by omega)];exact av.eO (n:=1) (cap:=1) hbz rfl (bV _) (show 1≤maxLen by decide) rfl (fu _ [1]))
           | exact H.rt (by rw [dL,ah (by omega),au (by omega)];exact av.eO (n:=2) (cap:=2) hbz rfl (bV _) (show 2≤maxLen by decide) rfl (fu _ [1,2]))
           | exact H.rt (by rw [dL,ah (by omega),ah (by omega),au (by omega)];exact av.eO (n:=1) (cap:=1) hbz rfl (bV _) (show 1≤maxLen by decide) rfl (fu _ [3]))
           | exact H.rt (by rw [dL,ah (by omega),ah (by omega),ah (by omega),au (by omega)];exact av.eO (n:=1) (cap:=1) hbz rfl (bV _) (show 1≤maxLen by decide) rfl (fu _ [6]))
           | exact H.rt (by rw [dL,ah (by omega),ah (by omega),ah (by omega),ah (by omega),au (by omega)];exact av.eO (n:=1) (cap:=1) hbz rfl (bV _) (show 1≤maxLen by decide) rfl (fu _ [4]))
           | exact H.rt (by rw [dL,ah (by omega),ah (by omega),ah (by omega),ah (by omega),ah (by omega),au (by omega)];exact av.eO (n:=1) (cap:=1) hbz rfl (bV _) (show 1≤maxLen by decide) rfl (fu _ [5])))
  intro h4 a H
  try have p4:=dF h4
  refine kP H (SR fun _ K9=>Rc rfl (ak K9 rfl (Cd rfl ?_ ?_))) <;> clear H K9
  · intro h4 a H
    try have p4:=dT h4
    refine kP H (Kc K4 (Ct rfl h4 (SR fun _ aT=>?_)));clear H K4;intro a H;refine gU kY aH [_] [_] H wn rfl rfl rfl rfl rfl (by intro i q h;match i,h with|0,h=>exact h|n+1,h=>simp at h) rfl rfl ?_;clear H;intro b9 a w yS H;refine kH H (ak aT rfl ?_);clear H aT;intro a H;refine lr H results139 rfl ?_
    first
      | exact H.rt (by rw [dL,ah (by omega),ah (by omega),ah (by omega),ah (by omega),ah (by omega),ah (by omega)];exact av.jo rfl (by decide))
      | (obtain ⟨Gz,hmz,hbz,H⟩:=H.dS
         first
           | exact H.rt (by rw [dL,au (by omega)];exact av.eO (n:=1) (cap:=1) hbz rfl (bV _) (show 1≤maxLen by decide) rfl (fu _ [1]))
           | exact H.rt (by rw [dL,ah (by omega),au (by omega)];exact av.eO (n:=2) (cap:=2) hbz rfl (bV _) (show 2≤maxLen by decide) rfl (fu _ [1,2]))
           | exact H.rt (by rw [dL,ah (by omega),ah (by omega),au (by omega)];exact av.eO (n:=1) (cap:=1) hbz rfl (bV _) (show 1≤maxLen by decide) rfl (fu _ [3]))
           | exact H.rt (by rw [dL,ah (by omega),ah (by omega),ah (by omega),au (by omega)];exact av.eO (n:=1) (cap:=1) hbz rfl (bV _) (show 1≤maxLen by decide) rfl (fu _ [6]))
           | exact H.rt (by rw [dL,ah (by omega),ah (by omega),ah (by omega),ah (by omega),au (by omega)];exact av.eO (n:=1) (cap:=1) hbz rfl (bV _) (show 1≤maxLen by decide) rfl (fu _ [4]))
           | exact H.rt (by rw [dL,ah (by omega),ah (by omega),ah (by omega),ah (by omega),ah (by omega),au (by omega)];exact av.eO (n:=1) (cap:=1) hbz rfl (bV _) (show 1≤maxLen by decide) rfl (fu _ [5])))
  intro h4 a H
  try have p4:=dF h4
  refine kP H (SC (Rc rfl (aV K4 rfl (Cd rfl ?_ ?_)))) <;> clear H K4
  · intro h4 a H
    try have p4:=dT h4
    refine dH (fun _ bC=>?_);refine gU kY aH [_] [_] H wn rfl rfl rfl rfl rfl (by intro i q h;match i,h with|0,h=>exact h|n+1,h=>simp at h) rfl rfl ?_;clear H;intro b9 a w yS H;refine kH H (ak bC rfl ?_);clear H bC;intro a H;refine lr H results139 rfl ?_
    first
      | exact H.rt (by rw [dL,ah (by omega),ah (by omega),ah (by omega),ah (by omega),ah (by omega),ah (by omega)];exact av.jo rfl (by decide))
      | (obtain ⟨Gz,hmz,hbz,H⟩:=H.dS
         first
           | exact H.rt (by rw [dL,au (by omega)];exact av.eO (n:=1) (cap:=1) hbz rfl (bV _) (show 1≤maxLen by decide) rfl (fu _ [1]))
           | exact H.rt (by rw [dL,ah (by omega),au (by omega)];exact av.eO (n:=2) (cap:=2) hbz rfl (bV _) (show 2≤maxLen by decide) rfl (fu _ [1,2]))
           | exact H.rt (by rw [dL,ah (by omega),ah (by omega),au (by omega)];exact av.eO (n:=1) (cap:=1) hbz rfl (bV _) (show 1≤maxLen by decide) rfl (fu _ [3]))
           | exact H.rt (by rw [dL,ah (by omega),ah (by omega),ah (by omega),au (by omega)];exact av.eO (n:=1) (cap:=1) hbz rfl (bV _) (show 1≤maxLen by decide) rfl (fu _ [6]))
           | exact H.rt (by rw [dL,ah (by omega),ah (by omega),ah (by omega),ah (by omega),au (by omega)];exact av.eO (n:=1) (cap:=1) hbz rfl (bV _) (show 1≤maxLen by decide) rfl (fu _ [4]))
           | exact H.rt (by rw [dL,ah (by omega),ah (by omega),ah (by omega),ah (by omega),ah (by omega),au (by omega)];exact av.eO (n:=1) (cap:=1) hbz rfl (bV _) (show 1≤maxLen by decide) rfl (fu _ [5])))
  intro h4 a H
  try have p4:=dF h4
  refine kP H (SR fun _ bJ=>Rc rfl (ak bJ rfl (Cd rfl ?_ ?_))) <;> clear H bJ
  · intro h10 a H
    try have lN:=dT h10
    refine dH (fun _ bT=>?_);refine gU kY aH [_,_] [_,_] H wn rfl rfl rfl rfl rfl (by intro i q h;match i,h with|0,h=>exact h|1,h=>exact h|n+2,h=>simp at h) rfl rfl ?_;clear H;intro b12 a w BD H;refine kH H (ak bT rfl ?_);clear H bT;intro a H;refine lr H results139 rfl ?_
    first
      | exact H.rt (by rw [dL,ah (by omega),ah (by omega),ah (by omega),ah (by omega),ah (by omega),ah (by omega)];exact av.jo rfl (by decide))
      | (obtain ⟨Gz,hmz,hbz,H⟩:=H.dS
         first
           | exact H.rt (by rw [dL,au (by omega)];exact av.eO (n:=1) (cap:=1) hbz rfl (bV _) (show 1≤maxLen by decide) rfl (fu _ [1]))
           | exact H.rt (by rw [dL,ah (by omega),au (by omega)];exact av.eO (n:=2) (cap:=2) hbz rfl (bV _) (show 2≤maxLen by decide) rfl (fu _ [1,2]))
           | exact H.rt (by rw [dL,ah (by omega),ah (by omega),au (by omega)];exact av.eO (n:=1) (cap:=1) hbz rfl (bV _) (show 1≤maxLen by decide) rfl (fu _ [3]))
           | exact H.rt (by rw [dL,ah (by omega),ah (by omega),ah (by omega),au (by omega)];exact av.eO (n:=1) (cap:=1) hbz rfl (bV _) (show 1≤maxLen by decide) rfl (fu _ [6]))
           | exact H.rt (by rw [dL,ah (by omega),ah (by omega),ah (by omega),ah (by omega),au (by omega)];exact av.eO (n:=1) (cap:=1) hbz rfl (bV _) (show 1≤maxLen by decide) rfl (fu _ [4]))
           | exact H.rt (by rw [dL,ah (by omega),ah (by omega),ah (by omega),ah (by omega),ah (by omega),au (by omega)];exact av.eO (n:=1) (cap:=1) hbz rfl (bV _) (show 1≤maxLen by decide) rfl (fu _ [5])))
  intro h10 a H
  try have lN:=dF h10
  refine kP H (SR fun _ bS=>Rc rfl (ak bS rfl (Cd rfl ?_ ?_))) <;> clear H bS
  · intro gu a H
    try have qF:=dT gu
    refine dH (fun _ dD=>?_);refine gU kY aH [_] [_] H wn rfl rfl rfl rfl rfl (by intro i q h;match i,h with|0,h=>exact h|n+1,h=>simp at h) rfl rfl ?_;clear H;intro b15 a w afJ H;refine kH H (ak dD rfl ?_);clear H dD;intro a H;refine lr H results139 rfl ?_
    first
      | exact H.rt (by rw [dL,ah (by omega),ah (by omega),ah (by omega),ah (by omega),ah (by omega),ah (by omega)];exact av.jo rfl (by decide))
      | (obtain ⟨Gz,hmz,hbz,H⟩:=H.dS
         first
           | exact H.rt (by rw [dL,au (by omega)];exact av.eO (n:=1) (cap:=1) hbz rfl (bV _) (show 1≤maxLen by decide) rfl (fu _ [1]))
           | exact H.rt (by rw [dL,ah (by omega),au (by omega)];exact av.eO (n:=2) (cap:=2) hbz rfl (bV _) (show 2≤maxLen by decide) rfl (fu _ [1,2]))
           | exact H.rt (by rw [dL,ah (by omega),ah (by omega),au (by omega)];exact av.eO (n:=1) (cap:=1) hbz rfl (bV _) (show 1≤maxLen by decide) rfl (fu _ [3]))
           | exact H.rt (by rw [dL,ah (by omega),ah (by omega),ah (by omega),au (by omega)];exact av.eO (n:=1) (cap:=1) hbz rfl (bV _) (show 1≤maxLen by decide) rfl (fu _ [6]))
           | exact H.rt (by rw [dL,ah (by omega),ah (by omega),ah (by omega),ah (by omega),au (by omega)];exact av.eO (n:=1) (cap:=1) hbz rfl (bV _) (show 1≤maxLen by decide) rfl (fu _ [4]))
           | exact H.rt (by rw [dL,ah (by omega),ah (by omega),ah (by omega),ah (by omega),ah (by omega),au (by omega)];exact av.eO (n:=1) (cap:=1) hbz rfl (bV _) (show 1≤maxLen by decide) rfl (fu _ [5])))
  intro gu a H
  try have qF:=dF gu
  refine kP H (SR fun _ dM=>Rc rfl (ak dM rfl (Cd rfl ?_ ?_))) <;> clear H dM
  · intro h16 a H
    try have p16:=dT h16
    refine dH (fun _ cZ=>?_);refine gU kY aH [_] [_] H wn rfl rfl rfl rfl rfl (by intro i q h;match i,h with|0,h=>exact h|n+1,h=>simp at h) rfl rfl ?_;clear H;intro b18 a w J2 H;refine kH H (ak cZ rfl ?_);clear H cZ;intro a H;refine lr H results139 rfl ?_
    first
      | exact H.rt (by rw [dL,ah (by omega),ah (by omega),ah (by omega),ah (by omega),ah (by omega),ah (by omega)];exact av.jo rfl (by decide))
      | (obtain ⟨Gz,hmz,hbz,H⟩:=H.dS
         first
           | exact H.rt (by rw [dL,au (by omega)];exact av.eO (n:=1) (cap:=1) hbz rfl (bV _) (show 1≤maxLen by decide) rfl (fu _ [1]))
           | exact H.rt (by rw [dL,ah (by omega),au (by omega)];exact av.eO (n:=2) (cap:=2) hbz rfl (bV _) (show 2≤maxLen by decide) rfl (fu _ [1,2]))
           | exact H.rt (by rw [dL,ah (by omega),ah (by omega),au (by omega)];exact av.eO (n:=1) (cap:=1) hbz rfl (bV _) (show 1≤maxLen by decide) rfl (fu _ [3]))
           | exact H.rt (by rw [dL,ah (by omega),ah (by omega),ah (by omega),au (by omega)];exact av.eO (n:=1) (cap:=1) hbz rfl (bV _) (show 1≤maxLen by decide) rfl (fu _ [6]))
           | exact H.rt (by rw [dL,ah (by omega),ah (by omega),ah (by omega),ah (by omega),au (by omega)];exact av.eO (n:=1) (cap:=1) hbz rfl (bV _) (show 1≤maxLen by decide) rfl (fu _ [4]))
           | exact H.rt (by rw [dL,ah (by omega),ah (by omega),ah (by omega),ah (by omega),ah (by omega),au (by omega)];exact av.eO (n:=1) (cap:=1) hbz rfl (bV _) (show 1≤maxLen by decide) rfl (fu _ [5])))
  intro h16 a H
  try have p16:=dF h16
  refine kP H (SR fun _ dW=>Rc rfl (ak dW rfl (Cd rfl ?_ ?_))) <;> clear H dW
  · intro h19 a H
    try have pY:=dT h19
    refine dH (fun _ fZ=>?_);refine gU kY aH [_] [_] H wn rfl rfl rfl rfl rfl (by intro i q h;match i,h with|0,h=>exact h|n+1,h=>simp at h) rfl rfl ?_;clear H;intro b21 a w alG H;refine kH H (ak fZ rfl ?_);clear H fZ;intro a H;refine lr H results139 rfl ?_
    first
      | exact H.rt (by rw [dL,ah (by omega),ah (by omega),ah (by omega),ah (by omega),ah (by omega),ah (by omega)];exact av.jo rfl (by decide))
      | (obtain ⟨Gz,hmz,hbz,H⟩:=H.dS
         first
           | exact H.rt (by rw [dL,au (by omega)];exact av.eO (n:=1) (cap:=1) hbz rfl (bV _) (show 1≤maxLen by decide) rfl (fu _ [1]))
           | exact H.rt (by rw [dL,ah (by omega),au (by omega)];exact av.eO (n:=2) (cap:=2) hbz rfl (bV _) (show 2≤maxLen by decide) rfl (fu _ [1,2]))
           | exact H.rt (by rw [dL,ah (by omega),ah (by omega),au (by omega)];exact av.eO (n:=1) (cap:=1) hbz rfl (bV _) (show 1≤maxLen by decide) rfl (fu _ [3]))
           | exact H.rt (by rw [dL,ah (by omega),ah (by omega),ah (by omega),au (by omega)];exact av.eO (n:=1) (cap:=1) hbz rfl (bV _) (show 1≤maxLen by decide) rfl (fu _ [6]))
           | exact H.rt (by rw [dL,ah (by omega),ah (by omega),ah (by omega),ah (by omega),au (by omega)];exact av.eO (n:=1) (cap:=1) hbz rfl (bV _) (show 1≤maxLen by decide) rfl (fu _ [4]))
           | exact H.rt (by rw [dL,ah (by omega),ah (by omega),ah (by omega),ah (by omega),ah (by omega),au (by omega)];exact av.eO (n:=1) (cap:=1) hbz rfl (bV _) (show 1≤maxLen by decide) rfl (fu _ [5])))
  intro h19 a H
  try have pY:=dF h19
  refine kP H (SR fun _ eG=>Rc rfl (ak eG rfl (Cd rfl ?_ ?_))) <;> clear H eG
  · intro h22 a H
    try have iA:=dT h22
    refine dH (fun _ gq=>?_);refine gU kY aH [_] [_] H wn rfl rfl rfl rfl rfl (by intro i q h;match i,h with|0,h=>exact h|n+1,h=>simp at h) rfl rfl ?_;clear H;intro b24 a w alI H;refine kH H (ak gq rfl ?_);clear H gq;intro a H;refine lr H results139 rfl ?_
    first
      | exact H.rt (by rw [dL,ah (by omega),ah (by omega),ah (by omega),ah (by omega),ah (by omega),ah (by omega)];exact av.jo rfl (by decide))
      | (obtain ⟨Gz,hmz,hbz,H⟩:=H.dS
         first
           | exact H.rt (by rw [dL,au (by omega)];exact av.eO (n:=1) (cap:=1) hbz rfl (bV _) (show 1≤maxLen by decide) rfl (fu _ [1]))
           | exact H.rt (by rw [dL,ah (by omega),au (by omega)];exact av.eO (n:=2) (cap:=2) hbz rfl (bV _) (show 2≤maxLen by decide) rfl (fu _ [1,2]))
           | exact H.rt (by rw [dL,ah (by omega),ah (by omega),au (by omega)];exact av.eO (n:=1) (cap:=1) hbz rfl (bV _) (show 1≤maxLen by decide) rfl (fu _ [3]))
           | exact H.rt (by rw [dL,ah (by omega),ah (by omega),ah (by omega),au (by omega)];exact av.eO (n:=1) (cap:=1) hbz rfl (bV _) (show 1≤maxLen by decide) rfl (fu _ [6]))
           | exact H.rt (by rw [dL,ah (by omega),ah (by omega),ah (by omega),ah (by omega),au (by omega)];exact av.eO (n:=1) (cap:=1) hbz rfl (bV _) (show 1≤maxLen by decide) rfl (fu _ [4]))
           | exact H.rt (by rw [dL,ah (by omega),ah (by omega),ah (by omega),ah (by omega),ah (by omega),au (by omega)];exact av.eO (n:=1) (cap:=1) hbz rfl (bV _) (show 1≤maxLen by decide) rfl (fu _ [5])))
  intro h22 a H
  try have iA:=dF h22
  refine kP H (Kc K2 (SR fun _ iB=>ak iB rfl ?_));clear H K2 iB;intro a H;refine lr H results139 rfl ?_
  first
    | exact H.rt (by rw [dL,ah (by omega),ah (by omega),ah (by omega),ah (by omega),ah (by omega),ah (by omega)];exact av.jo rfl (by decide))
    | (obtain ⟨Gz,hmz,hbz,H⟩:=H.dS
       first
         | exact H.rt (by rw [dL,au (by omega)];exact av.eO (n:=1) (cap:=1) hbz rfl (bV _) (show 1≤maxLen by decide) rfl (fu _ [1]))
         | exact H.rt (by rw [dL,ah (by omega),au (by omega)];exact av.eO (n:=2) (cap:=2) hbz rfl (bV _) (show 2≤maxLen by decide) rfl (fu _ [1,2]))
         | exact H.rt (by rw [dL,ah (by omega),ah (by omega),au (by omega)];exact av.eO (n:=1) (cap:=1) hbz rfl (bV _) (show 1≤maxLen by decide) rfl (fu _ [3]))
         | exact H.rt (by rw [dL,ah (by omega),ah (by omega),ah (by omega),au (by omega)];exact av.eO (n:=1) (cap:=1) hbz rfl (bV _) (show 1≤maxLen by decide) rfl (fu _ [6]))
         | exact H.rt (by rw [dL,ah (by omega),ah (by omega),ah (by omega),ah (by omega),au (by omega)];exact av.eO (n:=1) (cap:=1) hbz rfl (bV _) (show 1≤maxLen by decide) rfl (fu _ [4]))
         | exact H.rt (by rw [dL,ah (by omega),ah (by omega),ah (by omega),ah (by omega),ah (by omega),au (by omega)];exact av.eO (n:=1) (cap:=1) hbz rfl (bV _) (show 1≤maxLen by decide) rfl (fu _ [5])))
theorem ahs {G:GH} {l:List Int} {A:Option Addr} {n c k:Nat} (hv:av G (.sl 1 (l.map fun k=>[li k])) (.slice A n c)) (hk:k < l.length):∃ b o,A=some ⟨b,o,none⟩∧aL G b (o+k*1)=some (vi l[k]):=by
 obtain ⟨A',c',he,_,_,hg⟩:=hv.slice
 injection he with e1 e2 e3
 subst e1;obtain ⟨b,o,cs,h1,h2,h3,h4⟩:=hg k [li l[k]] (by simp [hk])
 simp only [aZ,av] at h4
 obtain ⟨v1,_,rfl,⟨rfl,-⟩,rfl⟩:=h4;exact ⟨b,o,h1,h3 0 _ rfl⟩
theorem aho (G:GH) (w0:World) (hG:Hold G w0) (l:List Int) (t:Int) (v:aj) (hv:av G (.sl 1 (l.map fun k=>[li k])) v) :
  Calls prog 151 #[v,vi t] w0 (bF w0 G fun u G'=>u=vi (nK (l.findIdx? fun x=>decide (t=x)))):=by
 obtain ⟨A,c,rfl,hc1,hc2,-⟩:=hv.slice;have hml:maxLen=9223372036854775807:=rfl;rw [bU] at *;refine eN [(0,_),(1,_)] func151 rfl ntmps151 rfl rfl hG ?_;intro a H;refine kP H (SR fun _ K1=>ak K1 rfl (SQ fun _ K2=>SR fun _ K3=>Rm rfl (Rl kY rfl (Rm rfl (Kz K3 (SB ?_))))));clear H K1 K3;intro a H;skip;refine eU (ι:=Nat) (Tc:=[(0,_),(1,_),(7,_)]) (Lc:=[]) (fun gh=>[(8,vi gh)]) (fun gh=>[]) (fun gh=>G) (fun gh=>gh≤l.length∧(l.take gh).findIdx? (fun x=>decide (t=x))=none) (fun gh=>l.length - gh) (0) (by exact (H).sub ⟨rfl,rfl,rfl,rfl,aD⟩) ?_ ?_
 ·exact ⟨ig _,rfl⟩
 clear H;intro gh a w hI H;obtain ⟨k,hgh⟩:∃ x,x=gh:=⟨_,rfl⟩;subst hgh;obtain ⟨hk,hno⟩:=hI;dsimp only [lca,bD] at H;refine kP H (SR fun _ K4=>Rc rfl (Kz K4 (SQ fun _ K5=>Cd rfl ?_ ?_))) <;> clear H K4
 ·intro h9 a H
  try have p9:=dT h9
  have hk2:k < l.length:=by omega
  obtain ⟨b,o,rfl,hrow⟩:=ahs hv hk2;refine kP H (Kc K5 (SQ fun _ K6=>SB (SR fun _ K7=>Rm rfl (ak K7 rfl (SR fun _ K8=>Rm rfl (Rm rfl (Rm rfl (Ri kY aH rfl rfl (Rg aH rfl (by assumption) ?_)))))))));clear H K5 K7;intro a H;refine kH H (Rc rfl (Kz K8 (Cd rfl ?_ ?_))) <;> clear H K8
  ·intro h16 a H
   try have p16:=dT h16
   exact kP H (SR fun _ K9=>Rm rfl (ak K9 rfl (LR results151 rfl fun H=>H.rt (by rw [uF hk2 hno (by simpa using p16)];rfl))))
  intro h16 a H
  try have p16:=dF h16
  refine kP H (Kc K6 (SC (Rd rfl (Rm rfl ?_))));clear H K6;intro a H;refine aI ?_;refine cK ((k+1)) (by exact (H).sub ⟨rfl,rfl,rfl,rfl,aD⟩) ?_ ?_
  ·exact ⟨by omega,Aw hk2 hno (by simpa using p16)⟩
  first|omega|(dsimp only;omega)
 intro h9 a H
 try have p9:=dF h9
 refine dQ ?_;refine K2 _ _ ?_;clear K2;exact kP H (SR fun _ aT=>ak aT rfl (LR results151 rfl fun H=>H.rt (by rw [show l.take k=l from jQ (by omega)] at hno;rw [hno];rfl)))
theorem abI (G:GH) (w0:World) (hG:Hold G w0) (l:List Int) (t:Int) (v:aj) (hv:av G (.sl 1 (l.map fun k=>[li k])) v) :
  Calls prog 138 #[v,vi t] w0 (bF w0 G fun u G'=>u=.bool (decide (t∈l))):=by
 obtain ⟨A,c,rfl,hc1,hc2,-⟩:=hv.slice;rw [bU] at *;refine eN [(0,_),(1,_)] func138 rfl ntmps138 rfl rfl hG ?_;intro a H;refine kP H (SR fun _ K1=>ak K1 rfl (SR fun _ K2=>Rm rfl (Rm rfl ?_)));clear H K1;intro a H;refine s_call acW H wn rfl (aho _ _ H.ro l t _ hv) rfl ?_;clear H;rintro v7 G7 a w rfl Ao H;refine kH H (Rc rfl (ak K2 rfl ?_));clear H K2;intro a H;refine lr H results138 rfl ?_
 exact H.rt (by
  congr 1
  cases h:l.findIdx? (fun x=>decide (t=x)) with
  | none =>
   rw [List.findIdx?_eq_none_iff] at h;have:t∉l:=fun hm=>absurd (h t hm) (by simp)
   simp [nK,this]
  | some i =>
   obtain ⟨hi,he,-⟩:=List.findIdx?_eq_some_iff_getElem.1 h
   have:t∈l:=by rw [rF he];exact iM _
   simp [nK,this])
def yP (e k:Int):Bool:=(lX k).2 && decide ((lX k).1.yQ∈dL e)
theorem UN (G:GH) (w0:World) (hG:Hold G w0) (e k:Int):Calls prog 125 #[vi e,vi k] w0 (bF w0 G fun u G'=>u=.bool (yP e k)):=by
 refine eN [(0,_),(1,_)] func125 rfl ntmps125 rfl rfl hG ?_;intro a H;refine kP H (SR fun _ K1=>ak K1 rfl (SR fun _ K2=>Rm rfl ?_));clear H K1;intro a H;refine s_call TJ H wn rfl (find_spec _ _ H.ro k) rfl ?_;clear H;rintro v9 G9 a w rfl xG H;dsimp only [jw.cells] at H;refine kH H (Rm rfl ?_);clear H;intro a H;(iterate 2 refine jN H wn rfl rfl rfl ?_;clear H;intro a H);refine eZ sD H wn rfl ?_;clear H;intro b5 a w hb5 H;refine bM sD 0 (vs:=[_,_,_,_,_,_]) _ H wn rfl rfl rfl rfl rfl rfl rfl rfl ?_;clear H;intro w H;dsimp only [List.set,setRow] at H;refine kH H (ak K2 rfl (SQ fun _ K3=>?_));clear H K2;intro a H
 by_cases c0:(lX k).2=true
 ·skip
  have om:∀ (bH:Nat) (v:aj) (G G':GH),(∀ k o,G k=some o→G' k=some o)→(fun (bH:Nat) (v:aj) (G:GH)=>match bH with|0=>v=.bool (lX k).2|1=>v=.bool (decide ((lX k).2=true))|2=>v=vi e|3=>(lX k).2=true→av G (.sl 1 ((dL e).map fun k=>[li k])) v|4=>v=(aJ b5 1)|5=>v=vi (lX k).1.yQ|6=>v=.bool (decide ((lX k).1.yQ∈dL e))|7=>v=.bool (yP e k)|_=>True) bH v G→(fun (bH:Nat) (v:aj) (G:GH)=>match bH with|0=>v=.bool (lX k).2|1=>v=.bool (decide ((lX k).2=true))|2=>v=vi e|3=>(lX k).2=true→av G (.sl 1 ((dL e).map fun k=>[li k])) v|4=>v=(aJ b5 1)|5=>v=vi (lX k).1.yQ|6=>v=.bool (decide ((lX k).1.yQ∈dL e))|7=>v=.bool (yP e k)|_=>True) bH v G':=by
   intro bH v G G' hm h
   match bH,h with
   | 0,h=>exact h
   | 1,h=>exact h
   | 2,h=>exact h
   | 3,h=>exact fun hf=>(h hf).mono hm
   | 4,h=>exact h
   | 5,h=>exact h
   | 6,h=>exact h
   | 7,h=>exact h
   | 8,h=>exact trivial
   | _+9,h=>exact trivial
  refine yJ (hmx) [[],[0],[0,1],[0,1,2],[0,1],[0,1,4],(ra 0 6),(ra 0 7),(ra 0 8)] [8] (by kernel_rfl) (by kernel_rfl) (fun (bH:Nat) (v:aj) (G:GH)=>match bH with|0=>v=.bool (lX k).2|1=>v=.bool (decide ((lX k).2=true))|2=>v=vi e|3=>(lX k).2=true→av G (.sl 1 ((dL e).map fun k=>[li k])) v|4=>v=(aJ b5 1)|5=>v=vi (lX k).1.yQ|6=>v=.bool (decide ((lX k).1.yQ∈dL e))|7=>v=.bool (yP e k)|_=>True) om H ?_ ?_
  ·clear H;refine aG ?_ ?_ ?_ ?_ (aG ?_ ?_ ?_ ?_ (aU (bN rfl) bZ))
   ·refine bW [] rfl trivial (by kernel_rfl) om rfl rfl ?_;intro bg a w G1 hG HT H fin;exact kH H (Rm rfl fun _ H=>fin H iJ rfl)
   ·refine bW [(0,12,_)] rfl ⟨fun _ _ h=>h,aD⟩ (by kernel_rfl) om rfl rfl ?_;intro bg a w G1 hG HT H fin;refine kH H (Rm rfl ?_);clear H;intro a H;exact fin H iJ (by simp)
   ·refine bW [(1,13,_)] rfl ⟨fun _ _ h=>h,aD⟩ (by kernel_rfl) om rfl rfl ?_;intro bg a w G1 hG HT H fin;exact kH H (YM (aC c0) rfl fun _ H=>fin H iJ rfl)
   ·refine bW [(2,14,_),(1,13,_)] rfl ⟨fun _ _ h=>h,fun _ _ h=>h,aD⟩ (by kernel_rfl) om rfl rfl ?_;intro bg a w G1 hG HT H fin;refine s_call acL H (wg H rfl rfl (aC c0)) rfl (afd _ _ H.ro e) rfl ?_;clear H;rintro v15 Em a w BK Dh H;exact fin H Dh (by first|exact fun _=>BK|rfl)
   ·refine bW [(1,13,_)] rfl ⟨fun _ _ h=>h,aD⟩ (by kernel_rfl) om rfl rfl ?_;intro bg a w G1 hG HT H fin;exact kH H (YF aey (aC c0) rfl fun _ H=>fin H iJ rfl)
   ·refine bW [(4,16,_),(1,13,_)] rfl ⟨fun _ _ h=>h,fun _ _ h=>h,aD⟩ (by kernel_rfl) om rfl rfl ?_;intro bg a w G1 hG HT H fin;exact kH H (YO aH 0 (aC c0) rfl fun _ H=>fin H iJ rfl)
   ·intro bg a w G1 _ bE hc hG HT hv;have H:=HT;clear bE;obtain ⟨u15,agT,BK⟩:=hv 3 15 (hc 3 (by decide)) rfl;(try dsimp only at BK);have H:=H.iY agT;have H:=H.aQ (hv 5 17 (hc 5 (by decide)) rfl) rfl;have H:=H.aQ (hv 1 13 (hc 1 (by decide)) rfl) rfl;have Hb:=H.full;have H:=Hb;clear hc;refine s_call acK H (wg H rfl rfl (aC c0)) rfl (abI _ _ H.ro _ _ _ (BK c0)) rfl ?_;clear H;rintro v18 Q6 a w rfl aff H;refine aI ⟨rfl,?_⟩;exact iP (by kernel_rfl) om rfl rfl HT Hb hG hv aff (rfl) H
   refine bW [(1,13,_),(6,18,_)] rfl ⟨fun _ _ h=>h,fun _ _ h=>h,aD⟩ (by kernel_rfl) om rfl rfl ?_;intro bg a w G1 hG HT H fin;refine kH H (Pt (aC c0) rfl ?_);clear H;intro a H;exact fin H iJ (by unfold yP;simp_all)
  clear H;intro a w G Ah H hv;have H:=H.aQ (hv 7 19 rfl rfl) rfl;clear hv;refine kH H (Ra rfl ?_);clear H;intro a H;refine aI ⟨rfl,?_⟩;refine K3 _ _ ?_;clear K3;refine lr H results125 rfl ?_;exact H.rt rfl
 skip;refine dI hmx [[],[0],[0,1],[0,1,2],[0,1],[0,1,4],(ra 0 6),(ra 0 7),(ra 0 8)] [8] (by kernel_rfl) [_,.bool (decide ((lX k).2=true)),undef,undef,undef,undef,undef,.bool (yP e k)] H (aG (Z0 rfl (Rm rfl)) ?_ (aN (j:=1) (by kernel_rfl) (fun _ _ _ _ _ h=>h) rfl rfl rfl rfl rfl (fun _ _ h=>aO h (aB (aK c0))) rfl (fun _=>rfl)) ?_ (aG (aN (j:=1) (by kernel_rfl) (fun _ _ _ _ _ h=>h) rfl rfl rfl rfl rfl (fun _ _ h=>aO h (aB (aK c0))) rfl (fun _=>rfl)) (aN (j:=1) (by kernel_rfl) (fun _ _ _ _ _ h=>h) rfl rfl rfl rfl rfl (fun _ _ h=>aO h (aB (aK c0))) rfl (fun _=>rfl)) (aN (j:=1) (by kernel_rfl) (fun _ _ _ _ _ h=>h) rfl rfl rfl rfl rfl (fun _ _ h=>aO h (aB (aK c0))) rfl (fun _=>rfl)) ?_ (aU (bN rfl) bZ))) ?_
 ·refine dO 0 12 rfl rfl fun _ a w G1 hG HT H fin=>?_;refine kH H (Rm rfl ?_);clear H;intro a H;exact fin H iJ (by show _=_;simp)
 ·intro bg a w G1 _ bE hc hG HT hv;have H:=HT;clear bE;have H:=H.aQ (hv 2 14 (hc 2 (by decide)) rfl) rfl;have H:=H.aQ (hv 1 13 (hc 1 (by decide)) rfl) rfl;have Hb:=H.full;have H:=Hb;clear hc;refine kH H (Ks (aK c0) rfl ?_);clear H;intro a H;refine aI ⟨rfl,?_⟩;exact iP (by kernel_rfl) (fun _ _ _ _ _ h=>h) rfl rfl HT Hb hG hv (fun _ _ h=>h) (by first|exact fun _=>BK|rfl) H
 ·refine dG 1 13 6 18 rfl rfl fun _ a w G1 hG HT H fin=>?_;refine kH H (Pf (aK c0) rfl ?_);clear H;intro a H;exact fin H iJ (by show _=_;unfold yP;simp_all)
 clear H;intro a w G Ah H hv;have H:=H.aQ (hv 7 19 rfl rfl) rfl;clear hv;refine kH H (Ra rfl ?_);clear H;intro a H;refine aI ⟨rfl,?_⟩;refine K3 _ _ ?_;clear K3;refine lr H results125 rfl ?_;exact H.rt rfl
def tT (k v:Int):Int:=if (lX k).2=false then 4 else if v < (lX k).1.low∨(lX k).1.high < v then 5 else 0
theorem MG (G:GH) (w0:World) (hG:Hold G w0) (k x:Int):Calls prog 126 #[vi k,vi x] w0 (bF w0 G fun u G'=>u=vi (tT k x)):=by
 refine eN [(0,_),(1,_)] func126 rfl ntmps126 rfl rfl hG ?_;intro a H;refine kP H (SR fun _ K1=>ak K1 rfl (SR fun _ K2=>Rm rfl ?_));clear H K1;intro a H;refine s_call TJ H wn rfl (find_spec _ _ H.ro k) rfl ?_;clear H;rintro v9 G9 a w rfl xG H;dsimp only [jw.cells] at H;refine kH H (Rm rfl ?_);clear H;intro a H;(iterate 2 refine jN H wn rfl rfl rfl ?_;clear H;intro a H);refine eZ sD H wn rfl ?_;clear H;intro b5 a w hb5 H;refine bM sD 0 (vs:=[_,_,_,_,_,_]) _ H wn rfl rfl rfl rfl rfl rfl rfl rfl ?_;clear H;intro w H;dsimp only [List.set,setRow] at H;refine kH H (ak K2 rfl (SQ fun _ K3=>SB (SR fun _ K4=>Rm rfl (Rn rfl (ak K4 rfl (Cd rfl ?_ ?_)))))) <;> clear H K2 K4
 ·intro h12 a H
  try have pX:=dT h12
  exact kP H (SR fun _ K5=>ak K5 rfl (LR results126 rfl fun H=>H.rt (by unfold tT;simp_all)))
 intro h12 a H
 try have pX:=dF h12
 refine kP H (SR fun _ K6=>Rm rfl (aW aez aH 0 rfl rfl (Rc rfl (Rm rfl (Sp 20 rfl ?_ ?_))))) <;> clear H
 ·intro h20 a H
  try have BR:=dT h20
  exact kH H (aS h20 rfl (aS h20 rfl (Pt h20 rfl (ak K6 rfl (Ct rfl rfl (SR fun _ K7=>ak K7 rfl (LR results126 rfl fun H=>H.rt (by unfold tT;simp_all))))))))
 intro h20 a H
 try have BR:=dF h20
 refine kH H (YM h20 rfl (YF aeA h20 rfl (YO aH 0 h20 rfl (YC h20 rfl (Pf h20 rfl (ak K6 rfl (Cd rfl ?_ ?_))))))) <;> clear H K6
 ·intro nZ a H
  try have tq:=dT nZ
  exact kP H (SR fun _ K8=>ak K8 rfl (LR results126 rfl fun H=>H.rt (by unfold tT;simp_all)))
 intro nZ a H
 try have tq:=dF nZ
 exact kP H (Kc K3 (SR fun _ K9=>ak K9 rfl (LR results126 rfl fun H=>H.rt (by unfold tT;simp_all))))
end
section
open Go.RowKit
theorem uW:bY prog 187 0 0:=⟨by kernel_rfl⟩
theorem TH:∀ args w,(callFunc 125 args).run prog w=.ok (.enter 125 args) w:=enters func125 rfl (by kernel_rfl)
theorem Ut:bY prog 187 1 1:=⟨by kernel_rfl⟩
theorem M0:∀ args w,(callFunc 126 args).run prog w=.ok (.enter 126 args) w:=enters func126 rfl (by kernel_rfl)
def Fj (q:Option Int) (k:Int):Bool:=match q with|some j=>decide (k < j)|none=>false
def zU (e:Int):Option Int→List iH→Int
 | _,[]=>0
 | q,p :: r=>if yP e p.key=false then 4 else if q=some p.key then 7 else if Fj q p.key=true then 6 else if tT p.key p.value=0 then zU e (some p.key) r else tT p.key p.value
def xV (l:List iH) (k:Nat):Option Int:=if k=0 then none else l[k - 1]?.map iH.key
def gI (e:Int) (l:List iH):Int:=if e < 1∨10 < e then 3 else zU e none l
theorem abp {e:Int} {l:List iH} {k:Nat} (h:k < l.length):zU e (xV l k) (l.drop k)=if yP e l[k].key=false then 4 else if xV l k=some l[k].key then 7 else if Fj (xV l k) l[k].key=true then 6 else if tT l[k].key l[k].value=0 then zU e (xV l (k+1)) (l.drop (k+1)) else tT l[k].key l[k].value:=by
 rw [kS h,zU]
 have:xV l (k+1)=some l[k].key:=by rw [xV,ah (by omega),Nat.add_sub_cancel,gY h];rfl
 rw [this]
theorem KM {l:List iH} {k:Nat} (h:k=0):xV l k=none:=au h
theorem Xx (G:GH) (w0:World) (hG:Hold G w0) (e:Int) (l:List iH) (v:aj) (hv:av G (.sl 2 (l.map iH.dat)) v) :
  Calls prog 90 #[vi e,v] w0 (bF w0 G fun u G'=>u=vi (gI e l)):=by
 obtain ⟨A,c,rfl,hc1,hc2,-⟩:=hv.slice;have hml:maxLen=9223372036854775807:=rfl;rw [bU] at *;refine eN [(0,_),(1,_)] func90 rfl ntmps90 rfl rfl hG ?_;intro a H;refine kP H (SR fun _ K1=>ak K1 rfl (SQ fun _ K2=>SR fun _ K3=>Rm rfl (Rc rfl (Rm rfl (Sp 10 rfl ?_ ?_))))) <;> clear H K1
 ·intro h10 a H
  try have lN:=dT h10
  refine kH H (aS h10 rfl (Pt h10 rfl (Kz K3 (Ct rfl rfl (SR fun _ K4=>ak K4 rfl ?_)))));clear H K3 K4;intro a H;refine lr H results90 rfl ?_
  first
   | exact H.rt (aF vi (by rw [ah (by simpa using p61)] at heq;rw [gI,ah (by omega)];exact heq))
   | exact H.rt (aF vi (by rw [au (by simpa using h21)] at heq;rw [gI,ah (by omega)];exact heq))
   | exact H.rt (aF vi (by rw [gI,ah (by omega)];exact heq))
   | exact H.rt (aF vi (by rw [gI,ah (by omega),← heq,show l.drop k=[] from iq (by omega)];rfl))
   | exact H.rt (aF vi (by rw [gI,au (by omega)]))
 intro h10 a H
 try have lN:=dF h10
 refine kH H (YM h10 rfl (YC h10 rfl (Pf h10 rfl (Kz K3 (Cd rfl ?_ ?_))))) <;> clear H K3
 ·intro gu a H
  try have qF:=dT gu
  refine kP H (SR fun _ K5=>ak K5 rfl ?_);clear H K5;intro a H;refine lr H results90 rfl ?_
  first
   | exact H.rt (aF vi (by rw [ah (by simpa using p61)] at heq;rw [gI,ah (by omega)];exact heq))
   | exact H.rt (aF vi (by rw [au (by simpa using h21)] at heq;rw [gI,ah (by omega)];exact heq))
   | exact H.rt (aF vi (by rw [gI,ah (by omega)];exact heq))
   | exact H.rt (aF vi (by rw [gI,ah (by omega),← heq,show l.drop k=[] from iq (by omega)];rfl))
   | exact H.rt (aF vi (by rw [gI,au (by omega)]))
 intro gu a H
 try have qF:=dF gu
 refine kP H (Kc K2 (SQ fun _ K6=>SR fun _ K7=>Rm rfl (Rl oU rfl (Rm rfl (Kz K7 (SB ?_))))));clear H K2 K7;intro a H;skip;refine eU (ι:=Nat × GH) (Tc:=[(0,_),(1,_),(14,_),(15,_)]) (Lc:=[]) (fun gh=>[(16,vi gh.1)]) (fun gh=>[]) (fun gh=>gh.2) (fun gh=>gh.1≤l.length∧zU e (xV l gh.1) (l.drop gh.1)=zU e none l∧(∀ b o,G b=some o→gh.2 b=some o)) (fun gh=>l.length - gh.1) ((0,G)) (by exact (H).sub ⟨rfl,rfl,rfl,rfl,rfl,aD⟩) ?_ ?_
 ·exact ⟨ig _,rfl,fun _ _ h=>h⟩
 clear H;intro gh a w hI H;obtain ⟨k,g⟩:=gh;dsimp only at hI H;obtain ⟨hk,heq,hgm⟩:=hI;dsimp only [lca,bD] at H;refine kP H (SR fun _ K8=>Rc rfl (Kz K8 (SQ fun _ K9=>Cd rfl ?_ ?_))) <;> clear H K8
 ·intro eu a H
  try have mI:=dT eu
  have hk2:k < l.length:=by omega
  have DC:=hv.mono hgm;obtain ⟨b,o,rfl,hrow⟩:=KO DC hk2
  obtain ⟨pk,hpk⟩:∃ pk,0 < k→aL g b (o+(k - 1)*2+0)=some (vi pk)∧xV l k=some pk:=by
   by_cases h0:0 < k
   ·obtain ⟨b',o',he,hr'⟩:=KO DC (show k - 1 < l.length by omega)
    injection he with he
    injection he with e1 e2 e3
    subst e1;subst e2;exact ⟨_,fun _=>⟨hr' 0 _ rfl,by rw [xV,ah (by omega),gY (by omega)];rfl⟩⟩
   exact ⟨0,fun h=>absurd h h0⟩
  rw [abp hk2] at heq;have alS:=heq;refine kP H (Kc K9 (SQ fun _ aT=>SB (SR fun _ bC=>Rm rfl (Ri oU nA rfl rfl ?_))));clear H K9;intro a H;refine bK nA (cs:=[_,_]) H wn rfl rfl (fun j v hj=>H.hp.aL (hrow j v hj)) rfl ?_;clear H;intro a H;refine eZ nA H wn rfl ?_;clear H;intro b6 a w hb6 H;refine kH H (Ra rfl ?_);clear H;intro a H;refine bM nA 0 (vs:=[_,_]) _ H wn rfl rfl rfl rfl rfl rfl rfl rfl ?_;clear H;intro w H;dsimp only [List.set,setRow] at H;refine bC _ _ ?_;clear bC;refine qy (ι:=GH) (Tc:=[(0,_),(1,_),(6,_),(14,_),(15,_),(16,_)]) (Lc:=[(_,_)]) (fun gh=>[]) (fun gh=>[]) (fun gh=>gh) (fun gh=>(if tT l[k].key l[k].value=0 then zU e (xV l (k+1)) (l.drop (k+1)) else tT l[k].key l[k].value)=zU e none l∧(∀ b o,g b=some o→gh b=some o)) (by exact (H).sub ⟨rfl,rfl,rfl,rfl,rfl,rfl,aD⟩) ?_ ?_
  ·skip;refine kP H (SB (SR fun _ bJ=>Rm rfl (aW uW aH 0 rfl rfl ?_)));clear H;intro a H;refine s_call TH H wn rfl (UN _ _ H.ro e l[k].key) rfl ?_;clear H;rintro v25 Zv a w rfl Dp H;replace hrow:=fun j u hj=>aM Dp (hrow j u hj);refine kH H (Rn rfl (ak bJ rfl (Cd rfl ?_ ?_))) <;> clear H bJ
   ·intro h21 a H
    try have qb:=dT h21
    refine kP H (SR fun _ bT=>ak bT rfl ?_);clear H bT;intro a H;refine lr H results90 rfl ?_
    first
     | exact H.rt (aF vi (by rw [ah (by simpa using p61)] at heq;rw [gI,ah (by omega)];exact heq))
     | exact H.rt (aF vi (by rw [au (by simpa using h21)] at heq;rw [gI,ah (by omega)];exact heq))
     | exact H.rt (aF vi (by rw [gI,ah (by omega)];exact heq))
     | exact H.rt (aF vi (by rw [gI,ah (by omega),← heq,show l.drop k=[] from iq (by omega)];rfl))
     | exact H.rt (aF vi (by rw [gI,au (by omega)]))
   intro h21 a H
   try have qb:=dF h21
   rw [ah (by simpa using h21)] at heq;refine bG (fun _ bS=>?_)
   by_cases c0:0 < (k:Int)
   ·skip
    by_cases c1:l[k].key=pk
    ·skip;refine dI hmx [[],[0],[0,1],[0,1,2],(ra 0 4),[0,1,2],[0,1,2],[0,1,2,6],[0,1,2,5,6,7],[0,1,2,5,6,7,8],[0,1,2,5,6,7,8,9],(ra 0 11),(ra 0 12),(ra 0 13)] [13] (by kernel_rfl) [_,_,_,_,vi l[k].key,_,_,vi ((k - 1:Nat):Int),_,_,_,_,_] H (aG (Z0 rfl (Rm rfl)) (Z1 0 28 rfl (Rc rfl)) (Z1 1 29 rfl (Rm rfl)) (Z1 2 30 rfl (YF uW (aC c0) rfl)) (aG (Z2 3 31 2 30 rfl (YO aH 0 (aC c0) rfl)) (Z1 2 30 rfl (YM (aC c0) rfl)) (Z1 2 30 rfl (YM (aC c0) rfl)) ?_ (aG (Z3 5 33 7 35 2 30 rfl (YI oU nA (aC c0) rfl rfl)) (Z2 8 36 2 30 rfl (YF uW (aC c0) rfl)) (X2 9 37 2 30 rfl fun hG=>YR aH (aC c0) rfl (aM hG (aM Dp (hpk (by omega)).1))) (Z3 4 32 10 38 2 30 rfl (YC (aC c0) rfl)) (aU (Z2 2 30 11 39 rfl (Pt (aC c0) rfl)) (aU (bN rfl) bZ))))) ?_
     ·refine dG 6 34 2 30 rfl rfl fun _ a w G1 hG HT H fin=>?_;refine mW _ H (wg H rfl rfl (aC c0)) rfl rfl rfl (by omega) (by omega) rfl ?_;clear H;intro a H;exact fin H iJ (by show _=_;first|rfl|exact aF vi (by omega))
     clear H;intro a w G qQ H hv;have H:=H.aQ (hv 12 40 rfl rfl) rfl;clear hv;refine kH H (Ra rfl ?_);clear H;intro a H;refine aI ⟨rfl,?_⟩;refine bS _ _ ?_;clear bS;refine qL H rfl (aC c1) ?_;refine bG (fun _ dD=>?_);rw [au (by rw [(hpk (by omega)).2,c1])] at heq;refine kP H (SC (aV dD rfl ?_));clear H dD;intro a H;refine lr H results90 rfl ?_
     first
      | exact H.rt (aF vi (by rw [ah (by simpa using p61)] at heq;rw [gI,ah (by omega)];exact heq))
      | exact H.rt (aF vi (by rw [au (by simpa using h21)] at heq;rw [gI,ah (by omega)];exact heq))
      | exact H.rt (aF vi (by rw [gI,ah (by omega)];exact heq))
      | exact H.rt (aF vi (by rw [gI,ah (by omega),← heq,show l.drop k=[] from iq (by omega)];rfl))
      | exact H.rt (aF vi (by rw [gI,au (by omega)]))
    skip;refine dI hmx [[],[0],[0,1],[0,1,2],(ra 0 4),[0,1,2],[0,1,2],[0,1,2,6],[0,1,2,5,6,7],[0,1,2,5,6,7,8],[0,1,2,5,6,7,8,9],(ra 0 11),(ra 0 12),(ra 0 13)] [13] (by kernel_rfl) [_,_,_,_,vi l[k].key,_,_,vi ((k - 1:Nat):Int),_,_,_,_,_] H (aG (Z0 rfl (Rm rfl)) (Z1 0 28 rfl (Rc rfl)) (Z1 1 29 rfl (Rm rfl)) (Z1 2 30 rfl (YF uW (aC c0) rfl)) (aG (Z2 3 31 2 30 rfl (YO aH 0 (aC c0) rfl)) (Z1 2 30 rfl (YM (aC c0) rfl)) (Z1 2 30 rfl (YM (aC c0) rfl)) ?_ (aG (Z3 5 33 7 35 2 30 rfl (YI oU nA (aC c0) rfl rfl)) (Z2 8 36 2 30 rfl (YF uW (aC c0) rfl)) (X2 9 37 2 30 rfl fun hG=>YR aH (aC c0) rfl (aM hG (aM Dp (hpk (by omega)).1))) (Z3 4 32 10 38 2 30 rfl (YC (aC c0) rfl)) (aU (Z2 2 30 11 39 rfl (Pt (aC c0) rfl)) (aU (bN rfl) bZ))))) ?_
    ·refine dG 6 34 2 30 rfl rfl fun _ a w G1 hG HT H fin=>?_;refine mW _ H (wg H rfl rfl (aC c0)) rfl rfl rfl (by omega) (by omega) rfl ?_;clear H;intro a H;exact fin H iJ (by show _=_;first|rfl|exact aF vi (by omega))
    clear H;intro a w G qQ H hv;have H:=H.aQ (hv 12 40 rfl rfl) rfl;clear hv;refine kH H (Ra rfl ?_);clear H;intro a H;refine aI ⟨rfl,?_⟩;refine bS _ _ ?_;clear bS;refine lI H rfl (aK c1) ?_;refine bG (fun _ dM=>?_)
    have q1:¬ (0 < (k:Int)∧l[k].key=pk):=by first|exact fun h=>c1 h.2|exact fun h=>c0 h.1
    rw [ah (fun h=>q1 (by
     by_cases h0:0 < k
     ·rw [(hpk h0).2] at h
      injection h with h
      exact ⟨by omega,h.symm⟩
     rw [KM (by omega)] at h
     cases h))] at heq
    by_cases c3:l[k].key < pk
    ·skip;refine dI hmx [[],[0],[0,1],[0,1,2],(ra 0 4),[0,1,2],[0,1,2],[0,1,2,6],[0,1,2,5,6,7],[0,1,2,5,6,7,8],[0,1,2,5,6,7,8,9],(ra 0 11),(ra 0 12),(ra 0 13)] [13] (by kernel_rfl) [_,_,_,_,vi l[k].key,_,_,vi ((k - 1:Nat):Int),_,_,vi pk,_,_] H (aG (Z0 rfl (Rm rfl)) (Z1 0 42 rfl (Rc rfl)) (Z1 1 43 rfl (Rm rfl)) (Z1 2 44 rfl (YF uW (aC c0) rfl)) (aG (Z2 3 45 2 44 rfl (YO aH 0 (aC c0) rfl)) (Z1 2 44 rfl (YM (aC c0) rfl)) (Z1 2 44 rfl (YM (aC c0) rfl)) ?_ (aG (Z3 5 47 7 49 2 44 rfl (YI oU nA (aC c0) rfl rfl)) (Z2 8 50 2 44 rfl (YF uW (aC c0) rfl)) ?_ (Z3 4 46 10 52 2 44 rfl (YC (aC c0) rfl)) (aU (Z2 2 44 11 53 rfl (Pt (aC c0) rfl)) (aU (bN rfl) bZ))))) ?_
     ·refine dG 6 48 2 44 rfl rfl fun _ a w G1 hG HT H fin=>?_;refine mW _ H (wg H rfl rfl (aC c0)) rfl rfl rfl (by omega) (by omega) rfl ?_;clear H;intro a H;exact fin H iJ (by show _=_;first|rfl|exact aF vi (by omega))
     ·refine dG 9 51 2 44 rfl rfl fun _ a w G1 hG HT H fin=>?_;refine tF aH H (wg H rfl rfl (aC c0)) rfl (H.hp.aL (aM hG (aM qQ (aM Dp (hpk (by omega)).1)))) rfl ?_;clear H;intro a H;exact fin H iJ rfl
     clear H;intro a w G ni H hv;have H:=H.aQ (hv 12 54 rfl rfl) rfl;clear hv;refine kH H (Ra rfl ?_);clear H;intro a H;refine aI ⟨rfl,?_⟩;refine dM _ _ ?_;clear dM;refine qL H rfl (aC c3) ?_;refine bG (fun _ cZ=>?_);rw [au (by rw [(hpk (by omega)).2];exact aC c3)] at heq;refine kP H (SC (aV cZ rfl ?_));clear H cZ;intro a H;refine lr H results90 rfl ?_
     first
      | exact H.rt (aF vi (by rw [ah (by simpa using p61)] at heq;rw [gI,ah (by omega)];exact heq))
      | exact H.rt (aF vi (by rw [au (by simpa using h21)] at heq;rw [gI,ah (by omega)];exact heq))
      | exact H.rt (aF vi (by rw [gI,ah (by omega)];exact heq))
      | exact H.rt (aF vi (by rw [gI,ah (by omega),← heq,show l.drop k=[] from iq (by omega)];rfl))
      | exact H.rt (aF vi (by rw [gI,au (by omega)]))
    skip;refine dI hmx [[],[0],[0,1],[0,1,2],(ra 0 4),[0,1,2],[0,1,2],[0,1,2,6],[0,1,2,5,6,7],[0,1,2,5,6,7,8],[0,1,2,5,6,7,8,9],(ra 0 11),(ra 0 12),(ra 0 13)] [13] (by kernel_rfl) [_,_,_,_,vi l[k].key,_,_,vi ((k - 1:Nat):Int),_,_,vi pk,_,_] H (aG (Z0 rfl (Rm rfl)) (Z1 0 42 rfl (Rc rfl)) (Z1 1 43 rfl (Rm rfl)) (Z1 2 44 rfl (YF uW (aC c0) rfl)) (aG (Z2 3 45 2 44 rfl (YO aH 0 (aC c0) rfl)) (Z1 2 44 rfl (YM (aC c0) rfl)) (Z1 2 44 rfl (YM (aC c0) rfl)) ?_ (aG (Z3 5 47 7 49 2 44 rfl (YI oU nA (aC c0) rfl rfl)) (Z2 8 50 2 44 rfl (YF uW (aC c0) rfl)) ?_ (Z3 4 46 10 52 2 44 rfl (YC (aC c0) rfl)) (aU (Z2 2 44 11 53 rfl (Pt (aC c0) rfl)) (aU (bN rfl) bZ))))) ?_
    ·refine dG 6 48 2 44 rfl rfl fun _ a w G1 hG HT H fin=>?_;refine mW _ H (wg H rfl rfl (aC c0)) rfl rfl rfl (by omega) (by omega) rfl ?_;clear H;intro a H;exact fin H iJ (by show _=_;first|rfl|exact aF vi (by omega))
    ·refine dG 9 51 2 44 rfl rfl fun _ a w G1 hG HT H fin=>?_;refine tF aH H (wg H rfl rfl (aC c0)) rfl (H.hp.aL (aM hG (aM qQ (aM Dp (hpk (by omega)).1)))) rfl ?_;clear H;intro a H;exact fin H iJ rfl
    clear H;intro a w G ni H hv;have H:=H.aQ (hv 12 54 rfl rfl) rfl;clear hv;refine kH H (Ra rfl ?_);clear H;intro a H;refine aI ⟨rfl,?_⟩;refine dM _ _ ?_;clear dM;refine lI H rfl (aK c3) ?_;refine fT ?_;refine ⟨_,by exact (H).sub ⟨rfl,rfl,rfl,rfl,rfl,rfl,aD⟩,?_⟩
    have q2:¬ (0 < (k:Int)∧l[k].key < pk):=by first|exact fun h=>c3 h.2|exact fun h=>c0 h.1
    rw [ah (fun h=>q2 (by
     by_cases h0:0 < k
     ·rw [(hpk h0).2] at h;exact ⟨by omega,rF h⟩
     rw [KM (by omega)] at h
     cases h))] at heq
    exact ⟨heq,fun b o h=>ni b o (qQ b o (Dp b o h))⟩
   skip;refine dI hmx [[],[0],[0,1],[0,1,2],(ra 0 4),[0,1,2],[0,1,2],[0,1,2,6],[0,1,2,5,6,7],[0,1,2,5,6,7,8],[0,1,2,5,6,7,8,9],(ra 0 11),(ra 0 12),(ra 0 13)] [13] (by kernel_rfl) [_,_,_,undef,undef,undef,undef,undef,undef,undef,undef,undef,_] H (aG (Z0 rfl (Rm rfl)) (Z1 0 28 rfl (Rc rfl)) (Z1 1 29 rfl (Rm rfl)) (aN (j:=2) (by kernel_rfl) (fun _ _ _ _ _ h=>h) rfl rfl rfl rfl rfl (fun _ _ h=>aO h (aB (aK c0))) rfl (fun _=>rfl)) (aG (aN (j:=2) (by kernel_rfl) (fun _ _ _ _ _ h=>h) rfl rfl rfl rfl rfl (fun _ _ h=>aO h (aB (aK c0))) rfl (fun _=>rfl)) (aN (j:=2) (by kernel_rfl) (fun _ _ _ _ _ h=>h) rfl rfl rfl rfl rfl (fun _ _ h=>aO h (aB (aK c0))) rfl (fun _=>rfl)) (aN (j:=2) (by kernel_rfl) (fun _ _ _ _ _ h=>h) rfl rfl rfl rfl rfl (fun _ _ h=>aO h (aB (aK c0))) rfl (fun _=>rfl)) (aN (j:=2) (by kernel_rfl) (fun _ _ _ _ _ h=>h) rfl rfl rfl rfl rfl (fun _ _ h=>aO h (aB (aK c0))) rfl (fun _=>rfl)) (aG (aN (j:=2) (by kernel_rfl) (fun _ _ _ _ _ h=>h) rfl rfl rfl rfl rfl (fun _ _ h=>aO h (aB (aK c0))) rfl (fun _=>rfl)) (aN (j:=2) (by kernel_rfl) (fun _ _ _ _ _ h=>h) rfl rfl rfl rfl rfl (fun _ _ h=>aO h (aB (aK c0))) rfl (fun _=>rfl)) (aN (j:=2) (by kernel_rfl) (fun _ _ _ _ _ h=>h) rfl rfl rfl rfl rfl (fun _ _ h=>aO h (aB (aK c0))) rfl (fun _=>rfl)) (aN (j:=2) (by kernel_rfl) (fun _ _ _ _ _ h=>h) rfl rfl rfl rfl rfl (fun _ _ h=>aO h (aB (aK c0))) rfl (fun _=>rfl)) (aU (Z2 2 30 11 39 rfl (Pf (aK c0) rfl)) (aU (bN rfl) bZ))))) ?_
   clear H;intro a w G qQ H hv;have H:=H.aQ (hv 12 40 rfl rfl) rfl;clear hv;refine kH H (Ra rfl ?_);clear H;intro a H;refine aI ⟨rfl,?_⟩;refine bS _ _ ?_;clear bS;refine lI H rfl rfl ?_;refine bG (fun _ dW=>?_)
   have q1:¬ (0 < (k:Int)∧l[k].key=pk):=by first|exact fun h=>c1 h.2|exact fun h=>c0 h.1
   rw [ah (fun h=>q1 (by
    by_cases h0:0 < k
    ·rw [(hpk h0).2] at h
     injection h with h
     exact ⟨by omega,h.symm⟩
    rw [KM (by omega)] at h
    cases h))] at heq
   refine dI hmx [[],[0],[0,1],[0,1,2],(ra 0 4),[0,1,2],[0,1,2],[0,1,2,6],[0,1,2,5,6,7],[0,1,2,5,6,7,8],[0,1,2,5,6,7,8,9],(ra 0 11),(ra 0 12),(ra 0 13)] [13] (by kernel_rfl) [_,_,_,undef,undef,undef,undef,undef,undef,undef,undef,undef,_] H (aG (Z0 rfl (Rm rfl)) (Z1 0 42 rfl (Rc rfl)) (Z1 1 43 rfl (Rm rfl)) (aN (j:=2) (by kernel_rfl) (fun _ _ _ _ _ h=>h) rfl rfl rfl rfl rfl (fun _ _ h=>aO h (aB (aK c0))) rfl (fun _=>rfl)) (aG (aN (j:=2) (by kernel_rfl) (fun _ _ _ _ _ h=>h) rfl rfl rfl rfl rfl (fun _ _ h=>aO h (aB (aK c0))) rfl (fun _=>rfl)) (aN (j:=2) (by kernel_rfl) (fun _ _ _ _ _ h=>h) rfl rfl rfl rfl rfl (fun _ _ h=>aO h (aB (aK c0))) rfl (fun _=>rfl)) (aN (j:=2) (by kernel_rfl) (fun _ _ _ _ _ h=>h) rfl rfl rfl rfl rfl (fun _ _ h=>aO h (aB (aK c0))) rfl (fun _=>rfl)) (aN (j:=2) (by kernel_rfl) (fun _ _ _ _ _ h=>h) rfl rfl rfl rfl rfl (fun _ _ h=>aO h (aB (aK c0))) rfl (fun _=>rfl)) (aG (aN (j:=2) (by kernel_rfl) (fun _ _ _ _ _ h=>h) rfl rfl rfl rfl rfl (fun _ _ h=>aO h (aB (aK c0))) rfl (fun _=>rfl)) (aN (j:=2) (by kernel_rfl) (fun _ _ _ _ _ h=>h) rfl rfl rfl rfl rfl (fun _ _ h=>aO h (aB (aK c0))) rfl (fun _=>rfl)) (aN (j:=2) (by kernel_rfl) (fun _ _ _ _ _ h=>h) rfl rfl rfl rfl rfl (fun _ _ h=>aO h (aB (aK c0))) rfl (fun _=>rfl)) (aN (j:=2) (by kernel_rfl) (fun _ _ _ _ _ h=>h) rfl rfl rfl rfl rfl (fun _ _ h=>aO h (aB (aK c0))) rfl (fun _=>rfl)) (aU (Z2 2 44 11 53 rfl (Pf (aK c0) rfl)) (aU (bN rfl) bZ))))) ?_
   clear H;intro a w G ni H hv;have H:=H.aQ (hv 12 54 rfl rfl) rfl;clear hv;refine kH H (Ra rfl ?_);clear H;intro a H;refine aI ⟨rfl,?_⟩;refine dW _ _ ?_;clear dW;refine lI H rfl rfl ?_;refine fT ?_;refine ⟨_,by exact (H).sub ⟨rfl,rfl,rfl,rfl,rfl,rfl,aD⟩,?_⟩
   have q2:¬ (0 < (k:Int)∧l[k].key < pk):=by first|exact fun h=>c3 h.2|exact fun h=>c0 h.1
   rw [ah (fun h=>q2 (by
    by_cases h0:0 < k
    ·rw [(hpk h0).2] at h;exact ⟨by omega,rF h⟩
    rw [KM (by omega)] at h
    cases h))] at heq
   exact ⟨heq,fun b o h=>ni b o (qQ b o (Dp b o h))⟩
  clear H;intro gh a w hI H;obtain ⟨g2,hgh⟩:∃ x,x=gh:=⟨_,rfl⟩;subst hgh;obtain ⟨heq,oK⟩:=hI;replace hrow:=fun j u hj=>aM oK (hrow j u hj);dsimp only [lca,bD] at H;refine kP H (SR fun _ fZ=>aW uW aH 0 rfl rfl (aW Ut aH 0 rfl rfl ?_));clear H;intro a H;refine s_call M0 H wn rfl (MG _ _ H.ro l[k].key l[k].value) rfl ?_;clear H;rintro v59 ZH a w rfl agp H;refine kH H (ak fZ rfl (SR fun _ eG=>Rm rfl (Rc rfl (Kz eG (Cd rfl ?_ ?_))))) <;> clear H fZ eG
  ·intro Da a H
   try have p61:=dT Da
   refine kP H (SR fun _ gq=>Rm rfl (ak gq rfl ?_));clear H gq;intro a H;refine lr H results90 rfl ?_
   first
    | exact H.rt (aF vi (by rw [ah (by simpa using p61)] at heq;rw [gI,ah (by omega)];exact heq))
    | exact H.rt (aF vi (by rw [au (by simpa using h21)] at heq;rw [gI,ah (by omega)];exact heq))
    | exact H.rt (aF vi (by rw [gI,ah (by omega)];exact heq))
    | exact H.rt (aF vi (by rw [gI,ah (by omega),← heq,show l.drop k=[] from iq (by omega)];rfl))
    | exact H.rt (aF vi (by rw [gI,au (by omega)]))
  intro Da a H
  try have p61:=dF Da
  refine kP H (Kc aT (SC (Rd rfl (Rm rfl ?_))));clear H aT;intro a H;refine aI ?_;refine cK ((k+1,ZH)) (by exact (H.dV (Pl:=[_]) (dz:=[]) [] (by decide) rfl).sub ⟨rfl,rfl,rfl,rfl,rfl,aD⟩) ?_ ?_
  ·(try dsimp only);exact ⟨by omega,by rw [au (by simpa using p61)] at heq;exact heq,fun b o h=>agp b o (oK b o (hgm b o h))⟩
  first|omega|(dsimp only;omega)
 intro eu a H
 try have mI:=dF eu
 refine dQ ?_;refine K6 _ _ ?_;clear K6;refine kP H (SR fun _ iB=>ak iB rfl ?_);clear H iB;intro a H;refine lr H results90 rfl ?_
 first
  | exact H.rt (aF vi (by rw [ah (by simpa using p61)] at heq;rw [gI,ah (by omega)];exact heq))
  | exact H.rt (aF vi (by rw [au (by simpa using h21)] at heq;rw [gI,ah (by omega)];exact heq))
  | exact H.rt (aF vi (by rw [gI,ah (by omega)];exact heq))
  | exact H.rt (aF vi (by rw [gI,ah (by omega),← heq,show l.drop k=[] from iq (by omega)];rfl))
  | exact H.rt (aF vi (by rw [gI,au (by omega)]))
end
section
open Go.RowKit
theorem gF:Ty prog 56 1 8 [.int .i64 0] false:=⟨by kernel_rfl,by kernel_rfl⟩
theorem ou:prog.underlying 168=some (.slice 56):=by kernel_rfl
theorem uV:∀ args w,(callFunc 89 args).run prog w=.ok (.enter 89 args) w:=enters func89 rfl (by kernel_rfl)
theorem vo (G:GH) (w0:World) (hG:Hold G w0) (n l h:Int):Calls prog 89 #[vi n,vi l,vi h] w0 (bF w0 G fun u G'=>u=.bool (decide (l≤n∧n≤h))∧G=G'):=by
 refine eN [(0,_),(1,_),(2,_)] func89 rfl ntmps89 rfl rfl hG ?_;intro a H;refine kP H (SR fun _ K1=>ak K1 rfl (SR fun _ K2=>Rm rfl (Rm rfl (Rc rfl (Rm rfl (Sp 10 rfl ?_ ?_)))))) <;> clear H K1
 ·intro h10 a H
  try have lN:=dT h10
  exact kH H (YM h10 rfl (YM h10 rfl (YC h10 rfl (Pt h10 rfl (ak K2 rfl (LR results89 rfl fun H=>H.rt ⟨aB (by first|(simp_all;done)|(simp_all;omega)),rfl⟩))))))
 intro h10 a H
 try have lN:=dF h10
 exact kH H (aY h10 rfl (Pf h10 rfl (ak K2 rfl (LR results89 rfl fun H=>H.rt ⟨aB (by first|(simp_all;done)|(simp_all;omega)),rfl⟩))))
def cu (b:Bool) (e:Int):Int:=if b=true then e else 0
theorem jf (G:GH) (w0:World) (hG:Hold G w0) (b:Bool) (e:Int):Calls prog 59 #[.bool b,vi e] w0 (bF w0 G fun u G'=>u=vi (cu b e)∧G=G'):=by
 refine eN [(0,_),(1,_)] func59 rfl ntmps59 rfl rfl hG ?_;intro a H;refine kP H (SR fun _ K1=>ak K1 rfl (SQ fun _ K2=>SR fun _ K3=>Rm rfl (Kz K3 (Cd rfl ?_ ?_)))) <;> clear H K1 K3
 ·intro h5 a H
  try have p5:=dT h5
  exact kP H (SR fun _ K4=>Rm rfl (ak K4 rfl (LR results59 rfl fun H=>H.rt ⟨aF vi (by simp_all [cu]),rfl⟩)))
 intro h5 a H
 try have p5:=dF h5
 exact kP H (Kc K2 (SR fun _ K5=>ak K5 rfl (LR results59 rfl fun H=>H.rt ⟨aF vi (by simp_all [cu]),rfl⟩)))
def dK:List Int→Int
 | []=>0
 | e :: r=>if e≠0 then e else dK r
theorem JN {l:List Int} {k:Nat} (h:k < l.length):dK (l.drop k)=if l[k]≠0 then l[k] else dK (l.drop (k+1)):=by
 rw [kS h,dK]
theorem pR (G:GH) (w0:World) (hG:Hold G w0) (l:List Int) (v:aj) (hv:av G (.sl 1 (l.map fun k=>[li k])) v) :
  Calls prog 54 #[v] w0 (bF w0 G fun u G'=>u=vi (dK l)∧G=G'):=by
 obtain ⟨A,c,rfl,hc1,hc2,hg⟩:=hv.slice;have hml:maxLen=9223372036854775807:=rfl;rw [bU] at *;refine eN [(0,_)] func54 rfl ntmps54 rfl rfl hG ?_;intro a H;refine kP H (SR fun _ K1=>ak K1 rfl (SQ fun _ K2=>SR fun _ K3=>Rm rfl (Rl ou rfl (Rm rfl (Kz K3 (SB ?_))))));clear H K1 K3;intro a H;skip;refine eU (ι:=Nat) (Tc:=[(5,_),(6,_)]) (Lc:=[]) (fun gh=>[(7,vi gh)]) (fun gh=>[]) (fun gh=>G) (fun gh=>gh≤l.length∧dK (l.drop gh)=dK l) (fun gh=>l.length - gh) (0) (by exact (H).sub ⟨rfl,rfl,rfl,aD⟩) ?_ ?_
 ·exact ⟨ig _,rfl⟩
 clear H;intro gh a w hI H;obtain ⟨k,hgh⟩:∃ x,x=gh:=⟨_,rfl⟩;subst hgh;obtain ⟨hk,he⟩:=hI;dsimp only [lca,bD] at H;refine kP H (SR fun _ K4=>Rc rfl (Kz K4 (SQ fun _ K5=>Cd rfl ?_ ?_))) <;> clear H K4
 ·intro h8 a H
  try have p8:=dT h8
  have hk2:k < l.length:=by omega
  obtain ⟨b,o,cs,rfl,hcl,hrow,hr⟩:=hg k [li l[k]] (by simp [hk2]);obtain ⟨v1,_,rfl,⟨rfl,-⟩,rfl⟩:∃ v vs,cs=v :: vs∧av G (li l[k]) v∧aZ G [] vs:=hr
  have hcell:aL G b (o+k*1)=some (vi l[k]):=by simpa using hrow 0 _ rfl
  refine kP H (Kc K5 (SQ fun _ K6=>SB (SR fun _ K7=>Ri ou gF rfl rfl (Rg gF rfl hcell (ak K7 rfl (SR fun _ K8=>Rm rfl (Rc rfl (Kz K8 (Cd rfl ?_ ?_))))))))) <;> clear H K5 K7 K8
  ·intro h12 a H
   try have pX:=dT h12
   exact kP H (SR fun _ K9=>Rm rfl (ak K9 rfl (LR results54 rfl fun H=>H.rt ⟨aF vi (by rw [JN hk2,au pX] at he;exact he),rfl⟩)))
  intro h12 a H
  try have pX:=dF h12
  refine kP H (Kc K6 (SC (Rd rfl (Rm rfl ?_))));clear H K6;intro a H;refine aI ?_;refine cK ((k+1)) (by exact (H).sub ⟨rfl,rfl,rfl,aD⟩) ?_ ?_
  ·exact ⟨by omega,by rw [JN hk2,ah pX] at he;exact he⟩
  first|omega|(dsimp only;omega)
 intro h8 a H
 try have p8:=dF h8
 refine dQ ?_;refine K2 _ _ ?_;clear K2;exact kP H (SR fun _ aT=>ak aT rfl (LR results54 rfl fun H=>H.rt ⟨aF vi (by rw [iq (by omega)] at he;exact he),rfl⟩))
def rD (fv:aj) (Gi:GH) (n:Nat) (E:Nat→Int):Prop:=∀ i,i < n→∀ (G1:GH) (w1:World),(∀ b o,Gi b=some o→G1 b=some o)→Hold G1 w1→sH prog fv [vi i] w1 (bF w1 G1 fun u G'=>u=vi (E i))
theorem rD.mono {fv:aj} {G G':GH} {n:Nat} {E:Nat→Int} (h:rD fv G n E) (hm:∀ b o,G b=some o→G' b=some o):rD fv G' n E:=fun i hi G1 w1 hG1=>h i hi G1 w1 fun b o hb=>hG1 b o (hm b o hb)
def kE (E:Nat→Int) (n:Nat):Int:=dK ((List.range n).map E)
theorem CO {E:Nat→Int} {n k:Nat} (h:k < n):dK (((List.range n).map E).drop k)=if E k≠0 then E k else dK (((List.range n).map E).drop (k+1)):=by
 rw [JN (by simpa using h)];simp
theorem Gf (G:GH) (w0:World) (hG:Hold G w0) (n:Nat) (E:Nat→Int) (fv:aj) (hn:n≤4611686018427387904) (hf:rD fv G n E) :
  Calls prog 84 #[vi n,fv] w0 (bF w0 G fun u G'=>u=vi (kE E n)):=by
 refine eN [(0,_),(1,_)] func84 rfl ntmps84 rfl rfl hG ?_;intro a H;refine kP H (SR fun _ K1=>ak K1 rfl (SQ fun _ K2=>SR fun _ K3=>Rm rfl (Rm rfl (Kz K3 (SB ?_)))));clear H K1 K3;intro a H;skip;refine eU (ι:=Nat × GH) (Tc:=[(1,_),(7,_)]) (Lc:=[]) (fun gh=>[(8,vi gh.1)]) (fun gh=>[]) (fun gh=>gh.2) (fun gh=>gh.1≤n∧dK (((List.range n).map E).drop gh.1)=kE E n∧(∀ b o,G b=some o→gh.2 b=some o)) (fun gh=>n - gh.1) ((0,G)) (by exact (H).sub ⟨rfl,rfl,rfl,aD⟩) ?_ ?_
 ·exact ⟨ig _,rfl,fun _ _ h=>h⟩
 clear H;intro gh a w hI H;obtain ⟨k,g⟩:=gh;dsimp only at hI H;obtain ⟨hk,he,hgm⟩:=hI;dsimp only [lca,bD] at H;refine kP H (SR fun _ K4=>Rc rfl (Kz K4 (SQ fun _ K5=>Cd rfl ?_ ?_))) <;> clear H K4
 ·intro h9 a H
  try have p9:=dT h9
  have hk2:k < n:=by omega
  refine kP H (Kc K5 (SQ fun _ K6=>SB (SR fun _ K7=>Rm rfl (ak K7 rfl (SR fun _ K8=>Rm rfl (Rm rfl ?_))))));clear H K5 K7;intro a H;refine oq H wn rfl rfl (hf k hk2 _ _ hgm H.ro) rfl ?_;clear H;rintro v13 FV a w rfl J9 H;refine kH H (ak K8 rfl (SR fun _ K9=>Rm rfl (Rc rfl (Kz K9 (Cd rfl ?_ ?_))))) <;> clear H K8 K9
  ·intro nZ a H
   try have tq:=dT nZ
   exact kP H (SR fun _ aT=>Rm rfl (ak aT rfl (LR results84 rfl fun H=>H.rt (aF vi (by rw [CO hk2,au tq] at he;exact he)))))
  intro nZ a H
  try have tq:=dF nZ
  refine kP H (Kc K6 (SC (Rd rfl (Rm rfl ?_))));clear H K6;intro a H;refine aI ?_;refine cK ((k+1,FV)) (by exact (H).sub ⟨rfl,rfl,rfl,aD⟩) ?_ ?_
  ·(try dsimp only);exact ⟨by omega,by rw [CO hk2,ah tq] at he;exact he,fun b o h=>J9 b o (hgm b o h)⟩
  first|omega|(dsimp only;omega)
 intro h9 a H
 try have p9:=dF h9
 refine dQ ?_;refine K2 _ _ ?_;clear K2;exact kP H (SR fun _ bC=>ak bC rfl (LR results84 rfl fun H=>H.rt (aF vi (by rw [iq (by simp;omega)] at he;exact he))))
def oL (id:Nat→Int) (i:Nat):Int:=if ¬ (1≤id i∧id i≤1073741824) then 18 else if 0 < i∧id i=id (i - 1) then 7 else if 0 < i∧id i < id (i - 1) then 6 else 0
theorem Pm (G:GH) (w0:World) (hG:Hold G w0) (i:Nat) (id:Nat→Int) (fv:aj) (hn:i≤4611686018427387904) (hf:rD fv G (i+1) id) :
  Calls prog 86 #[vi i,fv] w0 (bF w0 G fun u G'=>u=vi (oL id i)):=by
 refine eN [(0,_),(1,_)] func86 rfl ntmps86 rfl rfl hG ?_;intro a H;refine kP H (SR fun _ K1=>ak K1 rfl (SQ fun _ K2=>SB (SR fun _ K3=>Rm rfl (Rm rfl ?_))));clear H K1;intro a H;refine oq H wn rfl rfl (hf i (Nat.lt_succ_self _) _ _ (fun _ _ h=>h) H.ro) rfl ?_;clear H;rintro v8 G8 a w rfl yV H;refine s_call uV H wn rfl (vo _ _ H.ro (id i) 1 1073741824) rfl ?_;clear H;rintro v9 _ a w ⟨rfl,rfl⟩ - H;refine kH H (Rn rfl (ak K3 rfl (Cd rfl ?_ ?_))) <;> clear H K3
 ·intro h5 a H
  try have p5:=dT h5
  refine kP H (SR fun _ K4=>ak K4 rfl ?_);clear H K4;intro a H;refine lr H results86 rfl ?_
  exact H.rt (aF vi (by unfold oL;(repeat' split) <;> first|rfl|(exfalso;simp_all;done)|(exfalso;simp_all;omega)))
 intro h5 a H
 try have p5:=dF h5
 refine kP H (SR fun _ K5=>Rm rfl (Rc rfl (Rm rfl (Sp 14 rfl ?_ ?_)))) <;> clear H
 ·intro dN a H
  try have mH:=dT dN
  refine kH H (YM dN rfl (YM dN rfl ?_));clear H;intro a H;refine oq H (wg H rfl rfl dN) rfl rfl (hf i (Nat.lt_succ_self _) _ _ yV H.ro) rfl ?_;clear H;rintro v17 zJ a w rfl qU H;refine kH H (YM dN rfl (YM dN rfl ?_));clear H;intro a H;refine mW _ H (wg H rfl rfl dN) rfl rfl rfl (by omega) (by omega) rfl ?_;clear H;intro a H;rw [show ((i:Int) - 1)=((i - 1:Nat):Int) by omega] at H;refine oq H (wg H rfl rfl dN) rfl rfl (hf (i - 1) (by omega) _ _ (fun b o h=>qU b o (yV b o h)) H.ro) rfl ?_;clear H;rintro v21 LV a w rfl xE H;refine kH H (YC dN rfl (Pt dN rfl (ak K5 rfl (Cd rfl ?_ ?_)))) <;> clear H K5
  ·intro h11 a H
   try have nM:=dT h11
   refine kP H (SR fun _ K6=>ak K6 rfl ?_);clear H K6;intro a H;refine lr H results86 rfl ?_
   exact H.rt (aF vi (by unfold oL;(repeat' split) <;> first|rfl|(exfalso;simp_all;done)|(exfalso;simp_all;omega)))
  intro h11 a H
  try have nM:=dF h11
  refine kP H (SR fun _ K7=>Rm rfl (Rc rfl (Rm rfl (Sp 27 rfl ?_ ?_)))) <;> clear H
  ·intro h27 a H
   try have p27:=dT h27
   refine kH H (YM h27 rfl (YM h27 rfl ?_));clear H;intro a H;refine oq H (wg H rfl rfl h27) rfl rfl (hf i (Nat.lt_succ_self _) _ _ (fun b o h=>by first|exact xE b o (qU b o (yV b o h))|(exfalso;omega)) H.ro) rfl ?_;clear H;rintro v30 Cu a w rfl Dq H;refine kH H (YM h27 rfl (YM h27 rfl ?_));clear H;intro a H;refine mW _ H (wg H rfl rfl h27) rfl rfl rfl (by omega) (by omega) rfl ?_;clear H;intro a H;rw [show ((i:Int) - 1)=((i - 1:Nat):Int) by omega] at H;refine oq H (wg H rfl rfl h27) rfl rfl (hf (i - 1) (by omega) _ _ (fun b o h=>by first|exact Dq b o (xE b o (qU b o (yV b o h)))|(exfalso;omega)) H.ro) rfl ?_;clear H;rintro v34 Zy a w rfl Vq H;refine kH H (YC h27 rfl (Pt h27 rfl (ak K7 rfl (Cd rfl ?_ ?_)))) <;> clear H K7
   ·intro dY a H
    try have kG:=dT dY
    refine kP H (SR fun _ K8=>ak K8 rfl ?_);clear H K8;intro a H;refine lr H results86 rfl ?_
    exact H.rt (aF vi (by unfold oL;(repeat' split) <;> first|rfl|(exfalso;simp_all;done)|(exfalso;simp_all;omega)))
   intro dY a H
   try have kG:=dF dY
   refine kP H (Kc K2 (SR fun _ K9=>ak K9 rfl ?_));clear H K2 K9;intro a H;refine lr H results86 rfl ?_
   exact H.rt (aF vi (by unfold oL;(repeat' split) <;> first|rfl|(exfalso;simp_all;done)|(exfalso;simp_all;omega)))
  intro h27 a H
  try have p27:=dF h27
  refine kH H (aY h27 rfl (aY h27 rfl (aS h27 rfl (Pf h27 rfl (ak K7 rfl (Cf rfl rfl (Kc K2 (SR fun _ aT=>ak aT rfl ?_))))))));clear H K7 K2 aT;intro a H;refine lr H results86 rfl ?_
  exact H.rt (aF vi (by unfold oL;(repeat' split) <;> first|rfl|(exfalso;simp_all;done)|(exfalso;simp_all;omega)))
 intro dN a H
 try have mH:=dF dN
 refine kH H (aY dN rfl (aY dN rfl (aS dN rfl (Pf dN rfl (ak K5 rfl (Cf rfl rfl (SR fun _ bC=>Rm rfl (Rc rfl (Rm rfl (Sp 27 rfl ?_ ?_)))))))))) <;> clear H K5
 ·intro h27 a H
  try have p27:=dT h27
  refine kH H (YM h27 rfl (YM h27 rfl ?_));clear H;intro a H;refine oq H (wg H rfl rfl h27) rfl rfl (hf i (Nat.lt_succ_self _) _ _ (fun b o h=>by first|exact xE b o (qU b o (yV b o h))|(exfalso;omega)) H.ro) rfl ?_;clear H;rintro v30 Cu a w rfl Dq H;refine kH H (YM h27 rfl (YM h27 rfl ?_));clear H;intro a H;refine mW _ H (wg H rfl rfl h27) rfl rfl rfl (by omega) (by omega) rfl ?_;clear H;intro a H;rw [show ((i:Int) - 1)=((i - 1:Nat):Int) by omega] at H;refine oq H (wg H rfl rfl h27) rfl rfl (hf (i - 1) (by omega) _ _ (fun b o h=>by first|exact Dq b o (xE b o (qU b o (yV b o h)))|(exfalso;omega)) H.ro) rfl ?_;clear H;rintro v34 Zy a w rfl Vq H;refine kH H (YC h27 rfl (Pt h27 rfl (ak bC rfl (Cd rfl ?_ ?_)))) <;> clear H bC
  ·intro dY a H
   try have kG:=dT dY
   refine kP H (SR fun _ bJ=>ak bJ rfl ?_);clear H bJ;intro a H;refine lr H results86 rfl ?_
   exact H.rt (aF vi (by unfold oL;(repeat' split) <;> first|rfl|(exfalso;simp_all;done)|(exfalso;simp_all;omega)))
  intro dY a H
  try have kG:=dF dY
  refine kP H (Kc K2 (SR fun _ bT=>ak bT rfl ?_));clear H K2 bT;intro a H;refine lr H results86 rfl ?_
  exact H.rt (aF vi (by unfold oL;(repeat' split) <;> first|rfl|(exfalso;simp_all;done)|(exfalso;simp_all;omega)))
 intro h27 a H
 try have p27:=dF h27
 refine kH H (aY h27 rfl (aY h27 rfl (aS h27 rfl (Pf h27 rfl (ak bC rfl (Cf rfl rfl (Kc K2 (SR fun _ bS=>ak bS rfl ?_))))))));clear H bC K2 bS;intro a H;refine lr H results86 rfl ?_
 exact H.rt (aF vi (by unfold oL;(repeat' split) <;> first|rfl|(exfalso;simp_all;done)|(exfalso;simp_all;omega)))
end
section
open Go.RowKit
theorem iZ:∀ args w,(callFunc 59 args).run prog w=.ok (.enter 59 args) w:=enters func59 rfl (by kernel_rfl)
theorem pK:∀ args w,(callFunc 54 args).run prog w=.ok (.enter 54 args) w:=enters func54 rfl (by kernel_rfl)
def vV (s:ByteArray):Bool:=decide (1≤s.size∧s.size≤40) && qg s
theorem Sz (G:GH) (w0:World) (hG:Hold G w0) (s:ByteArray) (hs:s.size < 4611686018427387904):Calls prog 88 #[.string s] w0 (bF w0 G fun u G'=>u=.bool (vV s)∧G=G'):=by
 refine eN [(0,_)] func88 rfl ntmps88 rfl rfl hG ?_;intro a H;refine kP H (SR fun _ K1=>ak K1 rfl (SR fun _ K2=>Rm rfl (Rv gy rfl (Rc rfl (Rm rfl (Sp 6 rfl ?_ ?_)))))) <;> clear H K1
 ·intro h6 a H
  try have p6:=dT h6
  refine kH H (YM h6 rfl ?_);clear H;intro a H;refine Ca gy H (wg H rfl rfl h6) rfl rfl ?_;clear H;intro a H;refine kH H (YC h6 rfl (Pt h6 rfl (Rm rfl (Sp 11 rfl ?_ ?_)))) <;> clear H
  ·intro h11 a H
   try have nM:=dT h11
   refine kH H (YM h11 rfl ?_);clear H;intro a H;refine s_call GI H (wg H rfl rfl h11) rfl (IG _ _ H.ro s hs) rfl ?_;clear H;rintro v13 _ a w ⟨rfl,rfl⟩ - H;exact kH H (Pt h11 rfl (ak K2 rfl (LR results88 rfl fun H=>H.rt ⟨aB (by unfold vV;first|(simp_all;done)|(simp_all;omega)),rfl⟩)))
  intro h11 a H
  try have nM:=dF h11
  exact kH H (aS h11 rfl (Pf h11 rfl (ak K2 rfl (LR results88 rfl fun H=>H.rt ⟨aB (by unfold vV;first|(simp_all;done)|(simp_all;omega)),rfl⟩))))
 intro h6 a H
 try have p6:=dF h6
 exact kH H (aY h6 rfl (Pf h6 rfl (Rm rfl (aS rfl rfl (Pf rfl rfl (ak K2 rfl (LR results88 rfl fun H=>H.rt ⟨aB (by unfold vV;first|(simp_all;done)|(simp_all;omega)),rfl⟩)))))))
def AX (s:ByteArray):Int:=dK [cu (!qg s) 12,cu (decide (1024 < (s.size:Int))) 10]
theorem wH {G:GH} {b:Nat} {x y:Int} (h:G b=some (.cells #[vi x,vi y] 56 (0,0))):av G (.sl 1 ([x,y].map fun k=>[li k])) (.slice (some ⟨b,0,none⟩) 2 2) :=
 av.eO (n:=2) (cap:=2) h rfl (bV _) (show 2≤maxLen by decide) (jQ (bV _)) (fu G [x,y])
theorem QF (G:GH) (w0:World) (hG:Hold G w0) (s:ByteArray) (hs:s.size < 4611686018427387904):Calls prog 122 #[.string s] w0 (bF w0 G fun u G'=>u=vi (AX s)):=by
 refine eN [(0,_)] func122 rfl ntmps122 rfl rfl hG ?_;intro a H;refine kP H (SR fun _ K1=>ak K1 rfl (SR fun _ K2=>Rm rfl ?_));clear H K1;intro a H;refine s_call GI H wn rfl (IG _ _ H.ro s hs) rfl ?_;clear H;rintro v4 _ a w ⟨rfl,rfl⟩ - H;refine kH H (Rn rfl ?_);clear H;intro a H;refine s_call iZ H wn rfl (jf _ _ H.ro _ 12) rfl ?_;clear H;rintro v6 _ a w ⟨rfl,rfl⟩ - H;refine kH H (Rm rfl (Rv gy rfl (Rc rfl ?_)));clear H;intro a H;refine s_call iZ H wn rfl (jf _ _ H.ro _ 10) rfl ?_;clear H;rintro v10 _ a w ⟨rfl,rfl⟩ - H;refine gU ou gF [_,_] [_,_] H wn rfl rfl rfl rfl rfl (by intro i q h;match i,h with|0,h=>exact h|1,h=>exact h|n+2,h=>simp at h) rfl rfl ?_;clear H;intro b11 a w JY H;obtain ⟨wM,J8,ET,H⟩:=H.dS;refine s_call pK H wn rfl (pR _ _ H.ro _ _ (wH ET)) rfl ?_;clear H;rintro v12 _ a w ⟨rfl,rfl⟩ - H;exact kH H (ak K2 rfl (LR results122 rfl fun H=>H.rt rfl))
def KD (c:Int):Bool:=decide (97≤tQ .or .u8 c 32) && decide (tQ .or .u8 c 32≤122)
def DZ (c:Int):Bool:=(decide (48≤c) && decide (c≤57)) || decide (c=45) || decide (c=95)
def zk (s:ByteArray) (k:Nat):Bool:=KD (gL s k) || (decide (k≠0) && DZ (gL s k))
def pJ (s:ByteArray):Bool:=decide (1≤s.size∧s.size≤40) && (List.range s.size).all (zk s)
theorem MO (G:GH) (w0:World) (hG:Hold G w0) (s:ByteArray) (hs:s.size < 4611686018427387904):Calls prog 124 #[.string s] w0 (bF w0 G fun u G'=>u=.bool (pJ s)∧G=G'):=by
 refine eN [(0,_)] func124 rfl ntmps124 rfl rfl hG ?_;intro a H;refine kP H (SR fun _ K1=>ak K1 rfl (SQ fun _ K2=>SR fun _ K3=>Rm rfl (Rv gy rfl (Rc rfl (Rm rfl (Sp 10 rfl ?_ ?_)))))) <;> clear H K1
 ·intro h10 a H
  try have lN:=dT h10
  exact kH H (aY h10 rfl (Pt h10 rfl (Kz K3 (Ct rfl rfl (SR fun _ K4=>ak K4 rfl (LR results124 rfl fun H=>H.rt ⟨aB (by unfold pJ;rw [jk (by omega)];rfl),rfl⟩))))))
 intro h10 a H
 try have lN:=dF h10
 refine kH H (YM h10 rfl ?_);clear H;intro a H;refine Ca gy H (wg H rfl rfl h10) rfl rfl ?_;clear H;intro a H;refine kH H (YC h10 rfl (Pf h10 rfl (Kz K3 (Cd rfl ?_ ?_)))) <;> clear H K3
 ·intro dN a H
  try have mH:=dT dN
  exact kP H (SR fun _ K5=>ak K5 rfl (LR results124 rfl fun H=>H.rt ⟨aB (by unfold pJ;rw [jk (by omega)];rfl),rfl⟩))
 intro dN a H
 try have mH:=dF dN
 refine kP H (Kc K2 (SQ fun _ K6=>SR fun _ K7=>Rm rfl (Rv gy rfl (Rm rfl (Kz K7 (SB ?_))))));clear H K2 K7;intro a H;skip;refine eU (ι:=Nat) (Tc:=[(0,_),(16,_)]) (Lc:=[]) (fun gh=>[(17,vi gh)]) (fun gh=>[]) (fun gh=>G) (fun gh=>gh≤s.size∧(List.range gh).all (zk s)=true) (fun gh=>s.size - gh) (0) (by exact (H).sub ⟨rfl,rfl,rfl,aD⟩) ?_ ?_
 ·exact ⟨ig _,rfl⟩
 clear H;intro gh a w hI H;obtain ⟨k,hgh⟩:∃ x,x=gh:=⟨_,rfl⟩;subst hgh;obtain ⟨hk,hall⟩:=hI;dsimp only [lca,bD] at H;refine kP H (SR fun _ K8=>Rc rfl (Kz K8 (SQ fun _ K9=>Cd rfl ?_ ?_))) <;> clear H K8
 ·intro h18 a H
  try have rV:=dT h18
  have hk2:k < s.size:=by omega
  refine kP H (Kc K9 (SQ fun _ aT=>SB (SR fun _ bC=>Rm rfl (ak bC rfl (SR fun _ bJ=>Rm rfl (Rm rfl ?_))))));clear H K9 bC;intro a H;refine nP k gy H wn rfl rfl rfl (by omega) rfl ?_;clear H;intro a H;rw [← lV] at H;refine KT rfl H wn rfl rfl rfl ?_;clear H;intro a H;refine kH H (ak bJ rfl ?_);clear H bJ;intro a H;refine qy (ι:=Bool) (Tc:=[(0,_),(3,_),(16,_),(17,_)]) (Lc:=[]) (fun gh=>[(5,.bool gh)]) (fun gh=>[]) (fun gh=>G) (fun gh=>gh=KD (gL s k)) (by exact (H).sub ⟨rfl,rfl,rfl,rfl,aD⟩) ?_ ?_
  ·skip;refine kP H (SC (Rm rfl (Rc rfl (Rm rfl (Sp 26 rfl ?_ ?_))))) <;> clear H
   ·intro gP a H
    try have p26:=dT gP
    refine kH H (YM gP rfl (YC gP rfl (Pt gP rfl (Ra rfl ?_))));clear H;intro a H;refine aI ?_;refine ⟨_,by exact (H).sub ⟨rfl,rfl,rfl,rfl,rfl,aD⟩,?_⟩
    unfold KD;first|(simp_all;done)|(simp_all;omega)
   intro gP a H
   try have p26:=dF gP
   refine kH H (aS gP rfl (Pf gP rfl (Ra rfl ?_)));clear H;intro a H;refine aI ?_;refine ⟨_,by exact (H).sub ⟨rfl,rfl,rfl,rfl,rfl,aD⟩,?_⟩
   unfold KD;first|(simp_all;done)|(simp_all;omega)
  clear H;intro gh a w hI H;obtain ⟨lt,hgh⟩:∃ x,x=gh:=⟨_,rfl⟩;subst hgh;have hlt:=hI;dsimp only [lca,bD] at H;refine qy (ι:=Bool) (Tc:=[(0,_),(3,_),(5,_),(16,_),(17,_)]) (Lc:=[]) (fun gh=>[(6,.bool gh)]) (fun gh=>[]) (fun gh=>G) (fun gh=>gh=DZ (gL s k)) (by exact (H).sub ⟨rfl,rfl,rfl,rfl,rfl,aD⟩) ?_ ?_
  ·skip;refine kP H (SC (Rm rfl (Rm rfl ?_)));clear H;intro a H;refine nP k gy H wn rfl rfl rfl (by omega) rfl ?_;clear H;intro a H;rw [← lV] at H;refine kH H (Rc rfl (Rm rfl (Sp 34 rfl ?_ ?_))) <;> clear H
   ·intro fF a H
    try have p34:=dT fF
    refine kH H (YM fF rfl (YM fF rfl ?_));clear H;intro a H;refine nP k gy H (wg H rfl rfl fF) rfl rfl rfl (by omega) rfl ?_;clear H;intro a H;rw [← lV] at H;refine kH H (YC fF rfl (Pt fF rfl (Rm rfl (Sp 40 rfl ?_ ?_)))) <;> clear H
    ·intro lJ a H
     try have p40:=dT lJ
     refine kH H (aS lJ rfl (aS lJ rfl (Pt lJ rfl (Rm rfl (aS rfl rfl (aS rfl rfl (Pt rfl rfl (Ra rfl ?_))))))));clear H;intro a H;refine aI ?_;refine ⟨_,by exact (H).sub ⟨rfl,rfl,rfl,rfl,rfl,rfl,aD⟩,?_⟩
     unfold DZ;first|(simp_all;done)|(simp_all;omega)
    intro lJ a H
    try have p40:=dF lJ
    refine kH H (YM lJ rfl (YM lJ rfl ?_));clear H;intro a H;refine nP k gy H (wg H rfl rfl lJ) rfl rfl rfl (by omega) rfl ?_;clear H;intro a H;rw [← lV] at H;refine kH H (YC lJ rfl (Pf lJ rfl (Rm rfl (Sp 46 rfl ?_ ?_)))) <;> clear H
    ·intro h46 a H
     try have p46:=dT h46
     refine kH H (aS h46 rfl (aS h46 rfl (Pt h46 rfl (Ra rfl ?_))));clear H;intro a H;refine aI ?_;refine ⟨_,by exact (H).sub ⟨rfl,rfl,rfl,rfl,rfl,rfl,aD⟩,?_⟩
     unfold DZ;first|(simp_all;done)|(simp_all;omega)
    intro h46 a H
    try have p46:=dF h46
    refine kH H (YM h46 rfl (YM h46 rfl ?_));clear H;intro a H;refine nP k gy H (wg H rfl rfl h46) rfl rfl rfl (by omega) rfl ?_;clear H;intro a H;rw [← lV] at H;refine kH H (YC h46 rfl (Pf h46 rfl (Ra rfl ?_)));clear H;intro a H;refine aI ?_;refine ⟨_,by exact (H).sub ⟨rfl,rfl,rfl,rfl,rfl,rfl,aD⟩,?_⟩
    unfold DZ;first|(simp_all;done)|(simp_all;omega)
   intro fF a H
   try have p34:=dF fF
   refine kH H (aS fF rfl (aS fF rfl (Pf fF rfl (Rm rfl ?_))));clear H;intro a H;(iterate 2 refine vG H (wg H rfl rfl rfl) rfl rfl ?_;clear H;intro a H);refine nP k gy H (wg H rfl rfl rfl) rfl rfl rfl (by omega) rfl ?_;clear H;intro a H;rw [← lV] at H;refine FC H (wg H rfl rfl rfl) rfl rfl rfl rfl ?_;clear H;intro a H;refine kH H (Pf rfl rfl (Rm rfl (Sp 46 rfl ?_ ?_))) <;> clear H
   ·intro h46 a H
    try have p46:=dT h46
    refine kH H (aS h46 rfl (aS h46 rfl (Pt h46 rfl (Ra rfl ?_))));clear H;intro a H;refine aI ?_;refine ⟨_,by exact (H).sub ⟨rfl,rfl,rfl,rfl,rfl,rfl,aD⟩,?_⟩
    unfold DZ;first|(simp_all;done)|(simp_all;omega)
   intro h46 a H
   try have p46:=dF h46
   refine kH H (YM h46 rfl (YM h46 rfl ?_));clear H;intro a H;refine nP k gy H (wg H rfl rfl h46) rfl rfl rfl (by omega) rfl ?_;clear H;intro a H;rw [← lV] at H;refine kH H (YC h46 rfl (Pf h46 rfl (Ra rfl ?_)));clear H;intro a H;refine aI ?_;refine ⟨_,by exact (H).sub ⟨rfl,rfl,rfl,rfl,rfl,rfl,aD⟩,?_⟩
   unfold DZ;first|(simp_all;done)|(simp_all;omega)
  clear H;intro gh a w hI H;obtain ⟨ot,hgh⟩:∃ x,x=gh:=⟨_,rfl⟩;subst hgh;have hot:=hI;dsimp only [lca,bD] at H;refine kP H (SR fun _ bT=>Rm rfl (Rn rfl (Rm rfl (Sp 54 rfl ?_ ?_)))) <;> clear H
  ·intro iw a H
   try have p54:=dT iw
   refine kH H (YM iw rfl (YC iw rfl (YM iw rfl (Sp 57 rfl ?_ ?_)))) <;> clear H
   ·intro h57 a H
    try have p57:=dT h57
    refine kH H (aS h57 rfl (PT iw h57 rfl (Pt iw rfl (Kz bT (Ct rfl rfl (SR fun _ bS=>ak bS rfl ?_))))));clear H bT bS;intro a H;refine lr H results124 rfl ?_
    first
     | exact H.rt ⟨aB (by
       unfold pJ
       rw [show k=s.size by omega] at hall
       rw [hall,jY (by omega)];rfl),rfl⟩
     | exact H.rt ⟨aB (by
       unfold pJ
       rw [show (List.range s.size).all (zk s)=false from List.all_eq_false.2 ⟨k,by simpa using hk2,by unfold zk;simp_all⟩,Bool.and_false]),rfl⟩
   intro h57 a H
   try have p57:=dF h57
   refine kH H (YM h57 rfl (YN h57 rfl (PF iw h57 rfl (Pt iw rfl (Kz bT (Cd rfl ?_ ?_)))))) <;> clear H bT
   ·intro Da a H
    try have p61:=dT Da
    refine kP H (SR fun _ dD=>ak dD rfl ?_);clear H dD;intro a H;refine lr H results124 rfl ?_
    first
     | exact H.rt ⟨aB (by
       unfold pJ
       rw [show k=s.size by omega] at hall
       rw [hall,jY (by omega)];rfl),rfl⟩
     | exact H.rt ⟨aB (by
       unfold pJ
       rw [show (List.range s.size).all (zk s)=false from List.all_eq_false.2 ⟨k,by simpa using hk2,by unfold zk;simp_all⟩,Bool.and_false]),rfl⟩
   intro Da a H
   try have p61:=dF Da
   refine kP H (Kc aT (SC (Rd rfl (Rm rfl ?_))));clear H aT;intro a H;refine aI ?_;refine cK ((k+1)) (by exact (H).sub ⟨rfl,rfl,rfl,aD⟩) ?_ ?_
   ·exact ⟨by omega,by rw [List.range_succ,List.all_append,hall];simp [zk];simp_all⟩
   first|omega|(dsimp only;omega)
  intro iw a H
  try have p54:=dF iw
  refine kH H (aY iw rfl (Ku rfl (Ku rfl (Ks iw rfl (Pf iw rfl (Kz bT (Cf rfl rfl (Kc aT (SC (Rd rfl (Rm rfl ?_)))))))))));clear H bT aT;intro a H;refine aI ?_;refine cK ((k+1)) (by exact (H).sub ⟨rfl,rfl,rfl,aD⟩) ?_ ?_
  ·exact ⟨by omega,by rw [List.range_succ,List.all_append,hall];simp [zk];simp_all⟩
  first|omega|(dsimp only;omega)
 intro h18 a H
 try have rV:=dF h18
 refine dQ ?_;refine K6 _ _ ?_;clear K6;refine kP H (SR fun _ dM=>ak dM rfl ?_);clear H dM;intro a H;refine lr H results124 rfl ?_
 first
  | exact H.rt ⟨aB (by
    unfold pJ
    rw [show k=s.size by omega] at hall
    rw [hall,jY (by omega)];rfl),rfl⟩
  | exact H.rt ⟨aB (by
    unfold pJ
    rw [show (List.range s.size).all (zk s)=false from List.all_eq_false.2 ⟨k,by simpa using hk2,by unfold zk;simp_all⟩,Bool.and_false]),rfl⟩
end
section
open Go.RowKit
section
variable {N:Nat} {D:List Deferred} {w0:World} {F:Nat→Prop} {G0 G:GH} {L:OL} {T:List (Nat × aj)}
variable {r:Option Nat} {P:Program} {ops:Array Oper} {Q:Exit→Act→World→Prop} {rest:List Oper} {a:Act} {w:World}
variable {d:Nat} {ty:TypeId} {pos:String} {aP:Array Edge} {g:Option (Nat × Bool)}
end
end
section
open Go.RowKit
section
variable {N:Nat} {D:List Deferred} {w0:World} {F:Nat→Prop} {G0 G:GH} {L:OL} {T T':List (Nat × aj)}
variable {r:Option Nat} {P:Program} {Q:Exit→Act→World→Prop} {l:List Oper} {a a':Act} {w w':World} {ε:Type}
def Eu (l:List Oper) (pr:ε→Nat→aj→Prop) (T:List (Nat × aj)) (S:Nat→Bool) (E:ε) (T':List (Nat × aj)):Prop :=
 (∀ t v,lk T t=some v→lk T' t=some v)∧∀ i d,S i=true→dZ l i=some d→∃ v,lk T' d=some v∧pr E i v
theorem Eu.put {pr:ε→Nat→aj→Prop} {S:Nat→Bool} {E E':ε} {i d:Nat} {v:aj} (h:Eu l pr T S E T') (hok:MU l T=true) (hi:dZ l i=some d) (hv:pr E' i v) (hE:∀ j u,j≠i→pr E j u→pr E' j u):Eu l pr T (dP S i) E' ((d,v) :: T'):=by
 have hil:=vZ hi
 have hok1:=lC.1 hok i (oD.2 hil)
 rw [mP,hi] at hok1
 simp only [lD,Option.isNone_iff_eq_none,lC,oD] at hok1
 refine ⟨fun t u ht=>?_,fun j e hj he=>?_⟩
 ·rw [fB (fun e=>by subst e;rw [hok1.1] at ht;cases ht)];exact h.1 t u ht
 ·by_cases hji:j=i
  ·subst hji;rw [hi] at he;cases he;exact ⟨v,kr _ _ _,hv⟩
  ·have hSj:S j=true:=by unfold dP at hj;rwa [ah hji] at hj
   obtain ⟨u,hu1,hu2⟩:=h.2 j e hSj he
   have hne:d≠e:=by
    intro e';subst e'
    have h2:=hok1.2 j (vZ he)
    have hb:Nat.beq i j=false:=vW (fun h=>hji h.symm)
    rw [hb,he] at h2
    simp at h2
   exact ⟨u,by rw [fB hne];exact hu1,hE j u hji hu2⟩
theorem Eu.add {pr:ε→Nat→aj→Prop} {S:Nat→Bool} {E:ε} (h:Eu l pr T S E T') {t:Nat} {u:aj} (hu:lk T' t=some u):Eu l pr T S E ((t,u) :: T'):=by
 have e:∀ s v,lk T' s=some v→lk ((t,u) :: T') s=some v:=fun s v hs=>by
  by_cases hst:t=s
  ·subst hst;rw [hu] at hs;cases hs;exact kr _ _ _
  ·rw [fB hst];exact hs
 exact ⟨fun s v hs=>e s v (h.1 s v hs),fun i d hi hd=>by
  obtain ⟨v,h1,h2⟩:=h.2 i d hi hd
  exact ⟨v,e d v h1,h2⟩⟩
end
end
section
open Go.RowKit
section
variable {N:Nat} {D:List Deferred} {w0:World} {F:Nat→Prop} {G0 G G1 G2:GH} {L L1:OL} {T Xs:List (Nat × aj)}
variable {r:Option Nat} {P:Program} {Q:Exit→Act→World→Prop} {l:List Oper} {a a':Act} {w w':World}
theorem SV {id:Nat} (hm:P.follows .mixedOrders=true) (bQ:List (List Nat)) (B:List Nat) (hk:yL l bQ=true) (hB:zu l bQ B=true) (X:(Nat→Bool)→Act→World→Prop) (h0:X (fun _=>false) a w.drew)
  (hstep:∀ i o S a w,l[i]?=some o→B.contains i=false→S i=false→(∀ j∈bQ.getD i [],S j=true)→(∀ j,j < l.length→i∈bQ.getD j []→S j=false)→X S a w→WL r P l.toArray (fun e a' w'=>e=.normal∧X (dP S i) a' w') [o] a w)
  (hend:∀ S a w,(∀ i,i < l.length→B.contains i=false→S i=true)→(∀ i,B.contains i=true→S i=false)→X S a w→WL r P l.toArray (fun e a w=>e=.normal∧Q .normal a w) (qE l B) a w):WP r P (.region id l.toArray true) Q a w:=by
 have hB1:∀ p b,B[p]?=some b→b < l.length∧∀ i,i < l.length→(B.contains i=false∨(B.take p).contains i=true)→i∈bQ.getD b []:=by
  intro p b hp
  simp only [zu,lD] at hB
  have h1:=lC.1 hB.1 p (oD.2 (ji.1 hp).1)
  rw [hp] at h1
  simp only [lD,lC,oD] at h1
  refine ⟨Eq.mp Nat.blt_eq h1.1,fun i hi hor=>?_⟩
  have h2:=h1.2 i hi
  rcases hor with h3|h3
  ·have h4:i∉B:=by simpa using h3
   simpa [h4] using h2
  ·have h4:i∈B.take p:=by simpa using h3
   simpa [h4] using h2
 have hB2:∀ i,i < l.length→B.contains i=false→∀ j∈bQ.getD i [],B.contains j=false:=by
  intro i hi hb j hj
  simp only [zu,lD] at hB
  have h1:=lC.1 hB.2 i (oD.2 hi)
  rw [hb] at h1
  simp only [Bool.false_or,lC] at h1
  simpa using h1 j hj
 refine MC hm bQ hk (fun S a w=>((∀ i,B.contains i=true→S i=false)∧X S a w) ∨
   ∃ p,(∀ i,i < l.length→B.contains i=false→S i=true)∧(∀ i,(B.take p).contains i=true→S i=true)∧(∀ q b,B[q]?=some b→p≤q→S b=false)∧WL r P l.toArray (fun e a w=>e=.normal∧Q .normal a w) (qE l (B.drop p)) a w)
  (.inl ⟨fun _ _=>rfl,h0⟩) ?_ ?_
 ·intro i o S a w ho hX bE lZ hdesc
  have hil:i < l.length:=(ji.1 ho).1
  by_cases hbi:B.contains i=true
  ·-- an operation of the tail: all that stands ahead of it is done
   obtain ⟨p0,hp0⟩:=List.getElem?_of_mem (by simpa using hbi:i∈B)
   have hall:∀ j,j < l.length→B.contains j=false→S j=true:=fun j hj hb=>lZ j ((hB1 p0 i hp0).2 j hj (.inl hb))
   have OZ:∃ p,(∀ i,(B.take p).contains i=true→S i=true)∧(∀ q b,B[q]?=some b→p≤q→S b=false)∧WL r P l.toArray (fun e a w=>e=.normal∧Q .normal a w) (qE l (B.drop p)) a w:=by
    rcases hX with ⟨h1,hD⟩|⟨p,_,h2,h3,h4⟩
    ·exact ⟨0,by simp,fun q b hq _=>h1 b (by simpa using lU hq),hend S a w hall h1 hD⟩
    ·exact ⟨p,h2,h3,h4⟩
   obtain ⟨p,h2,h3,h4⟩:=OZ
   -- i is the next one
   have hpp:p≤p0:=by
    rcases Nat.lt_or_ge p0 p with hlt|hge
    ·have:(B.take p).contains i=true:=by
      simp only [vR]
      exact lU (i:=p0) (by rw [tL,au hlt];exact hp0)
     rw [h2 i this] at bE;cases bE
    ·exact hge
   have Dw:p < B.length:=by have:=(ji.1 hp0).1;omega
   have hbp:B[p]?=some B[p]:=gY Dw
   have heq:B[p]=i:=by
    rcases Nat.lt_or_ge p p0 with hlt|hge
    ·exfalso
     have hin:B[p]∈bQ.getD i []:=(hB1 p0 i hp0).2 _ (hB1 p _ hbp).1 (.inr (by
      simp only [vR]
      exact lU (i:=p) (by rw [tL,au hlt];exact hbp)))
     have:=lZ _ hin
     rw [h3 p _ hbp (bV _)] at this;cases this
    ·have:p=p0:=by omega
     subst this
     rw [hbp] at hp0;simpa using hp0
   have hdrop:B.drop p=i :: B.drop (p+1):=by rw [kS Dw,heq]
   have hops:qE l (B.drop p)=o :: qE l (B.drop (p+1)):=by rw [hdrop];simp [qE,ho]
   rw [hops] at h4
   refine Y1 (fun a' w' h5=>.inr ⟨p+1,fun j hj hb=>?_,fun j hj=>?_,fun q b hq hpq=>?_,h5⟩) h4
   ·unfold dP;split
    ·rfl
    ·exact hall j hj hb
   ·unfold dP;split
    ·rfl
    ·rename_i hne
     refine h2 j ?_
     simp only [vR] at hj ⊢
     rw [jF Dw,kR] at hj
     rcases hj with hj|hj
     ·exact hj
     ·simp only [sM] at hj;exact absurd (hj.trans heq) hne
   ·unfold dP
    rw [ah ?_]
    ·exact h3 q b hq (by omega)
    ·rintro rfl
     -- i would stand twice in B: it would come ahead of itself
     have h6:=(hB1 q b hq).2 b (hB1 q b hq).1 (.inr (by
      simp only [vR]
      exact lU (i:=p) (by rw [tL,au (by omega)];rw [hbp,heq])))
     rw [lZ _ h6] at bE;cases bE
  ·have xC:B.contains i=false:=by cases h:B.contains i with|false=>rfl|true=>exact absurd h hbi
   rcases hX with ⟨h1,hX⟩|⟨p,h0,_,_,_⟩
   ·refine qI (fun e a' w' ⟨he,hD⟩=>⟨he,.inl ⟨fun j hj=>?_,hD⟩⟩) (hstep i o S a w ho xC bE lZ hdesc hX)
    unfold dP
    rw [ah (by rintro rfl;rw [xC] at hj;cases hj)]
    exact h1 j hj
   ·rw [h0 i hil xC] at bE;cases bE
 ·intro S a w hall hX
  rcases hX with ⟨h1,hD⟩|⟨p,_,_,h3,h4⟩
  ·have hnil:B=[]:=by
    cases B with
    | nil=>rfl
    | cons b B=>have h5:=h1 b (by simp);rw [hall b (hB1 0 b rfl).1] at h5;cases h5
   subst hnil
   exact (hend S a w (fun j hj _=>hall j hj) h1 hD).2
  ·have hnil:B.drop p=[]:=by
    cases hd:B.drop p with
    | nil=>rfl
    | cons b B' =>
     have hb:B[p]?=some b:=by
      have:=aF (fun x:List Nat=>x[0]?) hd
      simpa using this
     have h5:=h3 p b hb (bV _)
     rw [hall b (hB1 p b hb).1] at h5;cases h5
   rw [hnil] at h4
   exact h4.2
theorem MS {pr:Nat→aj→GH→Prop} {S:Nat→Bool} {i d:Nat} {v:aj} (hok:mP l T i=true) (hi:dZ l i=some d) 
  (HT:St N D w0 F G0 G1 L T a w) (Hb:St N D w0 F G0 G1 L (Xs++full N a) a w) (hG:∀ k o,G k=some o→G1 k=some o) (hv:∀ j d,j≠i→S j=true→dZ l j=some d→∃ v,a.tmps[d]?=some v∧pr j v G1)
  (hp:pr i v G1) (H:St N D w0 F G0 G1 L1 ((d,v) :: (Xs++full N a)) a' w'):DX N D w0 F G0 G L1 T l pr (dP S i) a' w':=by
 have hil:i < l.length:=vZ hi
 have hok1:=hok
 rw [mP,hi] at hok1
 simp only [lD,Option.isNone_iff_eq_none,lC,oD] at hok1
 have hsame:∀ t,t≠d→a'.tmps[t]?=a.tmps[t]?:=by
  intro t ht
  by_cases hlt:t < N
  ·have h1:∃ u,lk (Xs++full N a) t=some u:=by
    rw [DT]
    cases lk Xs t with
    | some u=>exact ⟨u,rfl⟩
    | none=>exact ⟨_,KC a hlt⟩
   obtain ⟨u,hu⟩:=h1
   rw [Hb.get t u hu,H.get t u (by rw [fB (Ne.symm ht)];exact hu)]
  ·rw [Array.getElem?_eq_none (by rw [H.lH];omega),Array.getElem?_eq_none (by rw [Hb.lH];omega)]
 refine ⟨G1,hG,⟨H.lH,fun t u ht=>?_,H.qB,H.hp⟩,fun j e hj he=>?_⟩
 ·rw [hsame t (fun e=>by rw [e,hok1.1] at ht;cases ht)]
  exact HT.get t u ht
 ·by_cases hji:j=i
  ·subst hji
   rw [hi] at he
   simp only [nG] at he
   subst he
   exact ⟨v,H.get d v (kr _ _ _),hp⟩
  ·have hSj:S j=true:=by unfold dP at hj;rwa [ah hji] at hj
   obtain ⟨u,hu1,hu2⟩:=hv j e hji hSj he
   have hne:e≠d:=by
    intro e'
    subst e'
    have h2:=hok1.2 j (vZ he)
    rw [vW (fun h=>hji h.symm),he] at h2
    simp at h2
   exact ⟨u,by rw [hsame e hne];exact hu1,hu2⟩
end
end
section
open Go.RowKit
section
variable {N:Nat} {D:List Deferred} {w0:World} {F:Nat→Prop} {G0 G:GH} {L:OL} {T:List (Nat × aj)}
variable {r:Option Nat} {P:Program} {ops:Array Oper} {Q:Exit→Act→World→Prop} {rest:List Oper} {a:Act} {w:World}
variable {d:Nat} {ty:TypeId} {pos:String} {aP:Array Edge} {g:Option (Nat × Bool)}
theorem D8 {t:TypeId} (H:St N D w0 F G0 G L T a w) (hw:Region.wanted ⟨some d,.makeMap t none,ty,pos,aP,g⟩ (yielded ops a.tmps)=true) (hd:Nat.blt d N=true)
  (k:∀ b a' w',w0.heap.size≤b→St N D w0 F G0 G ((b,.map #[] 0) :: L) ((d,.map (some b)) :: T) a' w'→WL r P ops Q rest a' w'):WL r P ops Q (⟨some d,.makeMap t none,ty,pos,aP,g⟩ :: rest) a w:=by
 refine fO (v:=.map (some w.heap.size)) (w':=w.alloc (.map #[] 0)) hw rfl ?_ (k _ _ _ H.hp.size (H.put hd _ (H.hp.alloc _)))
 simp [execOp,Instr.makeMap,newObj,Sem.run,cO]
def AA (an:Option (Nat × aj)) (zv:aj):aj × Bool:=match an with|some (_,v)=>(v,true)|none=>(zv,false)
theorem ajE {t kt et:TypeId} {kd:TypeDesc} {x y:Operand} {b i clock:Nat} {es:Array MapEntry} {ky zv:aj} (an:Option (Nat × aj)) (hm:P.underlying t=some (.map kt et)) (hk:P.underlying kt=some kd) (hz:(P.info? et).map (fun i=>i.zero)=some (some zv)) (H:St N D w0 F G0 G L T a w)
  (hw:Region.wanted ⟨some d,.lookup t x y true,ty,pos,aP,g⟩ (yielded ops a.tmps)=true) (hx:ev T x=some (.map (some b))) (hy:ev T y=some ky) (hi:L[i]?=some (b,.map es clock)) (hky:MapKept.IsKey kd ky) (hf:Instr.findNow kd ky es.toList 0=some an) (hd:Nat.blt d N=true)
  (k:∀ a',St N D w0 F G0 G L ((d,.tuple #[(AA an zv).1,.bool (AA an zv).2]) :: T) a' w→WL r P ops Q rest a' w):WL r P ops Q (⟨some d,.lookup t x y true,ty,pos,aP,g⟩ :: rest) a w:=by
 have hb:w.heap[b]?=some (.map es clock):=H.hp.own _ (lU hi)
 obtain ⟨inf,hi1,hi2⟩:=lu.1 hz
 refine fO (v:=.tuple #[(AA an zv).1,.bool (AA an zv).2]) (w':=w) hw rfl ?_ (k _ (H.put hd _ H.hp))
 have h1:=MapKept.run_checkKey (w:=w) hk hky es.isEmpty 9999
 have h2:=MapKept.run_findKey (w:=w) hk hf
 cases an with
 | none=>simp [execOp,Instr.lookup,H.ev hx,H.ev hy,cO,mg hm,MapKept.run_getObj_map hb,h1,h2,Result.andThen,zeroValue,AJ hi1,hi2,AA]
 | some q=>simp [execOp,Instr.lookup,H.ev hx,H.ev hy,cO,mg hm,MapKept.run_getObj_map hb,h1,h2,Result.andThen,AA]
theorem YH {w:World} {b clock:Nat} {es:Array MapEntry} {o:Obj} (h:w.heap[b]?=some (.map es clock)):tK b o w { w with heap:=w.heap.setIfInBounds b o }:=by
 have hlt:b < w.heap.size:=(Array.getElem?_eq_some_iff.1 h).1
 refine ⟨rfl,rfl,rfl,by simp,by simp [hlt],fun k hk=>?_⟩
 simp only
 rw [Array.getElem?_setIfInBounds_ne (Ne.symm hk)]
theorem XT {t kt et:TypeId} {kd:TypeDesc} {x y z:Operand} {b i clock:Nat} {es:Array MapEntry} {ky v:aj} (hm:P.underlying t=some (.map kt et)) (hk:P.underlying kt=some kd) (H:St N D w0 F G0 G L T a w)
  (hw:Region.wanted ⟨none,.mapUpdate t x y z,ty,pos,aP,g⟩ (yielded ops a.tmps)=true) (hx:ev T x=some (.map (some b))) (hy:ev T y=some ky) (hzv:ev T z=some v) (hi:L[i]?=some (b,.map es clock)) (hky:MapKept.IsKey kd ky) (hf:Instr.findNow kd ky es.toList 0=some none)
  (k:∀ w',St N D w0 F G0 G (L.set i (b,.map (es.push ⟨ky,v,clock⟩) (clock+1))) T a w'→WL r P ops Q rest a w'):WL r P ops Q (⟨none,.mapUpdate t x y z,ty,pos,aP,g⟩ :: rest) a w:=by
 have hb:w.heap[b]?=some (.map es clock):=H.hp.own _ (lU hi)
 have h1:=MapKept.run_checkKey (w:=w) hk hky false 9999
 have h2:=MapKept.run_findKey (w:=w) hk hf
 refine QS (w':={ w with heap:=w.heap.setIfInBounds b (.map (es.push ⟨ky,v,clock⟩) (clock+1)) }) hw rfl ?_ (k _ (H.move (H.hp.upd hi (YH hb))))
 simp [execOp,Instr.mapUpdate,H.ev hx,H.ev hy,H.ev hzv,cO,mg hm,MapKept.run_getObj_map hb,h1,h2,MapKept.run_setObj_map _ hb,Result.andThen]
theorem ajI {t yt:TypeId} {x y:Operand} {p q:ByteArray} (H:St N D w0 F G0 G L T a w) (hw:Region.wanted ⟨some d,.binOp .neq t x y yt,ty,pos,aP,g⟩ (yielded ops a.tmps)=true) (hx:ev T x=some (.string p)) (hy:ev T y=some (.string q)) (hd:Nat.blt d N=true)
  (k:∀ a',St N D w0 F G0 G L ((d,.bool (!(p.toList == q.toList))) :: T) a' w→WL r P ops Q rest a' w):WL r P ops Q (⟨some d,.binOp .neq t x y yt,ty,pos,aP,g⟩ :: rest) a w:=by
 refine fO (v:=.bool (!(p.toList == q.toList))) (w':=w) hw rfl ?_ (k _ (H.put hd _ H.hp))
 simp [execOp,H.ev hx,H.ev hy,cO,eqGuard,binOp,Op.stringOp]
theorem Hp.WU (h:Hp w0 F G0 G L w) {b o:Nat} {c:Array aj} {e:TypeId} {fz:Nat × Nat} {v:aj} (hm:(b,Obj.cells c e fz)∈L) (hv:c[o]?=some v):w.cell? ⟨b,o,none⟩=some v:=by
 have:=h.own _ hm
 simp only [World.cell?,this]
 exact hv
end
end
section
open Go.RowKit
section
variable {N:Nat} {D:List Deferred} {w0:World} {F:Nat→Prop} {G0 G G1 G2:GH} {L L1:OL} {T Xs:List (Nat × aj)}
variable {r:Option Nat} {P:Program} {Q:Exit→Act→World→Prop} {l:List Oper} {a a':Act} {w w':World}
end
end
section
open Go.RowKit
section
variable {N:Nat} {D:List Deferred} {w0:World} {F:Nat→Prop} {G0 G G1 G2:GH} {L L1 L2:OL} {T Xs:List (Nat × aj)}
variable {r:Option Nat} {P:Program} {Q:Exit→Act→World→Prop} {l:List Oper} {a a':Act} {w w':World}
theorem abV {pr:Nat→aj→GH→Prop} {S:Nat→Bool} {i:Nat} (hi:dZ l i=none) (HT:St N D w0 F G0 G1 L T a w) (hG:∀ k o,G k=some o→G1 k=some o) (hv:∀ i d,S i=true→dZ l i=some d→∃ v,a.tmps[d]?=some v∧pr i v G1)
  (H:St N D w0 F G0 G1 L2 (Xs++full N a) a w'):DX N D w0 F G0 G L2 T l pr (dP S i) a w' :=
 ⟨G1,hG,HT.move H.hp,fun j e hj he=>hv j e (by
  unfold dP at hj
  by_cases hji:j=i
  ·subst hji;rw [hi] at he;cases he
  ·rwa [ah hji] at hj) he⟩
end
end
section
open Go.RowKit
theorem ahV:liesAt prog prog.depth 259 (7 / prog.cellsOf 259) 2 121 1=true:=by kernel_rfl
theorem LD:Ty prog 5 1 1 [.int .u8 0] false:=⟨by kernel_rfl,by kernel_rfl⟩
abbrev gD (b:Nat) (s:ByteArray) (i:Int) (p v q:aj) (pl e:Int):Nat × Obj:=(b,.cells #[.string s,vi i,p,v,q,vi pl,vi e] 259 (0,0))
theorem ajQ (G:GH) (L:OL) (w0:World) (b:Nat) (s:ByteArray) (i:Int) (A:Option Addr) (n c:Nat) (B:Option Addr) (m d:Nat) (pl e:Int) (hO:gX G (gD b s i (.pointer none) (.slice A n c) (.slice B m d) pl e :: L) w0) :
  Calls prog 74 #[(aJ b 2)] w0 (gH w0 G (gD b s i (.pointer none) (.slice A n c) (.slice B m d) pl e :: L) fun u G' L'=>L'=gD b s i (aJ b 2) (.slice A n c) (.slice B m d) pl e :: L∧G'=G):=by
 refine kg (N:=20) (T:=[(0,_)]) func74 rfl ntmps74 rfl rfl hO ?_;intro a H;refine kP H (SR fun _ K1=>Rm rfl (Rk rfl (aW zY AY 0 rfl rfl ?_)));clear H;intro a H;refine KU zB H wn rfl rfl ?_;clear H;intro a H;refine K1 _ _ ?_;clear K1;refine lW H rfl ?_ ?_
 ·intro h6
  refine kP H (SC (Rm rfl (Rm rfl ?_)));clear H;intro a H;refine X6 zB LJ FH H wn rfl 0 rfl rfl rfl ?_;clear H;intro a H;refine XV (xs:=[.tmp 9]) (Xj _) H wn rfl rfl ?_;clear H;intro a H;refine XQ LJ zB FH H wn rfl 0 rfl ahV rfl ?_;clear H;intro a H;refine kH H (Rk rfl (Rf zY rfl ?_));clear H;intro a H;refine bM AY 0 (vs:=[_]) _ H wn rfl rfl rfl rfl rfl rfl rfl rfl ?_;clear H;intro w H;dsimp only [List.set,setRow] at H;refine aI ?_;refine (leave0 H results74 ?_).2;exact H.hp.eP ⟨rfl,rfl⟩
 intro h6
 exact absurd h6 (by decide)
theorem ajR (G:GH) (L:OL) (w0:World) (b:Nat) (s:ByteArray) (i:Int) (A:Option Addr) (n c:Nat) (B:Option Addr) (m d:Nat) (pl e:Int) (hO:gX G (gD b s i (aJ b 2) (.slice A n c) (.slice B m d) pl e :: L) w0) :
  Calls prog 74 #[(aJ b 2)] w0 (gH w0 G (gD b s i (aJ b 2) (.slice A n c) (.slice B m d) pl e :: L) fun u G' L'=>L'=gD b s i (aJ b 2) (.slice A n c) (.slice B m d) pl e :: L∧G'=G):=by
 refine kg (N:=20) (T:=[(0,_)]) func74 rfl ntmps74 rfl rfl hO ?_;intro a H;refine kP H (SR fun _ K1=>Rm rfl (Rk rfl (aW zY AY 0 rfl rfl ?_)));clear H;intro a H;refine KU zB H wn rfl rfl ?_;clear H;intro a H;refine K1 _ _ ?_;clear K1;refine lW H rfl ?_ ?_
 ·intro h6
  exact absurd h6 (by simp)
 intro h6
 refine kP H (SR fun _ K2=>Rm rfl (Rk rfl (aW zY AY 0 rfl rfl (Rm rfl ?_))));clear H;intro a H;refine XU zB FH H wn rfl rfl rfl ?_;clear H;intro a H;refine K2 _ _ ?_;clear K2;refine lW H rfl ?_ ?_
 ·intro h19
  exact absurd h19 (by decide)
 intro h19
 refine fT ?_;refine (leave0 H results74 ?_).2;exact H.hp.eP ⟨rfl,rfl⟩
theorem ajS (G:GH) (L:OL) (w0:World) (b:Nat) (s:ByteArray) (i:Int) (p:aj) (A:Option Addr) (n c:Nat) (B:Option Addr) (m d:Nat) (pl e:Int) (hp:p=.pointer none∨p=(aJ b 2)) (hO:gX G (gD b s i p (.slice A n c) (.slice B m d) pl e :: L) w0) :
  Calls prog 74 #[(aJ b 2)] w0 (gH w0 G (gD b s i p (.slice A n c) (.slice B m d) pl e :: L) fun u G' L'=>L'=gD b s i (aJ b 2) (.slice A n c) (.slice B m d) pl e :: L∧G'=G):=by
 rcases hp with rfl|rfl
 ·exact ajQ G L w0 b s i A n c B m d pl e hO
 exact ajR G L w0 b s i A n c B m d pl e hO
theorem YU (G:GH) (Lp Lo:OL) (w0:World) (b:Nat) (s:ByteArray) (i:Int) (p v:aj) (B:Option Addr) (m d:Nat) (pl e:Int) (n:Nat) (xs:List aj) (c:Int) (hp:p=.pointer none∨p=(aJ b 2)) (hO:gX G (gD b s i p v (.slice B m d) pl e :: (Lp++Lo)) w0) (hrow:dJ 5 1 v n xs Lo) (hn:n≤4294967296) :
  Calls prog 159 #[(aJ b 2),.int .u8 c] w0 (gH w0 G (gD b s i p v (.slice B m d) pl e :: (Lp++Lo)) fun u G' L'=>∃ v' fC,L'=gD b s i (aJ b 2) v' (.slice B m d) pl e :: (Lp++fC)∧dJ 5 1 v' (n+1) (xs++[.int .u8 c]) fC∧G'=G):=by
 have hml:maxLen=9223372036854775807:=rfl;obtain ⟨A,c0,rfl,-,-⟩:=hrow.shape;obtain ⟨Lt,og⟩:∃ x,x=Lp++Lo:=⟨_,rfl⟩;rw [← og] at hO ⊢;refine kg (N:=17) (T:=[(0,_),(1,_)]) func159 rfl ntmps159 rfl rfl hO ?_;intro a H;refine kP H (SR fun _ K1=>ak K1 rfl (SR fun _ K2=>Rm rfl ?_));clear H K1;intro a H;refine gV Ud (Li:=[]) (L:=gD b s i p _ (.slice B m d) pl e :: Lt) H wn rfl (ajS _ _ _ b s i p A n c0 B m d pl e hp (Hp.owns (Li:=[]) H.hp)) rfl ?_;clear H;rintro v6 _ L6 a w ⟨rfl,rfl⟩ hm6 H;dsimp only [List.nil_append] at H;refine K2 _ _ ?_;clear K2;refine kP H (SR fun _ K3=>Rm rfl (Rm rfl (Rk rfl (aW yM zw 0 rfl rfl (Rm rfl ?_)))));clear H;intro a H;refine gU Ba LD [_] [_] H wn rfl rfl rfl rfl rfl (by intro i q h;match i,h with|0,h=>exact h|n+1,h=>simp at h) rfl rfl ?_;clear H;intro b13 a w JZ H;subst og;have H:=St.un (A:=[_,_]) (B:=Lp) (C:=Lo) H;refine oN (Li:=[_,_]++Lp) (Lo:=Lo) (news:=[.int .u8 c]) Ba LD rfl rfl H wn rfl rfl hrow rfl (H.hp.eF 0 rfl rfl) rfl (by omega) (by omega) rfl ?_;clear H;intro v14 RZ a w H6 H;obtain ⟨QU,c14,rfl,-,-⟩:=H6.shape;have H:=H.assoc;dsimp only [lca,bD] at H;refine kH H (Rk rfl (Rf yM rfl ?_));clear H;intro a H;refine bM zw 1 (vs:=[_]) _ H wn rfl rfl rfl rfl rfl rfl rfl rfl ?_;clear H;intro w H;dsimp only [List.set,setRow] at H;refine K3 _ _ ?_;clear K3;exact kP H (SR fun _ K4=>ak K4 rfl (LR results159 rfl fun H=>H.hp.gT (L':=gD b s i _ _ _ pl e :: (Lp++RZ)) (zQ _ _) ⟨_,_,rfl,H6,rfl⟩))
theorem akj (G:GH) (L:OL) (w0:World) (b:Nat) (s:ByteArray) (i:Int) (p:aj) (A:Option Addr) (n c:Nat) (B:Option Addr) (m d:Nat) (pl e:Int) (hO:gX G (gD b s i p (.slice A n c) (.slice B m d) pl e :: L) w0) :
  Calls prog 164 #[(aJ b 2)] w0 (gH w0 G (gD b s i p (.slice A n c) (.slice B m d) pl e :: L) fun u G' L'=>u=vi n∧L'=gD b s i p (.slice A n c) (.slice B m d) pl e :: L∧G'=G):=by
 refine kg (N:=8) (T:=[(0,_)]) func164 rfl ntmps164 rfl rfl hO ?_;intro a H;exact kP H (SR fun _ K1=>ak K1 rfl (SR fun _ K2=>Rm rfl (Rk rfl (aW yM zw 0 rfl rfl (Rl Ba rfl (ak K2 rfl (LR results164 rfl fun H=>H.hp.eP ⟨rfl,rfl,rfl⟩)))))))
theorem akv (G:GH) (L:OL) (w0:World) (b:Nat) (s:ByteArray) (i:Int) (p:aj) (A:Option Addr) (n c:Nat) (B:Option Addr) (m d:Nat) (pl e:Int) (hO:gX G (gD b s i p (.slice A n c) (.slice B m d) pl e :: L) w0) :
  Calls prog 165 #[(aJ b 2)] w0 (gH w0 G (gD b s i p (.slice A n c) (.slice B m d) pl e :: L) fun u G' L'=>L'=gD b s i (.pointer none) (.slice none 0 0) (.slice B m d) pl e :: L∧G'=G):=by
 refine kg (N:=8) (T:=[(0,_)]) func165 rfl ntmps165 rfl rfl hO ?_;intro a H;refine kP H (SR fun _ K1=>Rm rfl (Rk rfl (Rf zY rfl ?_)));clear H;intro a H;refine bM AY 0 (vs:=[_]) _ H wn rfl rfl rfl rfl rfl rfl rfl rfl ?_;clear H;intro w H;dsimp only [List.set,setRow] at H;refine K1 _ _ ?_;clear K1;refine kP H (SC (Rm rfl (Rk rfl (Rf yM rfl ?_))));clear H;intro a H;refine bM zw 0 (vs:=[_]) _ H wn rfl rfl rfl rfl rfl rfl rfl rfl ?_;clear H;intro w H;dsimp only [List.set,setRow] at H;refine aI ?_;refine (leave0 H results165 ?_).2;exact H.hp.eP ⟨rfl,rfl⟩
theorem akw (G:GH) (Lp Lo:OL) (w0:World) (b:Nat) (s:ByteArray) (i:Int) (p v:aj) (B:Option Addr) (m d:Nat) (pl e:Int) (l:List UInt8) (hO:gX G (gD b s i p v (.slice B m d) pl e :: (Lp++Lo)) w0) (hrow:dJ 5 1 v l.length (Lib.byteCells l) Lo) (h0:l≠[]) :
  Calls prog 49 #[(aJ b 2)] w0 (gH w0 G (gD b s i p v (.slice B m d) pl e :: (Lp++Lo)) fun u G' L'=>u=.string ⟨l.toArray⟩∧L'=gD b s i p v (.slice B m d) pl e :: Lp):=by
 rcases hrow.2 with ⟨-,h,-⟩|⟨b2,cap,cur,rfl,rfl,hc1,hc2,hc3,hc4⟩
 ·exact absurd (List.eq_nil_of_length_eq_zero h) h0
 have hl0:l.length≠0:=fun h=>h0 (List.eq_nil_of_length_eq_zero h);have hml:maxLen=9223372036854775807:=rfl;obtain ⟨Lt,og⟩:∃ x,x=Lp++[(b2,Obj.cells cur 5 (0,0))]:=⟨_,rfl⟩;rw [← og] at hO ⊢;refine kg (N:=14) (T:=[(0,_)]) func49 rfl ntmps49 rfl rfl hO ?_;intro a H;refine kP H (SR fun _ K1=>ak K1 rfl (SQ fun _ K2=>?_));clear H K1;intro a H;have H:=H.sub (T':=[(0,_)]) ⟨rfl,aD⟩;refine dI hmx [[],[0],[0,1],[0,1,2],(ra 0 4),[],[5],[5,6],[5,6,7],(ra 5 4),(ra 0 10),(ra 0 11)] [10,11] (by kernel_rfl) [_,_,_,.slice (some ⟨b2,0,none⟩) l.length cap,(aJ b2 0),_,_,_,.slice (some ⟨b2,0,none⟩) l.length cap,_] H (aG (Z0 rfl (Rm rfl)) (Z1 0 3 rfl (Rk rfl)) (Z1 1 4 rfl (Rf yM rfl)) (Z1 2 5 rfl (Ro zw 0 rfl)) (aG ?_ (Z0 rfl (Rm rfl)) (Z1 5 8 rfl (Rk rfl)) (Z1 6 9 rfl (Rf yM rfl)) (aG (Z1 7 10 rfl (Ro zw 0 rfl)) (Z1 8 11 rfl (Rl Ba rfl)) (bN rfl) (bN rfl) bZ))) ?_
 ·refine dO 3 6 rfl rfl fun _ a w G1 hG HT H fin=>?_;refine X4 H wn rfl (by omega) rfl ?_;clear H;intro a H;exact fin H iJ rfl
 clear H;intro a w G ng H hv;have H:=H.aQ (hv 4 7 rfl rfl) rfl;have H:=H.aQ (hv 9 12 rfl rfl) rfl;clear hv;subst og;have H:=H.perm (List.Perm.cons _ zR);dsimp only [lca,bD] at H;refine X7 (i:=1) l Yx Te h0 (by omega) H wn rfl rfl rfl (by rw [← hc4,Nat.mul_one]) rfl ?_;clear H;intro fz a w H;dsimp only [List.set] at H;refine kH H (Ra rfl ?_);clear H;intro a H;refine aI ⟨rfl,?_⟩;refine K2 _ _ ?_;clear K2;refine lr H results49 rfl ?_;exact H.hp.gT (L':=gD b s i _ _ _ pl e :: Lp) (List.Sublist.cons_cons _ (zQ _ _)) ⟨rfl,rfl⟩
end
section
open Go.RowKit
section
variable {N:Nat} {D:List Deferred} {w0:World} {F:Nat→Prop} {G0 G G1 G2:GH} {L L1 L2:OL} {T Xs:List (Nat × aj)}
variable {r:Option Nat} {P:Program} {Q:Exit→Act→World→Prop} {l:List Oper} {a a':Act} {w w':World}
end
end
section
open Go.RowKit
section
variable {N:Nat} {D:List Deferred} {w0:World} {F:Nat→Prop} {G0 G G1 G2:GH} {L L1 L2:OL} {T Xs:List (Nat × aj)}
variable {r:Option Nat} {P:Program} {Q:Exit→Act→World→Prop} {l:List Oper} {a a':Act} {w w':World}
theorem abW {pr:Nat→aj→GH→Prop} {S:Nat→Bool} {i d:Nat} {v:aj} (hok:mP l T i=true) (iQ:∀ i v (G G':GH),(∀ k o,G k=some o→G' k=some o)→pr i v G→pr i v G') (hi:dZ l i=some d)
  (HT:St N D w0 F G0 G1 L T a w) (Hb:St N D w0 F G0 G1 L (Xs++full N a) a w) (hG:∀ k o,G k=some o→G1 k=some o) (hv:∀ j d,j≠i→S j=true→dZ l j=some d→∃ v,a.tmps[d]?=some v∧pr j v G1)
  (hG2:∀ k o,G1 k=some o→G2 k=some o) (hp:pr i v G2) (H:St N D w0 F G0 G2 L1 ((d,v) :: (Xs++full N a)) a' w'):DX N D w0 F G0 G L1 T l pr (dP S i) a' w':=by
 have hok1:=hok
 rw [mP,hi] at hok1
 simp only [lD,Option.isNone_iff_eq_none,lC,oD] at hok1
 have hsame:∀ t,t≠d→a'.tmps[t]?=a.tmps[t]?:=by
  intro t ht
  by_cases hlt:t < N
  ·have h1:∃ u,lk (Xs++full N a) t=some u:=by
    rw [DT]
    cases lk Xs t with
    | some u=>exact ⟨u,rfl⟩
    | none=>exact ⟨_,KC a hlt⟩
   obtain ⟨u,hu⟩:=h1
   rw [Hb.get t u hu,H.get t u (by rw [fB (Ne.symm ht)];exact hu)]
  ·rw [Array.getElem?_eq_none (by rw [H.lH];omega),Array.getElem?_eq_none (by rw [Hb.lH];omega)]
 refine ⟨G2,fun k o hk=>hG2 k o (hG k o hk),⟨H.lH,fun t u ht=>?_,H.qB,H.hp⟩,fun j e hj he=>?_⟩
 ·rw [hsame t (fun e=>by rw [e,hok1.1] at ht;cases ht)]
  exact HT.get t u ht
 ·by_cases hji:j=i
  ·subst hji
   rw [hi] at he
   simp only [nG] at he
   subst he
   exact ⟨v,H.get d v (kr _ _ _),hp⟩
  ·have hSj:S j=true:=by unfold dP at hj;rwa [ah hji] at hj
   obtain ⟨u,hu1,hu2⟩:=hv j e hji hSj he
   have hne:e≠d:=by
    intro e'
    subst e'
    have h2:=hok1.2 j (vZ he)
    rw [vW (fun h=>hji h.symm),he] at h2
    simp at h2
   exact ⟨u,by rw [hsame e hne];exact hu1,iQ j u _ _ hG2 hu2⟩
theorem aaE {id:Nat} {κ:Type} (k0:κ) (hm:P.follows .mixedOrders=true) (bQ:List (List Nat)) (B:List Nat) (hk:yL l bQ=true) (hB:zu l bQ B=true) (m1 m2 m3:Nat) (agt:B.contains m1=false) (Vw:B.contains m2=false) (agu:B.contains m3=false) (hne:Nat.beq m1 m2=false) (VD:Nat.beq m2 m3=false) (hne1:Nat.beq m1 m3=false) (h12:(bQ.getD m2 []).contains m1=true) (gu:(bQ.getD m3 []).contains m1=true) (h23:(bQ.getD m3 []).contains m2=true)
  (C L2:OL) (ob:Obj) (L3:Nat→κ→OL) (hC:∀ x,x∈C→x∈L) (hC2:∀ x,x∈C→x∈L2) (hC3:∀ b k x,x∈C→x∈L3 b k) (pr:Nat→κ→Nat→aj→GH→Prop)
  (agG:∀ b b' k i v G,Nat.beq i m2=false→(bQ.getD i []).contains m2=false→pr b k i v G→pr b' k i v G)
  (agH:∀ b k k' i v G,Nat.beq i m3=false→(bQ.getD i []).contains m3=false→pr b k i v G→pr b k' i v G)
  (H:St N D w0 F G0 G L T a w)
  (hstep:allI (fun i o=>∀ b k L' S a w G1,(∀ x,x∈C→x∈L')→B.contains i=false→Nat.beq i m1=false→Nat.beq i m2=false→Nat.beq i m3=false→S i=false→(∀ j∈bQ.getD i [],S j=true)→(∀ k o,G k=some o→G1 k=some o)→St N D w0 F G0 G1 L' T a w→(∀ i d,S i=true→dZ l i=some d→∃ v,a.tmps[d]?=some v∧pr b k i v G1) →
   WL r P l.toArray (fun e a' w'=>e=.normal∧DX N D w0 F G0 G L' T l (pr b k) (dP S i) a' w') [o] a w) 0 l)
  (OP:∀ o b k S a w G1,l[m1]?=some o→S m1=false→(∀ j∈bQ.getD m1 [],S j=true)→(∀ k o,G k=some o→G1 k=some o)→St N D w0 F G0 G1 L T a w→(∀ i d,i≠m1→S i=true→dZ l i=some d→∃ v,a.tmps[d]?=some v∧pr b k i v G1) →
   WL r P l.toArray (fun e a' w'=>e=.normal∧DX N D w0 F G0 G L2 T l (pr b k) (dP S m1) a' w') [o] a w)
  (OQ:∀ o k S a w G1,l[m2]?=some o→S m2=false→(∀ j∈bQ.getD m2 [],S j=true)→(∀ k o,G k=some o→G1 k=some o)→St N D w0 F G0 G1 L2 T a w→(∀ b i d,i≠m2→S i=true→dZ l i=some d→∃ v,a.tmps[d]?=some v∧pr b k i v G1) →
   WL r P l.toArray (fun e a' w'=>e=.normal∧∃ b,DX N D w0 F G0 G ((b,ob) :: L2) T l (pr b k) (dP S m2) a' w') [o] a w)
  (agw:∀ o b S a w G1,l[m3]?=some o→S m3=false→(∀ j∈bQ.getD m3 [],S j=true)→(∀ k o,G k=some o→G1 k=some o)→St N D w0 F G0 G1 ((b,ob) :: L2) T a w→(∀ k i d,i≠m3→S i=true→dZ l i=some d→∃ v,a.tmps[d]?=some v∧pr b k i v G1) →
   WL r P l.toArray (fun e a' w'=>e=.normal∧∃ k,DX N D w0 F G0 G (L3 b k) T l (pr b k) (dP S m3) a' w') [o] a w)
  (hend:∀ b k a w G1,(∀ k o,G k=some o→G1 k=some o)→St N D w0 F G0 G1 (L3 b k) T a w→(∀ i d,B.contains i=false→dZ l i=some d→∃ v,a.tmps[d]?=some v∧pr b k i v G1)→WL r P l.toArray (fun e a w=>e=.normal∧Q .normal a w) (qE l B) a w)
  (Hu:Nat.blt m2 l.length=true) (OT:Nat.blt m3 l.length=true):WP r P (.region id l.toArray true) Q a w:=by
 have Xf:m1≠m2:=fun e=>by subst e;rw [Nat.beq_refl] at hne;cases hne
 have Xh:m2≠m3:=fun e=>by subst e;rw [Nat.beq_refl] at VD;cases VD
 have Xg:m1≠m3:=fun e=>by subst e;rw [Nat.beq_refl] at hne1;cases hne1
 refine SV hm bQ B hk hB (fun S a w=>(S m2=true→S m1=true)∧(S m3=true→S m2=true)∧∃ b k L',L'=(bif S m3 then L3 b k else bif S m2 then (b,ob) :: L2 else bif S m1 then L2 else L)∧DX N D w0 F G0 G L' T l (pr b k) S a w)
  ⟨fun h=>h,fun h=>h,0,k0,L,rfl,G,fun _ _ h=>h,H.move H.hp.drew,fun _ _ h=>absurd (show false=true from h) (by decide)⟩ ?_ ?_
 ·rintro i o S a w ho hb bE lZ hdesc ⟨Hw,agB,b,k,L',hL,G1,hG,HS,hv⟩
  have hsub:∀ x,x∈C→x∈L':=fun x hx=>by
   rw [hL]
   cases S m3 with
   | true=>exact hC3 b k x hx
   | false=>cases S m2 with
    | true=>exact jZ _ (hC2 x hx)
    | false=>cases S m1 with
     | true=>exact hC2 x hx
     | false=>exact hC x hx
  have hno:∀ j,j < l.length→S j=true→(bQ.getD j []).contains i=false:=fun j hjl hj=>by
   cases hc:(bQ.getD j []).contains i with
   | false=>rfl
   | true =>
    have:=hdesc j hjl (by simpa using hc)
    rw [this] at hj;cases hj
  by_cases h1:i=m1
  ·subst h1
   have hS2:S m2=false:=hdesc m2 (Eq.mp Nat.blt_eq Hu) (by simpa using h12)
   have ER:S m3=false:=hdesc m3 (Eq.mp Nat.blt_eq OT) (by simpa using gu)
   rw [ER,hS2,bE] at hL
   subst hL
   have h:=OP o b k S a w G1 ho bE lZ hG HS fun j d hj hSj hd=>hv j d hSj hd
   have e2:dP S i m2=S m2:=ah (fun e=>Xf e.symm)
   have e3:dP S i m3=S m3:=ah (fun e=>Xg e.symm)
   refine qI (fun e a' w' ⟨he,hD⟩=>⟨he,fun _=>au rfl,fun h=>(by rw [e3,ER] at h;cases h),b,k,_,?_,hD⟩) h
   rw [show dP S i i=true from au rfl,e2,e3,hS2,ER]
   rfl
  ·by_cases h2:i=m2
   ·subst h2
    have hS1:S m1=true:=lZ m1 (by simpa using h12)
    have ER:S m3=false:=hdesc m3 (Eq.mp Nat.blt_eq OT) (by simpa using h23)
    rw [ER,bE,hS1] at hL
    subst hL
    have e1:dP S i m1=S m1:=ah Xf
    have e3:dP S i m3=S m3:=ah (fun e=>Xh e.symm)
    have h:=OQ o k S a w G1 ho bE lZ hG HS fun b' j d hj hSj hd=>by
     obtain ⟨v,hv1,hv2⟩:=hv j d hSj hd
     exact ⟨v,hv1,agG b b' k j v _ (vW hj) (hno j (vZ hd) hSj) hv2⟩
    refine qI (fun e a' w' ⟨he,b',hD⟩=>⟨he,fun _=>by rw [e1];exact hS1,fun _=>au rfl,b',k,_,?_,hD⟩) h
    rw [show dP S i i=true from au rfl,e3,ER];rfl
   ·by_cases h3:i=m3
    ·subst h3
     have hS1:S m1=true:=lZ m1 (by simpa using gu)
     have hS2:S m2=true:=lZ m2 (by simpa using h23)
     rw [bE,hS2] at hL
     subst hL
     have e1:dP S i m1=S m1:=ah Xg
     have e2:dP S i m2=S m2:=ah Xh
     have h:=agw o b S a w G1 ho bE lZ hG HS fun k' j d hj hSj hd=>by
      obtain ⟨v,hv1,hv2⟩:=hv j d hSj hd
      exact ⟨v,hv1,agH b k k' j v _ (vW hj) (hno j (vZ hd) hSj) hv2⟩
     refine qI (fun e a' w' ⟨he,k',hD⟩=>⟨he,fun _=>by rw [e1];exact hS1,fun _=>by rw [e2];exact hS2,b,k',_,?_,hD⟩) h
     rw [show dP S i i=true from au rfl];rfl
    ·have h:=Ey hstep i o ho
     rw [kT] at h
     have e1:dP S i m1=S m1:=ah (fun e=>h1 e.symm)
     have e2:dP S i m2=S m2:=ah (fun e=>h2 e.symm)
     have e3:dP S i m3=S m3:=ah (fun e=>h3 e.symm)
     refine qI (fun e a' w' ⟨he,hD⟩=>⟨he,by rw [e1,e2];exact Hw,by rw [e2,e3];exact agB,b,k,L',?_,hD⟩) (h b k L' S a w G1 hsub hb (vW h1) (vW h2) (vW h3) bE lZ hG HS hv)
     rw [e1,e2,e3];exact hL
 ·rintro S a w hall hnB ⟨_,_,b,k,L',hL,G1,hG,HS,hv⟩
  have hs3:S m3=true:=hall m3 (Eq.mp Nat.blt_eq OT) agu
  rw [hs3] at hL
  subst hL
  exact hend b k a w G1 hG HS fun j d hb hd=>hv j d (hall j (vZ hd) hb) hd
end
theorem akK {z:Int} (h1:0≤z) (h2:z < 256):IntKind.u8.wrap z=z:=by
 simp only [IntKind.wrap,IntKind.bits,IntKind.signed,uQ,CJ,if_false]
 omega
section
variable {N:Nat} {D:List Deferred} {w0:World} {F:Nat→Prop} {G0 G:GH} {L:OL} {T:List (Nat × aj)}
variable {r:Option Nat} {P:Program} {ops:Array Oper} {Q:Exit→Act→World→Prop} {rest:List Oper} {a:Act} {w:World}
variable {d:Nat} {ty:TypeId} {pos:String} {aP:Array Edge} {g:Option (Nat × Bool)}
theorem ajO {x y:Operand} {t yt:TypeId} {p q:Int} (H:St N D w0 F G0 G L T a w) (hw:Region.wanted ⟨some d,.binOp .sub t x y yt,ty,pos,aP,g⟩ (yielded ops a.tmps)=true) (hx:ev T x=some (.int .u8 p)) (hy:ev T y=some (.int .u8 q)) (h1:0≤p - q) (h2:p - q < 256) (hd:Nat.blt d N=true)
  (k:∀ a',St N D w0 F G0 G L ((d,.int .u8 (p - q)) :: T) a' w→WL r P ops Q rest a' w):WL r P ops Q (⟨some d,.binOp .sub t x y yt,ty,pos,aP,g⟩ :: rest) a w :=
 fO (v:=.int .u8 (p - q)) (w':=w) hw rfl (by simp [execOp,eqGuard,binOp,Op.intArith,H.ev hx,H.ev hy,cO,akK h1 h2]) (k _ (H.put hd _ H.hp))
end
end
end Go.Proofs.YteopmoocmoigcaaGreat
