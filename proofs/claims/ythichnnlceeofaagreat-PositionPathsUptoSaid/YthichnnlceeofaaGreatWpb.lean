/-
  What the claim stands on, part 2: Package run: what its functions compute. Ranges over functions whose state is told by ghosts. Package position: the positions of a document, in document order. Package position: positions, Count. Package document: the flows of a document. Package document: Flow; package position: length, CheckRange, Check. Equality of values that are made of ints. Package position: Index and Of. Package strings: the builder, as run.Text uses it. Halving: the least place at which a test holds; the place of a number in a list. Remainders, fields of struct values, ranges over strings, runes. Package property: the table of keys; halving. Package property: find, Group, Fits, CheckValue, Get. Package document: notes and tables with their positions. Package document: Place.
-/
import Derived.Test.YthichnnlceeofaaGreatWpa
import Derived.Laws.StructEq
import Derived.ChangeKeysEq
import Derived.Lib.OthersKept
import Derived.Laws.IdiomStrings
import Derived.Laws.Cover4
import Derived.Laws.Slices
import Derived.Laws.Strings2
namespace Go.Proofs.YthichnnlceeofaaGreat
section
open Go.RowKit
theorem hmx:Tryz.prog.follows .mixedOrders=true:=by kernel_rfl
theorem jJ:bO Tryz.prog 85 0 0:=⟨by kernel_rfl⟩
theorem ak:Ty Tryz.prog 3 1 8 [.int .i64 0] false:=⟨by kernel_rfl,by kernel_rfl⟩
theorem vL:bO Tryz.prog 85 3 3:=⟨by kernel_rfl⟩
theorem gB:Ty Tryz.prog 9 1 16 [.string ⟨#[]⟩] false:=⟨by kernel_rfl,by kernel_rfl⟩
theorem Gd:∀ args w,(callFunc 57 args).run Tryz.prog w=.ok (.enter 57 args) w:=enters Tryz.func57 rfl (by kernel_rfl)
theorem jO:Tryz.prog.underlying 22=some (.slice 85):=by kernel_rfl
theorem dH:Ty Tryz.prog 85 11 176 [.int .i64 0,.int .i64 0,.int .i64 0,.string ⟨#[]⟩,.slice none 0 0,.int .i64 0,.int .i64 0,.slice none 0 0,.slice none 0 0,.slice none 0 0,.slice none 0 0] true:=⟨by kernel_rfl,by kernel_rfl⟩
theorem Y3:∀ args w,(callFunc 51 args).run Tryz.prog w=.ok (.enter 51 args) w:=enters Tryz.func51 rfl (by kernel_rfl)
theorem qP:Tryz.prog.underlying 23=some (.slice 147):=by kernel_rfl
theorem nu:Ty Tryz.prog 147 2 16 [.int .i64 0,.int .i64 0] true:=⟨by kernel_rfl,by kernel_rfl⟩
theorem sH:Tryz.prog.underlying 24=some (.slice 150):=by kernel_rfl
theorem xY:Ty Tryz.prog 150 2 16 [.int .i64 0,.int .i64 0] true:=⟨by kernel_rfl,by kernel_rfl⟩
theorem x9:Tryz.prog.underlying 25=some (.slice 178):=by kernel_rfl
theorem xZ:Ty Tryz.prog 178 4 32 [.int .i64 0,.int .i64 0,.int .i64 0,.bool false] true:=⟨by kernel_rfl,by kernel_rfl⟩
theorem qO:Ty Tryz.prog 29 5 88 [.slice none 0 0,.int .i64 0,.int .i64 0,.slice none 0 0,.slice none 0 0] true:=⟨by kernel_rfl,by kernel_rfl⟩
theorem Gp:bO Tryz.prog 29 0 0:=⟨by kernel_rfl⟩
theorem CF:Ty Tryz.prog 23 1 24 [.slice none 0 0] false:=⟨by kernel_rfl,by kernel_rfl⟩
theorem X6:∀ args w,(callFunc 106 args).run Tryz.prog w=.ok (.enter 106 args) w:=enters Tryz.func106 rfl (by kernel_rfl)
theorem Bz:bO Tryz.prog 29 1 1:=⟨by kernel_rfl⟩
theorem vJ:bO Tryz.prog 27 2 2:=⟨by kernel_rfl⟩
theorem wz:Ty Tryz.prog 24 1 24 [.slice none 0 0] false:=⟨by kernel_rfl,by kernel_rfl⟩
theorem X7:∀ args w,(callFunc 107 args).run Tryz.prog w=.ok (.enter 107 args) w:=enters Tryz.func107 rfl (by kernel_rfl)
theorem D6:bO Tryz.prog 27 3 3:=⟨by kernel_rfl⟩
theorem ET:Ty Tryz.prog 25 1 24 [.slice none 0 0] false:=⟨by kernel_rfl,by kernel_rfl⟩
theorem X8:∀ args w,(callFunc 108 args).run Tryz.prog w=.ok (.enter 108 args) w:=enters Tryz.func108 rfl (by kernel_rfl)
theorem lV:Tryz.prog.underlying 83=some (.slice 88):=by kernel_rfl
theorem iV:Ty Tryz.prog 88 6 112 [.slice none 0 0,.int .i64 0,.int .i64 0,.slice none 0 0,.slice none 0 0,.slice none 0 0] true:=⟨by kernel_rfl,by kernel_rfl⟩
theorem kg:Tryz.prog.underlying 86=some (.slice 90):=by kernel_rfl
theorem gQ:Ty Tryz.prog 90 7 120 [.int .i64 0,.slice none 0 0,.int .i64 0,.int .i64 0,.slice none 0 0,.slice none 0 0,.slice none 0 0] true:=⟨by kernel_rfl,by kernel_rfl⟩
theorem wS:bO Tryz.prog 90 0 0:=⟨by kernel_rfl⟩
theorem QC:bO Tryz.prog 90 1 1:=⟨by kernel_rfl⟩
theorem Ke:∀ args w,(callFunc 78 args).run Tryz.prog w=.ok (.enter 78 args) w:=enters Tryz.func78 rfl (by kernel_rfl)
theorem yI:bO Tryz.prog 90 2 6:=⟨by kernel_rfl⟩
theorem iR:Ty Tryz.prog 22 1 24 [.slice none 0 0] false:=⟨by kernel_rfl,by kernel_rfl⟩
theorem J7:∀ args w,(callFunc 50 args).run Tryz.prog w=.ok (.enter 50 args) w:=enters Tryz.func50 rfl (by kernel_rfl)
theorem Uj:oN Tryz.prog 90 [(0,1),(1,5),(6,1)] [.int .i64 0,.slice none 0 0,.int .i64 0,.int .i64 0,.slice none 0 0,.slice none 0 0,.slice none 0 0]:=⟨by kernel_rfl,by kernel_rfl⟩
theorem QB:bO Tryz.prog 88 0 0:=⟨by kernel_rfl⟩
theorem vM:bO Tryz.prog 88 1 5:=⟨by kernel_rfl⟩
theorem wB:Ty Tryz.prog 86 1 24 [.slice none 0 0] false:=⟨by kernel_rfl,by kernel_rfl⟩
theorem X9:∀ args w,(callFunc 109 args).run Tryz.prog w=.ok (.enter 109 args) w:=enters Tryz.func109 rfl (by kernel_rfl)
theorem aeL:oN Tryz.prog 88 [(0,5),(5,1)] [.slice none 0 0,.int .i64 0,.int .i64 0,.slice none 0 0,.slice none 0 0,.slice none 0 0]:=⟨by kernel_rfl,by kernel_rfl⟩
theorem Kr:bO Tryz.prog 85 4 4:=⟨by kernel_rfl⟩
theorem yH:bO Tryz.prog 85 5 9:=⟨by kernel_rfl⟩
theorem tV:bO Tryz.prog 85 6 10:=⟨by kernel_rfl⟩
theorem uU:Ty Tryz.prog 83 1 24 [.slice none 0 0] false:=⟨by kernel_rfl,by kernel_rfl⟩
theorem Zl:∀ args w,(callFunc 79 args).run Tryz.prog w=.ok (.enter 79 args) w:=enters Tryz.func79 rfl (by kernel_rfl)
theorem Zj:∀ args w,(callFunc 76 args).run Tryz.prog w=.ok (.enter 76 args) w:=enters Tryz.func76 rfl (by kernel_rfl)
theorem Ya:∀ args w,(callFunc 110 args).run Tryz.prog w=.ok (.enter 110 args) w:=enters Tryz.func110 rfl (by kernel_rfl)
theorem Zm:∀ args w,(callFunc 80 args).run Tryz.prog w=.ok (.enter 80 args) w:=enters Tryz.func80 rfl (by kernel_rfl)
theorem Zk:∀ args w,(callFunc 77 args).run Tryz.prog w=.ok (.enter 77 args) w:=enters Tryz.func77 rfl (by kernel_rfl)
/-- How many units an item has, and its error. -/
def dR (x:aj):Nat:=if x.kind=1 then oQ x.text else 1
def oI (x:aj):Int:=if x.kind=1 then AB x.text else 0
theorem ae3 (G:GH) (w0:World) (hG:Hold G w0) (x:aj) (i2 i3:Int) (p i5 i6 d l f r:Value) (hs:x.text.size < 4611686018427387904) :
  Calls Tryz.prog 51 #[.agg #[vi x.kind,vi i2,vi i3,.string x.text,p,i5,i6,d,l,f,r]] w0 (aU w0 G fun v G'=>v=.tuple #[vi (dR x),vi (oI x)]∧G=G'):=by
 refine eN [(0,_)] Tryz.func51 rfl Tryz.ntmps51 rfl rfl hG ?_;intro a H;refine aY (fun _ K1=>?_);refine bY (cs:=[_,_,_,_,_,_,_,_,_,_,_]) H wn rfl rfl rfl ?_;clear H;intro b1 a w hb1 H;refine kH H (Ra rfl (Ra rfl (Kz K1 (SQ fun _ K2=>SR fun _ K3=>Rf jJ rfl (Ro ak 0 rfl rfl (Rc rfl (Kz K3 (Cd rfl ?_ ?_)))))))) <;> clear H K1 K3
 ·intro h6 a H
  try have p6:=dT h6
  refine kP H (SR fun _ K4=>Ra rfl (Ra rfl (Kz K4 ?_)));clear H K4;intro a H;refine aR ?_;refine (bU H Tryz.results51 (.cons (aF H rfl) (.cons (aF H rfl) .nil)) ?_).1;exact H.hp.ret ⟨by simp only [dR,oI,if_neg p6];rfl,rfl⟩
 intro h6 a H
 try have p6:=dF h6
 refine kP H (Kc K2 (SR fun _ K5=>Rf vL rfl (Ro gB 0 rfl rfl ?_)));clear H K2;intro a H;refine s_call Gd H wn rfl (FQ _ _ H.hp.ro _ hs) rfl ?_;clear H;rintro v9 _ a w ⟨rfl,rfl⟩ - H;(iterate 2 refine gV H wn rfl rfl rfl ?_;clear H;intro a H);refine kH H (Ra rfl (Ra rfl (Kz K5 ?_)));clear H K5;intro a H;refine aR ?_;refine (bU H Tryz.results51 (.cons (aF H rfl) (.cons (aF H rfl) .nil)) ?_).1;exact H.hp.ret ⟨by rw [Decidable.not_not] at p6;simp only [dR,oI,if_pos p6],rfl⟩
def sO (l:List aj):Bool:=l.all fun x=>decide (oI x=0)
def qd:List aj→Nat
 | []=>0
 | x :: l=>dR x+qd l
def pX (l:List aj):Int:=if sO l then qd l else 0
def MR (l:List aj):Int:=if sO l then 0 else 12
def pz:List aj→Nat
 | []=>0
 | x :: l=>x.text.size+1+pz l
theorem NC:∀ l:List aj,qd l≤pz l
 | []=>Nat.le_refl _
 | x :: l=>by
  have:=NC l;have h2:=yG x.text
  simp only [qd,pz,dR];split <;> omega
theorem Ur {x:aj}:∀ {l:List aj},x∈l→x.text.size < pz l
 | [],h=>by cases h
 | y :: l,h=>by
  simp only [pz]
  rcases List.mem_cons.1 h with rfl|h
  ·omega
  have:=Ur h;omega
theorem aeP (l m:List aj):qd (l++m)=qd l+qd m:=by
 induction l with
 | nil=>simp [qd]
 | cons x l ih=>simp [qd,ih];omega
theorem aeQ {l:List aj} {k:Nat} (h:k < l.length):qd (l.take (k+1))=qd (l.take k)+dR l[k]:=by
 rw [List.take_succ_eq_append_getElem h,aeP];simp [qd]
theorem aeT (l m:List aj):pz (l++m)=pz l+pz m:=by
 induction l with
 | nil=>simp [pz]
 | cons x l ih=>simp [pz,ih];omega
theorem aeU (l:List aj) (k:Nat):pz (l.take k)≤pz l:=by
 have:=aeT (l.take k) (l.drop k);rw [List.take_append_drop] at this;omega
/-- An element of a flow that lies in memory. -/
theorem BD {G:GH} {l:List aj} {A:Option Addr} {k:Nat} (hk:k < l.length) (hg:∀ k r,(l.map aj.dat)[k]?=some r→∃ b o cs,A=some ⟨b,o,none⟩∧cs.length=11∧(∀ j u,cs[j]?=some u→aB G b (o+k*11+j)=some u)∧aO G r cs) :
  ∃ b o pA pn pc dA dn dc yA yn yc fA fn fc rA rn rc,A=some ⟨b,o,none⟩∧(∀ j u,[vi l[k].kind,vi l[k].code,vi l[k].id,.string l[k].text,.slice pA pn pc,vi l[k].head.marks.ins,vi l[k].head.marks.move,.slice dA dn dc,.slice yA yn yc,.slice fA fn fc,.slice rA rn rc][j]?=some u→aB G b (o+k*11+j)=some u) ∧
   jq G l[k].head (.slice pA pn pc) (.slice dA dn dc) (.slice yA yn yc)∧ah G (.sl 11 (l[k].flow.map aj.dat)) (.slice fA fn fc)∧ah G (.sl 6 (l[k].rows.map aN.dat)) (.slice rA rn rc):=by
 obtain ⟨b,o,cs,h1,h2,h3,h4⟩:=hg k l[k].dat (by simp [hk]);obtain ⟨pA,pn,pc,dA,dn,dc,yA,yn,yc,fA,fn,fc,rA,rn,rc,rfl,h5,h6,h7⟩:=h4.item;exact ⟨b,o,pA,pn,pc,dA,dn,dc,yA,yn,yc,fA,fn,fc,rA,rn,rc,h1,h3,h5,h6,h7⟩
theorem XM {l:List aj} {k:Nat} (h:k < l.length):sO (l.take (k+1))=(sO (l.take k) && decide (oI l[k]=0)):=by
 unfold sO
 rw [List.take_succ_eq_append_getElem h,List.all_append];simp
theorem XL {l:List aj} {k:Nat} (h:k < l.length) (hn:¬ oI l[k]=0):sO l=false:=by
 unfold sO
 rw [List.all_eq_false];exact ⟨l[k],List.getElem_mem h,by simpa using hn⟩
theorem Sl:∀ l:List aj,l.length≤pz l
 | []=>Nat.le_refl _
 | x :: l=>by have:=Sl l;simp only [List.length_cons,pz];omega
theorem NI:∀ l:List aj,pz l≤aS l
 | []=>Nat.le_refl _
 | x :: l=>by
  have:=NI l;have h2:=lF x
  simp only [pz,aS,List.map_cons,dw] at *;omega
theorem Hz (G:GH) (w0:World) (hG:Hold G w0) (l:List aj) (v:Value) (hv:ah G (.sl 11 (l.map aj.dat)) v) (hz:aS l≤4294967296) :
  Calls Tryz.prog 32 #[v] w0 (aU w0 G fun v G'=>v=.tuple #[vi (pX l),vi (MR l)]∧G=G'):=by
 obtain ⟨A,c,rfl,hc1,hc2,hg⟩:=hv.slice;rw [List.length_map] at *;have hll:=Sl l;have htz:=NI l;refine eN [(0,_)] Tryz.func32 rfl Tryz.ntmps32 rfl rfl hG ?_;intro a H;refine kP H (SR fun _ K1=>Ra rfl (Ra rfl (Kz K1 (SR fun _ K2=>Ra rfl (Kz K2 (SQ fun _ K3=>SR fun _ K4=>Rm rfl (Rl jO rfl (Rm rfl (Kz K4 (SB ?_))))))))));clear H K1 K2 K4;intro a H;skip;refine d9 (ι:=Nat) (Tc:=[(9,_),(10,_)]) (Lc:=[]) (fun (gh:Nat)=>[(4,vi (qd (l.take gh))),(11,vi gh)]) (fun (gh:Nat)=>[]) (fun (gh:Nat)=>G) (fun (gh:Nat)=>gh≤l.length∧sO (l.take gh)=true) (fun (gh:Nat)=>l.length - gh) (0) (by exact (H).sub ⟨rfl,rfl,rfl,rfl,trivial⟩) ?_ ?_
 ·exact ⟨by omega,by simp [sO]⟩
 clear H;intro gh a w hI H;obtain ⟨k,hgh⟩:∃ x,x=gh:=⟨_,rfl⟩;subst hgh;obtain ⟨hk,hd⟩:=hI;dsimp only [List.cons_append,List.nil_append,List.append_nil] at H;refine kP H (SR fun _ K5=>Rc rfl (Kz K5 (SQ fun _ K6=>Cd rfl ?_ ?_))) <;> clear H K5
 ·intro h12 a H
  try have oz:=dT h12
  have hk2:k < l.length:=by omega
  obtain ⟨b,o,pA,pn,pc,dA,dn,dc,yA,yn,yc,fA,fn,fc,rA,rn,rc,rfl,hrow,-⟩:=BD hk2 hg;have hsm:=aeQ hk2;have hle:=NC (l.take (k+1));have hle2:=aeU l (k+1);refine kP H (Kc K6 (SQ fun _ K7=>SB (SR fun _ K8=>Ri jO dH rfl rfl ?_)));clear H K6;intro a H;refine aK dH (cs:=[_,_,_,_,_,_,_,_,_,_,_]) H wn rfl rfl (fun j v hj=>H.hp.aB (hrow j v hj)) rfl ?_;clear H;intro a H;refine bX dH H wn rfl ?_;clear H;intro b6 a w hb6 H;refine aP dH 0 (vs:=[_,_,_,_,_,_,_,_,_,_,_]) _ H wn rfl rfl rfl rfl rfl rfl rfl rfl ?_;clear H;intro w H;dsimp only [List.set,setRow] at H;refine K8 _ _ ?_;clear K8;refine aY (fun _ K9=>?_);refine aK dH (cs:=[_,_,_,_,_,_,_,_,_,_,_]) H wn rfl rfl (H.hp.bF 0 rfl rfl) rfl ?_;clear H;intro a H;refine s_call Y3 H wn rfl (ae3 _ _ H.hp.ro _ _ _ _ _ _ _ _ _ _ (by have:=Ur (List.getElem_mem hk2);omega)) rfl ?_;clear H;rintro v17 _ a w ⟨rfl,rfl⟩ - H;refine kH H (Rm rfl ?_);clear H;intro a H;(iterate 2 refine gV H wn rfl rfl rfl ?_;clear H;intro a H);refine kH H (Ra rfl (Ra rfl (Kz K9 (SQ fun _ aH=>SR fun _ aX=>Rm rfl (Rc rfl (Kz aX (Cd rfl ?_ ?_))))))) <;> clear H K9 aX
  ·intro h21 a H
   try have lS:=dT h21
   refine kP H (SR fun _ bD=>Ra rfl (Ra rfl (Kz bD ?_)));clear H bD;intro a H;refine aR ?_;refine (bU H Tryz.results32 (.cons (aF H rfl) (.cons (aF H rfl) .nil)) ?_).1;exact H.hp.ret ⟨by simp [pX,MR,XL hk2 lS],rfl⟩
  intro h21 a H
  try have lS:=dF h21
  refine kP H (Kc aH (SC (Rm rfl (Rm rfl (Rd rfl ?_)))));clear H aH;intro a H;rw [← Int.natCast_add,← hsm] at H;refine kH H (Ra rfl (Kn K7 (SC (Rd rfl (Rm rfl ?_)))));clear H K7;intro a H;refine au ?_;refine dD ((k+1)) (by exact (H.bL (Pl:=[_]) (bB:=[]) [] (by decide) rfl).sub ⟨rfl,rfl,rfl,rfl,trivial⟩) ?_ ?_
  ·exact ⟨by omega,by rw [XM hk2,hd];simpa using lS⟩
  first|omega|(dsimp only;omega)
 intro h12 a H
 try have oz:=dF h12
 refine dL ?_;refine K3 _ _ ?_;clear K3;refine kP H (SR fun _ bH=>Rm rfl (Ra rfl (Ra rfl (Kz bH ?_))));clear H bH;intro a H;refine aR ?_;refine (bU H Tryz.results32 (.cons (aF H rfl) (.cons (aF H rfl) .nil)) ?_).1;exact H.hp.ret ⟨by rw [show l.take k=l from List.take_of_length_le (by omega)] at hd ⊢;simp [pX,MR,hd],rfl⟩
/-- A copy of a slice of Props. -/
theorem Xn (G:GH) (w0:World) (hG:Hold G w0) (rows:List (List Dat)) (A:Option Addr) (n c:Nat) (hv:ah G (.sl 2 rows) (.slice A n c)) (hz:rows.length≤4294967296) :
  Calls Tryz.prog 106 #[.slice A n c] w0 (aU w0 G fun v G'=>ah G' (.sl 2 rows) v):=by
 obtain ⟨hn,hc1,hc2,hnil,hx⟩:=hv.cells;refine eN [(0,_)] Tryz.func106 rfl Tryz.ntmps106 rfl rfl hG ?_;intro a H;refine kP H (SR fun _ K1=>Ra rfl (Kz K1 (SQ fun _ K2=>SR fun _ K3=>Rm rfl ?_)));clear H K1;intro a H;refine Nr qP H wn rfl rfl ?_;clear H;intro a H;refine K3 _ _ ?_;clear K3;refine l6 H rfl ?_ ?_
 ·intro h4
  try have p4:=dT h4
  exact kP H (SR fun _ K4=>Ra rfl (Kz K4 (LR Tryz.results106 rfl fun H=>H.hp.ret (by rw [hnil (by simpa using h4)];exact ah.gq rfl (by simp [maxLen])))))
 intro h4
 try have p4:=dF h4
 refine eX ?_;refine K2 _ _ ?_;clear K2;refine aQ (fun _ K5=>?_)
 have hA:¬ A=none:=by intro e;rw [e] at h4;cases h4
 refine mP ?_;refine Np qP nu H wn rfl ?_;clear H;intro b5 a w hb5 H;refine kH H (Rm rfl ?_);clear H;intro a H
 by_cases hr0:rows=[]
 ·have hn0:n=0:=by rw [hn,hr0];rfl
  subst hn0;refine Ir qP nu H wn rfl rfl (Nat.le_refl _) rfl ?_;clear H;intro a H;exact kH H (Ra rfl (Kn K5 (LR Tryz.results106 rfl fun H=>H.hp.ret (by rw [hr0];exact ah.gq rfl (by simp [maxLen])))))
 obtain ⟨b,o,xs,rfl,hxl,hxc,hx1,gI⟩:=hx hr0;refine sF (Li:=[]) (Lo:=[_]) (news:=xs) qP nu rfl rfl H wn rfl rfl eB.empty hxl (fun j u hj=>H.hp.aB (hxc j u hj)) hx1 (by omega) (by omega) rfl ?_;clear H;intro v7 Lo a w hrow H;obtain ⟨G',hm,hrep,H⟩:=H.rz hrow (rows:=rows) (by omega) (by simpa using gI)
 try clear hG
 obtain ⟨G2,hG2⟩:∃ g,g=G':=⟨_,rfl⟩;subst hG2;exact kH H (Ra rfl (Kn K5 (LR Tryz.results106 rfl fun H=>H.hp.ret hrep)))
/-- A copy of a slice of Dels. -/
theorem Xl (G:GH) (w0:World) (hG:Hold G w0) (rows:List (List Dat)) (A:Option Addr) (n c:Nat) (hv:ah G (.sl 2 rows) (.slice A n c)) (hz:rows.length≤4294967296) :
  Calls Tryz.prog 107 #[.slice A n c] w0 (aU w0 G fun v G'=>ah G' (.sl 2 rows) v):=by
 obtain ⟨hn,hc1,hc2,hnil,hx⟩:=hv.cells;refine eN [(0,_)] Tryz.func107 rfl Tryz.ntmps107 rfl rfl hG ?_;intro a H;refine kP H (SR fun _ K1=>Ra rfl (Kz K1 (SQ fun _ K2=>SR fun _ K3=>Rm rfl ?_)));clear H K1;intro a H;refine Nr sH H wn rfl rfl ?_;clear H;intro a H;refine K3 _ _ ?_;clear K3;refine l6 H rfl ?_ ?_
 ·intro h4
  try have p4:=dT h4
  exact kP H (SR fun _ K4=>Ra rfl (Kz K4 (LR Tryz.results107 rfl fun H=>H.hp.ret (by rw [hnil (by simpa using h4)];exact ah.gq rfl (by simp [maxLen])))))
 intro h4
 try have p4:=dF h4
 refine eX ?_;refine K2 _ _ ?_;clear K2;refine aQ (fun _ K5=>?_)
 have hA:¬ A=none:=by intro e;rw [e] at h4;cases h4
 refine mP ?_;refine Np sH xY H wn rfl ?_;clear H;intro b5 a w hb5 H;refine kH H (Rm rfl ?_);clear H;intro a H
 by_cases hr0:rows=[]
 ·have hn0:n=0:=by rw [hn,hr0];rfl
  subst hn0;refine Ir sH xY H wn rfl rfl (Nat.le_refl _) rfl ?_;clear H;intro a H;exact kH H (Ra rfl (Kn K5 (LR Tryz.results107 rfl fun H=>H.hp.ret (by rw [hr0];exact ah.gq rfl (by simp [maxLen])))))
 obtain ⟨b,o,xs,rfl,hxl,hxc,hx1,gI⟩:=hx hr0;refine sF (Li:=[]) (Lo:=[_]) (news:=xs) sH xY rfl rfl H wn rfl rfl eB.empty hxl (fun j u hj=>H.hp.aB (hxc j u hj)) hx1 (by omega) (by omega) rfl ?_;clear H;intro v7 Lo a w hrow H;obtain ⟨G',hm,hrep,H⟩:=H.rz hrow (rows:=rows) (by omega) (by simpa using gI)
 try clear hG
 obtain ⟨G2,hG2⟩:∃ g,g=G':=⟨_,rfl⟩;subst hG2;exact kH H (Ra rfl (Kn K5 (LR Tryz.results107 rfl fun H=>H.hp.ret hrep)))
/-- A copy of a slice of Layers. -/
theorem Xm (G:GH) (w0:World) (hG:Hold G w0) (rows:List (List Dat)) (A:Option Addr) (n c:Nat) (hv:ah G (.sl 4 rows) (.slice A n c)) (hz:rows.length≤4294967296) :
  Calls Tryz.prog 108 #[.slice A n c] w0 (aU w0 G fun v G'=>ah G' (.sl 4 rows) v):=by
 obtain ⟨hn,hc1,hc2,hnil,hx⟩:=hv.cells;refine eN [(0,_)] Tryz.func108 rfl Tryz.ntmps108 rfl rfl hG ?_;intro a H;refine kP H (SR fun _ K1=>Ra rfl (Kz K1 (SQ fun _ K2=>SR fun _ K3=>Rm rfl ?_)));clear H K1;intro a H;refine Nr x9 H wn rfl rfl ?_;clear H;intro a H;refine K3 _ _ ?_;clear K3;refine l6 H rfl ?_ ?_
 ·intro h4
  try have p4:=dT h4
  exact kP H (SR fun _ K4=>Ra rfl (Kz K4 (LR Tryz.results108 rfl fun H=>H.hp.ret (by rw [hnil (by simpa using h4)];exact ah.gq rfl (by simp [maxLen])))))
 intro h4
 try have p4:=dF h4
 refine eX ?_;refine K2 _ _ ?_;clear K2;refine aQ (fun _ K5=>?_)
 have hA:¬ A=none:=by intro e;rw [e] at h4;cases h4
 refine mP ?_;refine Np x9 xZ H wn rfl ?_;clear H;intro b5 a w hb5 H;refine kH H (Rm rfl ?_);clear H;intro a H
 by_cases hr0:rows=[]
 ·have hn0:n=0:=by rw [hn,hr0];rfl
  subst hn0;refine Ir x9 xZ H wn rfl rfl (Nat.le_refl _) rfl ?_;clear H;intro a H;exact kH H (Ra rfl (Kn K5 (LR Tryz.results108 rfl fun H=>H.hp.ret (by rw [hr0];exact ah.gq rfl (by simp [maxLen])))))
 obtain ⟨b,o,xs,rfl,hxl,hxc,hx1,gI⟩:=hx hr0;refine sF (Li:=[]) (Lo:=[_]) (news:=xs) x9 xZ rfl rfl H wn rfl rfl eB.empty hxl (fun j u hj=>H.hp.aB (hxc j u hj)) hx1 (by omega) (by omega) rfl ?_;clear H;intro v7 Lo a w hrow H;obtain ⟨G',hm,hrep,H⟩:=H.rz hrow (rows:=rows) (by omega) (by simpa using gI)
 try clear hG
 obtain ⟨G2,hG2⟩:∃ g,g=G':=⟨_,rfl⟩;subst hG2;exact kH H (Ra rfl (Kn K5 (LR Tryz.results108 rfl fun H=>H.hp.ret hrep)))
/-- A copy of a head. -/
theorem JK (G:GH) (w0:World) (hG:Hold G w0) (h:gW) (pA dA yA:Option Addr) (pn pc dn dc yn yc:Nat) (hv:jq G h (.slice pA pn pc) (.slice dA dn dc) (.slice yA yn yc)) (hz:nC h≤4294967296) :
  Calls Tryz.prog 78 #[.agg #[.slice pA pn pc,vi h.marks.ins,vi h.marks.move,.slice dA dn dc,.slice yA yn yc]] w0 (aU w0 G fun v G'=>∃ p d l,v=.agg #[p,vi h.marks.ins,vi h.marks.move,d,l]∧jq G' h p d l):=by
 have he:=Fe h;have h1:=pq (h.props.map iC.dat);have h2:=pq (h.marks.bK.map jm.dat);have h3:=pq (h.marks.layers.map iW.dat);refine eN [(0,_)] Tryz.func78 rfl Tryz.ntmps78 rfl rfl hG ?_;intro a H;refine aY (fun _ K1=>?_);refine bY (cs:=[_,_,_,_,_]) H wn rfl rfl rfl ?_;clear H;intro b1 a w hb1 H;refine bX qO H wn rfl ?_;clear H;intro b2 a w hb2 H;refine K1 _ _ ?_;clear K1;refine kP H (SR fun _ K2=>Rf Gp rfl (Ro CF 1 rfl rfl ?_));clear H;intro a H;refine s_call X6 H wn rfl (Xn _ _ H.hp.ro _ _ _ _ hv.props (by omega)) rfl ?_;clear H;rintro v5 G5 a w sS BO H;obtain ⟨A5,n5,c5,rfl⟩:=sS.form;refine kH H (Rf Gp rfl ?_);clear H;intro a H;refine aP CF 1 (vs:=[_]) _ H wn rfl rfl rfl rfl rfl rfl rfl rfl ?_;clear H;intro w H;dsimp only [List.set,setRow] at H;refine K2 _ _ ?_;clear K2;refine aQ (fun _ K3=>?_);obtain ⟨hvp,hvd,hvy⟩:=hv.mono BO;clear hv
 have lQ:∀ (aC:Nat) (v:Value) (G G':GH),(∀ k o,G k=some o→G' k=some o)→(fun (aC:Nat) (v:Value) (G:GH)=>match aC with|0=>v=.pointer (some ⟨b1,1,none⟩)|1=>v=.pointer (some ⟨b1,3,none⟩)|2=>v=.slice dA dn dc|3=>ah G (.sl 2 (h.marks.bK.map jm.dat)) v|4=>v=.pointer (some ⟨b1,1,none⟩)|5=>v=.pointer (some ⟨b1,4,none⟩)|6=>v=.slice yA yn yc|7=>ah G (.sl 4 (h.marks.layers.map iW.dat)) v|8=>v=.pointer (some ⟨b1,1,none⟩)|9=>v=.pointer (some ⟨b1,3,none⟩)|_=>True) aC v G→(fun (aC:Nat) (v:Value) (G:GH)=>match aC with|0=>v=.pointer (some ⟨b1,1,none⟩)|1=>v=.pointer (some ⟨b1,3,none⟩)|2=>v=.slice dA dn dc|3=>ah G (.sl 2 (h.marks.bK.map jm.dat)) v|4=>v=.pointer (some ⟨b1,1,none⟩)|5=>v=.pointer (some ⟨b1,4,none⟩)|6=>v=.slice yA yn yc|7=>ah G (.sl 4 (h.marks.layers.map iW.dat)) v|8=>v=.pointer (some ⟨b1,1,none⟩)|9=>v=.pointer (some ⟨b1,3,none⟩)|_=>True) aC v G':=by
  intro aC v G G' hm h
  match aC,h with
  | 0,h=>exact h
  | 1,h=>exact h
  | 2,h=>exact h
  | 3,h=>exact ah.mono hm h
  | 4,h=>exact h
  | 5,h=>exact h
  | 6,h=>exact h
  | 7,h=>exact ah.mono hm h
  | 8,h=>exact h
  | 9,h=>exact h
  | 10,h=>exact trivial
  | 11,h=>exact trivial
  | 12,h=>exact trivial
  | 13,h=>exact trivial
  | _+14,h=>exact trivial
 refine dz (hmx) [[],[0],[0,1],[0,1,2],[],[4],[4,5],(List.range 7),(List.range 7),(List.range 7++[8]),(List.range 10),(List.range 11),(List.range 12),(List.range 13)] [10,11,12,13] (by kernel_rfl) (by kernel_rfl) (fun (aC:Nat) (v:Value) (G:GH)=>match aC with|0=>v=.pointer (some ⟨b1,1,none⟩)|1=>v=.pointer (some ⟨b1,3,none⟩)|2=>v=.slice dA dn dc|3=>ah G (.sl 2 (h.marks.bK.map jm.dat)) v|4=>v=.pointer (some ⟨b1,1,none⟩)|5=>v=.pointer (some ⟨b1,4,none⟩)|6=>v=.slice yA yn yc|7=>ah G (.sl 4 (h.marks.layers.map iW.dat)) v|8=>v=.pointer (some ⟨b1,1,none⟩)|9=>v=.pointer (some ⟨b1,3,none⟩)|_=>True) lQ H ?_ ?_
 ·clear H;refine av ?_ ?_ ?_ ?_ (av ?_ ?_ ?_ ?_ (av ?_ ?_ (aT rfl) (aT rfl) (bq (aT rfl) (bq (aT rfl) dh))))
  ·refine dx [] rfl trivial (by kernel_rfl) lQ rfl rfl ?_;intro bC a w G1 hG HT H fin;exact kH H (Rf Bz rfl fun _ H=>fin H iJ rfl)
  ·refine dx [(0,7,_)] rfl ⟨fun _ _ h=>h,trivial⟩ (by kernel_rfl) lQ rfl rfl ?_;intro bC a w G1 hG HT H fin;exact kH H (Rf vJ rfl fun _ H=>fin H iJ rfl)
  ·refine dx [(1,8,_)] rfl ⟨fun _ _ h=>h,trivial⟩ (by kernel_rfl) lQ rfl rfl ?_;intro bC a w G1 hG HT H fin;exact kH H (Ro wz 1 rfl rfl fun _ H=>fin H iJ rfl)
  ·refine dx [(2,9,_)] rfl ⟨fun _ _ h=>h,trivial⟩ (by kernel_rfl) lQ rfl rfl ?_;intro bC a w G1 hG HT H fin;refine s_call X7 H wn rfl (Xl _ _ H.hp.ro _ _ _ _ (hvd.mono hG) (by omega)) rfl ?_;clear H;rintro v10 C9 a w uD pQ H;exact fin H pQ (uD)
  ·refine dx [] rfl trivial (by kernel_rfl) lQ rfl rfl ?_;intro bC a w G1 hG HT H fin;exact kH H (Rf Bz rfl fun _ H=>fin H iJ rfl)
  ·refine dx [(4,11,_)] rfl ⟨fun _ _ h=>h,trivial⟩ (by kernel_rfl) lQ rfl rfl ?_;intro bC a w G1 hG HT H fin;exact kH H (Rf D6 rfl fun _ H=>fin H iJ rfl)
  ·refine dx [(5,12,_)] rfl ⟨fun _ _ h=>h,trivial⟩ (by kernel_rfl) lQ rfl rfl ?_;intro bC a w G1 hG HT H fin;exact kH H (Ro ET 1 rfl rfl fun _ H=>fin H iJ rfl)
  ·refine dx [(6,13,_)] rfl ⟨fun _ _ h=>h,trivial⟩ (by kernel_rfl) lQ rfl rfl ?_;intro bC a w G1 hG HT H fin;refine s_call X8 H wn rfl (Xm _ _ H.hp.ro _ _ _ _ (hvy.mono hG) (by omega)) rfl ?_;clear H;rintro v14 qV a w Ew vQ H;exact fin H vQ (Ew)
  ·refine dx [] rfl trivial (by kernel_rfl) lQ rfl rfl ?_;intro bC a w G1 hG HT H fin;exact kH H (Rf Bz rfl fun _ H=>fin H iJ rfl)
  refine dx [(8,15,_)] rfl ⟨fun _ _ h=>h,trivial⟩ (by kernel_rfl) lQ rfl rfl ?_;intro bC a w G1 hG HT H fin;exact kH H (Rf vJ rfl fun _ H=>fin H iJ rfl)
 clear H;intro a w G wW H hv;obtain ⟨u10,MB,uD⟩:=hv 3 10 (by decide) rfl;(try dsimp only at uD);obtain ⟨U8,n10,c10,rfl⟩:=uD.form;have H:=H.kr MB;obtain ⟨u14,abO,Ew⟩:=hv 7 14 (by decide) rfl;(try dsimp only at Ew);obtain ⟨Va,n14,c14,rfl⟩:=Ew.form;have H:=H.kr abO;have H:=H.aM (hv 9 16 rfl rfl) rfl;clear hv;refine aP wz 1 (vs:=[_]) _ H wn rfl rfl rfl rfl rfl rfl rfl rfl ?_;clear H;intro w H;dsimp only [List.set,setRow] at H;refine kH H (Rf Bz rfl (Rf D6 rfl ?_));clear H;intro a H;refine aP ET 1 (vs:=[_]) _ H wn rfl rfl rfl rfl rfl rfl rfl rfl ?_;clear H;intro w H;dsimp only [List.set,setRow] at H;refine au ⟨rfl,?_⟩;refine K3 _ _ ?_;clear K3;refine aY (fun _ K4=>?_);refine aK qO (cs:=[_,_,_,_,_]) H wn rfl rfl (H.hp.bF 1 rfl rfl) rfl ?_;clear H;intro a H;refine aP qO 0 (vs:=[_,_,_,_,_]) _ H wn rfl rfl rfl rfl rfl rfl rfl rfl ?_;clear H;intro w H;dsimp only [List.set,setRow] at H;refine K4 _ _ ?_;clear K4;refine aR ?_;refine (leave1 H Tryz.results78 (.cons (uQ qO (cs:=[_,_,_,_,_]) H rfl rfl (H.hp.bF 0 rfl rfl)) .nil) ?_).1;exact H.hp.ret ⟨_,_,_,rfl,sS.mono wW,uD,Ew⟩
/-- What a copier of elements owes. -/
def AO (fv:Value) (w0:World) (G:GH) (d:List Dat):Prop:=∀ (G1:GH) (w1:World) (cs:List Value),(∀ b o,G b=some o→G1 b=some o)→Hold G1 w1→aO G1 d cs →
 qU Tryz.prog fv [.agg cs.toArray] w1 (aU w1 G1 fun u G'=>∃ cs',u=.agg cs'.toArray∧aO G' d cs')
/-- The list of the copies of Items. -/
theorem XW (G:GH) (w0:World) (hG:Hold G w0) (l:List aj) (v fv:Value) (hv:ah G (.sl 11 (l.map aj.dat)) v) (hz:l.length≤4294967296) (hf:∀ x∈l,AO fv w0 G x.dat) :
  Calls Tryz.prog 76 #[v,fv] w0 (aU w0 G fun u G'=>ah G' (.sl 11 (l.map aj.dat)) u):=by
 obtain ⟨A,c,rfl,hc1,hc2,hg⟩:=hv.slice
 have hml:4294967297≤maxLen:=by decide
 rw [List.length_map] at *;refine eN [(0,_),(1,_)] Tryz.func76 rfl Tryz.ntmps76 rfl rfl hG ?_;intro a H;refine kP H (SR fun _ K1=>Ra rfl (Kz K1 (SR fun _ K2=>Ra rfl (Kz K2 (SQ fun _ K3=>SR fun _ K4=>Rm rfl (Rl jO rfl (Rm rfl (Kz K4 (SB ?_)))))))));clear H K1 K2 K4;intro a H;skip;refine d9 (ι:=Nat × Value × List Value × OL × GH) (Tc:=[(1,_),(8,_),(9,_)]) (Lc:=[]) (fun (gh:Nat × Value × List Value × OL × GH)=>[(5,gh.2.1),(10,vi gh.1)]) (fun (gh:Nat × Value × List Value × OL × GH)=>[]++gh.2.2.2.1) (fun (gh:Nat × Value × List Value × OL × GH)=>gh.2.2.2.2) (fun (gh:Nat × Value × List Value × OL × GH)=>gh.1≤l.length∧eB 85 11 gh.2.1 gh.1 gh.2.2.1 gh.2.2.2.1∧eU gh.2.2.2.2 11 ((l.map aj.dat).take gh.1) gh.2.2.1∧(∀ b o,G b=some o→gh.2.2.2.2 b=some o)) (fun (gh:Nat × Value × List Value × OL × GH)=>l.length - gh.1) ((0,.slice none 0 0,[],[],G)) (by exact (H).sub ⟨rfl,rfl,rfl,rfl,rfl,trivial⟩) ?_ ?_
 ·exact ⟨by omega,eB.nil,by simpa using eU.nil,fun _ _ h=>h⟩
 clear H;intro gh a w hI H;obtain ⟨k,v,xs,Lo,g⟩:=gh;dsimp only at hI H;obtain ⟨hk,hrw,gI,hgm⟩:=hI;dsimp only [List.cons_append,List.nil_append,List.append_nil] at H;refine kP H (SR fun _ K5=>Rc rfl (Kz K5 (SQ fun _ K6=>Cd rfl ?_ ?_))) <;> clear H K5
 ·intro h11 a H
  try have ow:=dT h11
  have hk2:k < l.length:=by omega
  obtain ⟨b,o,cs,rfl,hcl,hrow,hrep⟩:=hg k l[k].dat (by simp [hk2]);obtain ⟨pA,pn,pc,dA,dn,dc,yA,yn,yc,fA,fn,fc,rA,rn,rc,rfl,-⟩:=hrep.item;replace hrow:=fun j u hj=>aD hgm (hrow j u hj);refine kP H (Kc K6 (SQ fun _ K7=>SB (SR fun _ K8=>Ri jO dH rfl rfl ?_)));clear H K6;intro a H;refine aK dH (cs:=[_,_,_,_,_,_,_,_,_,_,_]) H wn rfl rfl (fun j v hj=>H.hp.aB (hrow j v hj)) rfl ?_;clear H;intro a H;refine bX dH H wn rfl ?_;clear H;intro b7 a w pU H;refine aP dH 0 (vs:=[_,_,_,_,_,_,_,_,_,_,_]) _ H wn rfl rfl rfl rfl rfl rfl rfl rfl ?_;clear H;intro w H;dsimp only [List.set,setRow] at H;refine K8 _ _ ?_;clear K8;refine kP H (SC (Rm rfl (Rm rfl ?_)));clear H;intro a H;refine aK dH (cs:=[_,_,_,_,_,_,_,_,_,_,_]) H wn rfl rfl (H.hp.bF 0 rfl rfl) rfl ?_;clear H;intro a H;refine ng H wn rfl rfl (hf _ (List.getElem_mem hk2) _ _ _ hgm H.hp.ro (hrep.mono hgm)) rfl ?_;clear H;rintro v17 yj a w ⟨tL,rfl,bT⟩ nZ H;obtain ⟨cs,hcs⟩:∃ cs,cs=tL:=⟨_,rfl⟩;obtain ⟨pA,pn,pc,dA,dn,dc,yA,yn,yc,fA,fn,fc,rA,rn,rc,qE,-⟩:=bT.item;rw [qE] at H;refine fM jO dH [_,_,_,_,_,_,_,_,_,_,_] [_,_,_,_,_,_,_,_,_,_,_] H wn rfl rfl rfl rfl rfl (by intro i q h;match i,h with|0,h=>exact h|n+1,h=>simp at h) rfl rfl ?_;clear H;intro b18 a w GN H;refine sF (Li:=[_,_]) (Lo:=Lo) (news:=tL) jO dH rfl rfl H wn rfl rfl hrw (by rw [qE];rfl) (by rw [qE];exact H.hp.bF 0 rfl rfl) bT.one (by omega) (by omega) rfl ?_;clear H;intro v19 zH a w sU H;refine kH H (Ra rfl (Kn K7 (SC (Rd rfl (Rm rfl ?_)))));clear H K7;intro a H;refine au ?_;refine dD ((k+1,v19,xs++tL,zH,yj)) (by exact (H.bL (Pl:=[_,_]) (bB:=[]) [] (by decide) rfl).sub ⟨rfl,rfl,rfl,rfl,rfl,trivial⟩) ?_ ?_
  ·(try dsimp only);refine ⟨by omega,sU,?_,fun b o h=>nZ b o (hgm b o h)⟩;rw [List.take_succ_eq_append_getElem (by simpa using hk2)];exact (gI.mono nZ).snoc (by simpa using bT) (by rw [qE];rfl)
  first|omega|(dsimp only;omega)
 intro h11 a H
 try have ow:=dF h11
 refine dL ?_;refine K3 _ _ ?_;clear K3;refine aQ (fun _ K9=>?_);obtain ⟨G',hm,hrep,H⟩:=H.rz (Li:=[]) hrw (rows:=l.map aj.dat) (by simp;omega) (by rw [List.take_of_length_le (by simp;omega)] at gI;exact gI);exact kP H (SC (Rm rfl (Ra rfl (Kn K9 (LR Tryz.results76 rfl fun H=>H.hp.ret hrep)))))
/-- The list of the copies of Rows. -/
theorem XY (G:GH) (w0:World) (hG:Hold G w0) (l:List aN) (v fv:Value) (hv:ah G (.sl 6 (l.map aN.dat)) v) (hz:l.length≤4294967296) (hf:∀ x∈l,AO fv w0 G x.dat) :
  Calls Tryz.prog 79 #[v,fv] w0 (aU w0 G fun u G'=>ah G' (.sl 6 (l.map aN.dat)) u):=by
 obtain ⟨A,c,rfl,hc1,hc2,hg⟩:=hv.slice
 have hml:4294967297≤maxLen:=by decide
 rw [List.length_map] at *;refine eN [(0,_),(1,_)] Tryz.func79 rfl Tryz.ntmps79 rfl rfl hG ?_;intro a H;refine kP H (SR fun _ K1=>Ra rfl (Kz K1 (SR fun _ K2=>Ra rfl (Kz K2 (SQ fun _ K3=>SR fun _ K4=>Rm rfl (Rl lV rfl (Rm rfl (Kz K4 (SB ?_)))))))));clear H K1 K2 K4;intro a H;skip;refine d9 (ι:=Nat × Value × List Value × OL × GH) (Tc:=[(1,_),(8,_),(9,_)]) (Lc:=[]) (fun (gh:Nat × Value × List Value × OL × GH)=>[(5,gh.2.1),(10,vi gh.1)]) (fun (gh:Nat × Value × List Value × OL × GH)=>[]++gh.2.2.2.1) (fun (gh:Nat × Value × List Value × OL × GH)=>gh.2.2.2.2) (fun (gh:Nat × Value × List Value × OL × GH)=>gh.1≤l.length∧eB 88 6 gh.2.1 gh.1 gh.2.2.1 gh.2.2.2.1∧eU gh.2.2.2.2 6 ((l.map aN.dat).take gh.1) gh.2.2.1∧(∀ b o,G b=some o→gh.2.2.2.2 b=some o)) (fun (gh:Nat × Value × List Value × OL × GH)=>l.length - gh.1) ((0,.slice none 0 0,[],[],G)) (by exact (H).sub ⟨rfl,rfl,rfl,rfl,rfl,trivial⟩) ?_ ?_
 ·exact ⟨by omega,eB.nil,by simpa using eU.nil,fun _ _ h=>h⟩
 clear H;intro gh a w hI H;obtain ⟨k,v,xs,Lo,g⟩:=gh;dsimp only at hI H;obtain ⟨hk,hrw,gI,hgm⟩:=hI;dsimp only [List.cons_append,List.nil_append,List.append_nil] at H;refine kP H (SR fun _ K5=>Rc rfl (Kz K5 (SQ fun _ K6=>Cd rfl ?_ ?_))) <;> clear H K5
 ·intro h11 a H
  try have ow:=dT h11
  have hk2:k < l.length:=by omega
  obtain ⟨b,o,cs,rfl,hcl,hrow,hrep⟩:=hg k l[k].dat (by simp [hk2]);obtain ⟨pA,pn,pc,dA,dn,dc,yA,yn,yc,fA,fn,fc,rfl,-⟩:=hrep.row;replace hrow:=fun j u hj=>aD hgm (hrow j u hj);refine kP H (Kc K6 (SQ fun _ K7=>SB (SR fun _ K8=>Ri lV iV rfl rfl ?_)));clear H K6;intro a H;refine aK iV (cs:=[_,_,_,_,_,_]) H wn rfl rfl (fun j v hj=>H.hp.aB (hrow j v hj)) rfl ?_;clear H;intro a H;refine bX iV H wn rfl ?_;clear H;intro b7 a w pU H;refine aP iV 0 (vs:=[_,_,_,_,_,_]) _ H wn rfl rfl rfl rfl rfl rfl rfl rfl ?_;clear H;intro w H;dsimp only [List.set,setRow] at H;refine K8 _ _ ?_;clear K8;refine kP H (SC (Rm rfl (Rm rfl ?_)));clear H;intro a H;refine aK iV (cs:=[_,_,_,_,_,_]) H wn rfl rfl (H.hp.bF 0 rfl rfl) rfl ?_;clear H;intro a H;refine ng H wn rfl rfl (hf _ (List.getElem_mem hk2) _ _ _ hgm H.hp.ro (hrep.mono hgm)) rfl ?_;clear H;rintro v17 yj a w ⟨tL,rfl,bT⟩ nZ H;obtain ⟨cs,hcs⟩:∃ cs,cs=tL:=⟨_,rfl⟩;obtain ⟨pA,pn,pc,dA,dn,dc,yA,yn,yc,fA,fn,fc,qE,-⟩:=bT.row;rw [qE] at H;refine fM lV iV [_,_,_,_,_,_] [_,_,_,_,_,_] H wn rfl rfl rfl rfl rfl (by intro i q h;match i,h with|0,h=>exact h|n+1,h=>simp at h) rfl rfl ?_;clear H;intro b18 a w GN H;refine sF (Li:=[_,_]) (Lo:=Lo) (news:=tL) lV iV rfl rfl H wn rfl rfl hrw (by rw [qE];rfl) (by rw [qE];exact H.hp.bF 0 rfl rfl) bT.one (by omega) (by omega) rfl ?_;clear H;intro v19 zH a w sU H;refine kH H (Ra rfl (Kn K7 (SC (Rd rfl (Rm rfl ?_)))));clear H K7;intro a H;refine au ?_;refine dD ((k+1,v19,xs++tL,zH,yj)) (by exact (H.bL (Pl:=[_,_]) (bB:=[]) [] (by decide) rfl).sub ⟨rfl,rfl,rfl,rfl,rfl,trivial⟩) ?_ ?_
  ·(try dsimp only);refine ⟨by omega,sU,?_,fun b o h=>nZ b o (hgm b o h)⟩;rw [List.take_succ_eq_append_getElem (by simpa using hk2)];exact (gI.mono nZ).snoc (by simpa using bT) (by rw [qE];rfl)
  first|omega|(dsimp only;omega)
 intro h11 a H
 try have ow:=dF h11
 refine dL ?_;refine K3 _ _ ?_;clear K3;refine aQ (fun _ K9=>?_);obtain ⟨G',hm,hrep,H⟩:=H.rz (Li:=[]) hrw (rows:=l.map aN.dat) (by simp;omega) (by rw [List.take_of_length_le (by simp;omega)] at gI;exact gI);exact kP H (SC (Rm rfl (Ra rfl (Kn K9 (LR Tryz.results79 rfl fun H=>H.hp.ret hrep)))))
/-- The list of the copies of Cells. -/
theorem XV (G:GH) (w0:World) (hG:Hold G w0) (l:List aJ) (v fv:Value) (hv:ah G (.sl 7 (l.map aJ.dat)) v) (hz:l.length≤4294967296) (hf:∀ x∈l,AO fv w0 G x.dat) :
  Calls Tryz.prog 109 #[v,fv] w0 (aU w0 G fun u G'=>ah G' (.sl 7 (l.map aJ.dat)) u):=by
 obtain ⟨A,c,rfl,hc1,hc2,hg⟩:=hv.slice
 have hml:4294967297≤maxLen:=by decide
 rw [List.length_map] at *;refine eN [(0,_),(1,_)] Tryz.func109 rfl Tryz.ntmps109 rfl rfl hG ?_;intro a H;refine kP H (SR fun _ K1=>Ra rfl (Kz K1 (SR fun _ K2=>Ra rfl (Kz K2 (SQ fun _ K3=>SR fun _ K4=>Rm rfl (Rl kg rfl (Rm rfl (Kz K4 (SB ?_)))))))));clear H K1 K2 K4;intro a H;skip;refine d9 (ι:=Nat × Value × List Value × OL × GH) (Tc:=[(1,_),(8,_),(9,_)]) (Lc:=[]) (fun (gh:Nat × Value × List Value × OL × GH)=>[(5,gh.2.1),(10,vi gh.1)]) (fun (gh:Nat × Value × List Value × OL × GH)=>[]++gh.2.2.2.1) (fun (gh:Nat × Value × List Value × OL × GH)=>gh.2.2.2.2) (fun (gh:Nat × Value × List Value × OL × GH)=>gh.1≤l.length∧eB 90 7 gh.2.1 gh.1 gh.2.2.1 gh.2.2.2.1∧eU gh.2.2.2.2 7 ((l.map aJ.dat).take gh.1) gh.2.2.1∧(∀ b o,G b=some o→gh.2.2.2.2 b=some o)) (fun (gh:Nat × Value × List Value × OL × GH)=>l.length - gh.1) ((0,.slice none 0 0,[],[],G)) (by exact (H).sub ⟨rfl,rfl,rfl,rfl,rfl,trivial⟩) ?_ ?_
 ·exact ⟨by omega,eB.nil,by simpa using eU.nil,fun _ _ h=>h⟩
 clear H;intro gh a w hI H;obtain ⟨k,v,xs,Lo,g⟩:=gh;dsimp only at hI H;obtain ⟨hk,hrw,gI,hgm⟩:=hI;dsimp only [List.cons_append,List.nil_append,List.append_nil] at H;refine kP H (SR fun _ K5=>Rc rfl (Kz K5 (SQ fun _ K6=>Cd rfl ?_ ?_))) <;> clear H K5
 ·intro h11 a H
  try have ow:=dT h11
  have hk2:k < l.length:=by omega
  obtain ⟨b,o,cs,rfl,hcl,hrow,hrep⟩:=hg k l[k].dat (by simp [hk2]);obtain ⟨pA,pn,pc,dA,dn,dc,yA,yn,yc,fA,fn,fc,rfl,-⟩:=hrep.cell;replace hrow:=fun j u hj=>aD hgm (hrow j u hj);refine kP H (Kc K6 (SQ fun _ K7=>SB (SR fun _ K8=>Ri kg gQ rfl rfl ?_)));clear H K6;intro a H;refine aK gQ (cs:=[_,_,_,_,_,_,_]) H wn rfl rfl (fun j v hj=>H.hp.aB (hrow j v hj)) rfl ?_;clear H;intro a H;refine bX gQ H wn rfl ?_;clear H;intro b7 a w pU H;refine aP gQ 0 (vs:=[_,_,_,_,_,_,_]) _ H wn rfl rfl rfl rfl rfl rfl rfl rfl ?_;clear H;intro w H;dsimp only [List.set,setRow] at H;refine K8 _ _ ?_;clear K8;refine kP H (SC (Rm rfl (Rm rfl ?_)));clear H;intro a H;refine aK gQ (cs:=[_,_,_,_,_,_,_]) H wn rfl rfl (H.hp.bF 0 rfl rfl) rfl ?_;clear H;intro a H;refine ng H wn rfl rfl (hf _ (List.getElem_mem hk2) _ _ _ hgm H.hp.ro (hrep.mono hgm)) rfl ?_;clear H;rintro v17 yj a w ⟨tL,rfl,bT⟩ nZ H;obtain ⟨cs,hcs⟩:∃ cs,cs=tL:=⟨_,rfl⟩;obtain ⟨pA,pn,pc,dA,dn,dc,yA,yn,yc,fA,fn,fc,qE,-⟩:=bT.cell;rw [qE] at H;refine fM kg gQ [_,_,_,_,_,_,_] [_,_,_,_,_,_,_] H wn rfl rfl rfl rfl rfl (by intro i q h;match i,h with|0,h=>exact h|n+1,h=>simp at h) rfl rfl ?_;clear H;intro b18 a w GN H;refine sF (Li:=[_,_]) (Lo:=Lo) (news:=tL) kg gQ rfl rfl H wn rfl rfl hrw (by rw [qE];rfl) (by rw [qE];exact H.hp.bF 0 rfl rfl) bT.one (by omega) (by omega) rfl ?_;clear H;intro v19 zH a w sU H;refine kH H (Ra rfl (Kn K7 (SC (Rd rfl (Rm rfl ?_)))));clear H K7;intro a H;refine au ?_;refine dD ((k+1,v19,xs++tL,zH,yj)) (by exact (H.bL (Pl:=[_,_]) (bB:=[]) [] (by decide) rfl).sub ⟨rfl,rfl,rfl,rfl,rfl,trivial⟩) ?_ ?_
  ·(try dsimp only);refine ⟨by omega,sU,?_,fun b o h=>nZ b o (hgm b o h)⟩;rw [List.take_succ_eq_append_getElem (by simpa using hk2)];exact (gI.mono nZ).snoc (by simpa using bT) (by rw [qE];rfl)
  first|omega|(dsimp only;omega)
 intro h11 a H
 try have ow:=dF h11
 refine dL ?_;refine K3 _ _ ?_;clear K3;refine aQ (fun _ K9=>?_);obtain ⟨G',hm,hrep,H⟩:=H.rz (Li:=[]) hrw (rows:=l.map aJ.dat) (by simp;omega) (by rw [List.take_of_length_le (by simp;omega)] at gI;exact gI);exact kP H (SC (Rm rfl (Ra rfl (Kn K9 (LR Tryz.results109 rfl fun H=>H.hp.ret hrep)))))
/-- Copies of flows that are smaller than n. -/
def zu (n:Nat):Prop:=∀ (G:GH) (w0:World),Hold G w0→∀ (l:List aj) (v:Value),ah G (.sl 11 (l.map aj.dat)) v→aS l < n →
 Calls Tryz.prog 50 #[v] w0 (aU w0 G fun u G'=>ah G' (.sl 11 (l.map aj.dat)) u)
theorem Xk {n:Nat} (ih:zu n) (hn:n≤4294967296) (G:GH) (w0:World) (hG:Hold G w0) (x:aJ) (cs:List Value) (hv:aO G x.dat cs) (hz:bP x.dat < n+1) :
  Calls Tryz.prog 110 #[.agg cs.toArray] w0 (aU w0 G fun u G'=>∃ cs',u=.agg cs'.toArray∧aO G' x.dat cs'):=by
 have he:=u6 x;obtain ⟨pA,pn,pc,dA,dn,dc,yA,yn,yc,fA,fn,fc,rfl,hh,hf⟩:=hv.cell;refine eN [(0,_)] Tryz.func110 rfl Tryz.ntmps110 rfl rfl hG ?_;intro a H;refine aY (fun _ K1=>?_);refine bY (cs:=[_,_,_,_,_,_,_]) H wn rfl rfl rfl ?_;clear H;intro b1 a w hb1 H;refine bX gQ H wn rfl ?_;clear H;intro b2 a w hb2 H;refine K1 _ _ ?_;clear K1;refine aQ (fun _ K2=>?_)
 have gN:∀ (aC:Nat) (v:Value) (G G':GH),(∀ k o,G k=some o→G' k=some o)→(fun (aC:Nat) (v:Value) (G:GH)=>match aC with|0=>v=.pointer (some ⟨b1,0,none⟩)|1=>v=vi x.id|2=>v=.pointer (some ⟨b1,1,none⟩)|3=>v=.agg #[.slice pA pn pc,vi x.head.marks.ins,vi x.head.marks.move,.slice dA dn dc,.slice yA yn yc]|4=>∃ p d l,v=.agg #[p,vi x.head.marks.ins,vi x.head.marks.move,d,l]∧jq G x.head p d l|5=>v=.pointer (some ⟨b1,6,none⟩)|6=>v=.slice fA fn fc|7=>ah G (.sl 11 (x.flow.map aj.dat)) v|_=>True) aC v G→(fun (aC:Nat) (v:Value) (G:GH)=>match aC with|0=>v=.pointer (some ⟨b1,0,none⟩)|1=>v=vi x.id|2=>v=.pointer (some ⟨b1,1,none⟩)|3=>v=.agg #[.slice pA pn pc,vi x.head.marks.ins,vi x.head.marks.move,.slice dA dn dc,.slice yA yn yc]|4=>∃ p d l,v=.agg #[p,vi x.head.marks.ins,vi x.head.marks.move,d,l]∧jq G x.head p d l|5=>v=.pointer (some ⟨b1,6,none⟩)|6=>v=.slice fA fn fc|7=>ah G (.sl 11 (x.flow.map aj.dat)) v|_=>True) aC v G':=by
  intro aC v G G' hm h
  match aC,h with
  | 0,h=>exact h
  | 1,h=>exact h
  | 2,h=>exact h
  | 3,h=>exact h
  | 4,h=>exact let ⟨p,d,l,h1,h2⟩:=h;⟨p,d,l,h1,h2.mono hm⟩
  | 5,h=>exact h
  | 6,h=>exact h
  | 7,h=>exact ah.mono hm h
  | 8,h=>exact trivial
  | 9,h=>exact trivial
  | _+10,h=>exact trivial
 refine dz (hmx) [[],[0],[],[2],[2,3],[],[5],[2,3,4,5,6],(List.range 8),(List.range 9)] [8,9] (by kernel_rfl) (by kernel_rfl) (fun (aC:Nat) (v:Value) (G:GH)=>match aC with|0=>v=.pointer (some ⟨b1,0,none⟩)|1=>v=vi x.id|2=>v=.pointer (some ⟨b1,1,none⟩)|3=>v=.agg #[.slice pA pn pc,vi x.head.marks.ins,vi x.head.marks.move,.slice dA dn dc,.slice yA yn yc]|4=>∃ p d l,v=.agg #[p,vi x.head.marks.ins,vi x.head.marks.move,d,l]∧jq G x.head p d l|5=>v=.pointer (some ⟨b1,6,none⟩)|6=>v=.slice fA fn fc|7=>ah G (.sl 11 (x.flow.map aj.dat)) v|_=>True) gN H ?_ ?_
 ·clear H;refine av ?_ ?_ ?_ ?_ (av ?_ ?_ ?_ ?_ (bq (aT rfl) (bq (aT rfl) dh)))
  ·refine dx [] rfl trivial (by kernel_rfl) gN rfl rfl ?_;intro bC a w G1 hG HT H fin;exact kH H (Rf wS rfl fun _ H=>fin H iJ rfl)
  ·refine dx [(0,3,_)] rfl ⟨fun _ _ h=>h,trivial⟩ (by kernel_rfl) gN rfl rfl ?_;intro bC a w G1 hG HT H fin;exact kH H (Ro ak 1 rfl rfl fun _ H=>fin H iJ rfl)
  ·refine dx [] rfl trivial (by kernel_rfl) gN rfl rfl ?_;intro bC a w G1 hG HT H fin;exact kH H (Rf QC rfl fun _ H=>fin H iJ rfl)
  ·refine dx [(2,5,_)] rfl ⟨fun _ _ h=>h,trivial⟩ (by kernel_rfl) gN rfl rfl ?_;intro bC a w G1 hG HT H fin;refine aK qO (cs:=[_,_,_,_,_]) H wn rfl rfl (H.hp.bF 1 rfl rfl) rfl ?_;clear H;intro a H;exact fin H iJ rfl
  ·refine dx [(3,6,_)] rfl ⟨fun _ _ h=>h,trivial⟩ (by kernel_rfl) gN rfl rfl ?_;intro bC a w G1 hG HT H fin;refine s_call Ke H wn rfl (JK _ _ H.hp.ro x.head _ _ _ _ _ _ _ _ _ (hh.mono hG) (by omega)) rfl ?_;clear H;rintro v7 G7 a w He La H;exact fin H La (He)
  ·refine dx [] rfl trivial (by kernel_rfl) gN rfl rfl ?_;intro bC a w G1 hG HT H fin;exact kH H (Rf yI rfl fun _ H=>fin H iJ rfl)
  ·refine dx [(5,8,_)] rfl ⟨fun _ _ h=>h,trivial⟩ (by kernel_rfl) gN rfl rfl ?_;intro bC a w G1 hG HT H fin;exact kH H (Ro iR 1 rfl rfl fun _ H=>fin H iJ rfl)
  refine dx [(6,9,_)] rfl ⟨fun _ _ h=>h,trivial⟩ (by kernel_rfl) gN rfl rfl ?_;intro bC a w G1 hG HT H fin;refine s_call J7 H wn rfl (ih _ _ H.hp.ro x.flow _ (hf.mono hG) (by omega)) rfl ?_;clear H;rintro v10 C9 a w uD pQ H;exact fin H pQ (uD)
 clear H;intro a w G kZ H hv;have H:=H.aM (hv 1 4 rfl rfl) rfl;obtain ⟨u7,hu7,He⟩:=hv 4 7 (by decide) rfl;(try dsimp only at He);obtain ⟨p7,d7,l7,rfl,GU⟩:=He;obtain ⟨a1,a2,a3,rfl⟩:=GU.props.form;obtain ⟨a4,a5,a6,rfl⟩:=GU.bK.form;obtain ⟨a7,a8,a9,rfl⟩:=GU.layers.form;have H:=H.kr hu7;obtain ⟨u10,MB,uD⟩:=hv 7 10 (by decide) rfl;(try dsimp only at uD);obtain ⟨U8,n10,c10,rfl⟩:=uD.form;have H:=H.kr MB;clear hv;refine iP Uj [_,_,_,_,_,_,_] H wn rfl rfl rfl rfl ?_;clear H;intro a H;refine aP gQ 0 (vs:=[_,_,_,_,_,_,_]) _ H wn rfl rfl rfl rfl rfl rfl rfl rfl ?_;clear H;intro w H;dsimp only [List.set,setRow] at H;refine au ⟨rfl,?_⟩;refine K2 _ _ ?_;clear K2;refine aR ?_;refine (leave1 H Tryz.results110 (.cons (uQ gQ (cs:=[_,_,_,_,_,_,_]) H rfl rfl (H.hp.bF 0 rfl rfl)) .nil) ?_).1;exact H.hp.ret ⟨_,rfl,aO.MV GU uD⟩
theorem Xj {n:Nat} (ih:zu n) (hn:n≤4294967296) {G:GH} {w0:World} (x:aJ) (hz:bP x.dat < n+1):AO (.func (.func 110) #[] #[]) w0 G x.dat:=by
 intro G1 w1 cs hm1 hG1 hr;have h:=Xk ih hn _ _ hG1 x cs hr hz;have h2:=jI (P:=Tryz.prog) (caps:=[]) (args:=[.agg cs.toArray]) Ya h;exact h2
theorem Xp {n:Nat} (ih:zu n) (hn:n≤4294967296) (G:GH) (w0:World) (hG:Hold G w0) (x:aN) (cs:List Value) (hv:aO G x.dat cs) (hz:bP x.dat < n+1) :
  Calls Tryz.prog 80 #[.agg cs.toArray] w0 (aU w0 G fun u G'=>∃ cs',u=.agg cs'.toArray∧aO G' x.dat cs'):=by
 have he:=tF x;have hl:=AL x.cells;obtain ⟨pA,pn,pc,dA,dn,dc,yA,yn,yc,fA,fn,fc,rfl,hh,hf⟩:=hv.row;refine eN [(0,_)] Tryz.func80 rfl Tryz.ntmps80 rfl rfl hG ?_;intro a H;refine aY (fun _ K1=>?_);refine bY (cs:=[_,_,_,_,_,_]) H wn rfl rfl rfl ?_;clear H;intro b1 a w hb1 H;refine bX iV H wn rfl ?_;clear H;intro b2 a w hb2 H;refine K1 _ _ ?_;clear K1;refine aQ (fun _ K2=>?_)
 have gN:∀ (aC:Nat) (v:Value) (G G':GH),(∀ k o,G k=some o→G' k=some o)→(fun (aC:Nat) (v:Value) (G:GH)=>match aC with|0=>v=.pointer (some ⟨b1,0,none⟩)|1=>v=.agg #[.slice pA pn pc,vi x.head.marks.ins,vi x.head.marks.move,.slice dA dn dc,.slice yA yn yc]|2=>∃ p d l,v=.agg #[p,vi x.head.marks.ins,vi x.head.marks.move,d,l]∧jq G x.head p d l|3=>v=.pointer (some ⟨b1,5,none⟩)|4=>v=.slice fA fn fc|5=>ah G (.sl 7 (x.cells.map aJ.dat)) v|_=>True) aC v G→(fun (aC:Nat) (v:Value) (G:GH)=>match aC with|0=>v=.pointer (some ⟨b1,0,none⟩)|1=>v=.agg #[.slice pA pn pc,vi x.head.marks.ins,vi x.head.marks.move,.slice dA dn dc,.slice yA yn yc]|2=>∃ p d l,v=.agg #[p,vi x.head.marks.ins,vi x.head.marks.move,d,l]∧jq G x.head p d l|3=>v=.pointer (some ⟨b1,5,none⟩)|4=>v=.slice fA fn fc|5=>ah G (.sl 7 (x.cells.map aJ.dat)) v|_=>True) aC v G':=by
  intro aC v G G' hm h
  match aC,h with
  | 0,h=>exact h
  | 1,h=>exact h
  | 2,h=>exact let ⟨p,d,l,h1,h2⟩:=h;⟨p,d,l,h1,h2.mono hm⟩
  | 3,h=>exact h
  | 4,h=>exact h
  | 5,h=>exact ah.mono hm h
  | 6,h=>exact trivial
  | 7,h=>exact trivial
  | _+8,h=>exact trivial
 refine dz (hmx) [[],[0],[0,1],[],[3],[0,1,2,3,4],[0,1,2,3,4,5],(List.range 7)] [6,7] (by kernel_rfl) (by kernel_rfl) (fun (aC:Nat) (v:Value) (G:GH)=>match aC with|0=>v=.pointer (some ⟨b1,0,none⟩)|1=>v=.agg #[.slice pA pn pc,vi x.head.marks.ins,vi x.head.marks.move,.slice dA dn dc,.slice yA yn yc]|2=>∃ p d l,v=.agg #[p,vi x.head.marks.ins,vi x.head.marks.move,d,l]∧jq G x.head p d l|3=>v=.pointer (some ⟨b1,5,none⟩)|4=>v=.slice fA fn fc|5=>ah G (.sl 7 (x.cells.map aJ.dat)) v|_=>True) gN H ?_ ?_
 ·clear H;refine av ?_ ?_ ?_ ?_ (av ?_ ?_ (aT rfl) (aT rfl) dh)
  ·refine dx [] rfl trivial (by kernel_rfl) gN rfl rfl ?_;intro bC a w G1 hG HT H fin;exact kH H (Rf QB rfl fun _ H=>fin H iJ rfl)
  ·refine dx [(0,3,_)] rfl ⟨fun _ _ h=>h,trivial⟩ (by kernel_rfl) gN rfl rfl ?_;intro bC a w G1 hG HT H fin;refine aK qO (cs:=[_,_,_,_,_]) H wn rfl rfl (H.hp.bF 1 rfl rfl) rfl ?_;clear H;intro a H;exact fin H iJ rfl
  ·refine dx [(1,4,_)] rfl ⟨fun _ _ h=>h,trivial⟩ (by kernel_rfl) gN rfl rfl ?_;intro bC a w G1 hG HT H fin;refine s_call Ke H wn rfl (JK _ _ H.hp.ro x.head _ _ _ _ _ _ _ _ _ (hh.mono hG) (by omega)) rfl ?_;clear H;rintro v5 G5 a w sS yM H;exact fin H yM (sS)
  ·refine dx [] rfl trivial (by kernel_rfl) gN rfl rfl ?_;intro bC a w G1 hG HT H fin;exact kH H (Rf vM rfl fun _ H=>fin H iJ rfl)
  ·refine dx [(3,6,_)] rfl ⟨fun _ _ h=>h,trivial⟩ (by kernel_rfl) gN rfl rfl ?_;intro bC a w G1 hG HT H fin;exact kH H (Ro wB 1 rfl rfl fun _ H=>fin H iJ rfl)
  refine dx [(4,7,_)] rfl ⟨fun _ _ h=>h,trivial⟩ (by kernel_rfl) gN rfl rfl ?_;intro bC a w G1 hG HT H fin;refine s_call X9 H wn rfl (XV _ _ H.hp.ro x.cells _ _ (hf.mono hG) (by omega) (fun y hy=>Xj ih hn y (by have:=U6 hy;omega))) rfl ?_;clear H;rintro v8 G8 a w uF oV H;exact fin H oV (uF)
 clear H;intro a w G kZ H hv;obtain ⟨u5,MF,sS⟩:=hv 2 5 (by decide) rfl;(try dsimp only at sS);obtain ⟨p5,d5,l5,rfl,xk⟩:=sS;obtain ⟨a1,a2,a3,rfl⟩:=xk.props.form;obtain ⟨a4,a5,a6,rfl⟩:=xk.bK.form;obtain ⟨a7,a8,a9,rfl⟩:=xk.layers.form;have H:=H.kr MF;obtain ⟨u8,MG,uF⟩:=hv 5 8 (by decide) rfl;(try dsimp only at uF);obtain ⟨A8,n8,c8,rfl⟩:=uF.form;have H:=H.kr MG;clear hv;refine iP aeL [_,_,_,_,_,_] H wn rfl rfl rfl rfl ?_;clear H;intro a H;refine aP iV 0 (vs:=[_,_,_,_,_,_]) _ H wn rfl rfl rfl rfl rfl rfl rfl rfl ?_;clear H;intro w H;dsimp only [List.set,setRow] at H;refine au ⟨rfl,?_⟩;refine K2 _ _ ?_;clear K2;refine aR ?_;refine (leave1 H Tryz.results80 (.cons (uQ iV (cs:=[_,_,_,_,_,_]) H rfl rfl (H.hp.bF 0 rfl rfl)) .nil) ?_).1;exact H.hp.ret ⟨_,rfl,aO.SF xk uF⟩
theorem Xo {n:Nat} (ih:zu n) (hn:n≤4294967296) {G:GH} {w0:World} (x:aN) (hz:bP x.dat < n+1):AO (.func (.func 80) #[] #[]) w0 G x.dat:=by
 intro G1 w1 cs hm1 hG1 hr;have h:=Xp ih hn _ _ hG1 x cs hr hz;have h2:=jI (P:=Tryz.prog) (caps:=[]) (args:=[.agg cs.toArray]) Zm h;exact h2
theorem Xi {n:Nat} (ih:zu n) (hn:n≤4294967296) (G:GH) (w0:World) (hG:Hold G w0) (x:aj) (cs:List Value) (hv:aO G x.dat cs) (hz:bP x.dat < n+1) :
  Calls Tryz.prog 77 #[.agg cs.toArray] w0 (aU w0 G fun u G'=>∃ cs',u=.agg cs'.toArray∧aO G' x.dat cs'):=by
 have he:=lF x;have hl:=CX x.rows;obtain ⟨pA,pn,pc,dA,dn,dc,yA,yn,yc,fA,fn,fc,rA,rn,rc,rfl,hh,hf,hr⟩:=hv.item;refine eN [(0,_)] Tryz.func77 rfl Tryz.ntmps77 rfl rfl hG ?_;intro a H;refine aY (fun _ K1=>?_);refine bY (cs:=[_,_,_,_,_,_,_,_,_,_,_]) H wn rfl rfl rfl ?_;clear H;intro b1 a w hb1 H;refine bX dH H wn rfl ?_;clear H;intro b2 a w hb2 H;refine K1 _ _ ?_;clear K1;refine aQ (fun _ K2=>?_)
 have gN:∀ (aC:Nat) (v:Value) (G G':GH),(∀ k o,G k=some o→G' k=some o)→(fun (aC:Nat) (v:Value) (G:GH)=>match aC with|0=>v=.pointer (some ⟨b1,4,none⟩)|1=>v=.agg #[.slice pA pn pc,vi x.head.marks.ins,vi x.head.marks.move,.slice dA dn dc,.slice yA yn yc]|2=>∃ p d l,v=.agg #[p,vi x.head.marks.ins,vi x.head.marks.move,d,l]∧jq G x.head p d l|3=>v=.pointer (some ⟨b1,9,none⟩)|4=>v=.slice fA fn fc|5=>ah G (.sl 11 (x.flow.map aj.dat)) v|6=>v=.pointer (some ⟨b1,10,none⟩)|7=>v=.slice rA rn rc|8=>ah G (.sl 6 (x.rows.map aN.dat)) v|9=>v=.pointer (some ⟨b1,4,none⟩)|_=>True) aC v G→(fun (aC:Nat) (v:Value) (G:GH)=>match aC with|0=>v=.pointer (some ⟨b1,4,none⟩)|1=>v=.agg #[.slice pA pn pc,vi x.head.marks.ins,vi x.head.marks.move,.slice dA dn dc,.slice yA yn yc]|2=>∃ p d l,v=.agg #[p,vi x.head.marks.ins,vi x.head.marks.move,d,l]∧jq G x.head p d l|3=>v=.pointer (some ⟨b1,9,none⟩)|4=>v=.slice fA fn fc|5=>ah G (.sl 11 (x.flow.map aj.dat)) v|6=>v=.pointer (some ⟨b1,10,none⟩)|7=>v=.slice rA rn rc|8=>ah G (.sl 6 (x.rows.map aN.dat)) v|9=>v=.pointer (some ⟨b1,4,none⟩)|_=>True) aC v G':=by
  intro aC v G G' hm h
  match aC,h with
  | 0,h=>exact h
  | 1,h=>exact h
  | 2,h=>exact let ⟨p,d,l,h1,h2⟩:=h;⟨p,d,l,h1,h2.mono hm⟩
  | 3,h=>exact h
  | 4,h=>exact h
  | 5,h=>exact ah.mono hm h
  | 6,h=>exact h
  | 7,h=>exact h
  | 8,h=>exact ah.mono hm h
  | 9,h=>exact h
  | 10,h=>exact trivial
  | 11,h=>exact trivial
  | 12,h=>exact trivial
  | 13,h=>exact trivial
  | 14,h=>exact trivial
  | _+15,h=>exact trivial
 refine dz (hmx) [[],[0],[0,1],[],[3],[0,1,2,3,4],[],[6],(List.range 8),[0,1,2,3,4,6,7],(List.range 10),(List.range 11),(List.range 12),(List.range 13),(List.range 14)] [10,11,12,13,14] (by kernel_rfl) (by kernel_rfl) (fun (aC:Nat) (v:Value) (G:GH)=>match aC with|0=>v=.pointer (some ⟨b1,4,none⟩)|1=>v=.agg #[.slice pA pn pc,vi x.head.marks.ins,vi x.head.marks.move,.slice dA dn dc,.slice yA yn yc]|2=>∃ p d l,v=.agg #[p,vi x.head.marks.ins,vi x.head.marks.move,d,l]∧jq G x.head p d l|3=>v=.pointer (some ⟨b1,9,none⟩)|4=>v=.slice fA fn fc|5=>ah G (.sl 11 (x.flow.map aj.dat)) v|6=>v=.pointer (some ⟨b1,10,none⟩)|7=>v=.slice rA rn rc|8=>ah G (.sl 6 (x.rows.map aN.dat)) v|9=>v=.pointer (some ⟨b1,4,none⟩)|_=>True) gN H ?_ ?_
 ·clear H;refine av ?_ ?_ ?_ ?_ (av ?_ ?_ ?_ ?_ (av ?_ ?_ (aT rfl) (aT rfl) (bq (aT rfl) (bq (aT rfl) (bq (aT rfl) dh)))))
  ·refine dx [] rfl trivial (by kernel_rfl) gN rfl rfl ?_;intro bC a w G1 hG HT H fin;exact kH H (Rf Kr rfl fun _ H=>fin H iJ rfl)
  ·refine dx [(0,3,_)] rfl ⟨fun _ _ h=>h,trivial⟩ (by kernel_rfl) gN rfl rfl ?_;intro bC a w G1 hG HT H fin;refine aK qO (cs:=[_,_,_,_,_]) H wn rfl rfl (H.hp.bF 1 rfl rfl) rfl ?_;clear H;intro a H;exact fin H iJ rfl
  ·refine dx [(1,4,_)] rfl ⟨fun _ _ h=>h,trivial⟩ (by kernel_rfl) gN rfl rfl ?_;intro bC a w G1 hG HT H fin;refine s_call Ke H wn rfl (JK _ _ H.hp.ro x.head _ _ _ _ _ _ _ _ _ (hh.mono hG) (by omega)) rfl ?_;clear H;rintro v5 G5 a w sS yM H;exact fin H yM (sS)
  ·refine dx [] rfl trivial (by kernel_rfl) gN rfl rfl ?_;intro bC a w G1 hG HT H fin;exact kH H (Rf yH rfl fun _ H=>fin H iJ rfl)
  ·refine dx [(3,6,_)] rfl ⟨fun _ _ h=>h,trivial⟩ (by kernel_rfl) gN rfl rfl ?_;intro bC a w G1 hG HT H fin;exact kH H (Ro iR 1 rfl rfl fun _ H=>fin H iJ rfl)
  ·refine dx [(4,7,_)] rfl ⟨fun _ _ h=>h,trivial⟩ (by kernel_rfl) gN rfl rfl ?_;intro bC a w G1 hG HT H fin;refine s_call J7 H wn rfl (ih _ _ H.hp.ro x.flow _ (hf.mono hG) (by omega)) rfl ?_;clear H;rintro v8 G8 a w uF oV H;exact fin H oV (uF)
  ·refine dx [] rfl trivial (by kernel_rfl) gN rfl rfl ?_;intro bC a w G1 hG HT H fin;exact kH H (Rf tV rfl fun _ H=>fin H iJ rfl)
  ·refine dx [(6,9,_)] rfl ⟨fun _ _ h=>h,trivial⟩ (by kernel_rfl) gN rfl rfl ?_;intro bC a w G1 hG HT H fin;exact kH H (Ro uU 1 rfl rfl fun _ H=>fin H iJ rfl)
  ·refine dx [(7,10,_)] rfl ⟨fun _ _ h=>h,trivial⟩ (by kernel_rfl) gN rfl rfl ?_;intro bC a w G1 hG HT H fin;refine s_call Zl H wn rfl (XY _ _ H.hp.ro x.rows _ _ (hr.mono hG) (by omega) (fun y hy=>Xo ih hn y (by have:=U7 hy;omega))) rfl ?_;clear H;rintro v11 qj a w uE pR H;exact fin H pR (uE)
  refine dx [] rfl trivial (by kernel_rfl) gN rfl rfl ?_;intro bC a w G1 hG HT H fin;exact kH H (Rf Kr rfl fun _ H=>fin H iJ rfl)
 clear H;intro a w G kZ H hv;obtain ⟨u5,MF,sS⟩:=hv 2 5 (by decide) rfl;(try dsimp only at sS);obtain ⟨p5,d5,l5,rfl,xk⟩:=sS;obtain ⟨a1,a2,a3,rfl⟩:=xk.props.form;obtain ⟨a4,a5,a6,rfl⟩:=xk.bK.form;obtain ⟨a7,a8,a9,rfl⟩:=xk.layers.form;have H:=H.kr MF;obtain ⟨u8,MG,uF⟩:=hv 5 8 (by decide) rfl;(try dsimp only at uF);obtain ⟨A8,n8,c8,rfl⟩:=uF.form;have H:=H.kr MG;obtain ⟨u11,MC,uE⟩:=hv 8 11 (by decide) rfl;(try dsimp only at uE);obtain ⟨A11,n11,c11,rfl⟩:=uE.form;have H:=H.kr MC;have H:=H.aM (hv 9 12 rfl rfl) rfl;clear hv;refine aP qO 1 (vs:=[_,_,_,_,_]) _ H wn rfl rfl rfl rfl rfl rfl rfl rfl ?_;clear H;intro w H;dsimp only [List.set,setRow] at H;refine kH H (Rf yH rfl ?_);clear H;intro a H;refine aP iR 1 (vs:=[_]) _ H wn rfl rfl rfl rfl rfl rfl rfl rfl ?_;clear H;intro w H;dsimp only [List.set,setRow] at H;refine kH H (Rf tV rfl ?_);clear H;intro a H;refine aP uU 1 (vs:=[_]) _ H wn rfl rfl rfl rfl rfl rfl rfl rfl ?_;clear H;intro w H;dsimp only [List.set,setRow] at H;refine au ⟨rfl,?_⟩;refine K2 _ _ ?_;clear K2;refine aY (fun _ K3=>?_);refine aK dH (cs:=[_,_,_,_,_,_,_,_,_,_,_]) H wn rfl rfl (H.hp.bF 1 rfl rfl) rfl ?_;clear H;intro a H;refine aP dH 0 (vs:=[_,_,_,_,_,_,_,_,_,_,_]) _ H wn rfl rfl rfl rfl rfl rfl rfl rfl ?_;clear H;intro w H;dsimp only [List.set,setRow] at H;refine K3 _ _ ?_;clear K3;refine aR ?_;refine (leave1 H Tryz.results77 (.cons (uQ dH (cs:=[_,_,_,_,_,_,_,_,_,_,_]) H rfl rfl (H.hp.bF 0 rfl rfl)) .nil) ?_).1;exact H.hp.ret ⟨_,rfl,aO.mkItem xk uF uE⟩
theorem Xh {n:Nat} (ih:zu n) (hn:n≤4294967296) {G:GH} {w0:World} (x:aj) (hz:bP x.dat < n+1):AO (.func (.func 77) #[] #[]) w0 G x.dat:=by
 intro G1 w1 cs hm1 hG1 hr;have h:=Xi ih hn _ _ hG1 x cs hr hz;have h2:=jI (P:=Tryz.prog) (caps:=[]) (args:=[.agg cs.toArray]) Zk h;exact h2
theorem Pp:∀ n:Nat,n≤4294967297→zu n
 | 0,_=>fun _ _ _ _ _ _ h=>absurd h (by omega)
 | n+1,hn=>by
  intro G w0 hG l v hv hz;have ih:=Pp n (by omega);have hl:=CW l;refine eN [(0,_)] Tryz.func50 rfl Tryz.ntmps50 rfl rfl hG ?_;intro a H;refine kP H (SR fun _ K1=>Ra rfl (Kz K1 (SR fun _ K2=>Rm rfl ?_)));clear H K1;intro a H;refine s_call Zj H wn rfl (XW _ _ H.hp.ro l _ _ hv (by omega) (fun y hy=>Xh ih (by omega) y (by have:=Ja hy;omega))) rfl ?_;clear H;rintro v4 G4 a w hp4 wX H;exact kH H (Ra rfl (Kz K2 (LR Tryz.results50 rfl fun H=>H.hp.ret hp4)))
/-- A copy of a flow. -/
theorem Xq (G:GH) (w0:World) (hG:Hold G w0) (l:List aj) (v:Value) (hv:ah G (.sl 11 (l.map aj.dat)) v) (hz:aS l≤4294967296) :
  Calls Tryz.prog 50 #[v] w0 (aU w0 G fun u G'=>ah G' (.sl 11 (l.map aj.dat)) u):=Pp 4294967297 (by omega) G w0 hG l v hv (by omega)
end
section
open Go.RowKit
section
variable {P:Program} {N:Nat} {D:List Deferred} {w0 w w':World} {F:Nat→Prop} {G0 G G':GH} {L L' Li Lo:OL} {T:List (Nat × Value)} {a a':Act} {Q:Exit→Act→World→Prop}
theorem St.cast (h:St N D w0 F G0 G L T a w) (e:L=L'):St N D w0 F G0 G L' T a w:=e ▸ h
theorem St.assoc {A B C:OL} (h:St N D w0 F G0 G ((A++B)++C) T a w):St N D w0 F G0 G (A++(B++C)) T a w:=h.cast (List.append_assoc _ _ _)
theorem St.un {A B C:OL} (h:St N D w0 F G0 G (A++(B++C)) T a w):St N D w0 F G0 G ((A++B)++C) T a w:=h.cast (List.append_assoc _ _ _).symm
theorem St.MX {A B:OL} (h:St N D w0 F G0 G (A++B) T a w):St N D w0 F G0 G (A++(B++[])) T a w:=h.cast (by rw [List.append_nil])
/-- A range over a function whose state is told by ghosts. -/
theorem tK {ι κ:Type} {Lc:OL} {tY:Operand} {ps:List Nat} {assign body:Code} {gf:FuncId} {caps:List Value} {xs:List AP} {Gi:GH}
  (Lv:Nat→ι→OL) (Lt:Nat→ι→OL) (inv:Nat→ι→GH→Prop) (cx:κ→Code) (Lx zI:κ→OL) (uJ:κ→GH→Prop) (i0:ι)
  (H:St N D w0 F G0 G (Lc++Lv 0 i0++Lt 0 i0) T a w) (hg:ev T tY=some (.func (.func gf) #[] caps.toArray)) (en:∀ args w,(callFunc gf args).run P w=.ok (.enter gf args) w) (hit:Iter P Gi (.func (.func gf) #[] caps.toArray) xs) (hGi:∀ b o,Gi b=some o→G b=some o)
  (hps:ps.all (Nat.blt · N)=true) (hlen:∀ k args g,qR xs k args g→args.length=ps.length) (hinv:∀ k i (G G':GH),(∀ b o,G b=some o→G' b=some o)→inv k i G→inv k i G') (LV:∀ x (G G':GH),(∀ b o,G b=some o→G' b=some o)→uJ x G→uJ x G') (h0:inv 0 i0 G)
  (round:∀ (l:Nat) (oD mM:Obj) (bk:OL) (k:Nat) (args:List Value) (i:ι) (G1:GH) (w1:World) (F1:Nat→Prop) (B1:Code→Exit→Act→World→Prop) (a1:Act),qR xs k args G1→(∀ b o,G b=some o→G1 b=some o)→inv k i G1 →
   (∀ T' G2 L2 a2 w2 c,St N [] w1 F1 G1 G2 ((l,oD) :: L2) T' a2 w2→(∀ w3,St N [] w1 F1 G1 G2 ((l,mM) :: L2) T' a2 w3→WP (some l) P c (B1 c) a2 w3)→Exit.then (fun a2 w2=>∃ w3,(Instr.beginRound l).run P w2=.ok () w3∧c.wpIn (FW (some l)) 0 P (B1 c) a2 w3) (fun _ _ _=>False) .normal a2 w2) →
   (∀ i' T' G2 a2 w2 c,St N [] w1 F1 G1 G2 ((l,mM) :: (Lc++Lv (k+1) i'++(bk++Lt (k+1) i'))) T' a2 w2→inv (k+1) i' G2→B1 c .normal a2 w2) →
   (∀ x T' G2 a2 w2 c,St N [] w1 F1 G1 G2 ((l,mM) :: (Lc++Lx x++(bk++zI x))) T' a2 w2→uJ x G2→(cx x=.ret→B1 c .ret a2 w2)∧∀ n,cx x=.exit n→B1 c (.exit n) a2 w2) →
   St N [] w1 F1 G1 G1 ((l,oD) :: (Lc++Lv k i++(bk++Lt k i))) (lY ps args T) a1 w1 →
   WP (some l) P assign (Exit.then (fun a2 w2=>∃ w3,(Instr.beginRound l).run P w2=.ok () w3∧body.wpIn (FW (some l)) 0 P (B1 body) a2 w3) (fun _ _ _=>False)) a1 w1)
  (hdone:∀ Dk i G1 a1 w1,(∀ b o,G b=some o→G1 b=some o)→inv xs.length i G1→St N ({ target:=.collected Dk,args:=#[] } :: D) w0 F G0 G1 ((Dk,.deferred (some [])) :: (Lc++Lv xs.length i++Lt xs.length i)) T a1 w1→Q .normal a1 w1)
  (hstop:∀ Dk x G1 a1 w1,(∀ b o,G b=some o→G1 b=some o)→uJ x G1→St N ({ target:=.collected Dk,args:=#[] } :: D) w0 F G0 G1 ((Dk,.deferred (some [])) :: (Lc++Lx x++zI x)) T a1 w1→WP none P (cx x) Q a1 w1) :
  WP none P (.rangeFunc tY ps.toArray assign body) Q a w:=by
 refine Wt (J:=fun k g L=>∃ i,L=Lc++Lv k i++Lt k i∧inv k i g) (Jx:=fun c g L=>∃ x,c=cx x∧L=Lc++Lx x++zI x∧uJ x g) H hg en hit hGi hps hlen (fun k G G' L hm ⟨i,e,h⟩=>⟨i,e,hinv k i G G' hm h⟩) (fun c G G' L hm ⟨x,e1,e2,h⟩=>⟨x,e1,e2,LV x G G' hm h⟩) ⟨i0,rfl,h0⟩ ?_ ?_ ?_
 ·rintro l q bk k args G1 L1 w1 a1 hk hm ⟨i,rfl,hi⟩ H1
  have pm:∀ A B:OL,(bk++(A++B)).Perm (A++(bk++B)):=fun A B=>by
   rw [← List.append_assoc,← List.append_assoc]
   exact List.Perm.append_right B List.perm_append_comm
  refine round l (q.at .ready none) (q.at .busy none) bk k args i G1 w1 _ (fun _=>roundPost P l _) a1 hk hm hi ?_ ?_ ?_ (H1.perm (List.Perm.cons _ (pm _ _)))
  ·intro T' G2 L2 a2 w2 c H2 h
   exact O4 H2 h
  ·intro i' T' G2 a2 w2 c H2 h2
   exact Cm none (H2.perm (List.Perm.cons _ (pm _ _).symm)) ⟨_,rfl,i',rfl,h2⟩
  ·intro x T' G2 a2 w2 c H2 h2
   have H3:=H2.perm (List.Perm.cons _ (pm _ _).symm)
   refine ⟨fun e=>?_,fun n e=>?_⟩
   ·exact Cm (some .ret) H3 ⟨_,_,rfl,x,e.symm,rfl,h2⟩
   ·exact Cm (some (.exit n)) H3 ⟨_,_,rfl,x,e.symm,rfl,h2⟩
 ·rintro Dk G1 L1 a1 w1 hm ⟨i,rfl,hi⟩ H1
  exact hdone Dk i G1 a1 w1 hm hi H1
 ·rintro Dk c G1 L1 a1 w1 hm ⟨x,rfl,rfl,hx⟩ H1
  exact hstop Dk x G1 a1 w1 hm hx H1
/-! ## Loops in whose rounds functions are ranged over: the marks pile up -/
def Cc (ds:List Nat):List Deferred:=ds.map fun b=>{ target:=.collected b,args:=#[] }
def jl (ds:List Nat):OL:=ds.map fun b=>(b,.deferred (some []))
theorem FI {r:Option Nat} {ι:Type} {c:Code} {Tc:List (Nat × Value)} {Lc:List (Nat × Obj)} (Dv:ι→List Deferred) (Tv:ι→List (Nat × Value)) (Lv:ι→List (Nat × Obj)) (Gv:ι→GH) (Pr:ι→Prop) (m:ι→Nat) (i0:ι)
  (H:St N (Dv i0) w0 F G0 (Gv i0) (Lc++Lv i0) (Tv i0++Tc) a w) (hP:Pr i0)
  (round:∀ i a w,Pr i→St N (Dv i) w0 F G0 (Gv i) (Lc++Lv i) (Tv i++Tc) a w →
   WP r P c (Exit.then (fun a' w'=>∃ i',(St N (Dv i') w0 F G0 (Gv i') (Lc++Lv i') (Tv i'++Tc) a' w'∧Pr i')∧m i' < m i) Q) a w):WP r P (.loop c) Q a w :=
 O7 (fun i a w=>St N (Dv i) w0 F G0 (Gv i) (Lc++Lv i) (Tv i++Tc) a w∧Pr i) m i0 ⟨H,hP⟩ fun i a w hI=>round i a w hI.2 hI.1
theorem Ak {ι:Type} {Dv:ι→List Deferred} {Tc:List (Nat × Value)} {Lc:List (Nat × Obj)} {Tv:ι→List (Nat × Value)} {Lv:ι→List (Nat × Obj)} {Gv:ι→GH} {Pr:ι→Prop} {m:ι→Nat} {i:ι} (i':ι)
  (H:St N (Dv i') w0 F G0 (Gv i') (Lc++Lv i') (Tv i'++Tc) a w) (hP:Pr i') (hm:m i' < m i) :
  ∃ i',(St N (Dv i') w0 F G0 (Gv i') (Lc++Lv i') (Tv i'++Tc) a w∧Pr i')∧m i' < m i:=⟨i',⟨H,hP⟩,hm⟩
theorem sV {fn:Func} {R:Ending→World→Prop} {Lh Lt:OL}:∀ (ds:List Nat) {a:Act} {w:World},St N (Cc ds) w0 F G0 G (Lh++(jl ds++Lt)) T a w →
  (∀ a' w',St N [] w0 F G0 G (Lh++Lt) T a' w'→bodyPostM (FW none) 0 P fn R .ret a' w')→bodyPostM (FW none) 0 P fn R .ret a w∧bodyPostM (FW none) 0 P fn R .normal a w
 | [],a,w,H,k=>⟨k a w H,k a w H⟩
 | b :: ds,a,w,H,k=>by
  refine oo (b:=b) (D:=Cc ds) H Lh.length (by rw [List.getElem?_append_right (Nat.le_refl _),Nat.sub_self];rfl) fun a' w' H'=>?_
  refine (sV ds (Lh:=Lh) (Lt:=Lt) (H'.cast ?_) k).1
  rw [List.eraseIdx_append_of_length_le (Nat.le_refl _),Nat.sub_self];rfl
end
end
section
open Go.RowKit
theorem Gc:∀ args w,(callFunc 48 args).run Tryz.prog w=.ok (.enter 48 args) w:=enters Tryz.func48 rfl (by kernel_rfl)
theorem F8:∀ args w,(callFunc 32 args).run Tryz.prog w=.ok (.enter 32 args) w:=enters Tryz.func32 rfl (by kernel_rfl)
theorem wo:oN Tryz.prog 45 [(0,1),(1,1)] [.int .i64 0,.int .i64 0]:=⟨by kernel_rfl,by kernel_rfl⟩
theorem wR:bO Tryz.prog 85 2 2:=⟨by kernel_rfl⟩
/-- How many units run.Len finds in a flow of one item. -/
def n1 (x:aj):Nat:=if oI x=0 then dR x else 0
theorem Sk (x:aj):pX [x]=n1 x:=by
 simp only [pX,sO,n1,qd,List.all_cons,List.all_nil,Bool.and_true,decide_eq_true_eq]
 split <;> simp_all
mutual
/-- The positions of a flow and of those within it, from an item on. -/
def EZ (flow:Int) (at_:Nat):aj→List (Int × Int)
 | .mk k c i t h f r=>(List.range (n1 (.mk k c i t h f r))).map (fun q=>(flow,((at_+q:Nat):Int)))++((if k=6 then fV i 0 f else [])++oJ r)
def fV (flow:Int):Nat→List aj→List (Int × Int)
 | at_,[]=>[(flow,(at_:Int))]
 | at_,x :: l=>EZ flow at_ x++fV flow (at_+n1 x) l
def oJ:List aN→List (Int × Int)
 | []=>[]
 | r :: l=>E8 r++oJ l
def E8:aN→List (Int × Int)
 | .mk _ cs=>tC cs
def tC:List aJ→List (Int × Int)
 | []=>[]
 | c :: l=>EY c++tC l
def EY:aJ→List (Int × Int)
 | .mk i _ f=>fV i 0 f
end
theorem NM (flow:Int) (at_:Nat) (x:aj):EZ flow at_ x=(List.range (n1 x)).map (fun q=>(flow,((at_+q:Nat):Int)))++((if x.kind=6 then fV x.id 0 x.flow else [])++oJ x.rows):=by
 cases x;rw [EZ];rfl
theorem UH (x:aN):E8 x=tC x.cells:=by cases x;simp [E8,aN.cells]
theorem UF (x:aJ):EY x=fV x.id 0 x.flow:=by cases x;simp [EY,aJ.id,aJ.flow]
theorem SH (x:aj):n1 x < bP x.dat:=by
 have h1:=lF x;have h2:=yG x.text
 unfold n1 dR;split <;> (try split) <;> omega
/-- What is called at a position. -/
def xQ (a:Int × Int):AP:=fun args _=>args=[.agg #[vi a.1,vi a.2]]
theorem ah.len {G:GH} {sz:Nat} {rows:List (List Dat)} {A:Option Addr} {n c:Nat} (h:ah G (.sl sz rows) (.slice A n c)):n=rows.length:=h.cells.1
theorem ah.at_ {G:GH} {sz:Nat} {rows:List (List Dat)} {A:Option Addr} {n c:Nat} (h:ah G (.sl sz rows) (.slice A n c)):∀ k r,rows[k]?=some r→∃ b o cs,A=some ⟨b,o,none⟩∧cs.length=sz∧(∀ j u,cs[j]?=some u→aB G b (o+k*sz+j)=some u)∧aO G r cs:=by
 obtain ⟨A2,c2,e,_,_,hg⟩:=h.slice
 cases e;exact hg
/-- A row that lies in memory. -/
theorem Cn {G:GH} {l:List aN} {A:Option Addr} {k:Nat} (hk:k < l.length) (hg:∀ k r,(l.map aN.dat)[k]?=some r→∃ b o cs,A=some ⟨b,o,none⟩∧cs.length=6∧(∀ j u,cs[j]?=some u→aB G b (o+k*6+j)=some u)∧aO G r cs) :
  ∃ b o pA pn pc dA dn dc yA yn yc cA cn cc,A=some ⟨b,o,none⟩∧(∀ j u,[.slice pA pn pc,vi l[k].head.marks.ins,vi l[k].head.marks.move,.slice dA dn dc,.slice yA yn yc,.slice cA cn cc][j]?=some u→aB G b (o+k*6+j)=some u) ∧
   jq G l[k].head (.slice pA pn pc) (.slice dA dn dc) (.slice yA yn yc)∧ah G (.sl 7 (l[k].cells.map aJ.dat)) (.slice cA cn cc):=by
 obtain ⟨b,o,cs,h1,h2,h3,h4⟩:=hg k l[k].dat (by simp [hk]);obtain ⟨pA,pn,pc,dA,dn,dc,yA,yn,yc,cA,cn,cc,rfl,h5,h6⟩:=h4.row;exact ⟨b,o,pA,pn,pc,dA,dn,dc,yA,yn,yc,cA,cn,cc,h1,h3,h5,h6⟩
theorem zM {G:GH} {l:List aJ} {A:Option Addr} {k:Nat} (hk:k < l.length) (hg:∀ k r,(l.map aJ.dat)[k]?=some r→∃ b o cs,A=some ⟨b,o,none⟩∧cs.length=7∧(∀ j u,cs[j]?=some u→aB G b (o+k*7+j)=some u)∧aO G r cs) :
  ∃ b o pA pn pc dA dn dc yA yn yc fA fn fc,A=some ⟨b,o,none⟩∧(∀ j u,[vi l[k].id,.slice pA pn pc,vi l[k].head.marks.ins,vi l[k].head.marks.move,.slice dA dn dc,.slice yA yn yc,.slice fA fn fc][j]?=some u→aB G b (o+k*7+j)=some u) ∧
   jq G l[k].head (.slice pA pn pc) (.slice dA dn dc) (.slice yA yn yc)∧ah G (.sl 11 (l[k].flow.map aj.dat)) (.slice fA fn fc):=by
 obtain ⟨b,o,cs,h1,h2,h3,h4⟩:=hg k l[k].dat (by simp [hk]);obtain ⟨pA,pn,pc,dA,dn,dc,yA,yn,yc,fA,fn,fc,rfl,h5,h6⟩:=h4.cell;exact ⟨b,o,pA,pn,pc,dA,dn,dc,yA,yn,yc,fA,fn,fc,h1,h3,h5,h6⟩
/-- Walks of flows that are smaller than n. -/
def Jv (n:Nat):Prop:=∀ (fv:Value) (Gi:GH) (xs:List AP) (J:Nat→GH→OL→Prop) (Jx:GH→OL→Prop) (G:GH) (L:OL) (w0:World) (j:Nat) (l:List aj) (flow:Int) (v:Value),
 (∀ b o,Gi b=some o→G b=some o)→yh Tryz.prog fv Gi xs J Jx→zD J→zJ Jx→J j G L→gT G L w0→ah G (.sl 11 (l.map aj.dat)) v→aS l < n→(∀ i a,(fV flow 0 l)[i]?=some a→xs[j+i]?=some (xQ a)) →
 Calls Tryz.prog 48 #[v,vi flow,fv] w0 (fQ w0 G L fun u G' L'=>∃ b,u=.bool b∧(b=true→J (j+(fV flow 0 l).length) G' L')∧(b=false→Jx G' L'))
set_option maxHeartbeats 1000000 in
theorem afn {n:Nat} (ih:Jv n) (hn:n≤4294967296):Jv (n+1):=by
 intro fv Gi xs J Jx G L w0 j0 l flow v hGi hcb jw hJx hJ0 hO hv hz hx0;obtain ⟨A,c,rfl,hc1,hc2,hg⟩:=hv.slice;rw [List.length_map] at *;have hll:=CW l;refine jv (N:=81) (T:=[(0,_),(1,_),(2,_)]) Tryz.func48 rfl Tryz.ntmps48 rfl rfl hO ?_;intro a H;refine kP H (SR fun _ K1=>Ra rfl (Kz K1 (SR fun _ K2=>Ra rfl (Kz K2 (SQ fun _ K3=>SR fun _ K4=>Rm rfl (Rl jO rfl (Rm rfl (Kz K4 (SB ?_)))))))));clear H K1 K2 K4;intro a H;skip;refine d9 (ι:=Nat × Nat × Nat × OL × GH) (Tc:=[(1,_),(2,_),(16,_),(17,_)]) (Lc:=[]) (fun (gh:Nat × Nat × Nat × OL × GH)=>[(7,vi gh.2.1),(18,vi gh.1)]) (fun (gh:Nat × Nat × Nat × OL × GH)=>[]++gh.2.2.2.1) (fun (gh:Nat × Nat × Nat × OL × GH)=>gh.2.2.2.2) (fun (gh:Nat × Nat × Nat × OL × GH)=>gh.1≤l.length∧(∀ b o,G b=some o→gh.2.2.2.2 b=some o)∧Now xs xQ J (j0+(fV flow 0 l).length) gh.2.2.1 (fV flow gh.2.1 (l.drop gh.1)) gh.2.2.2.2 gh.2.2.2.1∧gh.2.1+aS (l.drop gh.1)≤n) (fun (gh:Nat × Nat × Nat × OL × GH)=>l.length - gh.1) ((0,0,j0,L,G)) (by exact (H).sub ⟨rfl,rfl,rfl,rfl,rfl,rfl,trivial⟩) ?_ ?_
 ·exact ⟨by omega,fun _ _ h=>h,⟨hJ0,hx0,rfl⟩,by simp;omega⟩
 clear H;intro gh a w hI H;obtain ⟨k,at_,j,Lt,g⟩:=gh;dsimp only at hI H;obtain ⟨hk,hgm,bE,hsz⟩:=hI;dsimp only [List.cons_append,List.nil_append,List.append_nil] at H;refine kP H (SR fun _ K5=>Rc rfl (Kz K5 (SQ fun _ K6=>Cd rfl ?_ ?_))) <;> clear H K5
 ·intro h19 a H
  try have j6:=dT h19
  have hk2:k < l.length:=by omega
  obtain ⟨b,o,pA,pn,pc,dA,dn,dc,yA,yn,yc,fA,fn,fc,rA,rn,rc,rfl,hrow,hhd,hfl,hrw⟩:=BD hk2 hg;replace hrow:=fun j u hj=>aD hgm (hrow j u hj);have hrn:=hrw.len;rw [List.length_map] at hrn;subst hrn;have hrs:=CX l[k].rows;have hsz1:=lF l[k];have hn1:=SH l[k];rw [List.drop_eq_getElem_cons hk2] at bE hsz
  simp only [fV,NM,List.append_assoc] at bE
  rw [aS,List.map_cons,dw] at hsz;refine kP H (Kc K6 (SQ fun _ K7=>SB (SR fun _ K8=>Ri jO dH rfl rfl ?_)));clear H K6;intro a H;refine aK dH (cs:=[_,_,_,_,_,_,_,_,_,_,_]) H wn rfl rfl (fun j v hj=>H.hp.aB (hrow j v hj)) rfl ?_;clear H;intro a H;refine bX dH H wn rfl ?_;clear H;intro b9 a w rH H;refine aP dH 0 (vs:=[_,_,_,_,_,_,_,_,_,_,_]) _ H wn rfl rfl rfl rfl rfl rfl rfl rfl ?_;clear H;intro w H;dsimp only [List.set,setRow] at H;refine K8 _ _ ?_;clear K8;refine aY (fun _ K9=>?_);refine aK dH (cs:=[_,_,_,_,_,_,_,_,_,_,_]) H wn rfl rfl (H.hp.bF 0 rfl rfl) rfl ?_;clear H;intro a H;refine fM jO dH [_,_,_,_,_,_,_,_,_,_,_] [_,_,_,_,_,_,_,_,_,_,_] H wn rfl rfl rfl rfl rfl (by intro i q h;match i,h with|0,h=>exact h|n+1,h=>simp at h) rfl rfl ?_;clear H;intro VZ a w aaT H;obtain ⟨zB,uw,abF,H⟩:=H.KE (sz:=11) (d:=l[k].dat) rfl (aO.mkItem (hhd.mono hgm) (hfl.mono hgm) (hrw.mono hgm));refine s_call F8 H wn rfl (Hz _ _ H.hp.ro [l[k]] _ abF (by simp only [aS,List.map_cons,List.map_nil,dw];omega)) rfl ?_;clear H;rintro v25 Oa a w ⟨rfl,rfl⟩ yR H;rw [Sk] at H;refine kH H (Rm rfl ?_);clear H;intro a H;(iterate 2 refine gV H wn rfl rfl rfl ?_;clear H;intro a H);refine kH H (Ra rfl (Ra rfl (Kz K9 (SQ fun _ aH=>SR fun _ aX=>Rm rfl (Rm rfl (Kz aX (SB ?_)))))));clear H K9 aX;intro a H;skip;refine d9 (ι:=Nat × Nat × OL × GH) (Tc:=[(1,_),(2,_),(9,_),(16,_),(17,_),(18,_),(28,_)]) (Lc:=[(_,_)]) (fun (gh:Nat × Nat × OL × GH)=>[(7,vi ((at_+gh.1:Nat):Int)),(29,vi gh.1)]) (fun (gh:Nat × Nat × OL × GH)=>[]++gh.2.2.1) (fun (gh:Nat × Nat × OL × GH)=>gh.2.2.2) (fun (gh:Nat × Nat × OL × GH)=>gh.1≤n1 l[k]∧(∀ b o,G b=some o→gh.2.2.2 b=some o)∧Now xs xQ J (j0+(fV flow 0 l).length) gh.2.1 (((List.range (n1 l[k])).map (fun q=>(flow,((at_+q:Nat):Int)))).drop gh.1++((if l[k].kind=6 then fV l[k].id 0 l[k].flow else [])++(oJ l[k].rows++fV flow (at_+n1 l[k]) (l.drop (k+1))))) gh.2.2.2 gh.2.2.1) (fun (gh:Nat × Nat × OL × GH)=>n1 l[k] - gh.1) ((0,j,Lt,zB)) (by exact (H).sub ⟨rfl,rfl,rfl,rfl,rfl,rfl,rfl,rfl,rfl,trivial⟩) ?_ ?_
  ·exact ⟨by omega,fun b o h=>uw b o (hgm b o h),by dsimp only;rw [List.drop_zero];exact ⟨jw _ _ _ _ uw bE.now,bE.rem,bE.len⟩⟩
  clear H;intro gh a w hI H;obtain ⟨i,j1,mJ,g1⟩:=gh;dsimp only at hI H;obtain ⟨hi,uq,qI⟩:=hI;dsimp only [List.cons_append,List.nil_append,List.append_nil] at H;refine kP H (SR fun _ bD=>Rc rfl (Kz bD (SQ fun _ bH=>Cd rfl ?_ ?_))) <;> clear H bD
  ·intro kI a H
   try have p30:=dT kI
   have hi2:i < n1 l[k]:=by omega
   rw [List.drop_eq_getElem_cons (by simpa using hi2)] at qI
   simp only [List.getElem_map,List.getElem_range,List.cons_append] at qI
   refine kP H (Kc bH (SQ fun _ bG=>SB (SQ fun _ bV=>SR fun _ bQ=>Rm rfl (Rm rfl (Rm rfl ?_)))));clear H bH;intro a H;refine iP wo [_,_] H wn rfl rfl rfl rfl ?_;clear H;intro a H;refine sG (Li:=[_]) (L:=mJ) H wn rfl rfl (hcb _ _ _ _ _ ⟨_,qI.head,rfl⟩ (fun b o h=>uq b o (hGi b o h)) qI.now (Hp.owns (Li:=[_]) H.hp)) rfl ?_;clear H;rintro v35 Fq AX a w ⟨b35,rfl,hb1,hb2⟩ Er H;refine kH H (Rn rfl (Kz bQ (Cd rfl ?_ ?_))) <;> clear H bQ
   ·intro wU a H
    try have p36:=dT wU
    refine kP H (SR fun _ bS=>Ra rfl (Kz bS ?_));clear H bS;intro a H;refine lr H Tryz.results48 rfl ?_
    first
     | exact H.hp.bR (L':=AX) (by repeat (first|exact List.Sublist.refl _|apply List.Sublist.cons)) ⟨_,rfl,fun e=>(by cases e),fun _=>hb2 (by simpa using wU)⟩
     | exact H.hp.bR (L':=yC) (by repeat (first|exact List.Sublist.refl _|apply List.Sublist.cons)) ⟨_,rfl,fun e=>(by cases e),fun _=>hb4 (by simpa using eF)⟩
     | exact H.hp.bR (L':=yD) (by repeat (first|exact List.Sublist.refl _|apply List.Sublist.cons)) ⟨_,rfl,fun e=>(by cases e),fun _=>hb6 (by simpa using h72)⟩
     | exact H.hp.eG ⟨_,rfl,fun e=>(by have:=bE.len;simp only [List.length_singleton] at this;rw [← this];exact pU e),rG⟩
   intro wU a H
   try have p36:=dF wU
   refine kP H (Kc bV (SC (Rm rfl (Rd rfl (Ra rfl (Kn bG (SC (Rd rfl (Rm rfl ?_)))))))));clear H bV bG;intro a H;refine au ?_;refine dD ((i+1,j1+1,AX,Fq)) (by exact (H).sub ⟨rfl,rfl,rfl,rfl,rfl,rfl,rfl,rfl,rfl,trivial⟩) ?_ ?_
   ·(try dsimp only);exact ⟨by omega,fun b o h=>Er b o (uq b o h),qI.step (hb1 (by simpa using wU))⟩
   first|omega|(dsimp only;omega)
  intro kI a H
  try have p30:=dF kI
  refine dL ?_;refine aH _ _ ?_;clear aH;refine aQ (fun _ cO=>?_);refine aQ (fun _ dV=>?_)
  have hin:i=n1 l[k]:=by omega
  subst hin;rw [List.drop_of_length_le (by simp),List.nil_append] at qI;refine kP H (SC (Rf jJ rfl (Ro ak 0 rfl rfl (Rc rfl (Rm rfl (Sp 43 rfl ?_ ?_)))))) <;> clear H
  ·intro h43 a H
   try have p43:=dT h43
   rw [if_pos p43] at qI;refine kH H (YF yH h43 rfl (YO iR 0 h43 rfl rfl (YF wR h43 rfl (YO ak 0 h43 rfl rfl (YM h43 rfl ?_)))));clear H;intro a H;refine gy Gc (Li:=[_]) (L:=mJ) H (wg H rfl rfl h43) rfl (ih fv Gi xs J Jx _ _ _ j1 l[k].flow l[k].id _ (fun b o h=>uq b o (hGi b o h)) hcb jw hJx qI.now (Hp.owns (Li:=[_]) H.hp) (hfl.mono uq) (by omega) qI.part) rfl ?_;clear H;rintro v49 Fu yC a w ⟨b49,rfl,hb3,hb4⟩ abn H;refine kH H (YN h43 rfl (Pt h43 rfl (Kn dV (Cd rfl ?_ ?_)))) <;> clear H dV
   ·intro eF a H
    try have p51:=dT eF
    refine kP H (SR fun _ dI=>Ra rfl (Kz dI ?_));clear H dI;intro a H;refine lr H Tryz.results48 rfl ?_
    first
     | exact H.hp.bR (L':=AX) (by repeat (first|exact List.Sublist.refl _|apply List.Sublist.cons)) ⟨_,rfl,fun e=>(by cases e),fun _=>hb2 (by simpa using wU)⟩
     | exact H.hp.bR (L':=yC) (by repeat (first|exact List.Sublist.refl _|apply List.Sublist.cons)) ⟨_,rfl,fun e=>(by cases e),fun _=>hb4 (by simpa using eF)⟩
     | exact H.hp.bR (L':=yD) (by repeat (first|exact List.Sublist.refl _|apply List.Sublist.cons)) ⟨_,rfl,fun e=>(by cases e),fun _=>hb6 (by simpa using h72)⟩
     | exact H.hp.eG ⟨_,rfl,fun e=>(by have:=bE.len;simp only [List.length_singleton] at this;rw [← this];exact pU e),rG⟩
   intro eF a H
   try have p51:=dF eF
   have sQ:=qI.jump (hb3 (by simpa using eF));have mh:∀ b o,G b=some o→Fu b=some o:=fun b o h=>abn b o (uq b o h);obtain ⟨MP,abg⟩:∃ x,x=j1+(fV l[k].id 0 l[k].flow).length:=⟨_,rfl⟩;rw [← abg] at sQ;clear qI uq;refine kP H (Kc cO (SR fun _ eH=>Rf tV rfl (Ro uU 0 rfl rfl (Rl lV rfl (Rm rfl (Kz eH (SB ?_)))))));clear H cO eH;intro a H;skip;refine d9 (ι:=Nat × Nat × OL × GH) (Tc:=[(1,_),(2,_),(7,_),(16,_),(17,_),(18,_),(53,_),(54,_)]) (Lc:=[(_,_)]) (fun (gh:Nat × Nat × OL × GH)=>[(55,vi gh.1)]) (fun (gh:Nat × Nat × OL × GH)=>[]++gh.2.2.1) (fun (gh:Nat × Nat × OL × GH)=>gh.2.2.2) (fun (gh:Nat × Nat × OL × GH)=>gh.1≤l[k].rows.length∧(∀ b o,G b=some o→gh.2.2.2 b=some o)∧Now xs xQ J (j0+(fV flow 0 l).length) gh.2.1 (oJ (l[k].rows.drop gh.1)++fV flow (at_+n1 l[k]) (l.drop (k+1))) gh.2.2.2 gh.2.2.1) (fun (gh:Nat × Nat × OL × GH)=>l[k].rows.length - gh.1) ((0,MP,yC,Fu)) (by exact (H).sub ⟨rfl,rfl,rfl,rfl,rfl,rfl,rfl,rfl,rfl,trivial⟩) ?_ ?_
   ·exact ⟨by omega,mh,sQ⟩
   clear H;intro gh a w hI H;obtain ⟨rk,j3,Lt3,g3⟩:=gh;dsimp only at hI H;obtain ⟨Hg,qF,og⟩:=hI;dsimp only [List.cons_append,List.nil_append,List.append_nil] at H;refine kP H (SR fun _ fq=>Rc rfl (Kz fq (SQ fun _ gK=>Cd rfl ?_ ?_))) <;> clear H fq
   ·intro zT a H
    try have p56:=dT zT
    have hk3:rk < l[k].rows.length:=by omega
    obtain ⟨b2,o2,qA,qn,qc,eA,en,ec,zA,zn,zc,cA,cn,cc,rfl,hrow,xD,hcl⟩:=Cn hk3 hrw.at_;replace hrow:=fun j u hj=>aD qF (hrow j u hj);have hcn:=hcl.len;rw [List.length_map] at hcn;subst hcn;have hsz2:=Fg hk3;have hcs:=AL l[k].rows[rk].cells;rw [List.drop_eq_getElem_cons hk3] at og
    simp only [oJ,UH,List.append_assoc] at og
    refine kP H (Kc gK (SQ fun _ gF=>SB (SR fun _ fO=>Ri lV iV rfl rfl ?_)));clear H gK;intro a H;refine aK iV (cs:=[_,_,_,_,_,_]) H wn rfl rfl (fun j v hj=>H.hp.aB (hrow j v hj)) rfl ?_;clear H;intro a H;refine bX iV H wn rfl ?_;clear H;intro b13 a w Ei H;refine aP iV 0 (vs:=[_,_,_,_,_,_]) _ H wn rfl rfl rfl rfl rfl rfl rfl rfl ?_;clear H;intro w H;dsimp only [List.set,setRow] at H;refine fO _ _ ?_;clear fO;refine kP H (SR fun _ iF=>Rf vM rfl (Ro wB 0 rfl rfl (Rl kg rfl (Rm rfl (Kz iF (SB ?_))))));clear H iF;intro a H;skip;refine d9 (ι:=Nat × Nat × OL × GH) (Tc:=[(1,_),(2,_),(7,_),(16,_),(17,_),(18,_),(53,_),(54,_),(55,_),(60,_),(61,_)]) (Lc:=[(_,_),(_,_)]) (fun (gh:Nat × Nat × OL × GH)=>[(62,vi gh.1)]) (fun (gh:Nat × Nat × OL × GH)=>[]++gh.2.2.1) (fun (gh:Nat × Nat × OL × GH)=>gh.2.2.2) (fun (gh:Nat × Nat × OL × GH)=>gh.1≤l[k].rows[rk].cells.length∧(∀ b o,G b=some o→gh.2.2.2 b=some o)∧Now xs xQ J (j0+(fV flow 0 l).length) gh.2.1 (tC (l[k].rows[rk].cells.drop gh.1)++(oJ (l[k].rows.drop (rk+1))++fV flow (at_+n1 l[k]) (l.drop (k+1)))) gh.2.2.2 gh.2.2.1) (fun (gh:Nat × Nat × OL × GH)=>l[k].rows[rk].cells.length - gh.1) ((0,j3,Lt3,g3)) (by exact (H).sub ⟨rfl,rfl,rfl,rfl,rfl,rfl,rfl,rfl,rfl,rfl,rfl,rfl,trivial⟩) ?_ ?_
    ·exact ⟨by omega,qF,og⟩
    clear H;intro gh a w hI H;obtain ⟨ck,j4,Lt4,g4⟩:=gh;dsimp only at hI H;obtain ⟨hck,nW,kL⟩:=hI;dsimp only [List.cons_append,List.nil_append,List.append_nil] at H;refine kP H (SR fun _ iT=>Rc rfl (Kz iT (SQ fun _ gL=>Cd rfl ?_ ?_))) <;> clear H iT
    ·intro h63 a H
     try have p63:=dT h63
     have hk4:ck < l[k].rows[rk].cells.length:=by omega
     obtain ⟨b3,o3,sA,sn,sc,tA,tn,tc,uA,un,uc,gA,gn,gc,rfl,hrow,hch,hcf⟩:=zM hk4 hcl.at_;replace hrow:=fun j u hj=>aD nW (hrow j u hj);have BU:=Fb hk4;rw [List.drop_eq_getElem_cons hk4] at kL
     simp only [tC,UF,List.append_assoc] at kL
     refine kP H (Kc gL (SQ fun _ jG=>SB (SR fun _ jV=>Ri kg gQ rfl rfl ?_)));clear H gL;intro a H;refine aK gQ (cs:=[_,_,_,_,_,_,_]) H wn rfl rfl (fun j v hj=>H.hp.aB (hrow j v hj)) rfl ?_;clear H;intro a H;refine bX gQ H wn rfl ?_;clear H;intro b15 a w GL H;refine aP gQ 0 (vs:=[_,_,_,_,_,_,_]) _ H wn rfl rfl rfl rfl rfl rfl rfl rfl ?_;clear H;intro w H;dsimp only [List.set,setRow] at H;refine jV _ _ ?_;clear jV;refine kP H (SR fun _ kV=>Rf yI rfl (Ro iR 0 rfl rfl (Rf wS rfl (Ro ak 0 rfl rfl (Rm rfl ?_)))));clear H;intro a H;refine gy Gc (Li:=[_,_,_]) (L:=Lt4) H wn rfl (ih fv Gi xs J Jx _ _ _ j4 l[k].rows[rk].cells[ck].flow l[k].rows[rk].cells[ck].id _ (fun b o h=>nW b o (hGi b o h)) hcb jw hJx kL.now (Hp.owns (Li:=[_,_,_]) H.hp) (hcf.mono nW) (by omega) kL.part) rfl ?_;clear H;rintro v71 Ji yD a w ⟨V8,rfl,hb5,hb6⟩ Md H;refine kH H (Rn rfl (Kz kV (Cd rfl ?_ ?_))) <;> clear H kV
     ·intro h72 a H
      try have p72:=dT h72
      refine kP H (SR fun _ kE=>Ra rfl (Kz kE ?_));clear H kE;intro a H;refine lr H Tryz.results48 rfl ?_
      first
       | exact H.hp.bR (L':=AX) (by repeat (first|exact List.Sublist.refl _|apply List.Sublist.cons)) ⟨_,rfl,fun e=>(by cases e),fun _=>hb2 (by simpa using wU)⟩
       | exact H.hp.bR (L':=yC) (by repeat (first|exact List.Sublist.refl _|apply List.Sublist.cons)) ⟨_,rfl,fun e=>(by cases e),fun _=>hb4 (by simpa using eF)⟩
       | exact H.hp.bR (L':=yD) (by repeat (first|exact List.Sublist.refl _|apply List.Sublist.cons)) ⟨_,rfl,fun e=>(by cases e),fun _=>hb6 (by simpa using h72)⟩
       | exact H.hp.eG ⟨_,rfl,fun e=>(by have:=bE.len;simp only [List.length_singleton] at this;rw [← this];exact pU e),rG⟩
     intro h72 a H
     try have p72:=dF h72
     refine kP H (Kc jG (SC (Rd rfl (Rm rfl ?_))));clear H jG;intro a H;refine au ?_;refine dD ((ck+1,j4+(fV l[k].rows[rk].cells[ck].id 0 l[k].rows[rk].cells[ck].flow).length,yD,Ji)) (by exact (H.bL (Pl:=[_,_,_]) (bB:=[_,_]) [1,2] (by decide) rfl).sub ⟨rfl,rfl,rfl,rfl,rfl,rfl,rfl,rfl,rfl,rfl,rfl,rfl,trivial⟩) ?_ ?_
     ·(try dsimp only);exact ⟨by omega,fun b o h=>Md b o (nW b o h),kL.jump (hb5 (by simpa using h72))⟩
     first|omega|(dsimp only;omega)
    intro h63 a H
    try have p63:=dF h63
    refine dL ?_;refine gF _ _ ?_;clear gF;refine kP H (SC (Rd rfl (Rm rfl ?_)));clear H;intro a H;refine au ?_;refine dD ((rk+1,j4,Lt4,g4)) (by exact (H.bL (Pl:=[_,_]) (bB:=[_]) [1] (by decide) rfl).sub ⟨rfl,rfl,rfl,rfl,rfl,rfl,rfl,rfl,rfl,trivial⟩) ?_ ?_
    ·(try dsimp only);exact ⟨by omega,nW,by rw [List.drop_of_length_le (by omega),tC,List.nil_append] at kL;exact kL⟩
    first|omega|(dsimp only;omega)
   intro zT a H
   try have p56:=dF zT
   refine dL ?_;refine K7 _ _ ?_;clear K7;refine kP H (SC (Rd rfl (Rm rfl ?_)));clear H;intro a H;refine au ?_;refine dD ((k+1,at_+n1 l[k],j3,Lt3,g3)) (by exact (H.bL (Pl:=[_]) (bB:=[]) [] (by decide) rfl).sub ⟨rfl,rfl,rfl,rfl,rfl,rfl,trivial⟩) ?_ ?_
   ·(try dsimp only);exact ⟨by omega,qF,by rw [List.drop_of_length_le (by omega),oJ,List.nil_append] at og;exact og,by show at_+n1 l[k]+dw ((l.drop (k+1)).map aj.dat)≤n;omega⟩
   first|omega|(dsimp only;omega)
  intro h43 a H
  try have p43:=dF h43
  rw [if_neg p43,List.nil_append] at qI;obtain ⟨yC,EB⟩:∃ x,x=mJ:=⟨_,rfl⟩;subst EB;obtain ⟨Fu,EB⟩:∃ x,x=g1:=⟨_,rfl⟩;subst EB;obtain ⟨MP,EB⟩:∃ x,x=j1:=⟨_,rfl⟩;subst EB;have mh:=uq;have sQ:=qI;clear uq qI;refine kH H (Ks h43 rfl (Ks h43 rfl (Ks h43 rfl (Ks h43 rfl (Ks h43 rfl (Ks h43 rfl (Ks h43 rfl (Pf h43 rfl (Kn dV (Cf rfl rfl (Kc cO (SR fun _ ko=>Rf tV rfl (Ro uU 0 rfl rfl ?_)))))))))))));clear H dV cO;intro a H;refine kH H (Rl lV rfl (Rm rfl (Kz ko (SB ?_))));clear H ko;intro a H;skip;refine d9 (ι:=Nat × Nat × OL × GH) (Tc:=[(1,_),(2,_),(7,_),(16,_),(17,_),(18,_),(53,_),(54,_)]) (Lc:=[(_,_)]) (fun (gh:Nat × Nat × OL × GH)=>[(55,vi gh.1)]) (fun (gh:Nat × Nat × OL × GH)=>[]++gh.2.2.1) (fun (gh:Nat × Nat × OL × GH)=>gh.2.2.2) (fun (gh:Nat × Nat × OL × GH)=>gh.1≤l[k].rows.length∧(∀ b o,G b=some o→gh.2.2.2 b=some o)∧Now xs xQ J (j0+(fV flow 0 l).length) gh.2.1 (oJ (l[k].rows.drop gh.1)++fV flow (at_+n1 l[k]) (l.drop (k+1))) gh.2.2.2 gh.2.2.1) (fun (gh:Nat × Nat × OL × GH)=>l[k].rows.length - gh.1) ((0,MP,yC,Fu)) (by exact (H).sub ⟨rfl,rfl,rfl,rfl,rfl,rfl,rfl,rfl,rfl,trivial⟩) ?_ ?_
  ·exact ⟨by omega,mh,sQ⟩
  clear H;intro gh a w hI H;obtain ⟨rk,j3,Lt3,g3⟩:=gh;dsimp only at hI H;obtain ⟨Hg,qF,og⟩:=hI;dsimp only [List.cons_append,List.nil_append,List.append_nil] at H;refine kP H (SR fun _ nD=>Rc rfl (Kz nD (SQ fun _ oM=>Cd rfl ?_ ?_))) <;> clear H nD
  ·intro zT a H
   try have p56:=dT zT
   have hk3:rk < l[k].rows.length:=by omega
   obtain ⟨b2,o2,qA,qn,qc,eA,en,ec,zA,zn,zc,cA,cn,cc,rfl,hrow,xD,hcl⟩:=Cn hk3 hrw.at_;replace hrow:=fun j u hj=>aD qF (hrow j u hj);have hcn:=hcl.len;rw [List.length_map] at hcn;subst hcn;have hsz2:=Fg hk3;have hcs:=AL l[k].rows[rk].cells;rw [List.drop_eq_getElem_cons hk3] at og
   simp only [oJ,UH,List.append_assoc] at og
   refine kP H (Kc oM (SQ fun _ mH=>SB (SR fun _ qm=>Ri lV iV rfl rfl ?_)));clear H oM;intro a H;refine aK iV (cs:=[_,_,_,_,_,_]) H wn rfl rfl (fun j v hj=>H.hp.aB (hrow j v hj)) rfl ?_;clear H;intro a H;refine bX iV H wn rfl ?_;clear H;intro b13 a w Ei H;refine aP iV 0 (vs:=[_,_,_,_,_,_]) _ H wn rfl rfl rfl rfl rfl rfl rfl rfl ?_;clear H;intro w H;dsimp only [List.set,setRow] at H;refine qm _ _ ?_;clear qm;refine kP H (SR fun _ vk=>Rf vM rfl (Ro wB 0 rfl rfl (Rl kg rfl (Rm rfl (Kz vk (SB ?_))))));clear H vk;intro a H;skip;refine d9 (ι:=Nat × Nat × OL × GH) (Tc:=[(1,_),(2,_),(7,_),(16,_),(17,_),(18,_),(53,_),(54,_),(55,_),(60,_),(61,_)]) (Lc:=[(_,_),(_,_)]) (fun (gh:Nat × Nat × OL × GH)=>[(62,vi gh.1)]) (fun (gh:Nat × Nat × OL × GH)=>[]++gh.2.2.1) (fun (gh:Nat × Nat × OL × GH)=>gh.2.2.2) (fun (gh:Nat × Nat × OL × GH)=>gh.1≤l[k].rows[rk].cells.length∧(∀ b o,G b=some o→gh.2.2.2 b=some o)∧Now xs xQ J (j0+(fV flow 0 l).length) gh.2.1 (tC (l[k].rows[rk].cells.drop gh.1)++(oJ (l[k].rows.drop (rk+1))++fV flow (at_+n1 l[k]) (l.drop (k+1)))) gh.2.2.2 gh.2.2.1) (fun (gh:Nat × Nat × OL × GH)=>l[k].rows[rk].cells.length - gh.1) ((0,j3,Lt3,g3)) (by exact (H).sub ⟨rfl,rfl,rfl,rfl,rfl,rfl,rfl,rfl,rfl,rfl,rfl,rfl,trivial⟩) ?_ ?_
   ·exact ⟨by omega,qF,og⟩
   clear H;intro gh a w hI H;obtain ⟨ck,j4,Lt4,g4⟩:=gh;dsimp only at hI H;obtain ⟨hck,nW,kL⟩:=hI;dsimp only [List.cons_append,List.nil_append,List.append_nil] at H;refine kP H (SR fun _ vo=>Rc rfl (Kz vo (SQ fun _ kW=>Cd rfl ?_ ?_))) <;> clear H vo
   ·intro h63 a H
    try have p63:=dT h63
    have hk4:ck < l[k].rows[rk].cells.length:=by omega
    obtain ⟨b3,o3,sA,sn,sc,tA,tn,tc,uA,un,uc,gA,gn,gc,rfl,hrow,hch,hcf⟩:=zM hk4 hcl.at_;replace hrow:=fun j u hj=>aD nW (hrow j u hj);have BU:=Fb hk4;rw [List.drop_eq_getElem_cons hk4] at kL
    simp only [tC,UF,List.append_assoc] at kL
    refine kP H (Kc kW (SQ fun _ wH=>SB (SR fun _ yw=>Ri kg gQ rfl rfl ?_)));clear H kW;intro a H;refine aK gQ (cs:=[_,_,_,_,_,_,_]) H wn rfl rfl (fun j v hj=>H.hp.aB (hrow j v hj)) rfl ?_;clear H;intro a H;refine bX gQ H wn rfl ?_;clear H;intro b15 a w GL H;refine aP gQ 0 (vs:=[_,_,_,_,_,_,_]) _ H wn rfl rfl rfl rfl rfl rfl rfl rfl ?_;clear H;intro w H;dsimp only [List.set,setRow] at H;refine yw _ _ ?_;clear yw;refine kP H (SR fun _ zF=>Rf yI rfl (Ro iR 0 rfl rfl (Rf wS rfl (Ro ak 0 rfl rfl (Rm rfl ?_)))));clear H;intro a H;refine gy Gc (Li:=[_,_,_]) (L:=Lt4) H wn rfl (ih fv Gi xs J Jx _ _ _ j4 l[k].rows[rk].cells[ck].flow l[k].rows[rk].cells[ck].id _ (fun b o h=>nW b o (hGi b o h)) hcb jw hJx kL.now (Hp.owns (Li:=[_,_,_]) H.hp) (hcf.mono nW) (by omega) kL.part) rfl ?_;clear H;rintro v71 Ji yD a w ⟨V8,rfl,hb5,hb6⟩ Md H;refine kH H (Rn rfl (Kz zF (Cd rfl ?_ ?_))) <;> clear H zF
    ·intro h72 a H
     try have p72:=dT h72
     refine kP H (SR fun _ yx=>Ra rfl (Kz yx ?_));clear H yx;intro a H;refine lr H Tryz.results48 rfl ?_
     first
      | exact H.hp.bR (L':=AX) (by repeat (first|exact List.Sublist.refl _|apply List.Sublist.cons)) ⟨_,rfl,fun e=>(by cases e),fun _=>hb2 (by simpa using wU)⟩
      | exact H.hp.bR (L':=yC) (by repeat (first|exact List.Sublist.refl _|apply List.Sublist.cons)) ⟨_,rfl,fun e=>(by cases e),fun _=>hb4 (by simpa using eF)⟩
      | exact H.hp.bR (L':=yD) (by repeat (first|exact List.Sublist.refl _|apply List.Sublist.cons)) ⟨_,rfl,fun e=>(by cases e),fun _=>hb6 (by simpa using h72)⟩
      | exact H.hp.eG ⟨_,rfl,fun e=>(by have:=bE.len;simp only [List.length_singleton] at this;rw [← this];exact pU e),rG⟩
    intro h72 a H
    try have p72:=dF h72
    refine kP H (Kc wH (SC (Rd rfl (Rm rfl ?_))));clear H wH;intro a H;refine au ?_;refine dD ((ck+1,j4+(fV l[k].rows[rk].cells[ck].id 0 l[k].rows[rk].cells[ck].flow).length,yD,Ji)) (by exact (H.bL (Pl:=[_,_,_]) (bB:=[_,_]) [1,2] (by decide) rfl).sub ⟨rfl,rfl,rfl,rfl,rfl,rfl,rfl,rfl,rfl,rfl,rfl,rfl,trivial⟩) ?_ ?_
    ·(try dsimp only);exact ⟨by omega,fun b o h=>Md b o (nW b o h),kL.jump (hb5 (by simpa using h72))⟩
    first|omega|(dsimp only;omega)
   intro h63 a H
   try have p63:=dF h63
   refine dL ?_;refine mH _ _ ?_;clear mH;refine kP H (SC (Rd rfl (Rm rfl ?_)));clear H;intro a H;refine au ?_;refine dD ((rk+1,j4,Lt4,g4)) (by exact (H.bL (Pl:=[_,_]) (bB:=[_]) [1] (by decide) rfl).sub ⟨rfl,rfl,rfl,rfl,rfl,rfl,rfl,rfl,rfl,trivial⟩) ?_ ?_
   ·(try dsimp only);exact ⟨by omega,nW,by rw [List.drop_of_length_le (by omega),tC,List.nil_append] at kL;exact kL⟩
   first|omega|(dsimp only;omega)
  intro zT a H
  try have p56:=dF zT
  refine dL ?_;refine K7 _ _ ?_;clear K7;refine kP H (SC (Rd rfl (Rm rfl ?_)));clear H;intro a H;refine au ?_;refine dD ((k+1,at_+n1 l[k],j3,Lt3,g3)) (by exact (H.bL (Pl:=[_]) (bB:=[]) [] (by decide) rfl).sub ⟨rfl,rfl,rfl,rfl,rfl,rfl,trivial⟩) ?_ ?_
  ·(try dsimp only);exact ⟨by omega,qF,by rw [List.drop_of_length_le (by omega),oJ,List.nil_append] at og;exact og,by show at_+n1 l[k]+dw ((l.drop (k+1)).map aj.dat)≤n;omega⟩
  first|omega|(dsimp only;omega)
 intro h19 a H
 try have j6:=dF h19
 refine dL ?_;refine K3 _ _ ?_;clear K3;refine aQ (fun _ zG=>?_);rw [List.drop_of_length_le (by omega),fV] at bE;refine kP H (SC (Rm rfl (Rm rfl (Rm rfl ?_))));clear H;intro a H;refine iP wo [_,_] H wn rfl rfl rfl rfl ?_;clear H;intro a H;refine sG (Li:=[]) (L:=Lt) H wn rfl rfl (hcb _ _ _ _ _ ⟨_,bE.head,rfl⟩ (fun b o h=>hgm b o (hGi b o h)) bE.now (Hp.owns (Li:=[]) H.hp)) rfl ?_;clear H;rintro v80 G80 afP a w ⟨b80,rfl,pU,rG⟩ agj H;refine kH H (Ra rfl (Kn zG ?_));clear H zG;intro a H;refine lr H Tryz.results48 rfl ?_
 first
  | exact H.hp.bR (L':=AX) (by repeat (first|exact List.Sublist.refl _|apply List.Sublist.cons)) ⟨_,rfl,fun e=>(by cases e),fun _=>hb2 (by simpa using wU)⟩
  | exact H.hp.bR (L':=yC) (by repeat (first|exact List.Sublist.refl _|apply List.Sublist.cons)) ⟨_,rfl,fun e=>(by cases e),fun _=>hb4 (by simpa using eF)⟩
  | exact H.hp.bR (L':=yD) (by repeat (first|exact List.Sublist.refl _|apply List.Sublist.cons)) ⟨_,rfl,fun e=>(by cases e),fun _=>hb6 (by simpa using h72)⟩
  | exact H.hp.eG ⟨_,rfl,fun e=>(by have:=bE.len;simp only [List.length_singleton] at this;rw [← this];exact pU e),rG⟩
end
section
open Go.RowKit
theorem aeV:Ty Tryz.prog 113 1 8 [.nilFunc] false:=⟨by kernel_rfl,by kernel_rfl⟩
theorem bN:Ty Tryz.prog 45 2 16 [.int .i64 0,.int .i64 0] true:=⟨by kernel_rfl,by kernel_rfl⟩
theorem zQ:bO Tryz.prog 38 0 0:=⟨by kernel_rfl⟩
theorem iq:Ty Tryz.prog 38 11 232 [.slice none 0 0,.slice none 0 0,.int .i64 0,.int .i64 0,.slice none 0 0,.slice none 0 0,.slice none 0 0,.slice none 0 0,.slice none 0 0,.slice none 0 0,.slice none 0 0] true:=⟨by kernel_rfl,by kernel_rfl⟩
theorem J5:∀ args w,(callFunc 30 args).run Tryz.prog w=.ok (.enter 30 args) w:=enters Tryz.func30 rfl (by kernel_rfl)
theorem F9:∀ args w,(callFunc 47 args).run Tryz.prog w=.ok (.enter 47 args) w:=enters Tryz.func47 rfl (by kernel_rfl)
theorem Y2:∀ args w,(callFunc 49 args).run Tryz.prog w=.ok (.enter 49 args) w:=enters Tryz.func49 rfl (by kernel_rfl)
theorem UM:∀ n:Nat,n≤4294967297→Jv n
 | 0,_=>fun _ _ _ _ _ _ _ _ _ _ _ _ _ _ _ _ _ _ _ h=>absurd h (by omega)
 | n+1,hn=>afn (UM n (by omega)) (by omega)
mutual
theorem afj (flow:Int) (at_:Nat):∀ x:aj,(EZ flow at_ x).length < bP x.dat
 | .mk k c i t h f r=>by
  have h1:=E5 i 0 f;have h2:=UJ r;have h3:=SH (.mk k c i t h f r);have h4:=lF (.mk k c i t h f r);have h5:=yG t
  simp only [EZ,List.length_append,List.length_map,List.length_range]
  simp only [aj.text,aj.head,aj.flow,aj.rows] at h4
  have h6:n1 (.mk k c i t h f r)≤t.size+1:=by unfold n1 dR;simp only [aj.text];split <;> (try split) <;> omega
  split <;> (try simp only [List.length_nil]) <;> omega
theorem E5 (flow:Int):∀ (at_:Nat) (l:List aj),(fV flow at_ l).length≤aS l+1
 | _,[]=>by simp [fV]
 | at_,x :: l=>by
  have h1:=afj flow at_ x;have h2:=E5 flow (at_+n1 x) l
  simp only [fV,List.length_append,aS,List.map_cons,dw] at *;omega
theorem UJ:∀ l:List aN,(oJ l).length≤fI l
 | []=>by simp [oJ]
 | x :: l=>by
  have h1:=afk x;have h2:=UJ l
  simp only [oJ,List.length_append,fI,List.map_cons,dw] at *;omega
theorem afk:∀ x:aN,(E8 x).length≤bP x.dat
 | .mk h cs=>by
  have h1:=UG cs;have h4:=tF (.mk h cs)
  simp only [aN.head,aN.cells] at h4
  simp only [E8];omega
theorem UG:∀ l:List aJ,(tC l).length≤jg l
 | []=>by simp [tC]
 | x :: l=>by
  have h1:=afi x;have h2:=UG l
  simp only [tC,List.length_append,jg,List.map_cons,dw] at *;omega
theorem afi:∀ x:aJ,(EY x).length≤bP x.dat
 | .mk i h f=>by
  have h1:=E5 i 0 f;have h4:=u6 (.mk i h f)
  simp only [aJ.head,aJ.flow] at h4
  simp only [EY];omega
end
/-- What is called at a position with its index. -/
def EH (k:Nat) (a:Int × Int):AP:=fun args _=>args=[vi k,.agg #[vi a.1,vi a.2]]
def Oi (bi:Nat) (J:Nat→GH→OL→Prop):Nat→GH→OL→Prop:=fun k g L=>∃ Lu,L=(bi,.cells #[vi ((k:Int) - 1)] 3 (0,0)) :: Lu∧J k g Lu
def OT (bi:Nat) (Jx:GH→OL→Prop):GH→OL→Prop:=fun g L=>∃ i Lu,L=(bi,.cells #[vi i] 3 (0,0)) :: Lu∧Jx g Lu
theorem Xg {fv:Value} {Gi:GH} {A:List (Int × Int)} {J:Nat→GH→OL→Prop} {Jx:GH→OL→Prop} {bi bf:Nat} (hA:A.length≤4294967297) (hf:aB Gi bf 0=some fv) (hcb:yh Tryz.prog fv Gi (A.mapIdx EH) J Jx) :
  yh Tryz.prog (.func (.func 49) #[] #[.pointer (some ⟨bi,0,none⟩),.pointer (some ⟨bf,0,none⟩)]) Gi (A.map xQ) (Oi bi J) (OT bi Jx):=by
 rintro k args G L w0 ⟨p0,hp0,hargs⟩ hGi ⟨Lu,rfl,hJ⟩ hO;rw [List.getElem?_map] at hp0;obtain ⟨p,hp,hpp⟩:=Option.map_eq_some_iff.1 hp0;subst hpp;obtain rfl:args=[.agg #[vi p.1,vi p.2]]:=hargs;have hk:k < A.length:=(List.getElem?_eq_some_iff.1 hp).1;have yP:=aD hGi hf;refine jI (caps:=[.pointer (some ⟨bi,0,none⟩),.pointer (some ⟨bf,0,none⟩)]) Y2 ?_;refine jv (N:=11) (T:=[(0,_),(1,_),(2,_)]) Tryz.func49 rfl Tryz.ntmps49 rfl rfl hO ?_;intro a H;refine aY (fun _ K1=>?_);refine bY (cs:=[_,_]) H wn rfl rfl rfl ?_;clear H;intro b3 a w hb3 H;refine kH H (Ra rfl (Kz K1 (SR fun _ K2=>Ro ak 1 rfl rfl (Rd rfl ?_))));clear H K1;intro a H;rw [Int.sub_add_cancel] at H;refine aP ak 1 (vs:=[_]) _ H wn rfl rfl rfl rfl rfl rfl rfl rfl ?_;clear H;intro w H;dsimp only [List.set,setRow] at H;refine K2 _ _ ?_;clear K2;refine kP H (SR fun _ K3=>Rg aeV rfl (by assumption) ?_);clear H;intro a H;refine kH H (Ro ak 1 rfl rfl ?_);clear H;intro a H;refine aK bN (cs:=[_,_]) H wn rfl rfl (H.hp.bF 0 rfl rfl) rfl ?_;clear H;intro a H;refine sG (Li:=[_,_]) (L:=Lu) H wn rfl rfl (hcb k _ _ _ _ ⟨EH k p,by rw [List.getElem?_mapIdx,hp];rfl,rfl⟩ hGi hJ (Hp.owns (Li:=[_,_]) H.hp)) rfl ?_;clear H;rintro v10 C9 Jm a w ⟨b10,rfl,hb1,hb2⟩ Q8 H;exact kH H (Ra rfl (Kz K3 (LR Tryz.results49 rfl fun H=>H.hp.bR (L':=(bi,.cells #[vi k] 3 (0,0)) :: Jm) (List.Sublist.cons _ (List.Sublist.refl _)) ⟨_,rfl,fun e=>⟨Jm,by simp,hb1 e⟩,fun e=>⟨_,Jm,rfl,hb2 e⟩⟩)))
/-- A document's value. -/
structure jh where
 (f p d y r s1 s2 s3 s4:Option Addr × Nat × Nat)
 (ins move:Int)
abbrev dY (x:Option Addr × Nat × Nat):Value:=.slice x.1 x.2.1 x.2.2
abbrev jh.cells (D:jh):List Value:=[dY D.f,dY D.p,vi D.ins,vi D.move,dY D.d,dY D.y,dY D.r,dY D.s1,dY D.s2,dY D.s3,dY D.s4]
abbrev jh.val (D:jh):Value:=.agg D.cells.toArray
theorem adw {G:GH} {bd:Nat} {D:jh} {l:List aj} (hb:G bd=some (.cells D.cells.toArray 38 (0,0))) (hv:ah G (.sl 11 (l.map aj.dat)) (dY D.f)) (hz:aS l≤4294967296) :
  Iter Tryz.prog G (.func (.func 47) #[] #[.pointer (some ⟨bd,0,none⟩)]) ((fV 0 0 l).mapIdx EH):=by
 intro J Jx fv G1 L w0 yP hGi jw hJx hJ hO hcb;refine jI (caps:=[.pointer (some ⟨bd,0,none⟩)]) F9 ?_;have hfl:aB G1 bd 0=some (dY D.f):=aD hGi (by unfold aB;rw [hb];rfl);have hvl:=E5 0 0 l;refine jv (N:=8) (T:=[(0,_),(1,_)]) Tryz.func47 rfl Tryz.ntmps47 rfl rfl hO ?_;intro a H;refine aY (fun _ K1=>?_);refine bY (cs:=[fv]) H wn rfl yP rfl ?_;clear H;intro b2 a w hb2 H;refine K1 _ _ ?_;clear K1;refine aY (fun _ K2=>?_);refine bX ak H wn rfl ?_;clear H;intro b3 a w hb3 H;refine aP ak 0 (vs:=[_]) _ H wn rfl rfl rfl rfl rfl rfl rfl rfl ?_;clear H;intro w H;dsimp only [List.set,setRow] at H;refine K2 _ _ ?_;clear K2;have H:=H.bL (Pl:=[_,_]) (bB:=[_,_]) [1,0] (by decide) rfl;obtain ⟨G2,hm2,hb2,H⟩:=H.dB;replace hfl:=aD hm2 hfl;refine kP H (SC (Rf zQ rfl (Rg iR rfl (by assumption) ?_)));clear H;intro a H;refine lT H wn rfl rfl ?_;clear H;intro a H;refine gy Gc (Li:=[]) (L:=(b3,_) :: L) H wn rfl (UM 4294967297 (by omega) _ G2 ((fV 0 0 l).map xQ) (Oi b3 J) (OT b3 Jx) G2 _ _ 0 l 0 _ (fun _ _ h=>h) (Xg (bf:=b2) (by omega) (by unfold aB;rw [hb2];rfl) (fun k args G L w h1 h2=>hcb k args G L w h1 (fun b o h=>h2 b o (hm2 b o h)))) (fun k G G' L hm ⟨Lu,e,h⟩=>⟨Lu,e,jw k G G' Lu hm h⟩) (fun G G' L hm ⟨i,Lu,e,h⟩=>⟨i,Lu,e,hJx G G' Lu hm h⟩) ⟨L,rfl,jw _ _ _ _ hm2 hJ⟩ (Hp.owns (Li:=[]) H.hp) (hv.mono fun b o h=>hm2 b o (hGi b o h)) (by omega) (fun i a h=>by rw [Nat.zero_add,List.getElem?_map,h];rfl)) rfl ?_;clear H;rintro v7 G7 L7 a w ⟨b7,rfl,h1,h2⟩ xC H;refine au ?_;refine (leave0 H Tryz.results47 ?_).2
 cases b7
 ·obtain ⟨i,Lu,rfl,h⟩:=h2 rfl;exact H.hp.bR (L':=Lu) (List.Sublist.cons _ (List.Sublist.refl _)) (.inr h)
 obtain ⟨Lu,rfl,h⟩:=h1 rfl;exact H.hp.bR (L':=Lu) (List.Sublist.cons _ (List.Sublist.refl _)) (.inl (by simpa using h))
theorem Nh (G:GH) (w0:World) (hG:Hold G w0) (D:jh) (l:List aj) (hv:ah G (.sl 11 (l.map aj.dat)) (dY D.f)) (hz:aS l≤4294967296) :
  Calls Tryz.prog 30 #[D.val] w0 (aU w0 G fun v G'=>∃ bd,v=.func (.func 47) #[] #[.pointer (some ⟨bd,0,none⟩)]∧Iter Tryz.prog G' v ((fV 0 0 l).mapIdx EH)):=by
 refine eN [(0,_)] Tryz.func30 rfl Tryz.ntmps30 rfl rfl hG ?_;intro a H;refine aY (fun _ K1=>?_);refine bY (cs:=[_,_,_,_,_,_,_,_,_,_,_]) H wn rfl rfl rfl ?_;clear H;intro b1 a w hb1 H;refine kH H (Ra rfl (Kz K1 (SR fun _ K2=>?_)));clear H K1;intro a H;refine lT H wn rfl rfl ?_;clear H;intro a H;refine kH H (Ra rfl (Kz K2 ?_));clear H K2;intro a H;refine aR ?_;obtain ⟨G2,hm2,hb2,H⟩:=H.dB;refine lv H Tryz.results30 rfl ?_;exact H.hp.ret ⟨b1,rfl,adw hb2 (hv.mono hm2) hz⟩
/-- How many positions a document has. -/
def Ii (l:List aj):Nat:=(fV 0 0 l).length
theorem BZ {A:List (Int × Int)} {k:Nat} {args:List Value} {g:GH} (h:qR (A.mapIdx EH) k args g):∃ hk:k < A.length,args=[vi k,.agg #[vi A[k].1,vi A[k].2]]:=by
 obtain ⟨p,hp,hargs⟩:=h;rw [List.getElem?_mapIdx] at hp;obtain ⟨q,hq,rfl⟩:=Option.map_eq_some_iff.1 hp;obtain ⟨hk,rfl⟩:=List.getElem?_eq_some_iff.1 hq;exact ⟨hk,hargs⟩
theorem XD (G:GH) (w0:World) (hG:Hold G w0) (D:jh) (l:List aj) (hv:ah G (.sl 11 (l.map aj.dat)) (dY D.f)) (hz:aS l≤4294967296) :
  Calls Tryz.prog 11 #[D.val] w0 (aU w0 G fun v G'=>v=vi (Ii l)):=by
 have hvl:=E5 0 0 l;refine eN [(0,_)] Tryz.func11 rfl Tryz.ntmps11 rfl rfl hG ?_;intro a H;refine aY (fun _ K1=>?_);refine bY (cs:=[_,_,_,_,_,_,_,_,_,_,_]) H wn rfl rfl rfl ?_;clear H;intro b1 a w hb1 H;refine kH H (Ra rfl (Kz K1 (SR fun _ K2=>?_)));clear H K1;intro a H;refine bX ak H wn rfl ?_;clear H;intro b3 a w hb3 H;refine aP ak 0 (vs:=[_]) _ H wn rfl rfl rfl rfl rfl rfl rfl rfl ?_;clear H;intro w H;dsimp only [List.set,setRow] at H;refine K2 _ _ ?_;clear K2;refine aQ (fun _ K3=>?_);refine aY (fun _ K4=>?_);refine aK iq (cs:=[_,_,_,_,_,_,_,_,_,_,_]) H wn rfl rfl (H.hp.bF 1 rfl rfl) rfl ?_;clear H;intro a H;refine s_call J5 H wn rfl (Nh _ _ H.hp.ro D l hv hz) rfl ?_;clear H;rintro v5 G5 a w ⟨bd,rfl,hit⟩ BO H;refine K4 _ _ ?_;clear K4;refine lZ ?_;skip;refine tK (ι:=Unit) (κ:=Empty) (Lc:=[(_,_)]) (fun (k:Nat) (gh:Unit)=>[(b3,.cells #[vi k] 3 (0,0))]) (fun (k:Nat) (gh:Unit)=>[]) (fun (k:Nat) (gh:Unit) (g:GH)=>True) (fun x=>x.elim) (fun x=>x.elim) (fun x=>x.elim) (fun x=>x.elim) (()) (by exact H.bL (Pl:=[_,_]) (bB:=[_,_]) [1,0] (by decide) rfl) rfl F9 (hit) (fun _ _ h=>h) rfl (fun k args g h=>by obtain ⟨_,rfl⟩:=BZ h;rfl) (fun _ _ _ _ _ h=>h) (fun x=>x.elim) (trivial) ?_ ?_ ?_
 ·clear H;intro l3 oD mM bk k args gh G3 w3 F3 B3 a hk3 mY hI Em Ev RN H;obtain ⟨hk,rfl⟩:=BZ hk3;dsimp only [lY,List.cons_append,List.nil_append] at H;refine eX ?_;refine Em _ _ _ _ _ _ (by exact H) ?_;clear H;intro w H;refine kP H (SB (SC (Ro ak 2 rfl rfl (Rd rfl ?_))));clear H;intro a H;refine aP ak 2 (vs:=[_]) _ H wn rfl rfl rfl rfl rfl rfl rfl rfl ?_;clear H;intro w H;dsimp only [List.set,setRow] at H;refine au ?_;refine Ev (()) _ _ _ _ _ (by exact H) ?_
  trivial
 ·clear H;intro NV gh Og a w mY hI H;dsimp only [List.cons_append,List.nil_append,List.append_nil] at H;refine K3 _ _ ?_;clear K3;refine kP H (SR fun _ K5=>Ro ak 2 rfl rfl (Ra rfl (Kz K5 ?_)));clear H K5;intro a H;refine aR ?_;refine (oo H 0 rfl ?_).1;clear H;intro a w H;dsimp only [List.eraseIdx_cons_succ,List.eraseIdx_cons_zero] at H;refine lv H Tryz.results11 rfl ?_;exact H.hp.ret (by simp [Ii])
 intro Dk x;exact x.elim
end
section
open Go.RowKit
theorem JX:∀ args w,(callFunc 105 args).run Tryz.prog w=.ok (.enter 105 args) w:=enters Tryz.func105 rfl (by kernel_rfl)
theorem IV:Ty Tryz.prog 103 3 16 [.bool false,.bool false,.int .i64 0] true:=⟨by kernel_rfl,by kernel_rfl⟩
theorem aeH:oN Tryz.prog 112 [(0,1),(1,3)] [.slice none 0 0,.bool false,.bool false,.int .i64 0]:=⟨by kernel_rfl,by kernel_rfl⟩
theorem DT:bO Tryz.prog 103 2 2:=⟨by kernel_rfl⟩
theorem zi:oN Tryz.prog 103 [(0,1),(1,1),(2,1)] [.bool false,.bool false,.int .i64 0]:=⟨by kernel_rfl,by kernel_rfl⟩
theorem Kl:bO Tryz.prog 103 1 1:=⟨by kernel_rfl⟩
theorem oH:Ty Tryz.prog 4 1 1 [.bool false] false:=⟨by kernel_rfl,by kernel_rfl⟩
theorem Zi:∀ args w,(callFunc 75 args).run Tryz.prog w=.ok (.enter 75 args) w:=enters Tryz.func75 rfl (by kernel_rfl)
theorem FZ:∀ args w,(callFunc 104 args).run Tryz.prog w=.ok (.enter 104 args) w:=enters Tryz.func104 rfl (by kernel_rfl)
/-- A flow and its place. -/
structure jo where
 id:Int
 items:List aj
 body:Bool
 note:Bool
 tables:Int
mutual
def uY (note:Bool) (t:Int):aj→List jo
 | .mk k _ i _ _ f r=>if k=6 then ⟨i,f,false,true,t⟩ :: iw true t f else if k=7 then ny note t r else []
def iw (note:Bool) (t:Int):List aj→List jo
 | []=>[]
 | x :: l=>uY note t x++iw note t l
def ny (note:Bool) (t:Int):List aN→List jo
 | []=>[]
 | r :: l=>uZ note t r++ny note t l
def uZ (note:Bool) (t:Int):aN→List jo
 | .mk _ cs=>nO note t cs
def nO (note:Bool) (t:Int):List aJ→List jo
 | []=>[]
 | c :: l=>uW note t c++nO note t l
def uW (note:Bool) (t:Int):aJ→List jo
 | .mk i _ f=>⟨i,f,false,note,t+1⟩ :: iw note (t+1) f
end
theorem UQ (note:Bool) (t:Int) (x:aj):uY note t x=if x.kind=6 then ⟨x.id,x.flow,false,true,t⟩ :: iw true t x.flow else if x.kind=7 then ny note t x.rows else []:=by cases x;rw [uY];rfl
theorem afu (note:Bool) (t:Int) (x:aN):uZ note t x=nO note t x.cells:=by cases x;rw [uZ];rfl
theorem afo (note:Bool) (t:Int) (x:aJ):uW note t x=⟨x.id,x.flow,false,note,t+1⟩ :: iw note (t+1) x.flow:=by cases x;rw [uW];rfl
/-- What is called at a flow. -/
def wT (a:jo):AP:=fun args g=>∃ v,args=[vi a.id,.agg #[v,.bool a.body,.bool a.note,vi a.tables]]∧ah g (.sl 11 (a.items.map aj.dat)) v
def Jw (n:Nat):Prop:=∀ (fv:Value) (Gi:GH) (xs:List AP) (J:Nat→GH→OL→Prop) (Jx:GH→OL→Prop) (G:GH) (L:OL) (w0:World) (j:Nat) (l:List aj) (id:Int) (body note:Bool) (t:Int) (v:Value),
 (∀ b o,Gi b=some o→G b=some o)→yh Tryz.prog fv Gi xs J Jx→zD J→zJ Jx→J j G L→gT G L w0→ah G (.sl 11 (l.map aj.dat)) v→aS l < n→0≤t→t+aS l≤4294967296→(∀ i a,(⟨id,l,body,note,t⟩ :: iw note t l)[i]?=some a→xs[j+i]?=some (wT a)) →
 Calls Tryz.prog 105 #[vi id,v,.agg #[.bool body,.bool note,vi t],fv] w0 (fQ w0 G L fun u G' L'=>∃ b,u=.bool b∧(b=true→J (j+((iw note t l).length+1)) G' L')∧(b=false→Jx G' L'))
set_option maxHeartbeats 1000000 in
theorem afx {n:Nat} (ih:Jw n) (hn:n≤4294967296):Jw (n+1):=by
 intro fv Gi xs J Jx G L w0 j0 l id body note t v hGi hcb jw hJx hJ0 hO hv hz ht0 ht1 hx0;obtain ⟨A,c,rfl,hc1,hc2,hg⟩:=hv.slice;rw [List.length_map] at *;have hll:=CW l;have Mj:Now xs wT J (j0+((iw note t l).length+1)) j0 (⟨id,l,body,note,t⟩ :: iw note t l) G L:=⟨hJ0,hx0,rfl⟩;refine jv (N:=74) (T:=[(0,_),(1,_),(2,_),(3,_)]) Tryz.func105 rfl Tryz.ntmps105 rfl rfl hO ?_;intro a H;refine aY (fun _ K1=>?_);refine bY (cs:=[_,_,_]) H wn rfl rfl rfl ?_;clear H;intro b6 a w hb6 H;refine kH H (Ra rfl (Kz K1 (SQ fun _ K2=>SR fun _ K3=>Rm rfl (Rm rfl (Rm rfl ?_)))));clear H K1;intro a H;refine aK IV (cs:=[_,_,_]) H wn rfl rfl (H.hp.bF 0 rfl rfl) rfl ?_;clear H;intro a H;refine iP aeH [_,_,_,_] H wn rfl rfl rfl rfl ?_;clear H;intro a H;refine sG (Li:=[_]) (L:=L) H wn rfl rfl (hcb _ _ _ _ _ ⟨_,Mj.head,_,rfl,hv⟩ hGi Mj.now (Hp.owns (Li:=[_]) H.hp)) rfl ?_;clear H;rintro v20 AQ Dl a w ⟨b20,rfl,hb1,hb2⟩ xu H;refine kH H (Rn rfl (Kz K3 (Cd rfl ?_ ?_))) <;> clear H K3
 ·intro h21 a H
  try have lS:=dT h21
  refine kP H (SR fun _ K4=>Ra rfl (Kz K4 ?_));clear H K4;intro a H;refine lr H Tryz.results105 rfl ?_
  first
   | exact H.hp.bR (L':=Dl) (by repeat (first|exact List.Sublist.refl _|apply List.Sublist.cons)) ⟨_,rfl,fun e=>(by cases e),fun _=>hb2 (by simpa using h21)⟩
   | exact H.hp.bR (L':=Dm) (by repeat (first|exact List.Sublist.refl _|apply List.Sublist.cons)) ⟨_,rfl,fun e=>(by cases e),fun _=>hb4 (by simpa using yL)⟩
   | exact H.hp.bR (L':=Dq) (by repeat (first|exact List.Sublist.refl _|apply List.Sublist.cons)) ⟨_,rfl,fun e=>(by cases e),fun _=>hb6 (by simpa using qD)⟩
   | exact H.hp.bR (L':=Lt) (by repeat (first|exact List.Sublist.refl _|apply List.Sublist.cons)) ⟨_,rfl,fun _=>(by rw [List.drop_of_length_le (by omega),iw] at bE;have:=bE.len;simp only [List.length_nil,Nat.add_zero] at this;rw [← this];exact bE.now),fun e=>(by cases e)⟩
 intro h21 a H
 try have lS:=dF h21
 refine kP H (Kc K2 (SQ fun _ K5=>SR fun _ K6=>Rm rfl (Rl jO rfl (Rm rfl (Kz K6 (SB ?_))))));clear H K2 K6;intro a H;skip;refine d9 (ι:=Nat × Nat × OL × GH) (Tc:=[(3,_),(6,_),(22,_),(23,_)]) (Lc:=[(_,_)]) (fun (gh:Nat × Nat × OL × GH)=>[(24,vi gh.1)]) (fun (gh:Nat × Nat × OL × GH)=>[]++gh.2.2.1) (fun (gh:Nat × Nat × OL × GH)=>gh.2.2.2) (fun (gh:Nat × Nat × OL × GH)=>gh.1≤l.length∧(∀ b o,G b=some o→gh.2.2.2 b=some o)∧Now xs wT J (j0+((iw note t l).length+1)) gh.2.1 (iw note t (l.drop gh.1)) gh.2.2.2 gh.2.2.1) (fun (gh:Nat × Nat × OL × GH)=>l.length - gh.1) ((0,j0+1,Dl,AQ)) (by exact (H).sub ⟨rfl,rfl,rfl,rfl,rfl,trivial⟩) ?_ ?_
 ·exact ⟨by omega,xu,Mj.step (hb1 (by simpa using h21))⟩
 clear H;intro gh a w hI H;obtain ⟨k,j1,Lt,g⟩:=gh;dsimp only at hI H;obtain ⟨hk,hgm,bE⟩:=hI;dsimp only [List.cons_append,List.nil_append,List.append_nil] at H;refine kP H (SR fun _ K7=>Rc rfl (Kz K7 (SQ fun _ K8=>Cd rfl ?_ ?_))) <;> clear H K7
 ·intro kG a H
  try have p25:=dT kG
  have hk2:k < l.length:=by omega
  obtain ⟨b,o,pA,pn,pc,dA,dn,dc,yA,yn,yc,fA,fn,fc,rA,rn,rc,rfl,hrow,hhd,hfl,hrw⟩:=BD hk2 hg;replace hrow:=fun j u hj=>aD hgm (hrow j u hj);have hrn:=hrw.len;rw [List.length_map] at hrn;subst hrn;have hrs:=CX l[k].rows;have hsz1:=afH hk2;rw [List.drop_eq_getElem_cons hk2] at bE
  simp only [iw,UQ] at bE
  refine kP H (Kc K8 (SQ fun _ K9=>SB (SR fun _ aH=>Ri jO dH rfl rfl ?_)));clear H K8;intro a H;refine aK dH (cs:=[_,_,_,_,_,_,_,_,_,_,_]) H wn rfl rfl (fun j v hj=>H.hp.aB (hrow j v hj)) rfl ?_;clear H;intro a H;refine bX dH H wn rfl ?_;clear H;intro b10 a w BJ H;refine aP dH 0 (vs:=[_,_,_,_,_,_,_,_,_,_,_]) _ H wn rfl rfl rfl rfl rfl rfl rfl rfl ?_;clear H;intro w H;dsimp only [List.set,setRow] at H;refine aH _ _ ?_;clear aH;refine kP H (SR fun _ aX=>Rf jJ rfl (Ro ak 0 rfl rfl (Kz aX (SB (SR fun _ bD=>Rc rfl (Ra rfl (Kz bD (Cd rfl ?_ ?_)))))))) <;> clear H aX bD
  ·intro kI a H
   try have p30:=dT kI
   rw [if_pos p30] at bE;refine kP H (SR fun _ bH=>Rf wR rfl (Ro ak 0 rfl rfl (Rf yH rfl (Ro iR 0 rfl rfl (Rf DT rfl (Ro ak 1 rfl rfl ?_))))));clear H;intro a H;refine iP zi [_,_,_] H wn rfl rfl rfl rfl ?_;clear H;intro a H;refine kH H (Rm rfl ?_);clear H;intro a H;refine gy JX (Li:=[_,_]) (L:=Lt) H wn rfl (ih fv Gi xs J Jx _ _ _ j1 l[k].flow l[k].id false true t _ (fun b o h=>hgm b o (hGi b o h)) hcb jw hJx bE.now (Hp.owns (Li:=[_,_]) H.hp) (hfl.mono hgm) (by omega) ht0 (by omega) bE.part) rfl ?_;clear H;rintro v40 Oc Dm a w ⟨b40,rfl,hb3,hb4⟩ GV H;refine kH H (Rn rfl (Kz bH (Cd rfl ?_ ?_))) <;> clear H bH
   ·intro yL a H
    try have p41:=dT yL
    refine kP H (SR fun _ bG=>Ra rfl (Kz bG ?_));clear H bG;intro a H;refine lr H Tryz.results105 rfl ?_
    first
     | exact H.hp.bR (L':=Dl) (by repeat (first|exact List.Sublist.refl _|apply List.Sublist.cons)) ⟨_,rfl,fun e=>(by cases e),fun _=>hb2 (by simpa using h21)⟩
     | exact H.hp.bR (L':=Dm) (by repeat (first|exact List.Sublist.refl _|apply List.Sublist.cons)) ⟨_,rfl,fun e=>(by cases e),fun _=>hb4 (by simpa using yL)⟩
     | exact H.hp.bR (L':=Dq) (by repeat (first|exact List.Sublist.refl _|apply List.Sublist.cons)) ⟨_,rfl,fun e=>(by cases e),fun _=>hb6 (by simpa using qD)⟩
     | exact H.hp.bR (L':=Lt) (by repeat (first|exact List.Sublist.refl _|apply List.Sublist.cons)) ⟨_,rfl,fun _=>(by rw [List.drop_of_length_le (by omega),iw] at bE;have:=bE.len;simp only [List.length_nil,Nat.add_zero] at this;rw [← this];exact bE.now),fun e=>(by cases e)⟩
   intro yL a H
   try have p41:=dF yL
   refine kP H (Kc K9 (SC (Rd rfl (Rm rfl ?_))));clear H K9;intro a H;refine au ?_;refine dD ((k+1,j1+((iw true t l[k].flow).length+1),Dm,Oc)) (by exact (H.bL (Pl:=[_,_]) (bB:=[_]) [1] (by decide) rfl).sub ⟨rfl,rfl,rfl,rfl,rfl,trivial⟩) ?_ ?_
   ·(try dsimp only);exact ⟨by omega,fun b o h=>GV b o (hgm b o h),bE.jump (hb3 (by simpa using yL))⟩
   first|omega|(dsimp only;omega)
  intro kI a H
  try have p30:=dF kI
  refine kP H (SR fun _ bV=>Rc rfl (Ra rfl (Kz bV (Cd rfl ?_ ?_)))) <;> clear H bV
  ·intro zS a H
   try have p42:=dT zS
   rw [if_neg p30,if_pos p42] at bE;refine kP H (SR fun _ bQ=>Rf tV rfl (Ro uU 0 rfl rfl (Rl lV rfl (Rm rfl (Kz bQ (SB ?_))))));clear H bQ;intro a H;skip;refine d9 (ι:=Nat × Nat × OL × GH) (Tc:=[(3,_),(6,_),(22,_),(23,_),(24,_),(45,_),(46,_)]) (Lc:=[(_,_),(_,_)]) (fun (gh:Nat × Nat × OL × GH)=>[(47,vi gh.1)]) (fun (gh:Nat × Nat × OL × GH)=>[]++gh.2.2.1) (fun (gh:Nat × Nat × OL × GH)=>gh.2.2.2) (fun (gh:Nat × Nat × OL × GH)=>gh.1≤l[k].rows.length∧(∀ b o,G b=some o→gh.2.2.2 b=some o)∧Now xs wT J (j0+((iw note t l).length+1)) gh.2.1 (ny note t (l[k].rows.drop gh.1)++iw note t (l.drop (k+1))) gh.2.2.2 gh.2.2.1) (fun (gh:Nat × Nat × OL × GH)=>l[k].rows.length - gh.1) ((0,j1,Lt,g)) (by exact (H).sub ⟨rfl,rfl,rfl,rfl,rfl,rfl,rfl,rfl,trivial⟩) ?_ ?_
   ·exact ⟨by omega,hgm,bE⟩
   clear H;intro gh a w hI H;obtain ⟨rk,j3,Lt3,g3⟩:=gh;dsimp only at hI H;obtain ⟨Hg,qF,og⟩:=hI;dsimp only [List.cons_append,List.nil_append,List.append_nil] at H;refine kP H (SR fun _ bS=>Rc rfl (Kz bS (SQ fun _ cO=>Cd rfl ?_ ?_))) <;> clear H bS
   ·intro h48 a H
    try have p48:=dT h48
    have hk3:rk < l[k].rows.length:=by omega
    obtain ⟨b2,o2,qA,qn,qc,eA,en,ec,zA,zn,zc,cA,cn,cc,rfl,hrow,xD,hcl⟩:=Cn hk3 hrw.at_;replace hrow:=fun j u hj=>aD qF (hrow j u hj);have hcn:=hcl.len;rw [List.length_map] at hcn;subst hcn;have hsz2:=Fg hk3;have hcs:=AL l[k].rows[rk].cells;rw [List.drop_eq_getElem_cons hk3] at og
    simp only [ny,afu,List.append_assoc] at og
    refine kP H (Kc cO (SQ fun _ dV=>SB (SR fun _ dI=>Ri lV iV rfl rfl ?_)));clear H cO;intro a H;refine aK iV (cs:=[_,_,_,_,_,_]) H wn rfl rfl (fun j v hj=>H.hp.aB (hrow j v hj)) rfl ?_;clear H;intro a H;refine bX iV H wn rfl ?_;clear H;intro b12 a w BL H;refine aP iV 0 (vs:=[_,_,_,_,_,_]) _ H wn rfl rfl rfl rfl rfl rfl rfl rfl ?_;clear H;intro w H;dsimp only [List.set,setRow] at H;refine dI _ _ ?_;clear dI;refine kP H (SR fun _ eH=>Rf vM rfl (Ro wB 0 rfl rfl (Rl kg rfl (Rm rfl (Kz eH (SB ?_))))));clear H eH;intro a H;skip;refine d9 (ι:=Nat × Nat × OL × GH) (Tc:=[(3,_),(6,_),(22,_),(23,_),(24,_),(45,_),(46,_),(47,_),(52,_),(53,_)]) (Lc:=[(_,_),(_,_),(_,_)]) (fun (gh:Nat × Nat × OL × GH)=>[(54,vi gh.1)]) (fun (gh:Nat × Nat × OL × GH)=>[]++gh.2.2.1) (fun (gh:Nat × Nat × OL × GH)=>gh.2.2.2) (fun (gh:Nat × Nat × OL × GH)=>gh.1≤l[k].rows[rk].cells.length∧(∀ b o,G b=some o→gh.2.2.2 b=some o)∧Now xs wT J (j0+((iw note t l).length+1)) gh.2.1 (nO note t (l[k].rows[rk].cells.drop gh.1)++(ny note t (l[k].rows.drop (rk+1))++iw note t (l.drop (k+1)))) gh.2.2.2 gh.2.2.1) (fun (gh:Nat × Nat × OL × GH)=>l[k].rows[rk].cells.length - gh.1) ((0,j3,Lt3,g3)) (by exact (H).sub ⟨rfl,rfl,rfl,rfl,rfl,rfl,rfl,rfl,rfl,rfl,rfl,trivial⟩) ?_ ?_
    ·exact ⟨by omega,qF,og⟩
    clear H;intro gh a w hI H;obtain ⟨ck,j4,Lt4,g4⟩:=gh;dsimp only at hI H;obtain ⟨hck,nW,kL⟩:=hI;dsimp only [List.cons_append,List.nil_append,List.append_nil] at H;refine kP H (SR fun _ fq=>Rc rfl (Kz fq (SQ fun _ gK=>Cd rfl ?_ ?_))) <;> clear H fq
    ·intro gH a H
     try have p55:=dT gH
     have hk4:ck < l[k].rows[rk].cells.length:=by omega
     obtain ⟨b3,o3,sA,sn,sc,tA,tn,tc,uA,un,uc,gA,gn,gc,rfl,hrow,hch,hcf⟩:=zM hk4 hcl.at_;replace hrow:=fun j u hj=>aD nW (hrow j u hj);have BU:=Fb hk4;rw [List.drop_eq_getElem_cons hk4] at kL
     simp only [nO,afo,List.append_assoc] at kL
     refine kP H (Kc gK (SQ fun _ gF=>SB (SR fun _ fO=>Ri kg gQ rfl rfl ?_)));clear H gK;intro a H;refine aK gQ (cs:=[_,_,_,_,_,_,_]) H wn rfl rfl (fun j v hj=>H.hp.aB (hrow j v hj)) rfl ?_;clear H;intro a H;refine bX gQ H wn rfl ?_;clear H;intro b14 a w QU H;refine aP gQ 0 (vs:=[_,_,_,_,_,_,_]) _ H wn rfl rfl rfl rfl rfl rfl rfl rfl ?_;clear H;intro w H;dsimp only [List.set,setRow] at H;refine fO _ _ ?_;clear fO;refine kP H (SR fun _ iF=>Rf wS rfl (Ro ak 0 rfl rfl (Rf yI rfl (Ro iR 0 rfl rfl (Rf Kl rfl (Ro oH 3 rfl rfl (Rf DT rfl (Ro ak 3 rfl rfl (Rd rfl ?_)))))))));clear H;intro a H;refine iP zi [_,_,_] H wn rfl rfl rfl rfl ?_;clear H;intro a H;refine kH H (Rm rfl ?_);clear H;intro a H;refine gy JX (Li:=[_,_,_,_]) (L:=Lt4) H wn rfl (ih fv Gi xs J Jx _ _ _ j4 l[k].rows[rk].cells[ck].flow l[k].rows[rk].cells[ck].id false note (t+1) _ (fun b o h=>nW b o (hGi b o h)) hcb jw hJx kL.now (Hp.owns (Li:=[_,_,_,_]) H.hp) (hcf.mono nW) (by omega) (by omega) (by omega) kL.part) rfl ?_;clear H;rintro v69 VG Dq a w ⟨b69,rfl,hb5,hb6⟩ abr H;refine kH H (Rn rfl (Kz iF (Cd rfl ?_ ?_))) <;> clear H iF
     ·intro qD a H
      try have p70:=dT qD
      refine kP H (SR fun _ iT=>Ra rfl (Kz iT ?_));clear H iT;intro a H;refine lr H Tryz.results105 rfl ?_
      first
       | exact H.hp.bR (L':=Dl) (by repeat (first|exact List.Sublist.refl _|apply List.Sublist.cons)) ⟨_,rfl,fun e=>(by cases e),fun _=>hb2 (by simpa using h21)⟩
       | exact H.hp.bR (L':=Dm) (by repeat (first|exact List.Sublist.refl _|apply List.Sublist.cons)) ⟨_,rfl,fun e=>(by cases e),fun _=>hb4 (by simpa using yL)⟩
       | exact H.hp.bR (L':=Dq) (by repeat (first|exact List.Sublist.refl _|apply List.Sublist.cons)) ⟨_,rfl,fun e=>(by cases e),fun _=>hb6 (by simpa using qD)⟩
       | exact H.hp.bR (L':=Lt) (by repeat (first|exact List.Sublist.refl _|apply List.Sublist.cons)) ⟨_,rfl,fun _=>(by rw [List.drop_of_length_le (by omega),iw] at bE;have:=bE.len;simp only [List.length_nil,Nat.add_zero] at this;rw [← this];exact bE.now),fun e=>(by cases e)⟩
     intro qD a H
     try have p70:=dF qD
     refine kP H (Kc gF (SC (Rd rfl (Rm rfl ?_))));clear H gF;intro a H;refine au ?_;refine dD ((ck+1,j4+((iw note (t+1) l[k].rows[rk].cells[ck].flow).length+1),Dq,VG)) (by exact (H.bL (Pl:=[_,_,_,_]) (bB:=[_,_,_]) [1,2,3] (by decide) rfl).sub ⟨rfl,rfl,rfl,rfl,rfl,rfl,rfl,rfl,rfl,rfl,rfl,trivial⟩) ?_ ?_
     ·(try dsimp only);exact ⟨by omega,fun b o h=>abr b o (nW b o h),kL.jump (hb5 (by simpa using qD))⟩
     first|omega|(dsimp only;omega)
    intro gH a H
    try have p55:=dF gH
    refine dL ?_;refine dV _ _ ?_;clear dV;refine kP H (SC (Rd rfl (Rm rfl ?_)));clear H;intro a H;refine au ?_;refine dD ((rk+1,j4,Lt4,g4)) (by exact (H.bL (Pl:=[_,_,_]) (bB:=[_,_]) [1,2] (by decide) rfl).sub ⟨rfl,rfl,rfl,rfl,rfl,rfl,rfl,rfl,trivial⟩) ?_ ?_
    ·(try dsimp only);exact ⟨by omega,nW,by rw [List.drop_of_length_le (by omega),nO,List.nil_append] at kL;exact kL⟩
    first|omega|(dsimp only;omega)
   intro h48 a H
   try have p48:=dF h48
   refine dL ?_;refine K9 _ _ ?_;clear K9;refine kP H (SC (Rd rfl (Rm rfl ?_)));clear H;intro a H;refine au ?_;refine dD ((k+1,j3,Lt3,g3)) (by exact (H.bL (Pl:=[_,_]) (bB:=[_]) [1] (by decide) rfl).sub ⟨rfl,rfl,rfl,rfl,rfl,trivial⟩) ?_ ?_
   ·(try dsimp only);exact ⟨by omega,qF,by rw [List.drop_of_length_le (by omega),ny,List.nil_append] at og;exact og⟩
   first|omega|(dsimp only;omega)
  intro zS a H
  try have p42:=dF zS
  refine kP H (Kc K9 (SC (Rd rfl (Rm rfl ?_))));clear H K9;intro a H;refine au ?_;refine dD ((k+1,j1,Lt,g)) (by exact (H.bL (Pl:=[_,_]) (bB:=[_]) [1] (by decide) rfl).sub ⟨rfl,rfl,rfl,rfl,rfl,trivial⟩) ?_ ?_
  ·(try dsimp only);exact ⟨by omega,hgm,by rw [if_neg p30,if_neg p42,List.nil_append] at bE;exact bE⟩
  first|omega|(dsimp only;omega)
 intro kG a H
 try have p25:=dF kG
 refine dL ?_;refine K5 _ _ ?_;clear K5;refine kP H (SR fun _ gL=>Ra rfl (Kz gL ?_));clear H gL;intro a H;refine lr H Tryz.results105 rfl ?_
 first
  | exact H.hp.bR (L':=Dl) (by repeat (first|exact List.Sublist.refl _|apply List.Sublist.cons)) ⟨_,rfl,fun e=>(by cases e),fun _=>hb2 (by simpa using h21)⟩
  | exact H.hp.bR (L':=Dm) (by repeat (first|exact List.Sublist.refl _|apply List.Sublist.cons)) ⟨_,rfl,fun e=>(by cases e),fun _=>hb4 (by simpa using yL)⟩
  | exact H.hp.bR (L':=Dq) (by repeat (first|exact List.Sublist.refl _|apply List.Sublist.cons)) ⟨_,rfl,fun e=>(by cases e),fun _=>hb6 (by simpa using qD)⟩
  | exact H.hp.bR (L':=Lt) (by repeat (first|exact List.Sublist.refl _|apply List.Sublist.cons)) ⟨_,rfl,fun _=>(by rw [List.drop_of_length_le (by omega),iw] at bE;have:=bE.len;simp only [List.length_nil,Nat.add_zero] at this;rw [← this];exact bE.now),fun e=>(by cases e)⟩
theorem UW:∀ n:Nat,n≤4294967297→Jw n
 | 0,_=>fun _ _ _ _ _ _ _ _ _ _ _ _ _ _ _ _ _ _ _ _ _ _ h=>absurd h (by omega)
 | n+1,hn=>afx (UW n (by omega)) (by omega)
/-- All flows of a document. -/
def iI (l:List aj):List jo:=⟨0,l,true,false,0⟩ :: iw false 0 l
theorem aap {G:GH} {ba bl bp:Nat} {l:List aj} {v:Value} {id t:Int} {body note:Bool} (h1:aB G ba 0=some (vi id)) (h2:aB G bl 0=some v) (h3:G bp=some (.cells #[.bool body,.bool note,vi t] 103 (0,0))) (hv:ah G (.sl 11 (l.map aj.dat)) v) (hz:aS l≤4294967296) (ht0:0≤t) (ht1:t+aS l≤4294967296) :
  Iter Tryz.prog G (.func (.func 104) #[] #[.pointer (some ⟨ba,0,none⟩),.pointer (some ⟨bl,0,none⟩),.pointer (some ⟨bp,0,none⟩)]) ((⟨id,l,body,note,t⟩ :: iw note t l).map wT):=by
 intro J Jx fv G1 L w0 yP hGi jw hJx hJ hO hcb;refine jI (caps:=[.pointer (some ⟨ba,0,none⟩),.pointer (some ⟨bl,0,none⟩),.pointer (some ⟨bp,0,none⟩)]) FZ ?_;replace h1:=aD hGi h1;replace h2:=aD hGi h2
 have hrow:∀ j u,[.bool body,.bool note,vi t][j]?=some u→aB G1 bp (0+j)=some u:=by
  intro j u hj;refine aD hGi ?_
  unfold aB;rw [h3];simpa using hj
 refine jv (N:=10) (T:=[(0,_),(1,_),(2,_),(3,_)]) Tryz.func104 rfl Tryz.ntmps104 rfl rfl hO ?_;intro a H;refine kP H (SC (Rg ak rfl (by assumption) ?_));clear H;intro a H;refine kH H (Rg iR rfl (by assumption) ?_);clear H;intro a H;refine aK IV (cs:=[_,_,_]) H wn rfl rfl (fun j v hj=>H.hp.aB (hrow j v hj)) rfl ?_;clear H;intro a H;refine kH H (Rm rfl ?_);clear H;intro a H;refine gy JX (Li:=[]) (L:=L) H wn rfl (UW 4294967297 (by omega) _ G1 _ J Jx G1 _ _ 0 l id body note t _ (fun _ _ h=>h) hcb jw hJx hJ (Hp.owns (Li:=[]) H.hp) (hv.mono hGi) (by omega) ht0 ht1 (fun i a h=>by rw [Nat.zero_add,List.getElem?_map,h];rfl)) rfl ?_;clear H;rintro v9 G9 L9 a w ⟨b9,rfl,h1,h2⟩ yT H;refine au ?_;refine (leave0 H Tryz.results104 ?_).2
 cases b9
 ·exact H.hp.eG (.inr (h2 rfl))
 exact H.hp.eG (.inl (by simpa using h1 rfl))
theorem aaq (G:GH) (w0:World) (hG:Hold G w0) (l:List aj) (v:Value) (id t:Int) (body note:Bool) (hv:ah G (.sl 11 (l.map aj.dat)) v) (hz:aS l≤4294967296) (ht0:0≤t) (ht1:t+aS l≤4294967296) :
  Calls Tryz.prog 75 #[vi id,v,.agg #[.bool body,.bool note,vi t]] w0 (aU w0 G fun u G'=>∃ ba bl bp,u=.func (.func 104) #[] #[.pointer (some ⟨ba,0,none⟩),.pointer (some ⟨bl,0,none⟩),.pointer (some ⟨bp,0,none⟩)]∧Iter Tryz.prog G' u ((⟨id,l,body,note,t⟩ :: iw note t l).map wT)):=by
 obtain ⟨A,c,rfl,hc1,hc2,hg⟩:=hv.slice;refine eN [(0,_),(1,_),(2,_)] Tryz.func75 rfl Tryz.ntmps75 rfl rfl hG ?_;intro a H;refine aY (fun _ K1=>?_);refine bY (cs:=[_]) H wn rfl rfl rfl ?_;clear H;intro b3 a w hb3 H;refine bY (cs:=[_]) H wn rfl rfl rfl ?_;clear H;intro b4 a w hb4 H;refine bY (cs:=[_,_,_]) H wn rfl rfl rfl ?_;clear H;intro b5 a w hb5 H;refine kH H (Ra rfl (Kz K1 (SR fun _ K2=>?_)));clear H K1;intro a H;refine lT H wn rfl rfl ?_;clear H;intro a H;refine kH H (Ra rfl (Kz K2 ?_));clear H K2;intro a H;refine aR ?_;obtain ⟨G2,hm2,hb5,H⟩:=H.dB;obtain ⟨G3,mY,hb4,H⟩:=H.dB;obtain ⟨G4,Ma,hb3,H⟩:=H.dB;refine lv H Tryz.results75 rfl ?_;exact H.hp.ret ⟨b3,b4,b5,rfl,aap (by unfold aB;rw [hb3];rfl) (aD Ma (by unfold aB;rw [hb4];rfl)) (Ma _ _ (mY _ _ hb5)) (hv.mono fun b o h=>Ma _ _ (mY _ _ (hm2 _ _ h))) hz ht0 ht1⟩
theorem MZ (G:GH) (w0:World) (hG:Hold G w0) (D:jh) (l:List aj) (hv:ah G (.sl 11 (l.map aj.dat)) (dY D.f)) (hz:aS l≤4294967296) :
  Calls Tryz.prog 46 #[D.val] w0 (aU w0 G fun u G'=>∃ ba bl bp,u=.func (.func 104) #[] #[.pointer (some ⟨ba,0,none⟩),.pointer (some ⟨bl,0,none⟩),.pointer (some ⟨bp,0,none⟩)]∧Iter Tryz.prog G' u ((iI l).map wT)):=by
 refine eN [(0,_)] Tryz.func46 rfl Tryz.ntmps46 rfl rfl hG ?_;intro a H;refine aY (fun _ K1=>?_);refine bY (cs:=[_,_,_,_,_,_,_,_,_,_,_]) H wn rfl rfl rfl ?_;clear H;intro b1 a w hb1 H;refine kH H (Ra rfl (Kz K1 (SR fun _ K2=>Rf zQ rfl (Ro iR 0 rfl rfl ?_))));clear H K1;intro a H;refine iP zi [_,_,_] H wn rfl rfl rfl rfl ?_;clear H;intro a H;refine s_call Zi H wn rfl (aaq _ _ H.hp.ro l _ 0 0 true false hv hz (by omega) (by omega)) rfl ?_;clear H;rintro v6 G6 a w ⟨ba,bl,bp,rfl,hit⟩ Rj H;exact kH H (Ra rfl (Kz K2 (LR Tryz.results46 rfl fun H=>H.hp.ret ⟨ba,bl,bp,rfl,hit⟩)))
end
section
open Go.RowKit
theorem J6:∀ args w,(callFunc 46 args).run Tryz.prog w=.ok (.enter 46 args) w:=enters Tryz.func46 rfl (by kernel_rfl)
theorem IW:Ty Tryz.prog 112 4 40 [.slice none 0 0,.bool false,.bool false,.int .i64 0] true:=⟨by kernel_rfl,by kernel_rfl⟩
theorem Qk:bO Tryz.prog 112 0 0:=⟨by kernel_rfl⟩
theorem F7:∀ args w,(callFunc 31 args).run Tryz.prog w=.ok (.enter 31 args) w:=enters Tryz.func31 rfl (by kernel_rfl)
theorem aag:bO Tryz.prog 53 0 0:=⟨by kernel_rfl⟩
theorem YW:∀ args w,(callFunc 33 args).run Tryz.prog w=.ok (.enter 33 args) w:=enters Tryz.func33 rfl (by kernel_rfl)
theorem Qz:bO Tryz.prog 53 1 1:=⟨by kernel_rfl⟩
theorem QA:bO Tryz.prog 53 2 2:=⟨by kernel_rfl⟩
theorem qC:bO Tryz.prog 45 0 0:=⟨by kernel_rfl⟩
theorem vK:bO Tryz.prog 45 1 1:=⟨by kernel_rfl⟩
theorem aeK:oN Tryz.prog 53 [(0,1),(1,1),(2,1)] [.int .i64 0,.int .i64 0,.int .i64 0]:=⟨by kernel_rfl,by kernel_rfl⟩
theorem YQ:∀ args w,(callFunc 16 args).run Tryz.prog w=.ok (.enter 16 args) w:=enters Tryz.func16 rfl (by kernel_rfl)
mutual
theorem afs {note:Bool} {t:Int} {f:jo}:∀ {x:aj},f∈uY note t x→aS f.items < bP x.dat
 | .mk k c i tx h fl r,hf=>by
  have h4:=lF (.mk k c i tx h fl r)
  simp only [aj.text,aj.head,aj.flow,aj.rows] at h4
  rw [uY] at hf
  split at hf
  ·rcases List.mem_cons.1 hf with rfl|hf
   ·show aS fl < _;omega
   have:=I8 hf;omega
  split at hf
  ·have:=UU hf;omega
  cases hf
theorem I8 {note:Bool} {t:Int} {f:jo}:∀ {l:List aj},f∈iw note t l→aS f.items≤aS l
 | [],hf=>by simp [iw] at hf
 | x :: l,hf=>by
  rw [iw] at hf
  simp only [aS,List.map_cons,dw]
  rcases List.mem_append.1 hf with hf|hf
  ·have:=afs hf;simp only [aS] at this;omega
  have:=I8 hf;simp only [aS] at this;omega
theorem UU {note:Bool} {t:Int} {f:jo}:∀ {l:List aN},f∈ny note t l→aS f.items≤fI l
 | [],hf=>by simp [ny] at hf
 | x :: l,hf=>by
  rw [ny] at hf
  simp only [fI,List.map_cons,dw]
  rcases List.mem_append.1 hf with hf|hf
  ·have:=afw hf;simp only [aS] at *;omega
  have:=UU hf;simp only [aS,fI] at *;omega
theorem afw {note:Bool} {t:Int} {f:jo}:∀ {x:aN},f∈uZ note t x→aS f.items≤bP x.dat
 | .mk h cs,hf=>by
  have h4:=tF (.mk h cs)
  simp only [aN.head,aN.cells] at h4
  rw [uZ] at hf;have:=UO hf;omega
theorem UO {note:Bool} {t:Int} {f:jo}:∀ {l:List aJ},f∈nO note t l→aS f.items≤jg l
 | [],hf=>by simp [nO] at hf
 | x :: l,hf=>by
  rw [nO] at hf
  simp only [jg,List.map_cons,dw]
  rcases List.mem_append.1 hf with hf|hf
  ·have:=afq hf;simp only [aS] at *;omega
  have:=UO hf;simp only [aS,jg] at *;omega
theorem afq {note:Bool} {t:Int} {f:jo}:∀ {x:aJ},f∈uW note t x→aS f.items≤bP x.dat
 | .mk i h fl,hf=>by
  have h4:=u6 (.mk i h fl)
  simp only [aJ.head,aJ.flow] at h4
  rw [uW] at hf
  rcases List.mem_cons.1 hf with rfl|hf
  ·show aS fl≤_;omega
  have:=I8 hf;omega
end
theorem GD {f:jo} {l:List aj} (h:f∈iI l):aS f.items≤aS l:=by
 rcases List.mem_cons.1 h with rfl|h
 ·exact Nat.le_refl _
 exact I8 h
/-- The flow with an id. -/
def fZ (l:List aj) (id:Int):Option (List aj):=((iI l).find? fun f=>decide (f.id=id)).map jo.items
theorem QH {f:List aj} {l:List aj} {id:Int} (h:fZ l id=some f):aS f≤aS l:=by
 obtain ⟨a,ha,rfl⟩:=Option.map_eq_some_iff.1 h;exact GD (List.mem_of_find?_eq_some ha)
theorem Gx {α:Type} {p:α→Bool} {A:List α} {k:Nat} (hk:k < A.length) (h:(A.take k).find? p=none) (hp:p A[k]=false):(A.take (k+1)).find? p=none:=by
 rw [List.take_succ_eq_append_getElem hk,List.find?_append,h]
 simp [hp]
theorem D8 {α:Type} {p:α→Bool} {A:List α} {k:Nat} (hk:k < A.length) (h:(A.take k).find? p=none) (hp:p A[k]=true):A.find? p=some A[k]:=by
 have e:A.find? p=(A.take k++A.drop k).find? p:=by rw [List.take_append_drop]
 rw [e,List.find?_append,h,List.drop_eq_getElem_cons hk,List.find?_cons,hp]
 rfl
theorem Kw {α:Type} {p:α→Bool} {A:List α} (h:(A.take A.length).find? p=none):A.find? p=none:=by rwa [List.take_length] at h
theorem BA {A:List jo} {k:Nat} {args:List Value} {g:GH} (h:qR (A.map wT) k args g):∃ (hk:k < A.length) (a:Option Addr) (n c:Nat),args=[vi A[k].id,.agg #[.slice a n c,.bool A[k].body,.bool A[k].note,vi A[k].tables]]∧ah g (.sl 11 (A[k].items.map aj.dat)) (.slice a n c):=by
 obtain ⟨p,hp,hargs⟩:=h;rw [List.getElem?_map] at hp;obtain ⟨q,hq,rfl⟩:=Option.map_eq_some_iff.1 hp;obtain ⟨hk,rfl⟩:=List.getElem?_eq_some_iff.1 hq;obtain ⟨v,h1,h2⟩:=hargs;obtain ⟨a,n,c,rfl⟩:=h2.form;exact ⟨hk,a,n,c,h1,h2⟩
theorem GA (G:GH) (w0:World) (hG:Hold G w0) (D:jh) (l:List aj) (id:Int) (hv:ah G (.sl 11 (l.map aj.dat)) (dY D.f)) (hz:aS l≤4294967296) :
  Calls Tryz.prog 31 #[D.val,vi id] w0 (aU w0 G fun u G'=>∃ v,u=.tuple #[v,.bool (fZ l id).isSome]∧ah G' (.sl 11 (((fZ l id).getD []).map aj.dat)) v):=by
 refine eN [(0,_),(1,_)] Tryz.func31 rfl Tryz.ntmps31 rfl rfl hG ?_;intro a H;refine aY (fun _ K1=>?_);refine bY (cs:=[_,_,_,_,_,_,_,_,_,_,_]) H wn rfl rfl rfl ?_;clear H;intro b2 a w hb2 H;refine bY (cs:=[_]) H wn rfl rfl rfl ?_;clear H;intro b3 a w hb3 H;refine bX iR H wn rfl ?_;clear H;intro b4 a w hb4 H;refine bX oH H wn rfl ?_;clear H;intro b5 a w hb5 H;refine K1 _ _ ?_;clear K1;refine aQ (fun _ K2=>?_);refine aY (fun _ K3=>?_);refine aK iq (cs:=[_,_,_,_,_,_,_,_,_,_,_]) H wn rfl rfl (H.hp.bF 3 rfl rfl) rfl ?_;clear H;intro a H;refine s_call J6 H wn rfl (MZ _ _ H.hp.ro D l hv hz) rfl ?_;clear H;rintro v9 G9 a w ⟨ba,bl,bp,rfl,hit⟩ yT H;refine K3 _ _ ?_;clear K3;refine lZ ?_;skip;refine tK (ι:=Unit) (κ:=Value) (Lc:=[(_,_),(_,_)]) (fun (k:Nat) (gh:Unit)=>[(b4,.cells #[.slice none 0 0] 22 (0,0)),(b5,.cells #[.bool false] 4 (0,0))]) (fun (k:Nat) (gh:Unit)=>[]) (fun (k:Nat) (gh:Unit) (g:GH)=>((iI l).take k).find? (fun f=>decide (f.id=id))=none) (fun (gx:Value)=>Code.ret) (fun (gx:Value)=>[(b4,.cells #[gx] 22 (0,0)),(b5,.cells #[.bool true] 4 (0,0))]) (fun (gx:Value)=>[]) (fun (gx:Value) (g:GH)=>∃ f,fZ l id=some f∧ah g (.sl 11 (f.map aj.dat)) gx) (()) (by exact H.bL (Pl:=[_,_,_,_]) (bB:=[_,_,_,_]) [2,3,1,0] (by decide) rfl) rfl FZ (hit) (fun _ _ h=>h) rfl (fun k args g h=>by obtain ⟨_,_,_,_,rfl,_⟩:=BA h;rfl) (fun _ _ _ _ _ h=>h) (fun x G G' hm h=>let ⟨f,h1,h2⟩:=h;⟨f,h1,h2.mono hm⟩) (rfl) ?_ ?_ ?_
 ·clear H;intro l2 oD mM bk k args gh G2 w2 F2 B2 a hk2 hm2 hI El Eu BS H;obtain ⟨hk,vA,vn,vc,rfl,hrep⟩:=BA hk2;dsimp only [lY,List.cons_append,List.nil_append] at H;refine kP H (SR fun _ K4=>Ra rfl (Kz K4 (SC ?_)));clear H K4;intro a H;refine bX IW H wn rfl ?_;clear H;intro b7 a w pU H;refine aP IW 0 (vs:=[_,_,_,_]) _ H wn rfl rfl rfl rfl rfl rfl rfl rfl ?_;clear H;intro w H;dsimp only [List.set,setRow] at H;refine au ?_;refine El _ _ _ _ _ _ (by exact H.bL (Pl:=[_,_,_,_,_,_]) (bB:=[_,_,_,_,_,_]) [1,0,2,3,4,5] (by decide) rfl) ?_;clear H;intro w H;refine kP H (SB (SR fun _ K5=>Rm rfl (Ro ak 2 rfl rfl (Rc rfl (Kz K5 (Cd rfl ?_ ?_)))))) <;> clear H K5
  ·intro fE a H
   try have qM:=dT fE
   refine kP H (SR fun _ K6=>Rf Qk rfl (Ro iR 1 rfl rfl ?_));clear H;intro a H;refine s_call J7 H wn rfl (Xq _ _ H.hp.ro _ _ hrep (by have:=GD (List.getElem_mem hk);omega)) rfl ?_;clear H;rintro v17 yj a w Rz nZ H;obtain ⟨Vd,n17,c17,rfl⟩:=Rz.form;refine aP iR 4 (vs:=[_]) _ H wn rfl rfl rfl rfl rfl rfl rfl rfl ?_;clear H;intro w H;dsimp only [List.set,setRow] at H;refine aP oH 5 (vs:=[_]) _ H wn rfl rfl rfl rfl rfl rfl rfl rfl ?_;clear H;intro w H;dsimp only [List.set,setRow] at H;refine K6 _ _ ?_;clear K6;refine aR ?_;refine (BS (.slice Vd n17 c17) _ _ _ _ _ (by exact H.bL (Pl:=[_,_,_,_,_,_]) (bB:=[_,_,_,_,_]) [0,2,3,4,5] (by decide) rfl) ?_).1 rfl;exact ⟨_,by unfold fZ;rw [D8 hk hI fE];rfl,Rz⟩
  intro fE a H
  try have qM:=dF fE
  refine eX ?_;refine Eu (()) _ _ _ _ _ (by exact H.bL (Pl:=[_,_,_,_,_,_]) (bB:=[_,_,_,_,_]) [0,2,3,4,5] (by decide) rfl) ?_;exact Gx hk hI fE
 ·clear H;intro C8 gh Df a w hm2 hI H;dsimp only [List.cons_append,List.nil_append,List.append_nil] at H;refine K2 _ _ ?_;clear K2;refine aY (fun _ K7=>?_);refine aP iR 3 (vs:=[_]) _ H wn rfl rfl rfl rfl rfl rfl rfl rfl ?_;clear H;intro w H;dsimp only [List.set,setRow] at H;refine aP oH 4 (vs:=[_]) _ H wn rfl rfl rfl rfl rfl rfl rfl rfl ?_;clear H;intro w H;dsimp only [List.set,setRow] at H;refine K7 _ _ ?_;clear K7;refine aR ?_;refine (oo H 0 rfl ?_).1;clear H;intro a w H;dsimp only [List.eraseIdx_cons_succ,List.eraseIdx_cons_zero] at H;refine (bU H Tryz.results31 (.cons (kR iR H rfl (H.hp.jE 2 rfl rfl)) (.cons (kR oH H rfl (H.hp.jE 3 rfl rfl)) .nil)) ?_).1;exact H.hp.ret ⟨_,by unfold fZ;rw [Kw (by simpa using hI)];rfl,by unfold fZ;rw [Kw (by simpa using hI)];exact ah.gq rfl (by decide)⟩
 clear H;intro C8 gx Df a w hm2 hI H;obtain ⟨x,hgh⟩:∃ x,x=gx:=⟨_,rfl⟩;subst hgh;dsimp only [List.cons_append,List.nil_append,List.append_nil] at H;obtain ⟨f,hf,hrep⟩:=hI;obtain ⟨xA,xn,xc,rfl⟩:=hrep.form;refine aR ?_;refine (oo H 0 rfl ?_).1;clear H;intro a w H;dsimp only [List.eraseIdx_cons_succ,List.eraseIdx_cons_zero] at H;refine (bU H Tryz.results31 (.cons (kR iR H rfl (H.hp.jE 2 rfl rfl)) (.cons (kR oH H rfl (H.hp.jE 3 rfl rfl)) .nil)) ?_).1;exact H.hp.ret ⟨_,by rw [hf];rfl,by rw [hf];exact hrep⟩
theorem acr (G:GH) (w0:World) (hG:Hold G w0) (D:jh) (l:List aj) (id:Int) (hv:ah G (.sl 11 (l.map aj.dat)) (dY D.f)) (hz:aS l≤4294967296) :
  Calls Tryz.prog 33 #[D.val,vi id] w0 (aU w0 G fun u G'=>u=.tuple #[vi (pX ((fZ l id).getD [])),.bool (fZ l id).isSome]):=by
 have hsz:aS ((fZ l id).getD [])≤aS l:=by
  cases h:fZ l id with
  | none=>exact Nat.zero_le _
  | some f=>exact QH h
 refine eN [(0,_),(1,_)] Tryz.func33 rfl Tryz.ntmps33 rfl rfl hG ?_;intro a H;refine aY (fun _ K1=>?_);refine bY (cs:=[_,_,_,_,_,_,_,_,_,_,_]) H wn rfl rfl rfl ?_;clear H;intro b2 a w hb2 H;refine kH H (Ra rfl (Ra rfl (Kz K1 (SR fun _ K2=>?_))));clear H K1;intro a H;refine aK iq (cs:=[_,_,_,_,_,_,_,_,_,_,_]) H wn rfl rfl (H.hp.bF 0 rfl rfl) rfl ?_;clear H;intro a H;refine kH H (Rm rfl ?_);clear H;intro a H;refine s_call F7 H wn rfl (GA _ _ H.hp.ro D l id hv hz) rfl ?_;clear H;rintro v13 vg a w ⟨v,rfl,hr⟩ nY H;refine kH H (Rm rfl ?_);clear H;intro a H;(iterate 2 refine gV H wn rfl rfl rfl ?_;clear H;intro a H);refine kH H (Ra rfl (Ra rfl (Kz K2 (SR fun _ K3=>Rm rfl ?_))));clear H K2;intro a H;refine s_call F8 H wn rfl (Hz _ _ H.hp.ro _ _ hr (by omega)) rfl ?_;clear H;rintro v18 Jc a w ⟨rfl,rfl⟩ hm18 H;refine kH H (Rm rfl ?_);clear H;intro a H;(iterate 2 refine gV H wn rfl rfl rfl ?_;clear H;intro a H);refine kH H (Ra rfl (Ra rfl (Kz K3 (SR fun _ K4=>Rm rfl (Rm rfl (Ra rfl (Ra rfl (Kz K4 ?_))))))));clear H K3 K4;intro a H;refine aR ?_;refine (bU H Tryz.results33 (.cons (aF H rfl) (.cons (aF H rfl) .nil)) ?_).1;exact H.hp.ret rfl
/-- The error of a range. -/
def mQ (l:List aj) (flow from_ to:Int):Int :=
 if (fZ l flow).isSome=true then if from_ < 0∨to < from_∨pX ((fZ l flow).getD []) < to then 2 else 0 else 8
theorem WZ (G:GH) (w0:World) (hG:Hold G w0) (D:jh) (l:List aj) (flow from_ to:Int) (hv:ah G (.sl 11 (l.map aj.dat)) (dY D.f)) (hz:aS l≤4294967296) :
  Calls Tryz.prog 16 #[D.val,.agg #[vi flow,vi from_,vi to]] w0 (aU w0 G fun u G'=>u=vi (mQ l flow from_ to)):=by
 refine eN [(0,_),(1,_)] Tryz.func16 rfl Tryz.ntmps16 rfl rfl hG ?_;intro a H;refine aY (fun _ K1=>?_);refine bY (cs:=[_,_,_,_,_,_,_,_,_,_,_]) H wn rfl rfl rfl ?_;clear H;intro b2 a w hb2 H;refine bY (cs:=[_,_,_]) H wn rfl rfl rfl ?_;clear H;intro b3 a w hb3 H;refine kH H (Ra rfl (Kz K1 (SR fun _ K2=>?_)));clear H K1;intro a H;refine aK iq (cs:=[_,_,_,_,_,_,_,_,_,_,_]) H wn rfl rfl (H.hp.bF 1 rfl rfl) rfl ?_;clear H;intro a H;refine kH H (Rf aag rfl (Ro ak 0 rfl rfl ?_));clear H;intro a H;refine s_call YW H wn rfl (acr _ _ H.hp.ro D l flow hv hz) rfl ?_;clear H;rintro v11 qj a w rfl xq H;refine kH H (Rm rfl ?_);clear H;intro a H;(iterate 2 refine gV H wn rfl rfl rfl ?_;clear H;intro a H);refine kH H (Ra rfl (Ra rfl (Kz K2 (SQ fun _ K3=>SB (SR fun _ K4=>Rm rfl (Rn rfl (Ra rfl (Kz K4 (Cd rfl ?_ ?_))))))))) <;> clear H K2 K4
 ·intro fE a H
  try have qM:=dT fE
  exact kP H (SR fun _ K5=>Ra rfl (Kz K5 (LR Tryz.results16 rfl fun H=>H.hp.ret (by unfold mQ;congr 1;simp_all))))
 intro fE a H
 try have qM:=dF fE
 refine kP H (SR fun _ K6=>Rf Qz rfl (Ro ak 0 rfl rfl (Rc rfl (Rm rfl (Sp 21 rfl ?_ ?_))))) <;> clear H
 ·intro h21 a H
  try have lS:=dT h21
  refine kH H (Ks h21 rfl (Ks h21 rfl (Ks h21 rfl (Ks h21 rfl (Ks h21 rfl (Pt h21 rfl (Rm rfl (Ks rfl rfl (Ks rfl rfl (Ks rfl rfl (Ks rfl rfl (Pt rfl rfl (Ra rfl (Kz K6 ?_))))))))))))));clear H K6;intro a H;refine vG H rfl rfl ?_;exact kP H (SR fun _ K7=>Ra rfl (Kz K7 (LR Tryz.results16 rfl fun H=>H.hp.ret (by unfold mQ;congr 1;simp_all))))
 intro h21 a H
 try have lS:=dF h21
 refine kH H (YF QA h21 rfl (YO ak 0 h21 rfl rfl (YF Qz h21 rfl (YO ak 0 h21 rfl rfl (YC h21 rfl (Pf h21 rfl (Rm rfl (Sp 28 rfl ?_ ?_)))))))) <;> clear H
 ·intro bW a H
  try have p28:=dT bW
  exact kH H (Ks bW rfl (Ks bW rfl (Ks bW rfl (Ks bW rfl (Pt bW rfl (Ra rfl (Kz K6 (Ct rfl rfl (SR fun _ K8=>Ra rfl (Kz K8 (LR Tryz.results16 rfl fun H=>H.hp.ret (by unfold mQ;congr 1;simp_all))))))))))))
 intro bW a H
 try have p28:=dF bW
 refine kH H (YF QA bW rfl (YO ak 0 bW rfl rfl (YM bW rfl (YC bW rfl (Pf bW rfl (Ra rfl (Kz K6 (Cd rfl ?_ ?_)))))))) <;> clear H K6
 ·intro bT a H
  try have jy:=dT bT
  exact kP H (SR fun _ K9=>Ra rfl (Kz K9 (LR Tryz.results16 rfl fun H=>H.hp.ret (by unfold mQ;congr 1;simp_all))))
 intro bT a H
 try have jy:=dF bT
 exact kP H (Kc K3 (SR fun _ aH=>Ra rfl (Kz aH (LR Tryz.results16 rfl fun H=>H.hp.ret (by unfold mQ;congr 1;simp_all)))))
theorem JF (G:GH) (w0:World) (hG:Hold G w0) (D:jh) (l:List aj) (flow at_:Int) (hv:ah G (.sl 11 (l.map aj.dat)) (dY D.f)) (hz:aS l≤4294967296) :
  Calls Tryz.prog 14 #[D.val,.agg #[vi flow,vi at_]] w0 (aU w0 G fun u G'=>u=vi (mQ l flow at_ at_)):=by
 refine eN [(0,_),(1,_)] Tryz.func14 rfl Tryz.ntmps14 rfl rfl hG ?_;intro a H;refine aY (fun _ K1=>?_);refine bY (cs:=[_,_,_,_,_,_,_,_,_,_,_]) H wn rfl rfl rfl ?_;clear H;intro b2 a w hb2 H;refine bY (cs:=[_,_]) H wn rfl rfl rfl ?_;clear H;intro b3 a w hb3 H;refine kH H (Ra rfl (Kz K1 (SR fun _ K2=>?_)));clear H K1;intro a H;refine aK iq (cs:=[_,_,_,_,_,_,_,_,_,_,_]) H wn rfl rfl (H.hp.bF 1 rfl rfl) rfl ?_;clear H;intro a H;refine kH H (Rf qC rfl (Ro ak 0 rfl rfl (Rf vK rfl (Ro ak 0 rfl rfl (Rf vK rfl (Ro ak 0 rfl rfl ?_))))));clear H;intro a H;refine iP aeK [_,_,_] H wn rfl rfl rfl rfl ?_;clear H;intro a H;refine s_call YQ H wn rfl (WZ _ _ H.hp.ro D l flow at_ at_ hv hz) rfl ?_;clear H;rintro v13 vg a w rfl nY H;exact kH H (Ra rfl (Kz K2 (LR Tryz.results14 rfl fun H=>H.hp.ret rfl)))
end
section
open Go.RowKit
def nJ (xs:Array Value) (o:Nat):Option Int:=match xs[o]? with|some (.int .i64 n)=>some n|_=>none
def ML (u:Option TypeDesc):Bool:=match u with|some (.int .i64)=>true|_=>false
structure NZ (P:Program) (t:TypeId) (rZ:List Nat):Prop where
 und:P.underlying t=some (.struct (P.fieldsOf t))
 held:P.stoodInHeld t=false
 guard:P.eqGuardType P.depth t=false
 yJ:(P.fieldsOf t).toList.map (·.offset)=rZ
 ok:(P.fieldsOf t).toList.all (fun f=>decide (f.name ≠ "_") && P.plainKey f.type && ML (P.underlying f.type))=true
theorem TL {P:Program} {w:World} {d:Nat} {xs ys:Array Value}:∀ fs:List Field,fs.all (fun f=>decide (f.name ≠ "_") && P.plainKey f.type && ML (P.underlying f.type))=true →
  (fs.map (·.offset)).all (fun o=>(nJ xs o).isSome && (nJ ys o).isSome)=true→(Op.eqFields (d+1) xs ys fs).run P w=.ok ((fs.map (·.offset)).all fun o=>nJ xs o == nJ ys o) w
 | [],_,_=>by simp [Op.eqFields]
 | f :: fs,h1,h2=>by
  simp only [List.all_cons,Bool.and_eq_true,decide_eq_true_eq,List.map_cons] at h1 h2
  obtain ⟨⟨⟨hn,hp⟩,hi⟩,h1⟩:=h1
  obtain ⟨⟨hx,hy⟩,h2⟩:=h2
  have ih:=TL (w:=w) (d:=d) fs (by simpa using h1) h2
  unfold ML at hi
  split at hi
  ·rename_i hu
   unfold nJ at hx hy
   split at hx
   ·rename_i m hxm
    split at hy
    ·rename_i m2 hym
     have e1:nJ xs f.offset=some m:=by unfold nJ;rw [hxm]
     have e2:nJ ys f.offset=some m2:=by unfold nJ;rw [hym]
     simp only [Op.eqFields,hn,ne_eq,not_false_eq_true,if_true,Sem.run_bind,run_part_plain w hp hxm,run_part_plain w hp hym,Result.andThen_ok,run_equalIn_int w d f.type .i64 .i64 m m2 hu,List.map_cons,List.all_cons,e1,e2]
     by_cases e:m=m2
     ·subst e;simp [ih,List.all_map]
     ·simp [e]
    ·simp at hy
   ·simp at hx
  ·simp at hi
/-- The same for ints and bools: what a field holds. -/
def kY (xs:Array Value) (o:Nat × Bool):Option (Int × Bool):=match xs[o.1]?,o.2 with|some (.int .i64 n),false=>some (n,false)|some (.bool b),true=>some (0,b)|_,_=>none
def vT (u:Option TypeDesc) (b:Bool):Bool:=match u,b with|some (.int .i64),false=>true|some .bool,true=>true|_,_=>false
structure N7 (P:Program) (t:TypeId) (rZ:List (Nat × Bool)):Prop where
 und:P.underlying t=some (.struct (P.fieldsOf t))
 held:P.stoodInHeld t=false
 guard:P.eqGuardType P.depth t=false
 yJ:(P.fieldsOf t).toList.map (fun f=>(f.offset,vT (P.underlying f.type) true))=rZ
 ok:(P.fieldsOf t).toList.all (fun f=>decide (f.name ≠ "_") && P.plainKey f.type && vT (P.underlying f.type) (vT (P.underlying f.type) true))=true
theorem TM {P:Program} {w:World} {d:Nat} {xs ys:Array Value}:∀ fs:List Field,fs.all (fun f=>decide (f.name ≠ "_") && P.plainKey f.type && vT (P.underlying f.type) (vT (P.underlying f.type) true))=true →
  (fs.map (fun f=>(f.offset,vT (P.underlying f.type) true))).all (fun o=>(kY xs o).isSome && (kY ys o).isSome)=true→(Op.eqFields (d+1) xs ys fs).run P w=.ok ((fs.map (fun f=>(f.offset,vT (P.underlying f.type) true))).all fun o=>kY xs o == kY ys o) w
 | [],_,_=>by simp [Op.eqFields]
 | f :: fs,h1,h2=>by
  simp only [List.all_cons,Bool.and_eq_true,decide_eq_true_eq,List.map_cons] at h1 h2
  obtain ⟨⟨⟨hn,hp⟩,hi⟩,h1⟩:=h1
  obtain ⟨⟨hx,hy⟩,h2⟩:=h2
  have ih:=TM (w:=w) (d:=d) fs (by simpa using h1) h2
  obtain ⟨kb,hkb⟩:∃ kb,kb=vT (P.underlying f.type) true:=⟨_,rfl⟩
  rw [← hkb] at hi hx hy
  cases kb with
  | false =>
   have hu:P.underlying f.type=some (.int .i64):=by clear hkb ih h1 h2 hx hy;unfold vT at hi;split at hi <;> simp_all
   obtain ⟨m,hxm⟩:∃ m,xs[f.offset]?=some (.int .i64 m):=by clear hkb ih h1 h2 hi hy;unfold kY at hx;split at hx <;> simp_all
   obtain ⟨m2,hym⟩:∃ m,ys[f.offset]?=some (.int .i64 m):=by clear hkb ih h1 h2 hi hx;unfold kY at hy;split at hy <;> simp_all
   have e1:kY xs (f.offset,false)=some (m,false):=by unfold kY;rw [hxm]
   have e2:kY ys (f.offset,false)=some (m2,false):=by unfold kY;rw [hym]
   simp only [Op.eqFields,hn,ne_eq,not_false_eq_true,if_true,Sem.run_bind,run_part_plain w hp hxm,run_part_plain w hp hym,Result.andThen_ok,run_equalIn_int w d f.type .i64 .i64 m m2 hu,List.map_cons,List.all_cons,← hkb,e1,e2]
   by_cases e:m=m2
   ·subst e;simp [ih,List.all_map]
   ·simp [e]
  | true =>
   have hu:P.underlying f.type=some .bool:=by clear hkb ih h1 h2 hx hy;unfold vT at hi;split at hi <;> simp_all
   obtain ⟨m,hxm⟩:∃ m,xs[f.offset]?=some (.bool m):=by clear hkb ih h1 h2 hi hy;unfold kY at hx;split at hx <;> simp_all
   obtain ⟨m2,hym⟩:∃ m,ys[f.offset]?=some (.bool m):=by clear hkb ih h1 h2 hi hx;unfold kY at hy;split at hy <;> simp_all
   have e1:kY xs (f.offset,true)=some (0,m):=by unfold kY;rw [hxm]
   have e2:kY ys (f.offset,true)=some (0,m2):=by unfold kY;rw [hym]
   simp only [Op.eqFields,hn,ne_eq,not_false_eq_true,if_true,Sem.run_bind,run_part_plain w hp hxm,run_part_plain w hp hym,Result.andThen_ok,run_equalIn_bool' w d f.type m m2 hu,List.map_cons,List.all_cons,← hkb,e1,e2]
   by_cases e:m=m2
   ·subst e;simp [ih,List.all_map]
   ·simp [e]
section
variable {N:Nat} {D:List Deferred} {w0:World} {F:Nat→Prop} {G0 G:GH} {L:List (Nat × Obj)} {T:List (Nat × Value)}
variable {r:Option Nat} {P:Program} {ops:Array Oper} {Q:Exit→Act→World→Prop} {rest:List Oper} {a:Act} {w:World}
variable {d:Nat} {ty:TypeId} {pos:String} {aG:Array Edge} {g:Option (Nat × Bool)}
theorem Nq {t yt:TypeId} {rZ:List Nat} (he:NZ P t rZ) {x y:Operand} {xs ys:Array Value} (H:St N D w0 F G0 G L T a w) (hw:Region.wanted ⟨some d,.binOp .eql t x y yt,ty,pos,aG,g⟩ (yielded ops a.tmps)=true) (hx:ev T x=some (.agg xs)) (hy:ev T y=some (.agg ys))
  (hi:rZ.all (fun o=>(nJ xs o).isSome && (nJ ys o).isSome)=true) (hd:Nat.blt d N=true)
  (k:∀ a',St N D w0 F G0 G L ((d,.bool (rZ.all fun o=>nJ xs o == nJ ys o)) :: T) a' w→WL r P ops Q rest a' w):WL r P ops Q (⟨some d,.binOp .eql t x y yt,ty,pos,aG,g⟩ :: rest) a w:=by
 refine eT (v:=.bool (rZ.all fun o=>nJ xs o == nJ ys o)) (w':=w) hw rfl ?_ (k _ (H.put hd _ H.hp))
 have h1:=TL (P:=P) (w:=w) (d:=9998) (xs:=xs) (ys:=ys) _ he.ok (by rw [he.yJ];exact hi)
 rw [he.yJ] at h1
 simp only [execOp,H.ev hx,H.ev hy,Sem.run_bind,run_eqGuard_agg w .eql t x y xs ys he.guard,Result.andThen_ok,run_eql_struct,run_equalIn_struct w 9999 t xs ys he.und he.held,h1]
 rfl
theorem EO {t yt:TypeId} {x y:Operand} {p q:ByteArray} (H:St N D w0 F G0 G L T a w) (hw:Region.wanted ⟨some d,.binOp .eql t x y yt,ty,pos,aG,g⟩ (yielded ops a.tmps)=true) (hx:ev T x=some (.string p)) (hy:ev T y=some (.string q)) (hd:Nat.blt d N=true)
  (k:∀ a',St N D w0 F G0 G L ((d,.bool (p.toList == q.toList)) :: T) a' w→WL r P ops Q rest a' w):WL r P ops Q (⟨some d,.binOp .eql t x y yt,ty,pos,aG,g⟩ :: rest) a w:=by
 refine eT (v:=.bool (p.toList == q.toList)) (w':=w) hw rfl ?_ (k _ (H.put hd _ H.hp))
 simp [execOp,H.ev hx,H.ev hy,Sem.run_bind,eqGuard,binOp,Op.stringOp]
theorem ad5 {op:BinOp} {t yt:TypeId} {rZ:List (Nat × Bool)} (ho:op=.eql∨op=.neq) (he:N7 P t rZ) {x y:Operand} {xs ys:Array Value} (H:St N D w0 F G0 G L T a w) (hw:Region.wanted ⟨some d,.binOp op t x y yt,ty,pos,aG,g⟩ (yielded ops a.tmps)=true) (hx:ev T x=some (.agg xs)) (hy:ev T y=some (.agg ys))
  (hi:rZ.all (fun o=>(kY xs o).isSome && (kY ys o).isSome)=true) (hd:Nat.blt d N=true)
  (k:∀ a',St N D w0 F G0 G L ((d,.bool (if op=.eql then rZ.all fun o=>kY xs o == kY ys o else !(rZ.all fun o=>kY xs o == kY ys o))) :: T) a' w→WL r P ops Q rest a' w):WL r P ops Q (⟨some d,.binOp op t x y yt,ty,pos,aG,g⟩ :: rest) a w:=by
 have h1:=TM (P:=P) (w:=w) (d:=9998) (xs:=xs) (ys:=ys) _ he.ok (by rw [he.yJ];exact hi)
 rw [he.yJ] at h1
 rcases ho with rfl|rfl
 ·refine eT (v:=_) (w':=w) hw rfl ?_ (k _ (H.put hd _ H.hp))
  simp only [execOp,H.ev hx,H.ev hy,Sem.run_bind,run_eqGuard_agg w .eql t x y xs ys he.guard,Result.andThen_ok,run_eql_struct,run_equalIn_struct w 9999 t xs ys he.und he.held,h1]
  rfl
 ·refine eT (v:=_) (w':=w) hw rfl ?_ (k _ (H.put hd _ H.hp))
  simp only [execOp,H.ev hx,H.ev hy,Sem.run_bind,run_eqGuard_agg w .neq t x y xs ys he.guard,Result.andThen_ok,run_neq_struct,run_equalIn_struct w 9999 t xs ys he.und he.held,h1]
  rfl
end
end
section
open Go.RowKit
theorem dQ:Ty Tryz.prog 46 1 8 [.int .i64 0] false:=⟨by kernel_rfl,by kernel_rfl⟩
theorem J3:∀ args w,(callFunc 14 args).run Tryz.prog w=.ok (.enter 14 args) w:=enters Tryz.func14 rfl (by kernel_rfl)
theorem Kj:NZ Tryz.prog 45 [0,1]:=⟨by kernel_rfl,by kernel_rfl,by kernel_rfl,by kernel_rfl,by kernel_rfl⟩
theorem yZ {α:Type} {p:α→Bool} {A:List α} {k:Nat} (hk:k < A.length) (h:(A.take k).findIdx? p=none) (hp:p A[k]=false):(A.take (k+1)).findIdx? p=none:=by
 rw [List.findIdx?_eq_none_iff] at h ⊢;rw [List.take_succ_eq_append_getElem hk];intro x hx
 rcases List.mem_append.1 hx with hx|hx
 ·exact h x hx
 rw [List.mem_singleton.1 hx];exact hp
theorem qK {α:Type} {p:α→Bool} {A:List α} {k:Nat} (hk:k < A.length) (h:(A.take k).findIdx? p=none) (hp:p A[k]=true):A.findIdx? p=some k:=by
 have e:A.findIdx? p=(A.take k++A.drop k).findIdx? p:=by rw [List.take_append_drop]
 rw [e,List.findIdx?_append,h,List.drop_eq_getElem_cons hk,List.findIdx?_cons,hp]
 simp;omega
theorem ab0 {α:Type} {p:α→Bool} {A:List α} (h:(A.take A.length).findIdx? p=none):A.findIdx? p=none:=by rwa [List.take_length] at h
/-- What Index gives. -/
def Ae (l:List aj) (f t:Int):Int × Int :=
 if mQ l f t t=0 then match (fV 0 0 l).findIdx? (fun q=>q.1 == f && q.2 == t) with|some i=>(i,0)|none=>(0,8) else (0,mQ l f t t)
theorem index_spec (G:GH) (w0:World) (hG:Hold G w0) (D:jh) (l:List aj) (f t:Int) (hv:ah G (.sl 11 (l.map aj.dat)) (dY D.f)) (hz:aS l≤4294967296) :
  Calls Tryz.prog 13 #[D.val,.agg #[vi f,vi t]] w0 (aU w0 G fun u G'=>u=.tuple #[vi (Ae l f t).1,vi (Ae l f t).2]):=by
 refine eN [(0,_),(1,_)] Tryz.func13 rfl Tryz.ntmps13 rfl rfl hG ?_;intro a H;refine aY (fun _ K1=>?_);refine bY (cs:=[_,_,_,_,_,_,_,_,_,_,_]) H wn rfl rfl rfl ?_;clear H;intro b2 a w hb2 H;refine bY (cs:=[_,_]) H wn rfl rfl rfl ?_;clear H;intro b3 a w hb3 H;refine bX ak H wn rfl ?_;clear H;intro b4 a w hb4 H;refine bX dQ H wn rfl ?_;clear H;intro b5 a w hb5 H;refine K1 _ _ ?_;clear K1;refine aQ (fun _ K2=>?_);refine aY (fun _ K3=>?_);refine aK iq (cs:=[_,_,_,_,_,_,_,_,_,_,_]) H wn rfl rfl (H.hp.bF 3 rfl rfl) rfl ?_;clear H;intro a H;refine aK bN (cs:=[_,_]) H wn rfl rfl (H.hp.bF 2 rfl rfl) rfl ?_;clear H;intro a H;refine s_call J3 H wn rfl (JF _ _ H.hp.ro D l f t hv hz) rfl ?_;clear H;rintro v11 qj a w rfl xq H;refine kH H (Ra rfl (Kz K3 (SR fun _ K4=>Rm rfl (Rc rfl (Kz K4 (Cd rfl ?_ ?_)))))) <;> clear H K3 K4
 ·intro eO a H
  try have nM:=dT eO
  refine kP H (SR fun _ K5=>Rm rfl ?_);clear H;intro a H;refine aP ak 1 (vs:=[_]) _ H wn rfl rfl rfl rfl rfl rfl rfl rfl ?_;clear H;intro w H;dsimp only [List.set,setRow] at H;refine aP dQ 0 (vs:=[_]) _ H wn rfl rfl rfl rfl rfl rfl rfl rfl ?_;clear H;intro w H;dsimp only [List.set,setRow] at H;refine K5 _ _ ?_;clear K5;refine aR ?_;refine (bU H Tryz.results13 (.cons (kR ak H rfl (H.hp.jE 1 rfl rfl)) (.cons (kR dQ H rfl (H.hp.jE 0 rfl rfl)) .nil)) ?_).1;exact H.hp.ret (by rw [Ae,if_neg nM];rfl)
 intro eO a H
 try have nM:=dF eO
 refine kP H (Kc K2 (SQ fun _ K6=>SR fun _ K7=>?_));clear H K2;intro a H;refine aK iq (cs:=[_,_,_,_,_,_,_,_,_,_,_]) H wn rfl rfl (H.hp.bF 3 rfl rfl) rfl ?_;clear H;intro a H;refine s_call J5 H wn rfl (Nh _ _ H.hp.ro D l (hv.mono xq) hz) rfl ?_;clear H;rintro v16 ql a w ⟨bd,rfl,hit⟩ nL H;refine K7 _ _ ?_;clear K7;refine lZ ?_;skip;refine tK (ι:=Unit) (κ:=Nat) (Lc:=[(_,_),(_,_)]) (fun (k:Nat) (gh:Unit)=>[(b4,.cells #[vi 0] 3 (0,0)),(b5,.cells #[vi 0] 46 (0,0))]) (fun (k:Nat) (gh:Unit)=>[]) (fun (k:Nat) (gh:Unit) (g:GH)=>((fV 0 0 l).take k).findIdx? (fun q=>q.1 == f && q.2 == t)=none) (fun (gx:Nat)=>Code.ret) (fun (gx:Nat)=>[(b4,.cells #[vi gx] 3 (0,0)),(b5,.cells #[vi 0] 46 (0,0))]) (fun (gx:Nat)=>[]) (fun (gx:Nat) (g:GH)=>(fV 0 0 l).findIdx? (fun q=>q.1 == f && q.2 == t)=some gx) (()) (by exact H.bL (Pl:=[_,_,_,_]) (bB:=[_,_,_,_]) [2,3,1,0] (by decide) rfl) rfl F9 (hit) (fun _ _ h=>h) rfl (fun k args g h=>by obtain ⟨_,rfl⟩:=BZ h;rfl) (fun _ _ _ _ _ h=>h) (fun _ _ _ _ h=>h) (rfl) ?_ ?_ ?_
 ·clear H;intro l5 oD mM bk k args gh G5 w5 F5 B5 a hk5 BO hI aa1 aby abK H;obtain ⟨hk,rfl⟩:=BZ hk5;dsimp only [lY,List.cons_append,List.nil_append] at H;refine kP H (SR fun _ K8=>Ra rfl (Kz K8 (SC ?_)));clear H K8;intro a H;refine bX bN H wn rfl ?_;clear H;intro b8 a w rG H;refine aP bN 0 (vs:=[_,_]) _ H wn rfl rfl rfl rfl rfl rfl rfl rfl ?_;clear H;intro w H;dsimp only [List.set,setRow] at H;refine au ?_;refine aa1 _ _ _ _ _ _ (by exact H.bL (Pl:=[_,_,_,_,_,_]) (bB:=[_,_,_,_,_,_]) [1,0,2,3,4,5] (by decide) rfl) ?_;clear H;intro w H;refine lZ ?_;refine aY (fun _ K9=>?_);refine aK bN (cs:=[_,_]) H wn rfl rfl (H.hp.bF 1 rfl rfl) rfl ?_;clear H;intro a H;refine aK bN (cs:=[_,_]) H wn rfl rfl (H.hp.bF 2 rfl rfl) rfl ?_;clear H;intro a H;refine Nq Kj H wn rfl rfl rfl rfl ?_;clear H;intro a H;refine K9 _ _ ?_;clear K9;refine l6 H rfl ?_ ?_
  ·intro h21
   try have lS:=dT h21
   refine kP H (SR fun _ aH=>Rm rfl ?_);clear H;intro a H;refine aP ak 4 (vs:=[_]) _ H wn rfl rfl rfl rfl rfl rfl rfl rfl ?_;clear H;intro w H;dsimp only [List.set,setRow] at H;refine aP dQ 5 (vs:=[_]) _ H wn rfl rfl rfl rfl rfl rfl rfl rfl ?_;clear H;intro w H;dsimp only [List.set,setRow] at H;refine aH _ _ ?_;clear aH;refine aR ?_;refine (abK (k) _ _ _ _ _ (by exact H.bL (Pl:=[_,_,_,_,_,_]) (bB:=[_,_,_,_,_]) [0,2,3,4,5] (by decide) rfl) ?_).1 rfl;exact qK hk hI (by simpa [nJ] using h21)
  intro h21
  try have lS:=dF h21
  refine eX ?_;refine aby (()) _ _ _ _ _ (by exact H.bL (Pl:=[_,_,_,_,_,_]) (bB:=[_,_,_,_,_]) [0,2,3,4,5] (by decide) rfl) ?_;exact yZ hk hI (by simpa [nJ] using h21)
 ·clear H;intro Vp gh VK a w BO hI H;dsimp only [List.cons_append,List.nil_append,List.append_nil] at H;refine K6 _ _ ?_;clear K6;refine aY (fun _ aX=>?_);refine aP ak 3 (vs:=[_]) _ H wn rfl rfl rfl rfl rfl rfl rfl rfl ?_;clear H;intro w H;dsimp only [List.set,setRow] at H;refine aP dQ 4 (vs:=[_]) _ H wn rfl rfl rfl rfl rfl rfl rfl rfl ?_;clear H;intro w H;dsimp only [List.set,setRow] at H;refine aX _ _ ?_;clear aX;refine aR ?_;refine (oo H 0 rfl ?_).1;clear H;intro a w H;dsimp only [List.eraseIdx_cons_succ,List.eraseIdx_cons_zero] at H;refine (bU H Tryz.results13 (.cons (kR ak H rfl (H.hp.jE 2 rfl rfl)) (.cons (kR dQ H rfl (H.hp.jE 3 rfl rfl)) .nil)) ?_).1;exact H.hp.ret (by rw [Ae,if_pos (by omega),ab0 (by simpa using hI)];rfl)
 clear H;intro Vp gx VK a w BO hI H;obtain ⟨x,hgh⟩:∃ x,x=gx:=⟨_,rfl⟩;subst hgh;dsimp only [List.cons_append,List.nil_append,List.append_nil] at H;refine aR ?_;refine (oo H 0 rfl ?_).1;clear H;intro a w H;dsimp only [List.eraseIdx_cons_succ,List.eraseIdx_cons_zero] at H;refine (bU H Tryz.results13 (.cons (kR ak H rfl (H.hp.jE 2 rfl rfl)) (.cons (kR dQ H rfl (H.hp.jE 3 rfl rfl)) .nil)) ?_).1;exact H.hp.ret (by rw [Ae,if_pos (by omega),hI];rfl)
/-- What Of gives. -/
def y8 (l:List aj) (i:Int):(Int × Int) × Int :=
 if 0≤i then match (fV 0 0 l)[i.toNat]? with|some p=>(p,0)|none=>((0,0),2) else ((0,0),2)
theorem acN (G:GH) (w0:World) (hG:Hold G w0) (D:jh) (l:List aj) (i:Int) (hv:ah G (.sl 11 (l.map aj.dat)) (dY D.f)) (hz:aS l≤4294967296) :
  Calls Tryz.prog 12 #[D.val,vi i] w0 (aU w0 G fun u G'=>u=.tuple #[.agg #[vi (y8 l i).1.1,vi (y8 l i).1.2],vi (y8 l i).2]):=by
 refine eN [(0,_),(1,_)] Tryz.func12 rfl Tryz.ntmps12 rfl rfl hG ?_;intro a H;refine aY (fun _ K1=>?_);refine bY (cs:=[_,_,_,_,_,_,_,_,_,_,_]) H wn rfl rfl rfl ?_;clear H;intro b2 a w hb2 H;refine bY (cs:=[_]) H wn rfl rfl rfl ?_;clear H;intro b3 a w hb3 H;refine bX bN H wn rfl ?_;clear H;intro b4 a w hb4 H;refine bX dQ H wn rfl ?_;clear H;intro b5 a w hb5 H;refine K1 _ _ ?_;clear K1;refine aQ (fun _ K2=>?_);refine aY (fun _ K3=>?_);refine aK iq (cs:=[_,_,_,_,_,_,_,_,_,_,_]) H wn rfl rfl (H.hp.bF 3 rfl rfl) rfl ?_;clear H;intro a H;refine s_call J5 H wn rfl (Nh _ _ H.hp.ro D l hv hz) rfl ?_;clear H;rintro v9 G9 a w ⟨bd,rfl,hit⟩ yT H;refine K3 _ _ ?_;clear K3;refine lZ ?_;skip;refine tK (ι:=Unit) (κ:=Int × Int) (Lc:=[(_,_),(_,_)]) (fun (k:Nat) (gh:Unit)=>[(b4,.cells #[vi 0,vi 0] 45 (0,0)),(b5,.cells #[vi 0] 46 (0,0))]) (fun (k:Nat) (gh:Unit)=>[]) (fun (k:Nat) (gh:Unit) (g:GH)=>∀ j < k,(j:Int)≠i) (fun (gx:Int × Int)=>Code.ret) (fun (gx:Int × Int)=>[(b4,.cells #[vi gx.1,vi gx.2] 45 (0,0)),(b5,.cells #[vi 0] 46 (0,0))]) (fun (gx:Int × Int)=>[]) (fun (gx:Int × Int) (g:GH)=>0≤i∧(fV 0 0 l)[i.toNat]?=some gx) (()) (by exact H.bL (Pl:=[_,_,_,_]) (bB:=[_,_,_,_]) [2,3,1,0] (by decide) rfl) rfl F9 (hit) (fun _ _ h=>h) rfl (fun k args g h=>by obtain ⟨_,rfl⟩:=BZ h;rfl) (fun _ _ _ _ _ h=>h) (fun _ _ _ _ h=>h) (fun j hj=>absurd hj (by omega)) ?_ ?_ ?_
 ·clear H;intro l2 oD mM bk k args gh G2 w2 F2 B2 a hk2 hm2 hI El Eu BS H;obtain ⟨hk,rfl⟩:=BZ hk2;dsimp only [lY,List.cons_append,List.nil_append] at H;refine kP H (SR fun _ K4=>Ra rfl (Kz K4 (SC ?_)));clear H K4;intro a H;refine bX bN H wn rfl ?_;clear H;intro b7 a w pU H;refine aP bN 0 (vs:=[_,_]) _ H wn rfl rfl rfl rfl rfl rfl rfl rfl ?_;clear H;intro w H;dsimp only [List.set,setRow] at H;refine au ?_;refine El _ _ _ _ _ _ (by exact H.bL (Pl:=[_,_,_,_,_,_]) (bB:=[_,_,_,_,_,_]) [1,0,2,3,4,5] (by decide) rfl) ?_;clear H;intro w H;refine kP H (SB (SR fun _ K5=>Rm rfl (Ro ak 2 rfl rfl (Rc rfl (Kz K5 (Cd rfl ?_ ?_)))))) <;> clear H K5
  ·intro fE a H
   try have qM:=dT fE
   refine aY (fun _ K6=>?_);refine aK bN (cs:=[_,_]) H wn rfl rfl (H.hp.bF 1 rfl rfl) rfl ?_;clear H;intro a H;refine aP bN 4 (vs:=[_,_]) _ H wn rfl rfl rfl rfl rfl rfl rfl rfl ?_;clear H;intro w H;dsimp only [List.set,setRow] at H;refine aP dQ 5 (vs:=[_]) _ H wn rfl rfl rfl rfl rfl rfl rfl rfl ?_;clear H;intro w H;dsimp only [List.set,setRow] at H;refine K6 _ _ ?_;clear K6;refine aR ?_;refine (BS ((fV 0 0 l)[k]) _ _ _ _ _ (by exact H.bL (Pl:=[_,_,_,_,_,_]) (bB:=[_,_,_,_,_]) [0,2,3,4,5] (by decide) rfl) ?_).1 rfl;exact ⟨by omega,by rw [show i.toNat=k by omega];exact List.getElem?_eq_getElem hk⟩
  intro fE a H
  try have qM:=dF fE
  refine eX ?_;refine Eu (()) _ _ _ _ _ (by exact H.bL (Pl:=[_,_,_,_,_,_]) (bB:=[_,_,_,_,_]) [0,2,3,4,5] (by decide) rfl) ?_;intro j hj
  by_cases e:j=k
  ·rw [e];exact qM
  exact hI j (by omega)
 ·clear H;intro C8 gh Df a w hm2 hI H;dsimp only [List.cons_append,List.nil_append,List.append_nil] at H;refine K2 _ _ ?_;clear K2;refine aY (fun _ K7=>?_);refine iP wo [_,_] H wn rfl rfl rfl rfl ?_;clear H;intro a H;refine aP bN 3 (vs:=[_,_]) _ H wn rfl rfl rfl rfl rfl rfl rfl rfl ?_;clear H;intro w H;dsimp only [List.set,setRow] at H;refine aP dQ 4 (vs:=[_]) _ H wn rfl rfl rfl rfl rfl rfl rfl rfl ?_;clear H;intro w H;dsimp only [List.set,setRow] at H;refine K7 _ _ ?_;clear K7;refine aR ?_;refine (oo H 0 rfl ?_).1;clear H;intro a w H;dsimp only [List.eraseIdx_cons_succ,List.eraseIdx_cons_zero] at H;refine (bU H Tryz.results12 (.cons (uQ bN (cs:=[_,_]) H rfl rfl (H.hp.bF 2 rfl rfl)) (.cons (kR dQ H rfl (H.hp.jE 3 rfl rfl)) .nil)) ?_).1
  have h2:y8 l i=((0,0),2):=by
   unfold y8;split
   ·rename_i h0
    have h1:(fV 0 0 l)[i.toNat]?=none:=by
     rw [List.getElem?_eq_none_iff];exact Nat.le_of_not_lt fun hn=>hI i.toNat (by simpa using hn) (by omega)
    rw [h1]
   rfl
  exact H.hp.ret (by rw [h2];rfl)
 clear H;intro C8 gx Df a w hm2 hI H;obtain ⟨x,hgh⟩:∃ x,x=gx:=⟨_,rfl⟩;subst hgh;dsimp only [List.cons_append,List.nil_append,List.append_nil] at H;refine aR ?_;refine (oo H 0 rfl ?_).1;clear H;intro a w H;dsimp only [List.eraseIdx_cons_succ,List.eraseIdx_cons_zero] at H;refine (bU H Tryz.results12 (.cons (uQ bN (cs:=[_,_]) H rfl rfl (H.hp.bF 2 rfl rfl)) (.cons (kR dQ H rfl (H.hp.jE 3 rfl rfl)) .nil)) ?_).1;exact H.hp.ret (by rw [y8,if_pos hI.1,hI.2];rfl)
end
section
open Go.RowKit
theorem Nw:A9 Tryz.prog 226:=⟨by kernel_rfl⟩
theorem WI:Tryz.prog.cellsOf 5=1:=by kernel_rfl
theorem acM (v:Value) (w:World):(callFunc 151 #[v]).run Tryz.prog w=.ok (.value v) w:=adT Tryz.func151 (by kernel_rfl) (by kernel_rfl) (by kernel_rfl) (by kernel_rfl) v w
theorem EW:Tryz.prog.underlying 224=some (.pointer 226):=by kernel_rfl
theorem Uv:Tryz.prog.underlying 238=some .unsafePointer:=by kernel_rfl
theorem DY:bO Tryz.prog 226 0 0:=⟨by kernel_rfl⟩
theorem ES:Ty Tryz.prog 224 1 8 [.pointer none] false:=⟨by kernel_rfl,by kernel_rfl⟩
theorem aeZ:Tryz.prog.underlying 240=some (.pointer 5):=by kernel_rfl
theorem Bv:bO Tryz.prog 226 1 1:=⟨by kernel_rfl⟩
theorem CB:Ty Tryz.prog 221 1 24 [.slice none 0 0] false:=⟨by kernel_rfl,by kernel_rfl⟩
theorem Az:Tryz.prog.underlying 221=some (.slice 5):=by kernel_rfl
end
section
open Go.RowKit
/-- The least index from i on, below j, at which a test holds (halving). -/
def uH (p:Nat→Bool):Nat→Nat→Nat→Nat
 | 0,i,_=>i
 | f+1,i,j=>if i < j then (if p ((i+j) / 2) then uH p f i ((i+j) / 2) else uH p f ((i+j) / 2+1) j) else i
theorem abX {p:Nat→Bool} {f i j:Nat} (hf:j - i≤f) (h:i < j):uH p f i j=if p ((i+j) / 2) then uH p (f - 1) i ((i+j) / 2) else uH p (f - 1) ((i+j) / 2+1) j:=by
 match f,hf with
 | 0,hf=>omega
 | f+1,_=>rw [uH,if_pos h];rfl
theorem abV {p:Nat→Bool} {f i j:Nat} (h:¬ i < j):uH p f i j=i:=by
 match f with
 | 0=>rfl
 | f+1=>rw [uH,if_neg h]
theorem abY {z:Int} (h1:0≤z) (h2:z < 18446744073709551616):IntKind.u64.wrap z=z:=by
 simp only [IntKind.wrap,IntKind.bits,IntKind.signed,Bool.false_and,Bool.false_eq_true,if_false]
 omega
theorem abW (n:Nat):((n:Nat):Int).fdiv (2 ^ 1)=((n / 2:Nat):Int):=by
 rw [Int.fdiv_eq_ediv_of_nonneg _ (by decide)];omega
/-- How two numbers compare. -/
def wN (a b:Int):Int:=if a < b then -1 else if b < a then 1 else 0
theorem Pv {a b:Int}:wN a b < 0↔a < b:=by
 unfold wN
 split
 ·simp [*]
 ·split <;> simp_all
theorem Xu {a b:Int}:wN a b=0↔a=b:=by
 unfold wN
 split
 ·omega
 ·split <;> omega
/-- The place that halving finds for a number, and whether the number is there. -/
def vF (ks:List Int) (t:Int):Nat:=uH (fun h=>decide (¬ ks.getD h 0 < t)) ks.length 0 ks.length
def yN (ks:List Int) (t:Int):Bool:=decide (ks[vF ks t]?=some t)
theorem aaM {ks:List Int} {t:Int} (h:yN ks t=true):vF ks t < ks.length:=by
 have:=of_decide_eq_true h
 exact (List.getElem?_eq_some_iff.1 this).1
theorem aaL {ks:List Int} {t:Int} {n:Nat} (e:vF ks t=n) (h:n < ks.length):yN ks t=decide (wN ks[n] t=0):=by
 unfold yN
 rw [e,List.getElem?_eq_getElem h]
 simp [Xu]
theorem aaN {ks:List Int} {t:Int} {n:Nat} (e:vF ks t=n) (h:¬ n < ks.length):yN ks t=false:=by
 unfold yN
 rw [e,List.getElem?_eq_none (by omega)]
 simp
theorem getD_map {α:Type} {f:α→Int} {l:List α} {n:Nat} (h:n < l.length):(l.map f).getD n 0=f l[n]:=by
 simp [List.getD,h]
end
section
open Go.RowKit
/-- A field of one cell in a struct. -/
structure OQ (P:Program) (s n off:Nat):Prop where
 h:(match P.underlying s with|some (.struct fs)=>(fs[n]?).bind fun f=>((P.underlying f.type).map (fun|.struct _=>true|.array _ _=>true|_=>false)).map fun g=>(f.offset,g)|_=>none)=some (off,false)
theorem OQ.parts {P:Program} {s n off:Nat} (h:OQ P s n off):∃ fs fl u,P.underlying s=some (.struct fs)∧fs[n]?=some fl∧P.underlying fl.type=some u∧(match u with|.struct _=>true|.array _ _=>true|_=>false)=false∧fl.offset=off:=by
 obtain ⟨h⟩:=h
 split at h
 ·rename_i fs hs
  obtain ⟨fl,hf,h2⟩:=Option.bind_eq_some_iff.1 h
  obtain ⟨b,hb,h3⟩:=Option.map_eq_some_iff.1 h2
  obtain ⟨u,hu,h4⟩:=Option.map_eq_some_iff.1 hb
  simp only [Prod.mk.injEq] at h3
  refine ⟨fs,fl,u,hs,hf,hu,?_,h3.1⟩
  rw [← h3.2,← h4]
  cases u <;> rfl
 ·cases h
section
variable {N:Nat} {D:List Deferred} {w0:World} {F:Nat→Prop} {G0 G:GH} {L Li Lo:OL} {T:List (Nat × Value)}
variable {r:Option Nat} {P:Program} {ops:Array Oper} {Q:Exit→Act→World→Prop} {rest:List Oper} {a:Act} {w:World}
variable {d:Nat} {ty:TypeId} {pos:String} {aG:Array Edge} {g:Option (Nat × Bool)}
/-- The rest of a string. -/
theorem Nu {t:TypeId} {x y:Operand} {s:ByteArray} {ky:IntKind} {p:Int} (lo:Nat) (ht:P.underlying t=some .string) (H:St N D w0 F G0 G L T a w) (hw:Region.wanted ⟨some d,.slice t x (some y) none none,ty,pos,aG,g⟩ (yielded ops a.tmps)=true) (hx:ev T x=some (.string s)) (hy:ev T y=some (.int ky p)) (hp:p=(lo:Int)) (h1:lo≤s.size) (hd:Nat.blt d N=true)
  (k:∀ a',St N D w0 F G0 G L ((d,.string (s.extract lo s.size)) :: T) a' w→WL r P ops Q rest a' w):WL r P ops Q (⟨some d,.slice t x (some y) none none,ty,pos,aG,g⟩ :: rest) a w:=by
 subst hp
 have hr:=run_slice_string_l (P:=P) w t s ht ky (lo:Int) (by omega) (by omega)
 rw [Int.toNat_natCast] at hr
 refine eT (v:=.string (s.extract lo s.size)) (w':=w) hw rfl ?_ (k _ (H.put hd _ H.hp))
 simp only [execOp,H.ev hx,Option.map_some,Option.map_none,H.ev hy,Sem.run_bind,run_sliceAt_string w t _ _ _ _ ht,hr,Result.andThen_ok,Sem.run_pure]
end
end
section
open Go.RowKit
theorem EU:Tryz.prog.underlying 212=some (.slice 197):=by kernel_rfl
theorem pE:Ty Tryz.prog 197 6 56 [.int .i64 0,.int .i64 0,.int .i64 0,.int .i64 0,.int .i64 0,.string ⟨#[]⟩] true:=⟨by kernel_rfl,by kernel_rfl⟩
theorem Uh:oN Tryz.prog 197 [(0,1),(1,1),(2,1),(3,1),(4,1),(5,1)] [.int .i64 0,.int .i64 0,.int .i64 0,.int .i64 0,.int .i64 0,.string ⟨#[]⟩]:=⟨by kernel_rfl,by kernel_rfl⟩
theorem P7:∀ args w,(callFunc 58 args).run Tryz.prog w=.ok (.enter 58 args) w:=enters Tryz.func58 rfl (by kernel_rfl)
structure iG where
 num:Int
 vP:Int
 low:Int
 high:Int
 std:Int
 name:ByteArray
def iG.dat (x:iG):List Dat:=[li x.num,li x.vP,li x.low,li x.high,li x.std,.lf (.string x.name)]
def iG.cells (x:iG):List Value:=[vi x.num,vi x.vP,vi x.low,vi x.high,vi x.std,.string x.name]
def iC.cells (x:iC):List Value:=[vi x.key,vi x.value]
theorem acg (G:GH) (x:iG):aO G x.dat x.cells:=by
 simp only [iG.dat,iG.cells,aO]
 exact ⟨_,_,rfl,by simp [ah,Value.oneCell'],_,_,rfl,by simp [ah,Value.oneCell'],_,_,rfl,by simp [ah,Value.oneCell'],_,_,rfl,by simp [ah,Value.oneCell'],_,_,rfl,by simp [ah,Value.oneCell'],_,_,rfl,by simp [ah,Value.oneCell'],rfl⟩
theorem acf {G:GH} {x:iG} {cs:List Value} (h:aO G x.dat cs):cs=x.cells:=by
 simp only [iG.dat,aO,ah] at h
 obtain ⟨v1,_,rfl,⟨rfl,-⟩,v2,_,rfl,⟨rfl,-⟩,v3,_,rfl,⟨rfl,-⟩,v4,_,rfl,⟨rfl,-⟩,v5,_,rfl,⟨rfl,-⟩,v6,_,rfl,⟨rfl,-⟩,rfl⟩:=h
 rfl
theorem ady {G:GH} {x:iC} {cs:List Value} (h:aO G x.dat cs):cs=x.cells:=by
 simp only [iC.dat,aO,ah] at h
 obtain ⟨v1,_,rfl,⟨rfl,-⟩,v2,_,rfl,⟨rfl,-⟩,rfl⟩:=h
 rfl
theorem Sg (G:GH):∀ (B A:List iG),eU G 6 (A.map iG.dat) (A.map iG.cells).flatten→eU G 6 ((A++B).map iG.dat) ((A++B).map iG.cells).flatten
 | [],A,h=>by rw [List.append_nil];exact h
 | x :: B,A,h=>by
  have h2:=h.snoc (acg G x) rfl;have h3:=Sg G B (A++[x]) (by simpa using h2)
  simpa using h3
theorem ach (G:GH) (A:List iG):eU G 6 (A.map iG.dat) (A.map iG.cells).flatten:=Sg G A [] eU.nil
theorem MQ {G:GH} {l:List iG} {A:Option Addr} {n c k:Nat} (hv:ah G (.sl 6 (l.map iG.dat)) (.slice A n c)) (hk:k < l.length):∃ b o,A=some ⟨b,o,none⟩∧(∀ j u,[vi l[k].num,vi l[k].vP,vi l[k].low,vi l[k].high,vi l[k].std,.string l[k].name][j]?=some u→aB G b (o+k*6+j)=some u):=by
 obtain ⟨A',c',he,_,_,hg⟩:=hv.slice
 injection he with e1 e2 e3
 subst e1;obtain ⟨b,o,cs,h1,h2,h3,h4⟩:=hg k l[k].dat (by simp [hk]);obtain rfl:=acf h4;exact ⟨b,o,h1,h3⟩
theorem Il {G:GH} {l:List iC} {A:Option Addr} {n c k:Nat} (hv:ah G (.sl 2 (l.map iC.dat)) (.slice A n c)) (hk:k < l.length):∃ b o,A=some ⟨b,o,none⟩∧(∀ j u,[vi l[k].key,vi l[k].value][j]?=some u→aB G b (o+k*2+j)=some u):=by
 obtain ⟨A',c',he,_,_,hg⟩:=hv.slice
 injection he with e1 e2 e3
 subst e1;obtain ⟨b,o,cs,h1,h2,h3,h4⟩:=hg k l[k].dat (by simp [hk]);obtain rfl:=ady h4;exact ⟨b,o,h1,h3⟩
def Ag:List iG:=[⟨1,1,0,1073741824,0,⟨#[99,104,97,114,97,99,116,101,114,45,115,116,121,108,101]⟩⟩,⟨2,1,0,1,0,⟨#[98,111,108,100]⟩⟩,⟨3,1,0,1,0,⟨#[105,116,97,108,105,99]⟩⟩,⟨4,1,0,3,0,⟨#[117,110,100,101,114,108,105,110,101]⟩⟩,⟨5,1,2,1638,22,⟨#[115,105,122,101]⟩⟩,⟨6,1,0,16777215,0,⟨#[99,111,108,111,114]⟩⟩,⟨7,1,0,63,0,⟨#[102,111,110,116]⟩⟩,⟨8,1,0,255,0,⟨#[108,97,110,103,117,97,103,101]⟩⟩,⟨9,1,-400,400,0,⟨#[114,97,105,115,101]⟩⟩,⟨10,1,0,1,0,⟨#[104,105,100,100,101,110]⟩⟩,⟨20,2,0,1073741824,0,⟨#[112,97,114,97,103,114,97,112,104,45,115,116,121,108,101]⟩⟩,⟨21,2,0,3,0,⟨#[97,108,105,103,110]⟩⟩,⟨22,2,-31680,31680,0,⟨#[108,101,102,116]⟩⟩,⟨23,2,-31680,31680,0,⟨#[114,105,103,104,116]⟩⟩,⟨24,2,-31680,31680,0,⟨#[102,105,114,115,116]⟩⟩,⟨25,2,0,31680,0,⟨#[98,101,102,111,114,101]⟩⟩,⟨26,2,0,31680,0,⟨#[97,102,116,101,114]⟩⟩,⟨27,2,0,31680,0,⟨#[108,101,97,100,105,110,103]⟩⟩,⟨28,2,0,1,0,⟨#[107,101,101,112,45,110,101,120,116]⟩⟩,⟨29,2,0,1,0,⟨#[107,101,101,112,45,108,105,110,101,115]⟩⟩,⟨30,2,0,1,1,⟨#[119,105,100,111,119]⟩⟩,⟨31,2,0,1,0,⟨#[112,97,103,101,45,98,101,102,111,114,101]⟩⟩,⟨32,2,0,9,0,⟨#[111,117,116,108,105,110,101]⟩⟩,⟨33,2,0,1073741824,0,⟨#[108,105,115,116]⟩⟩,⟨34,2,1,9,1,⟨#[108,101,118,101,108]⟩⟩,⟨35,2,0,32767,0,⟨#[114,101,115,116,97,114,116]⟩⟩,⟨36,2,1,31680,720,⟨#[116,97,98,45,115,116,111,112]⟩⟩,⟨37,2,0,1,0,⟨#[104,121,112,104,101,110,97,116,101]⟩⟩,⟨40,3,720,31680,12240,⟨#[112,97,103,101,45,119,105,100,116,104]⟩⟩,⟨41,3,720,31680,15840,⟨#[112,97,103,101,45,104,101,105,103,104,116]⟩⟩,⟨42,3,0,31680,1440,⟨#[116,111,112]⟩⟩,⟨43,3,0,31680,1440,⟨#[98,111,116,116,111,109]⟩⟩,⟨44,3,0,31680,1440,⟨#[105,110,110,101,114]⟩⟩,⟨45,3,0,31680,1440,⟨#[111,117,116,101,114]⟩⟩,⟨46,3,0,32767,0,⟨#[102,105,114,115,116,45,112,97,103,101]⟩⟩,⟨47,3,1,6,1,⟨#[112,97,103,101,45,102,111,114,109,97,116]⟩⟩,⟨50,4,0,1,0,⟨#[104,101,97,100,101,114]⟩⟩,⟨51,4,0,1,0,⟨#[99,97,110,116,45,115,112,108,105,116]⟩⟩,⟨52,4,0,31680,0,⟨#[114,111,119,45,104,101,105,103,104,116]⟩⟩,⟨60,5,1,32,1,⟨#[99,111,108,117,109,110,45,115,112,97,110]⟩⟩,⟨61,5,0,2,0,⟨#[118,101,114,116,105,99,97,108,45,109,101,114,103,101]⟩⟩,⟨62,5,0,31680,0,⟨#[99,101,108,108,45,119,105,100,116,104]⟩⟩,⟨63,5,0,16777215,16777215,⟨#[115,104,97,100,101]⟩⟩,⟨70,6,0,31680,0,⟨#[116,97,98,108,101,45,119,105,100,116,104]⟩⟩,⟨71,6,0,2,0,⟨#[116,97,98,108,101,45,97,108,105,103,110]⟩⟩]
set_option maxRecDepth 20000 in
theorem aci (G:GH) (w0:World) (hG:Hold G w0):Calls Tryz.prog 130 #[] w0 (aU w0 G fun u G'=>ah G' (.sl 6 (Ag.map iG.dat)) u):=by
 refine eN [] Tryz.func130 rfl Tryz.ntmps130 rfl rfl hG ?_;intro a H;refine kP H (SR fun _ K1=>Ra rfl (Kz K1 (SR fun _ K2=>?_)));clear H K1;intro a H;(iterate 45 refine iP Uh [_,_,_,_,_,_] H wn rfl rfl rfl rfl ?_;clear H;intro a H);refine ad3 EU pE (Ag.map iG.cells) H wn rfl rfl rfl rfl rfl rfl rfl ?_;clear H;intro b46 a w af7 H;refine kH H (Ra rfl (Kz K2 ?_));clear H K2;intro a H;refine lr H Tryz.results130 rfl ?_;obtain ⟨Gz,hmz,hbz,H⟩:=H.dB;exact H.hp.ret (ah.dG (n:=45) (cap:=45) hbz rfl (Nat.le_refl _) (show 45≤maxLen by decide) (List.take_of_length_le (Nat.le_refl _)) (ach _ _))
theorem R9 (G:GH) (w0:World) (hG:Hold G w0) (x:Int):Calls Tryz.prog 58 #[vi x] w0 (aU w0 G fun u G'=>u=.bool false∧G=G'):=by
 refine eN [(0,_)] Tryz.func58 rfl Tryz.ntmps58 rfl rfl hG ?_;intro a H;exact kP H (SR fun _ K1=>Ra rfl (Kz K1 (SR fun _ K2=>Rm rfl (Rm rfl (Rc rfl (Ra rfl (Kz K2 (LR Tryz.results58 rfl fun H=>H.hp.ret ⟨by simp,rfl⟩))))))))
theorem JN {x y z:Int} (h:(x < y∧z=-1)∨(y < x∧z=1)∨(x=y∧z=0)):z=wN x y:=by
 unfold wN;split
 ·omega
 split <;> omega
theorem Xw (G:GH) (w0:World) (hG:Hold G w0) (x y:Int):Calls Tryz.prog 38 #[vi x,vi y] w0 (aU w0 G fun u G'=>u=vi (wN x y)):=by
 refine eN [(0,_),(1,_)] Tryz.func38 rfl Tryz.ntmps38 rfl rfl hG ?_;intro a H;refine kP H (SR fun _ K1=>Ra rfl (Kz K1 (SR fun _ K2=>Rm rfl ?_)));clear H K1;intro a H;refine s_call P7 H wn rfl (R9 _ _ H.hp.ro x) rfl ?_;clear H;rintro v8 G8 a w ⟨rfl,-⟩ yS H;refine kH H (Ra rfl (Kz K2 (SR fun _ K3=>Rm rfl ?_)));clear H K2;intro a H;refine s_call P7 H wn rfl (R9 _ _ H.hp.ro y) rfl ?_;clear H;rintro v10 C9 a w ⟨rfl,-⟩ Q8 H;refine kH H (Ra rfl (Kz K3 (SQ fun _ K4=>SR fun _ K5=>Rm rfl (Kz K5 (Cd rfl ?_ ?_))))) <;> clear H K3 K5
 ·intro h11 a H
  try have ow:=dT h11
  cases h11
 intro h11 a H
 try have ow:=dF h11
 refine kP H (Kc K4 (SQ fun _ K6=>SR fun _ K7=>Rm rfl (Kz K7 (Cd rfl ?_ ?_)))) <;> clear H K4 K7
 ·intro eO a H
  try have nM:=dT eO
  cases eO
 intro eO a H
 try have nM:=dF eO
 refine kP H (Kc K6 (SQ fun _ K8=>SR fun _ K9=>Rm rfl (Rm rfl (Rc rfl (Kz K9 (Cd rfl ?_ ?_)))))) <;> clear H K6 K9
 ·intro h16 a H
  try have p16:=dT h16
  exact kP H (SR fun _ aH=>Ra rfl (Kz aH (LR Tryz.results38 rfl fun H=>H.hp.ret (congrArg vi (JN (by omega))))))
 intro h16 a H
 try have p16:=dF h16
 refine kP H (Kc K8 (SQ fun _ aX=>SR fun _ bD=>Rm rfl (Rm rfl (Rc rfl (Kz bD (Cd rfl ?_ ?_)))))) <;> clear H K8 bD
 ·intro h19 a H
  try have j6:=dT h19
  exact kP H (SR fun _ bH=>Ra rfl (Kz bH (LR Tryz.results38 rfl fun H=>H.hp.ret (congrArg vi (JN (by omega))))))
 intro h19 a H
 try have j6:=dF h19
 exact kP H (Kc aX (SR fun _ bG=>Ra rfl (Kz bG (LR Tryz.results38 rfl fun H=>H.hp.ret (congrArg vi (JN (by omega)))))))
end
section
open Go.RowKit
theorem Z7:bO Tryz.prog 197 0 0:=⟨by kernel_rfl⟩
theorem YX:∀ args w,(callFunc 38 args).run Tryz.prog w=.ok (.enter 38 args) w:=enters Tryz.func38 rfl (by kernel_rfl)
theorem Uu:Tryz.prog.underlying 219=some (.int .u64):=by kernel_rfl
theorem Yu:∀ args w,(callFunc 132 args).run Tryz.prog w=.ok (.enter 132 args) w:=enters Tryz.func132 rfl (by kernel_rfl)
theorem O9 (G:GH) (w0:World) (hG:Hold G w0) (x:iG) (t:Int):qU Tryz.prog (.func (.func 132) #[] #[]) [.agg x.cells.toArray,vi t] w0 (aU w0 G fun u G'=>u=vi (wN x.num t)):=by
 refine jI (caps:=[]) Yu ?_;refine eN [(0,_),(1,_)] Tryz.func132 rfl Tryz.ntmps132 rfl rfl hG ?_;intro a H;refine aY (fun _ K1=>?_);refine bY (cs:=[_,_,_,_,_,_]) H wn rfl rfl rfl ?_;clear H;intro b2 a w hb2 H;refine kH H (Ra rfl (Kz K1 (SR fun _ K2=>Rf Z7 rfl (Ro ak 0 rfl rfl (Rm rfl ?_)))));clear H K1;intro a H;refine s_call YX H wn rfl (Xw _ _ H.hp.ro x.num t) rfl ?_;clear H;rintro v8 G8 a w rfl yS H;exact kH H (Ra rfl (Kz K2 (LR Tryz.results132 rfl fun H=>H.hp.ret rfl)))
theorem Wi (G:GH) (w0:World) (hG:Hold G w0) (l:List iG) (t:Int) (v:Value) (hv:ah G (.sl 6 (l.map iG.dat)) v) (hl:l.length≤4294967296) :
  Calls Tryz.prog 131 #[v,vi t,.func (.func 132) #[] #[]] w0 (aU w0 G fun u G'=>u=.tuple #[vi (vF (l.map iG.num) t),.bool (yN (l.map iG.num) t)]):=by
 obtain ⟨A,c,rfl,hc1,hc2,-⟩:=hv.slice;rw [List.length_map] at *;obtain ⟨p,hp⟩:∃ p:Nat→Bool,p=fun h=>decide (¬ (l.map iG.num).getD h 0 < t):=⟨_,rfl⟩
 have hbs:vF (l.map iG.num) t=uH p l.length 0 l.length:=by rw [hp,vF,List.length_map]
 refine eN [(0,_),(1,_),(2,_)] Tryz.func131 rfl Tryz.ntmps131 rfl rfl hG ?_;intro a H;refine kP H (SR fun _ K1=>Ra rfl (Ra rfl (Kz K1 (SR fun _ K2=>Rm rfl (Rl EU rfl (Ra rfl (Kz K2 (SR fun _ K3=>Rm rfl (Ra rfl (Ra rfl (Kz K3 ?_)))))))))));clear H K1 K2 K3;intro a H;refine aQ (fun _ K4=>?_);refine lZ ?_;skip;refine d9 (ι:=Nat × Nat × Nat × GH) (Tc:=[(0,_),(1,_),(2,_),(8,_)]) (Lc:=[]) (fun (gh:Nat × Nat × Nat × GH)=>[(9,vi gh.1),(10,vi gh.2.1)]) (fun (gh:Nat × Nat × Nat × GH)=>[]) (fun (gh:Nat × Nat × Nat × GH)=>gh.2.2.2) (fun (gh:Nat × Nat × Nat × GH)=>gh.1≤gh.2.1∧gh.2.1≤l.length∧gh.2.1 - gh.1≤gh.2.2.1∧uH p gh.2.2.1 gh.1 gh.2.1=vF (l.map iG.num) t∧(∀ b o,G b=some o→gh.2.2.2 b=some o)) (fun (gh:Nat × Nat × Nat × GH)=>gh.2.1 - gh.1) ((0,l.length,l.length,G)) (by exact (H).sub ⟨rfl,rfl,rfl,rfl,rfl,rfl,trivial⟩) ?_ ?_
 ·exact ⟨Nat.zero_le _,Nat.le_refl _,Nat.sub_le _ _,hbs.symm,fun _ _ h=>h⟩
 clear H;intro gh a w hI H;obtain ⟨i,j,f,g⟩:=gh;dsimp only at hI H;obtain ⟨hij,hj,hf1,heq,hgm⟩:=hI;have Ab:=hv.mono hgm;dsimp only [List.cons_append,List.nil_append,List.append_nil] at H;refine kP H (SQ fun _ K5=>SR fun _ K6=>Rm rfl (Rm rfl (Rc rfl (Kz K6 (Cd rfl ?_ ?_))))) <;> clear H K6
 ·intro bT a H
  try have jy:=dT bT
  have hlt:i < j:=by omega
  rw [abX hf1 hlt] at heq;obtain ⟨m,hm⟩:∃ m,m=(i+j) / 2:=⟨_,rfl⟩;rw [← hm] at heq
  have hml:m < l.length:=by omega
  obtain ⟨b,o,rfl,hrow⟩:=MQ Ab hml
  have hpm:p m=decide (¬ l[m].num < t):=by rw [hp];dsimp only;rw [getD_map hml]
  rw [hpm] at heq;refine kP H (Kc K5 (SB (SR fun _ K7=>Rm rfl (Rm rfl (Rd rfl ?_)))));clear H K5;intro a H;rw [show ((i:Int)+(j:Int))=((i+j:Nat):Int) by push_cast;rfl] at H;refine Cr ((i+j:Nat):Int) Uu kU H wn rfl (abY (by omega) (by omega)) rfl ?_;clear H;intro a H;refine TY _ H wn rfl rfl rfl (by decide) rfl ?_;clear H;intro a H;rw [abW,← hm] at H;refine Cr (m:Int) kU Uu H wn rfl (EF (by omega) (by omega)) rfl ?_;clear H;intro a H;refine kH H (Ra rfl (Kz K7 (SR fun _ K8=>Rm rfl (Rm rfl (Rm rfl (Ri EU pE rfl rfl ?_))))));clear H K7;intro a H;refine aK pE (cs:=[_,_,_,_,_,_]) H wn rfl rfl (fun j v hj=>H.hp.aB (hrow j v hj)) rfl ?_;clear H;intro a H;refine kH H (Rm rfl ?_);clear H;intro a H;refine ng H wn rfl rfl (O9 _ _ H.hp.ro l[m] t) rfl ?_;clear H;rintro v30 wF a w rfl uy H;refine kH H (Rc rfl (Kz K8 (Cd rfl ?_ ?_))) <;> clear H K8
  ·intro h31 a H
   try have p31:=dT h31
   rw [if_neg (by simpa using Pv.1 p31)] at heq;refine kP H (SC (Rm rfl (Rd rfl (Ra rfl ?_))));clear H;intro a H;refine au ?_;refine dD ((m+1,j,f - 1,wF)) (by exact (H).sub ⟨rfl,rfl,rfl,rfl,rfl,rfl,trivial⟩) ?_ ?_
   ·(try dsimp only);exact ⟨by omega,hj,by omega,heq,fun b o h=>uy b o (hgm b o h)⟩
   first|omega|(dsimp only;omega)
  intro h31 a H
  try have p31:=dF h31
  rw [if_pos (by simpa using fun h=>p31 (Pv.2 h))] at heq;refine kP H (SC (Rm rfl (Ra rfl ?_)));clear H;intro a H;refine au ?_;refine dD ((i,m,f - 1,wF)) (by exact (H).sub ⟨rfl,rfl,rfl,rfl,rfl,rfl,trivial⟩) ?_ ?_
  ·(try dsimp only);exact ⟨by omega,by omega,by omega,heq,fun b o h=>uy b o (hgm b o h)⟩
  first|omega|(dsimp only;omega)
 intro bT a H
 try have jy:=dF bT
 refine dL ?_;refine K4 _ _ ?_;clear K4;refine aQ (fun _ K9=>?_);rw [abV (by omega)] at heq;refine kP H (SC (Rm rfl (Rm rfl (Rm rfl (Rc rfl (Rm rfl (Sp 39 rfl ?_ ?_))))))) <;> clear H
 ·intro gY a H
  try have p39:=dT gY
  have hil:i < l.length:=by omega
  obtain ⟨b,o,rfl,hrow⟩:=MQ Ab hil;refine kH H (YM gY rfl (YM gY rfl (YM gY rfl (YI EU pE gY rfl rfl ?_))));clear H;intro a H;refine aK pE (cs:=[_,_,_,_,_,_]) H (wg H rfl rfl gY) rfl rfl (fun j v hj=>H.hp.aB (hrow j v hj)) rfl ?_;clear H;intro a H;refine kH H (YM gY rfl ?_);clear H;intro a H;refine ng H (wg H rfl rfl gY) rfl rfl (O9 _ _ H.hp.ro l[i] t) rfl ?_;clear H;rintro v46 Je a w rfl xB H;refine kH H (YC gY rfl (Pt gY rfl (Ra rfl (Ra rfl (Kn K9 ?_)))));clear H K9;intro a H;refine aR ?_;refine (bU H Tryz.results131 (.cons (aF H rfl) (.cons (aF H rfl) .nil)) ?_).1;exact H.hp.ret (by rw [aaL heq.symm (by rw [List.length_map];omega),← heq];simp)
 intro gY a H
 try have p39:=dF gY
 refine kH H (Ks gY rfl (Ks gY rfl (Ks gY rfl (Ks gY rfl (Ks gY rfl (Ks gY rfl (Ks gY rfl (Ks gY rfl (Pf gY rfl (Ra rfl (Ra rfl (Kn K9 ?_))))))))))));clear H K9;intro a H;refine aR ?_;refine (bU H Tryz.results131 (.cons (aF H rfl) (.cons (aF H rfl) .nil)) ?_).1;exact H.hp.ret (by rw [aaN heq.symm (by rw [List.length_map];omega),← heq])
end
section
open Go.RowKit
theorem J8:∀ args w,(callFunc 52 args).run Tryz.prog w=.ok (.enter 52 args) w:=enters Tryz.func52 rfl (by kernel_rfl)
theorem Gg:∀ args w,(callFunc 81 args).run Tryz.prog w=.ok (.enter 81 args) w:=enters Tryz.func81 rfl (by kernel_rfl)
theorem Cy:Ty Tryz.prog 159 1 8 [.nilFunc] false:=⟨by kernel_rfl,by kernel_rfl⟩
theorem Qa:∀ args w,(callFunc 82 args).run Tryz.prog w=.ok (.enter 82 args) w:=enters Tryz.func82 rfl (by kernel_rfl)
theorem JY:∀ args w,(callFunc 111 args).run Tryz.prog w=.ok (.enter 111 args) w:=enters Tryz.func111 rfl (by kernel_rfl)
/-- How far an item moves the positions on. -/
def nH (x:aj):Nat:=if x.kind=1 then oQ x.text else 1
mutual
def xK (flow at_:Int):aj→List ((Int × Int) × aj)
 | .mk k c i t h f r=>if k=6 then ((flow,at_),.mk k c i t h f r) :: fK i 0 f else if k=7 then ((flow,at_),.mk k c i t h f r) :: sj r else []
/-- The notes and tables of a flow, and those in them, with their positions. -/
def fK (flow:Int):Int→List aj→List ((Int × Int) × aj)
 | _,[]=>[]
 | at_,x :: l=>xK flow at_ x++fK flow (at_+nH x) l
def sj:List aN→List ((Int × Int) × aj)
 | []=>[]
 | r :: l=>xL r++sj l
def xL:aN→List ((Int × Int) × aj)
 | .mk _ cs=>gZ cs
def gZ:List aJ→List ((Int × Int) × aj)
 | []=>[]
 | c :: l=>vX c++gZ l
def vX:aJ→List ((Int × Int) × aj)
 | .mk i _ f=>fK i 0 f
end
def iL (x:aj):List aJ:=if x.kind=7 then x.rows.flatMap aN.cells else [.mk x.id ⟨[],⟨0,0,[],[]⟩⟩ x.flow]
theorem S9 (x:aJ):vX x=fK x.id 0 x.flow:=by cases x;simp [vX,aJ.id,aJ.flow]
theorem ac5 (x:aN):xL x=gZ x.cells:=by cases x;simp [xL,aN.cells]
theorem Ta:∀ a b:List aJ,gZ (a++b)=gZ a++gZ b
 | [],b=>by simp [gZ]
 | x :: a,b=>by simp [gZ,Ta a b]
theorem Te:∀ l:List aN,sj l=gZ (l.flatMap aN.cells)
 | []=>by simp [sj,gZ]
 | x :: l=>by simp [sj,ac5,Ta,Te l]
theorem Ci (flow at_:Int) (x:aj):xK flow at_ x=if x.kind=6∨x.kind=7 then ((flow,at_),x) :: gZ (iL x) else []:=by
 obtain ⟨k,c,i,t,h,f,r⟩:=x
 simp only [xK,iL,aj.kind,aj.rows,aj.id,aj.flow]
 by_cases h6:k=6
 ·subst h6;simp [gZ,vX]
 by_cases h7:k=7
 ·subst h7;simp [Te]
 simp [h6,h7]
theorem R8 {x:aj} {c:aJ} (h:c∈iL x):aS c.flow < bP x.dat:=by
 have h4:=lF x
 unfold iL at h
 split at h
 ·obtain ⟨r,hr,hc⟩:=List.mem_flatMap.1 h;have h1:=U7 hr;have h2:=U6 hc;have h3:=tF r;have h5:=u6 c
  omega
 rw [List.mem_singleton.1 h];show aS x.flow < _;omega
/-- What is called at a note or table. -/
def sW (a:(Int × Int) × aj):AP:=fun args g=>∃ cs,args=[.agg #[vi a.1.1,vi a.1.2],.agg cs.toArray]∧aO g a.2.dat cs
theorem vY {A:List ((Int × Int) × aj)} {k:Nat} {args:List Value} {g:GH} (h:qR (A.map sW) k args g):∃ (hk:k < A.length) (cs:List Value),args=[.agg #[vi A[k].1.1,vi A[k].1.2],.agg cs.toArray]∧aO g A[k].2.dat cs:=by
 obtain ⟨p,hp,hargs⟩:=h;rw [List.getElem?_map] at hp;obtain ⟨q,hq,rfl⟩:=Option.map_eq_some_iff.1 hp;obtain ⟨hk,rfl⟩:=List.getElem?_eq_some_iff.1 hq;exact ⟨hk,hargs⟩
def AY (n:Nat):Prop:=∀ (G:GH) (l:List aj) (id:Int) (bl bi:Nat) (v:Value),aS l < n→aB G bl 0=some v→aB G bi 0=some (vi id)→ah G (.sl 11 (l.map aj.dat)) v →
 Iter Tryz.prog G (.func (.func 81) #[] #[.pointer (some ⟨bl,0,none⟩),.pointer (some ⟨bi,0,none⟩)]) ((fK id 0 l).map sW)
theorem Ng {n:Nat} (ih:AY n) (G:GH) (w0:World) (hG:Hold G w0) (l:List aj) (id:Int) (v:Value) (hz:aS l < n) (hv:ah G (.sl 11 (l.map aj.dat)) v) :
  Calls Tryz.prog 52 #[vi id,v] w0 (aU w0 G fun u G'=>∃ bl bi,u=.func (.func 81) #[] #[.pointer (some ⟨bl,0,none⟩),.pointer (some ⟨bi,0,none⟩)]∧Iter Tryz.prog G' u ((fK id 0 l).map sW)):=by
 obtain ⟨A,c,rfl,hc1,hc2,hg⟩:=hv.slice;refine eN [(0,_),(1,_)] Tryz.func52 rfl Tryz.ntmps52 rfl rfl hG ?_;intro a H;refine aY (fun _ K1=>?_);refine bY (cs:=[_]) H wn rfl rfl rfl ?_;clear H;intro b2 a w hb2 H;refine bY (cs:=[_]) H wn rfl rfl rfl ?_;clear H;intro b3 a w hb3 H;refine kH H (Ra rfl (Kz K1 (SR fun _ K2=>?_)));clear H K1;intro a H;refine lT H wn rfl rfl ?_;clear H;intro a H;refine kH H (Ra rfl (Kz K2 ?_));clear H K2;intro a H;refine aR ?_;obtain ⟨G2,hm2,hb3,H⟩:=H.dB;obtain ⟨G3,mY,hb2,H⟩:=H.dB;refine lv H Tryz.results52 rfl ?_;exact H.hp.ret ⟨b3,b2,rfl,ih _ _ _ _ _ _ hz (aD mY (by unfold aB;rw [hb3];rfl)) (by unfold aB;rw [hb2];rfl) (hv.mono fun b o h=>mY _ _ (hm2 _ _ h))⟩
theorem KC:∀ l:List aN,(l.flatMap aN.cells).length≤fI l
 | []=>Nat.le_refl _
 | x :: l=>by
  have h1:=KC l;have h2:=AL x.cells;have h3:=tF x
  simp only [List.flatMap_cons,List.length_append,fI,List.map_cons,dw] at *;omega
theorem afK (l:List aN) (k:Nat):fI (l.take k)≤fI l:=by
 have h:fI l=fI (l.take k++l.drop k):=by rw [List.take_append_drop]
 rw [h];simp only [fI,List.map_append,aeR];omega
theorem Td (c:aJ) (l:List aJ):gZ (c :: l)=fK c.id 0 c.flow++gZ l:=by rw [gZ,S9]
set_option maxHeartbeats 1000000 in
theorem afB {n:Nat} (ih:AY n) (hn:n≤4294967296) {G:GH} {x:aj} {bx:Nat} {cs:List Value} (hsz:bP x.dat≤n) (hb:G bx=some (.cells cs.toArray 85 (0,0))) (hv:aO G x.dat cs) :
  Iter Tryz.prog G (.func (.func 111) #[] #[.pointer (some ⟨bx,0,none⟩)]) ((gZ (iL x)).map sW):=by
 intro J Jx fv G1 L w0 yP hGi jw hJx hJ hO hcb;refine jI (caps:=[.pointer (some ⟨bx,0,none⟩)]) JY ?_;obtain ⟨pA,pn,pc,dA,dn,dc,yA,yn,yc,fA,fn,fc,rA,rn,rc,rfl,hh,hf,hr⟩:=hv.item;have hsz1:=lF x;have hrn:=hr.len;rw [List.length_map] at hrn;subst hrn;have hrs:=CX x.rows
 have hrow:∀ j u,[vi x.kind,vi x.code,vi x.id,.string x.text,.slice pA pn pc,vi x.head.marks.ins,vi x.head.marks.move,.slice dA dn dc,.slice yA yn yc,.slice fA fn fc,.slice rA x.rows.length rc][j]?=some u→aB G1 bx (0+j)=some u:=by
  intro j u hj;refine aD hGi ?_
  unfold aB;rw [hb];simpa using hj
 have hfc:aB G1 bx 0=some (vi x.kind)∧aB G1 bx 2=some (vi x.id)∧aB G1 bx 9=some (.slice fA fn fc)∧aB G1 bx 10=some (.slice rA x.rows.length rc):=⟨hrow 0 _ rfl,hrow 2 _ rfl,hrow 9 _ rfl,hrow 10 _ rfl⟩;obtain ⟨hc0,hc2,hc9,agb⟩:=hfc
 have hml:4294967297≤maxLen:=by decide
 refine jv (N:=50) (T:=[(0,_),(1,_)]) Tryz.func111 rfl Tryz.ntmps111 rfl rfl hO ?_;intro a H;refine aY (fun _ K1=>?_);refine bY (cs:=[fv]) H wn rfl yP rfl ?_;clear H;intro b2 a w hb2 H;refine K1 _ _ ?_;clear K1;refine kP H (SR fun _ K2=>Rf wR rfl (Rg ak rfl (by assumption) ?_));clear H;intro a H;refine kH H (Rf yH rfl (Rg iR rfl (by assumption) ?_));clear H;intro a H;refine iP Uj [_,_,_,_,_,_,_] H wn rfl rfl rfl rfl ?_;clear H;intro a H;refine fM kg gQ [_,_,_,_,_,_,_] [_,_,_,_,_,_,_] H wn rfl rfl rfl rfl rfl (by intro i q h;match i,h with|0,h=>exact h|n+1,h=>simp at h) rfl rfl ?_;clear H;intro b15 a w GL H;refine kH H (Ra rfl (Kz K2 (SQ fun _ K3=>SR fun _ K4=>Rf jJ rfl (Rg ak rfl (by assumption) ?_))));clear H K2;intro a H;refine kH H (Rc rfl (Kz K4 (Cd rfl ?_ ?_))) <;> clear H K4
 ·intro h18 a H
  try have oZ:=dT h18
  refine kP H (SR fun _ K5=>Ra rfl (Kz K5 (SR fun _ K6=>Rf tV rfl (Rg uU rfl (by assumption) ?_))));clear H K5;intro a H;refine kH H (Rl lV rfl (Rm rfl (Kz K6 (SB ?_))));clear H K6;intro a H;skip;refine d9 (ι:=Nat × Value × List Value × OL) (Tc:=[(2,_),(20,_),(21,_)]) (Lc:=[(_,_)]) (fun (gh:Nat × Value × List Value × OL)=>[(3,gh.2.1),(22,vi gh.1)]) (fun (gh:Nat × Value × List Value × OL)=>[]++(L++gh.2.2.2)) (fun (gh:Nat × Value × List Value × OL)=>G1) (fun (gh:Nat × Value × List Value × OL)=>gh.1≤x.rows.length∧eB 90 7 gh.2.1 ((x.rows.take gh.1).flatMap aN.cells).length gh.2.2.1 gh.2.2.2∧eU G1 7 (((x.rows.take gh.1).flatMap aN.cells).map aJ.dat) gh.2.2.1) (fun (gh:Nat × Value × List Value × OL)=>x.rows.length - gh.1) ((0,.slice none 0 0,[],[])) (by exact (St.MX (A:=[_]) (H.bL (Pl:=[_,_]) (bB:=[_]) [1] (by decide) rfl)).sub ⟨rfl,rfl,rfl,rfl,rfl,trivial⟩) ?_ ?_
  ·exact ⟨by omega,eB.nil,by simpa using eU.nil⟩
  clear H;intro gh a w hI H;obtain ⟨rk,v3,xs,Lo⟩:=gh;dsimp only at hI H;obtain ⟨Hg,hrw3,gI⟩:=hI;dsimp only [List.cons_append,List.nil_append,List.append_nil] at H;refine kP H (SR fun _ K7=>Rc rfl (Kz K7 (SQ fun _ K8=>Cd rfl ?_ ?_))) <;> clear H K7
  ·intro h23 a H
   try have y9:=dT h23
   have hk2:rk < x.rows.length:=by omega
   obtain ⟨b,o,qA,qn,qc,eA,en,ec,zA,zn,zc,cA,cn,cc,rfl,hrow,xD,hcl⟩:=Cn hk2 hr.at_;replace hrow:=fun j u hj=>aD hGi (hrow j u hj);have QW:=hcl.len;rw [List.length_map] at QW;subst QW;have hsz2:=KC (x.rows.take (rk+1));have BU:=afK x.rows (rk+1);rw [List.take_succ_eq_append_getElem hk2,List.flatMap_append,List.length_append,List.flatMap_singleton] at hsz2;rw [List.take_succ_eq_append_getElem hk2] at BU;refine kP H (Kc K8 (SQ fun _ K9=>SB (SR fun _ aH=>Ri lV iV rfl rfl ?_)));clear H K8;intro a H;refine aK iV (cs:=[_,_,_,_,_,_]) H wn rfl rfl (fun j v hj=>H.hp.aB (hrow j v hj)) rfl ?_;clear H;intro a H;refine bX iV H wn rfl ?_;clear H;intro b5 a w hb5 H;refine aP iV 0 (vs:=[_,_,_,_,_,_]) _ H wn rfl rfl rfl rfl rfl rfl rfl rfl ?_;clear H;intro w H;dsimp only [List.set,setRow] at H;refine aH _ _ ?_;clear aH;refine kP H (SC (Rm rfl (Rf vM rfl (Ro wB 0 rfl rfl ?_))));clear H;intro a H;refine Nn (Li:=[_,_]++L) (Lo:=Lo) kg gQ rfl rfl (St.un (A:=[_,_]) H) wn rfl rfl hrw3 (hcl.mono hGi) (by omega) (by omega) rfl ?_;clear H;intro v29 VP news a w abH hcn H;refine kH H (Ra rfl ?_);clear H;intro a H;refine au ?_;replace H:=H.assoc.bL (Pl:=[_,_]) (bB:=[_]) [1] (by decide) rfl;refine K9 _ _ ?_;clear K9;refine kP H (SC (Rd rfl (Rm rfl ?_)));clear H;intro a H;refine au ?_;refine dD ((rk+1,v29,xs++news,VP)) (by exact H.sub ⟨rfl,rfl,rfl,rfl,rfl,trivial⟩) ?_ ?_
   ·(try dsimp only);exact ⟨by omega,by rw [List.take_succ_eq_append_getElem hk2,List.flatMap_append,List.length_append,List.flatMap_singleton];exact abH,by rw [List.take_succ_eq_append_getElem hk2,List.flatMap_append,List.map_append,List.flatMap_singleton];exact gI.append hcn⟩
   first|omega|(dsimp only;omega)
  intro h23 a H
  try have y9:=dF h23
  have abG:rk=x.rows.length:=by omega
  subst abG;rw [List.take_length] at hrw3 gI;obtain ⟨G3,mY,hin,H⟩:=(St.un (A:=[_]) H).rz (rows:=((x.rows.flatMap aN.cells)).map aJ.dat) hrw3 (by simp) gI
  replace hin:ah G3 (.sl 7 ((iL x).map aJ.dat)) v3:=by rw [iL,if_pos oZ];exact hin
  obtain ⟨iA,ni,ic,rfl⟩:=hin.form;have Mi:=hin.len;rw [List.length_map] at Mi
  have hisz:(iL x).length≤4294967296:=by
   have h1:=KC x.rows;rw [iL,if_pos oZ];omega
  refine dL ?_;refine K3 _ _ ?_;clear K3;refine kP H (SR fun _ aX=>Rm rfl (Rl kg rfl (Rm rfl (Kz aX (SB ?_)))));clear H aX;intro a H;skip;refine FI (ι:=Nat × Nat × OL × GH × List Nat) (Tc:=[(2,_),(31,_),(32,_)]) (Lc:=[(_,_)]) (fun (gh:Nat × Nat × OL × GH × List Nat)=>Cc gh.2.2.2.2) (fun (gh:Nat × Nat × OL × GH × List Nat)=>[(33,vi gh.1)]) (fun (gh:Nat × Nat × OL × GH × List Nat)=>[]++(jl gh.2.2.2.2++gh.2.2.1)) (fun (gh:Nat × Nat × OL × GH × List Nat)=>gh.2.2.2.1) (fun (gh:Nat × Nat × OL × GH × List Nat)=>gh.1≤(iL x).length∧(∀ b o,G3 b=some o→gh.2.2.2.1 b=some o)∧Now ((gZ (iL x)).map sW) sW J (gZ (iL x)).length gh.2.1 (gZ ((iL x).drop gh.1)) gh.2.2.2.1 gh.2.2.1) (fun (gh:Nat × Nat × OL × GH × List Nat)=>(iL x).length - gh.1) ((0,0,L,G3,[])) (by exact (H).sub ⟨rfl,rfl,rfl,rfl,trivial⟩) ?_ ?_
  ·exact ⟨by omega,fun _ _ h=>h,⟨jw _ _ _ _ mY hJ,fun i a h=>by rw [Nat.zero_add,List.getElem?_map];rw [List.drop_zero] at h;rw [h];rfl,by simp⟩⟩
  clear H;intro gh a w hI H;obtain ⟨ck,j1,Lt,g,ds⟩:=gh;dsimp only at hI H;obtain ⟨hck,hgm,bE⟩:=hI;dsimp only [List.cons_append,List.nil_append,List.append_nil] at H;refine kP H (SR fun _ bD=>Rc rfl (Kz bD (SQ fun _ bH=>Cd rfl ?_ ?_))) <;> clear H bD
  ·intro cZ a H
   try have p34:=dT cZ
   have hk3:ck < (iL x).length:=by omega
   obtain ⟨b,o,sA,sn,sc,tA,tn,tc,uA,un,uc,gA,gn,gc,LU,hrow,hch,hcf⟩:=zM hk3 hin.at_;subst LU;replace hrow:=fun j u hj=>aD hgm (hrow j u hj);rw [List.drop_eq_getElem_cons hk3,Td] at bE;refine kP H (Kc bH (SQ fun _ bG=>SB (SR fun _ bV=>Ri kg gQ rfl rfl ?_)));clear H bH;intro a H;refine aK gQ (cs:=[_,_,_,_,_,_,_]) H wn rfl rfl (fun j v hj=>H.hp.aB (hrow j v hj)) rfl ?_;clear H;intro a H;refine bX gQ H wn rfl ?_;clear H;intro b7 a w pU H;refine aP gQ 0 (vs:=[_,_,_,_,_,_,_]) _ H wn rfl rfl rfl rfl rfl rfl rfl rfl ?_;clear H;intro w H;dsimp only [List.set,setRow] at H;refine bV _ _ ?_;clear bV;refine kP H (SR fun _ bQ=>Rf wS rfl (Ro ak 0 rfl rfl (Rf yI rfl (Ro iR 0 rfl rfl ?_))));clear H;intro a H;refine s_call J8 H wn rfl (Ng ih _ _ H.hp.ro (iL x)[ck].flow (iL x)[ck].id _ (by have:=R8 (List.getElem_mem hk3);omega) (hcf.mono hgm)) rfl ?_;clear H;rintro v41 Da a w ⟨bl,bi,rfl,hit⟩ vS H;refine bQ _ _ ?_;clear bQ;refine lZ ?_;skip;refine tK (ι:=OL) (κ:=OL) (Lc:=[(_,_),(_,_)]) (fun (k:Nat) (gh:OL)=>[]) (fun (k:Nat) (gh:OL)=>(jl ds++gh)) (fun (k:Nat) (gh:OL) (g:GH)=>J (j1+k) g gh) (fun (gx:OL)=>Code.ret) (fun (gx:OL)=>[]) (fun (gx:OL)=>(jl ds++gx)) (fun (gx:OL) (g:GH)=>Jx g gx) (Lt) (by exact H) rfl Gg (hit) (fun _ _ h=>h) rfl (fun k args g h=>by obtain ⟨_,_,rfl,_⟩:=vY h;rfl) (fun k i G G' hm h=>jw _ _ _ _ hm h) (fun x G G' hm h=>hJx _ _ _ hm h) (jw _ _ _ _ vS bE.now) ?_ ?_ ?_
   ·clear H;intro l13 oD mM bk k args gh vg w13 Vq Vi a LW nY hI LC Mg Mw H;obtain ⟨mJ,hgh⟩:∃ x,x=gh:=⟨_,rfl⟩;subst hgh;obtain ⟨hk,FR,rfl,rT⟩:=vY LW;obtain ⟨aA,an,ac,bA,bn,bc,FT,FV,FU,FX,Gf,FY,Ho,Hu,Ht,rfl,-⟩:=rT.item;dsimp only [lY,List.cons_append,List.nil_append] at H;refine aY (fun _ bS=>?_);refine bX bN H wn rfl ?_;clear H;intro b8 a w rG H;refine aP bN 0 (vs:=[_,_]) _ H wn rfl rfl rfl rfl rfl rfl rfl rfl ?_;clear H;intro w H;dsimp only [List.set,setRow] at H;refine bS _ _ ?_;clear bS;refine mP ?_;refine bX dH H wn rfl ?_;clear H;intro b9 a w rH H;refine aP dH 0 (vs:=[_,_,_,_,_,_,_,_,_,_,_]) _ H wn rfl rfl rfl rfl rfl rfl rfl rfl ?_;clear H;intro w H;dsimp only [List.set,setRow] at H;refine au ?_;refine LC _ _ _ _ _ _ (by exact H.bL (Pl:=[_,_,_,_,_]) (bB:=[_,_,_,_,_]) [2,0,1,3,4] (by decide) rfl) ?_;clear H;intro w H;refine kP H (SB (SR fun _ cO=>Ro Cy 4 rfl rfl ?_));clear H;intro a H;refine aK bN (cs:=[_,_]) H wn rfl rfl (H.hp.bF 2 rfl rfl) rfl ?_;clear H;intro a H;refine aK dH (cs:=[_,_,_,_,_,_,_,_,_,_,_]) H wn rfl rfl (H.hp.bF 1 rfl rfl) rfl ?_;clear H;intro a H;refine sG (Li:=([_,_,_,_,_]++bk)++jl ds) (L:=mJ) (St.un (A:=[_,_,_,_,_]++bk) (St.un (A:=[_,_,_,_,_]) H)) wn rfl rfl (hcb (j1+k) _ _ _ _ ⟨_,bE.part k _ (List.getElem?_eq_getElem hk),_,rfl,rT⟩ (fun b o h=>nY b o (vS b o (hgm b o (mY b o h)))) hI (Hp.owns (Li:=([_,_,_,_,_]++bk)++jl ds) (St.un (A:=[_,_,_,_,_]++bk) (St.un (A:=[_,_,_,_,_]) H)).hp)) rfl ?_;clear H;rintro v47 Jf Dn a w ⟨V4,rfl,hb1,hb2⟩ abm H
    simp only [List.append_assoc,List.cons_append,List.nil_append] at H
    refine kH H (Rn rfl (Kz cO (Cd rfl ?_ ?_))) <;> clear H cO
    ·intro h48 a H
     try have p48:=dT h48
     refine aR ?_;refine (Mw (Dn) _ _ _ _ _ (by exact H.bL (Pl:=[_,_,_,_,_]) (bB:=[_,_,_]) [0,3,4] (by decide) rfl) ?_).1 rfl;exact hb2 (by simpa using h48)
    intro h48 a H
    try have p48:=dF h48
    refine eX ?_;refine Mg (Dn) _ _ _ _ _ (by exact H.bL (Pl:=[_,_,_,_,_]) (bB:=[_,_,_]) [0,3,4] (by decide) rfl) ?_;exact hb1 (by simpa using h48)
   ·clear H;intro CY gh Db a w nY hI H;obtain ⟨mJ,hgh⟩:∃ x,x=gh:=⟨_,rfl⟩;subst hgh;dsimp only [List.cons_append,List.nil_append,List.append_nil] at H;refine bG _ _ ?_;clear bG;refine kP H (SC (Rd rfl (Rm rfl ?_)));clear H;intro a H;refine au ?_;refine Ak ((ck+1,j1+(fK (iL x)[ck].id 0 (iL x)[ck].flow).length,mJ,Db,CY :: ds)) (by exact (H.bL (Pl:=[_,_,_]) (bB:=[_,_]) [2,0] (by decide) rfl).sub ⟨rfl,rfl,rfl,rfl,trivial⟩) ?_ ?_
    ·(try dsimp only);exact ⟨by omega,fun b o h=>nY b o (vS b o (hgm b o h)),bE.jump (by simpa using hI)⟩
    first|omega|(dsimp only;omega)
   clear H;intro CY gx Db a w nY hI H;obtain ⟨Lx,hgh⟩:∃ x,x=gx:=⟨_,rfl⟩;subst hgh;dsimp only [List.cons_append,List.nil_append,List.append_nil] at H;refine aR ?_;refine (oo H 0 rfl ?_).1;clear H;intro a w H;dsimp only [List.eraseIdx_cons_succ,List.eraseIdx_cons_zero] at H;refine (sV (Lh:=[_,_]) _ H ?_).1;clear H;intro a w H;dsimp only [List.cons_append,List.nil_append] at H;refine (leave0 H Tryz.results111 ?_).1
   first
    | exact H.hp.bR (L':=Lx) (by repeat (first|exact List.Sublist.refl _|apply List.Sublist.cons)) (.inr hI)
    | exact H.hp.bR (L':=Lt) (by repeat (first|exact List.Sublist.refl _|apply List.Sublist.cons)) (.inl (by rw [List.drop_of_length_le (by omega),gZ] at bE;have:=bE.len;simp only [List.length_nil,Nat.add_zero] at this;rw [List.length_map,← this];exact bE.now))
  intro cZ a H
  try have p34:=dF cZ
  refine dL ?_;refine (sV (Lh:=[_]) _ H ?_).2;clear H;intro a w H;dsimp only [List.cons_append,List.nil_append] at H;refine (leave0 H Tryz.results111 ?_).1
  first
   | exact H.hp.bR (L':=Lx) (by repeat (first|exact List.Sublist.refl _|apply List.Sublist.cons)) (.inr hI)
   | exact H.hp.bR (L':=Lt) (by repeat (first|exact List.Sublist.refl _|apply List.Sublist.cons)) (.inl (by rw [List.drop_of_length_le (by omega),gZ] at bE;have:=bE.len;simp only [List.length_nil,Nat.add_zero] at this;rw [List.length_map,← this];exact bE.now))
 intro h18 a H
 try have oZ:=dF h18
 obtain ⟨G3,mY,hin,H⟩:=H.KE (sz:=7) (d:=(aJ.mk x.id ⟨[],⟨0,0,[],[]⟩⟩ x.flow).dat) rfl (aO.MV (x:=aJ.mk x.id ⟨[],⟨0,0,[],[]⟩⟩ x.flow) ⟨ah.gq rfl (by decide),ah.gq rfl (by decide),ah.gq rfl (by decide)⟩ (hf.mono hGi))
 replace hin:ah G3 (.sl 7 ((iL x).map aJ.dat)) (.slice (some ⟨b15,0,none⟩) 1 1):=by rw [iL,if_neg oZ];exact hin
 obtain ⟨iA,hiA⟩:∃ z,z=some (Addr.mk b15 0 none):=⟨_,rfl⟩;obtain ⟨ni,hni⟩:∃ z,z=1:=⟨_,rfl⟩;obtain ⟨ic,hic⟩:∃ z,z=1:=⟨_,rfl⟩;rw [← hiA] at hin H;have Mi:=hin.len;rw [List.length_map] at Mi
 have hisz:(iL x).length≤4294967296:=by omega
 refine kP H (Kc K3 (SR fun _ dV=>Rm rfl (Rl kg rfl (Rm rfl (Kz dV (SB ?_))))));clear H K3 dV;intro a H;skip;refine FI (ι:=Nat × Nat × OL × GH × List Nat) (Tc:=[(2,_),(31,_),(32,_)]) (Lc:=[(_,_)]) (fun (gh:Nat × Nat × OL × GH × List Nat)=>Cc gh.2.2.2.2) (fun (gh:Nat × Nat × OL × GH × List Nat)=>[(33,vi gh.1)]) (fun (gh:Nat × Nat × OL × GH × List Nat)=>[]++(jl gh.2.2.2.2++gh.2.2.1)) (fun (gh:Nat × Nat × OL × GH × List Nat)=>gh.2.2.2.1) (fun (gh:Nat × Nat × OL × GH × List Nat)=>gh.1≤(iL x).length∧(∀ b o,G3 b=some o→gh.2.2.2.1 b=some o)∧Now ((gZ (iL x)).map sW) sW J (gZ (iL x)).length gh.2.1 (gZ ((iL x).drop gh.1)) gh.2.2.2.1 gh.2.2.1) (fun (gh:Nat × Nat × OL × GH × List Nat)=>(iL x).length - gh.1) ((0,0,L,G3,[])) (by exact (H).sub ⟨rfl,rfl,rfl,rfl,trivial⟩) ?_ ?_
 ·exact ⟨by omega,fun _ _ h=>h,⟨jw _ _ _ _ mY hJ,fun i a h=>by rw [Nat.zero_add,List.getElem?_map];rw [List.drop_zero] at h;rw [h];rfl,by simp⟩⟩
 clear H;intro gh a w hI H;obtain ⟨ck,j1,Lt,g,ds⟩:=gh;dsimp only at hI H;obtain ⟨hck,hgm,bE⟩:=hI;dsimp only [List.cons_append,List.nil_append,List.append_nil] at H;refine kP H (SR fun _ dI=>Rc rfl (Kz dI (SQ fun _ eH=>Cd rfl ?_ ?_))) <;> clear H dI
 ·intro cZ a H
  try have p34:=dT cZ
  have hk3:ck < (iL x).length:=by omega
  obtain ⟨b,o,sA,sn,sc,tA,tn,tc,uA,un,uc,gA,gn,gc,LU,hrow,hch,hcf⟩:=zM hk3 hin.at_;subst LU;replace hrow:=fun j u hj=>aD hgm (hrow j u hj);rw [List.drop_eq_getElem_cons hk3,Td] at bE;refine kP H (Kc eH (SQ fun _ fq=>SB (SR fun _ gK=>Ri kg gQ rfl rfl ?_)));clear H eH;intro a H;refine aK gQ (cs:=[_,_,_,_,_,_,_]) H wn rfl rfl (fun j v hj=>H.hp.aB (hrow j v hj)) rfl ?_;clear H;intro a H;refine bX gQ H wn rfl ?_;clear H;intro b7 a w pU H;refine aP gQ 0 (vs:=[_,_,_,_,_,_,_]) _ H wn rfl rfl rfl rfl rfl rfl rfl rfl ?_;clear H;intro w H;dsimp only [List.set,setRow] at H;refine gK _ _ ?_;clear gK;refine kP H (SR fun _ gF=>Rf wS rfl (Ro ak 0 rfl rfl (Rf yI rfl (Ro iR 0 rfl rfl ?_))));clear H;intro a H;refine s_call J8 H wn rfl (Ng ih _ _ H.hp.ro (iL x)[ck].flow (iL x)[ck].id _ (by have:=R8 (List.getElem_mem hk3);omega) (hcf.mono hgm)) rfl ?_;clear H;rintro v41 Da a w ⟨bl,bi,rfl,hit⟩ vS H;refine gF _ _ ?_;clear gF;refine lZ ?_;skip;refine tK (ι:=OL) (κ:=OL) (Lc:=[(_,_),(_,_)]) (fun (k:Nat) (gh:OL)=>[]) (fun (k:Nat) (gh:OL)=>(jl ds++gh)) (fun (k:Nat) (gh:OL) (g:GH)=>J (j1+k) g gh) (fun (gx:OL)=>Code.ret) (fun (gx:OL)=>[]) (fun (gx:OL)=>(jl ds++gx)) (fun (gx:OL) (g:GH)=>Jx g gx) (Lt) (by exact H) rfl Gg (hit) (fun _ _ h=>h) rfl (fun k args g h=>by obtain ⟨_,_,rfl,_⟩:=vY h;rfl) (fun k i G G' hm h=>jw _ _ _ _ hm h) (fun x G G' hm h=>hJx _ _ _ hm h) (jw _ _ _ _ vS bE.now) ?_ ?_ ?_
  ·clear H;intro l13 oD mM bk k args gh vg w13 Vq Vi a LW nY hI LC Mg Mw H;obtain ⟨mJ,hgh⟩:∃ x,x=gh:=⟨_,rfl⟩;subst hgh;obtain ⟨hk,FR,rfl,rT⟩:=vY LW;obtain ⟨aA,an,ac,bA,bn,bc,FT,FV,FU,FX,Gf,FY,Ho,Hu,Ht,rfl,-⟩:=rT.item;dsimp only [lY,List.cons_append,List.nil_append] at H;refine aY (fun _ fO=>?_);refine bX bN H wn rfl ?_;clear H;intro b8 a w rG H;refine aP bN 0 (vs:=[_,_]) _ H wn rfl rfl rfl rfl rfl rfl rfl rfl ?_;clear H;intro w H;dsimp only [List.set,setRow] at H;refine fO _ _ ?_;clear fO;refine mP ?_;refine bX dH H wn rfl ?_;clear H;intro b9 a w rH H;refine aP dH 0 (vs:=[_,_,_,_,_,_,_,_,_,_,_]) _ H wn rfl rfl rfl rfl rfl rfl rfl rfl ?_;clear H;intro w H;dsimp only [List.set,setRow] at H;refine au ?_;refine LC _ _ _ _ _ _ (by exact H.bL (Pl:=[_,_,_,_,_]) (bB:=[_,_,_,_,_]) [2,0,1,3,4] (by decide) rfl) ?_;clear H;intro w H;refine kP H (SB (SR fun _ iF=>Ro Cy 4 rfl rfl ?_));clear H;intro a H;refine aK bN (cs:=[_,_]) H wn rfl rfl (H.hp.bF 2 rfl rfl) rfl ?_;clear H;intro a H;refine aK dH (cs:=[_,_,_,_,_,_,_,_,_,_,_]) H wn rfl rfl (H.hp.bF 1 rfl rfl) rfl ?_;clear H;intro a H;refine sG (Li:=([_,_,_,_,_]++bk)++jl ds) (L:=mJ) (St.un (A:=[_,_,_,_,_]++bk) (St.un (A:=[_,_,_,_,_]) H)) wn rfl rfl (hcb (j1+k) _ _ _ _ ⟨_,bE.part k _ (List.getElem?_eq_getElem hk),_,rfl,rT⟩ (fun b o h=>nY b o (vS b o (hgm b o (mY b o h)))) hI (Hp.owns (Li:=([_,_,_,_,_]++bk)++jl ds) (St.un (A:=[_,_,_,_,_]++bk) (St.un (A:=[_,_,_,_,_]) H)).hp)) rfl ?_;clear H;rintro v47 Jf Dn a w ⟨V4,rfl,hb1,hb2⟩ abm H
   simp only [List.append_assoc,List.cons_append,List.nil_append] at H
   refine kH H (Rn rfl (Kz iF (Cd rfl ?_ ?_))) <;> clear H iF
   ·intro h48 a H
    try have p48:=dT h48
    refine aR ?_;refine (Mw (Dn) _ _ _ _ _ (by exact H.bL (Pl:=[_,_,_,_,_]) (bB:=[_,_,_]) [0,3,4] (by decide) rfl) ?_).1 rfl;exact hb2 (by simpa using h48)
   intro h48 a H
   try have p48:=dF h48
   refine eX ?_;refine Mg (Dn) _ _ _ _ _ (by exact H.bL (Pl:=[_,_,_,_,_]) (bB:=[_,_,_]) [0,3,4] (by decide) rfl) ?_;exact hb1 (by simpa using h48)
  ·clear H;intro CY gh Db a w nY hI H;obtain ⟨mJ,hgh⟩:∃ x,x=gh:=⟨_,rfl⟩;subst hgh;dsimp only [List.cons_append,List.nil_append,List.append_nil] at H;refine fq _ _ ?_;clear fq;refine kP H (SC (Rd rfl (Rm rfl ?_)));clear H;intro a H;refine au ?_;refine Ak ((ck+1,j1+(fK (iL x)[ck].id 0 (iL x)[ck].flow).length,mJ,Db,CY :: ds)) (by exact (H.bL (Pl:=[_,_,_]) (bB:=[_,_]) [2,0] (by decide) rfl).sub ⟨rfl,rfl,rfl,rfl,trivial⟩) ?_ ?_
   ·(try dsimp only);exact ⟨by omega,fun b o h=>nY b o (vS b o (hgm b o h)),bE.jump (by simpa using hI)⟩
   first|omega|(dsimp only;omega)
  clear H;intro CY gx Db a w nY hI H;obtain ⟨Lx,hgh⟩:∃ x,x=gx:=⟨_,rfl⟩;subst hgh;dsimp only [List.cons_append,List.nil_append,List.append_nil] at H;refine aR ?_;refine (oo H 0 rfl ?_).1;clear H;intro a w H;dsimp only [List.eraseIdx_cons_succ,List.eraseIdx_cons_zero] at H;refine (sV (Lh:=[_,_]) _ H ?_).1;clear H;intro a w H;dsimp only [List.cons_append,List.nil_append] at H;refine (leave0 H Tryz.results111 ?_).1
  first
   | exact H.hp.bR (L':=Lx) (by repeat (first|exact List.Sublist.refl _|apply List.Sublist.cons)) (.inr hI)
   | exact H.hp.bR (L':=Lt) (by repeat (first|exact List.Sublist.refl _|apply List.Sublist.cons)) (.inl (by rw [List.drop_of_length_le (by omega),gZ] at bE;have:=bE.len;simp only [List.length_nil,Nat.add_zero] at this;rw [List.length_map,← this];exact bE.now))
 intro cZ a H
 try have p34:=dF cZ
 refine dL ?_;refine (sV (Lh:=[_]) _ H ?_).2;clear H;intro a w H;dsimp only [List.cons_append,List.nil_append] at H;refine (leave0 H Tryz.results111 ?_).1
 first
  | exact H.hp.bR (L':=Lx) (by repeat (first|exact List.Sublist.refl _|apply List.Sublist.cons)) (.inr hI)
  | exact H.hp.bR (L':=Lt) (by repeat (first|exact List.Sublist.refl _|apply List.Sublist.cons)) (.inl (by rw [List.drop_of_length_le (by omega),gZ] at bE;have:=bE.len;simp only [List.length_nil,Nat.add_zero] at this;rw [List.length_map,← this];exact bE.now))
theorem U1 {n:Nat} (ih:AY n) (hn:n≤4294967296) (G:GH) (w0:World) (hG:Hold G w0) (x:aj) (cs:List Value) (hsz:bP x.dat≤n) (hv:aO G x.dat cs) :
  Calls Tryz.prog 82 #[.agg cs.toArray] w0 (aU w0 G fun u G'=>∃ bx,u=.func (.func 111) #[] #[.pointer (some ⟨bx,0,none⟩)]∧Iter Tryz.prog G' u ((gZ (iL x)).map sW)):=by
 obtain ⟨pA,pn,pc,dA,dn,dc,yA,yn,yc,fA,fn,fc,rA,rn,rc,hcs,-⟩:=hv.item;have hv2:=hv;rw [hcs] at hv2 ⊢;refine eN [(0,_)] Tryz.func82 rfl Tryz.ntmps82 rfl rfl hG ?_;intro a H;refine aY (fun _ K1=>?_);refine bY (cs:=[_,_,_,_,_,_,_,_,_,_,_]) H wn rfl rfl rfl ?_;clear H;intro b1 a w hb1 H;refine kH H (Ra rfl (Kz K1 (SR fun _ K2=>?_)));clear H K1;intro a H;refine lT H wn rfl rfl ?_;clear H;intro a H;refine kH H (Ra rfl (Kz K2 ?_));clear H K2;intro a H;refine aR ?_;obtain ⟨G2,hm2,hb1,H⟩:=H.dB;refine lv H Tryz.results82 rfl ?_;exact H.hp.ret ⟨b1,rfl,afB ih hn hsz hb1 (hv2.mono hm2)⟩
theorem VW (x:aj):nH x < bP x.dat:=by
 have h1:=lF x;have h2:=yG x.text
 unfold nH;split <;> omega
set_option maxHeartbeats 1000000 in
theorem adt {n:Nat} (ih:AY n) (hn:n≤4294967296):AY (n+1):=by
 intro G l id bl bi v hz hbl hbi hv J Jx fv G1 L w0 yP hGi jw hJx hJ hO hcb;refine jI (caps:=[.pointer (some ⟨bl,0,none⟩),.pointer (some ⟨bi,0,none⟩)]) Gg ?_;obtain ⟨A,c,rfl,hc1,hc2,hg⟩:=hv.slice;rw [List.length_map] at *;have hll:=CW l;replace hbl:=aD hGi hbl;replace hbi:=aD hGi hbi;refine jv (N:=55) (T:=[(0,_),(1,_),(2,_)]) Tryz.func81 rfl Tryz.ntmps81 rfl rfl hO ?_;intro a H;refine aY (fun _ K1=>?_);refine bY (cs:=[fv]) H wn rfl yP rfl ?_;clear H;intro b3 a w hb3 H;refine K1 _ _ ?_;clear K1;refine kP H (SR fun _ K2=>Ra rfl (Kz K2 (SR fun _ K3=>Rg iR rfl (by assumption) ?_)));clear H K2;intro a H;refine kH H (Rl jO rfl (Rm rfl (Kz K3 (SB ?_))));clear H K3;intro a H;skip;refine FI (ι:=Nat × Int × Nat × OL × GH × List Nat) (Tc:=[(2,_),(3,_),(12,_),(13,_)]) (Lc:=[(_,_)]) (fun (gh:Nat × Int × Nat × OL × GH × List Nat)=>Cc gh.2.2.2.2.2) (fun (gh:Nat × Int × Nat × OL × GH × List Nat)=>[(4,vi gh.2.1),(14,vi gh.1)]) (fun (gh:Nat × Int × Nat × OL × GH × List Nat)=>[]++(jl gh.2.2.2.2.2++gh.2.2.2.1)) (fun (gh:Nat × Int × Nat × OL × GH × List Nat)=>gh.2.2.2.2.1) (fun (gh:Nat × Int × Nat × OL × GH × List Nat)=>gh.1≤l.length∧(∀ b o,G1 b=some o→gh.2.2.2.2.1 b=some o)∧Now ((fK id 0 l).map sW) sW J (fK id 0 l).length gh.2.2.1 (fK id gh.2.1 (l.drop gh.1)) gh.2.2.2.2.1 gh.2.2.2.1∧0≤gh.2.1∧gh.2.1+aS (l.drop gh.1)≤n) (fun (gh:Nat × Int × Nat × OL × GH × List Nat)=>l.length - gh.1) ((0,0,0,L,G1,[])) (by exact (H).sub ⟨rfl,rfl,rfl,rfl,rfl,rfl,trivial⟩) ?_ ?_
 ·exact ⟨by omega,fun _ _ h=>h,⟨hJ,fun i a h=>by rw [Nat.zero_add,List.getElem?_map];rw [List.drop_zero] at h;rw [h];rfl,by simp⟩,Int.le_refl _,by simp;omega⟩
 clear H;intro gh a w hI H;obtain ⟨k,at_,j1,Lt,g,ds⟩:=gh;dsimp only at hI H;obtain ⟨hk,hgm,bE,afX,hat⟩:=hI;dsimp only [List.cons_append,List.nil_append,List.append_nil] at H;refine kP H (SR fun _ K4=>Rc rfl (Kz K4 (SQ fun _ K5=>Cd rfl ?_ ?_))) <;> clear H K4
 ·intro iM a H
  try have kQ:=dT iM
  have hk2:k < l.length:=by omega
  obtain ⟨b,o,pA,pn,pc,dA,dn,dc,yA,yn,yc,fA,fn,fc,rA,rn,rc,rfl,hrow,hhd,hfl,hrw⟩:=BD hk2 hg;have rJ:∀ b o,G b=some o→g b=some o:=fun b o h=>hgm b o (hGi b o h);replace hrow:=fun j u hj=>aD rJ (hrow j u hj);have aga:=aD hgm hbi;have hsz1:=lF l[k];have hsz2:=Ja (List.getElem_mem hk2);have afW:=VW l[k];rw [List.drop_eq_getElem_cons hk2] at bE hat;rw [aS,List.map_cons,dw] at hat;rw [fK] at bE;refine kP H (Kc K5 (SQ fun _ K6=>SB (SR fun _ K7=>Ri jO dH rfl rfl ?_)));clear H K5;intro a H;refine aK dH (cs:=[_,_,_,_,_,_,_,_,_,_,_]) H wn rfl rfl (fun j v hj=>H.hp.aB (hrow j v hj)) rfl ?_;clear H;intro a H;refine bX dH H wn rfl ?_;clear H;intro b6 a w hb6 H;refine aP dH 0 (vs:=[_,_,_,_,_,_,_,_,_,_,_]) _ H wn rfl rfl rfl rfl rfl rfl rfl rfl ?_;clear H;intro w H;dsimp only [List.set,setRow] at H;refine K7 _ _ ?_;clear K7;refine kP H (SR fun _ K8=>Rg ak rfl (by assumption) ?_);clear H;intro a H;refine kH H (Rm rfl ?_);clear H;intro a H;refine iP wo [_,_] H wn rfl rfl rfl rfl ?_;clear H;intro a H;refine bX bN H wn rfl ?_;clear H;intro b7 a w pU H;refine aP bN 0 (vs:=[_,_]) _ H wn rfl rfl rfl rfl rfl rfl rfl rfl ?_;clear H;intro w H;dsimp only [List.set,setRow] at H;refine K8 _ _ ?_;clear K8;refine kP H (SR fun _ K9=>Rm rfl (Rd rfl (Ra rfl (Kz K9 (SR fun _ aH=>Rf jJ rfl (Ro ak 1 rfl rfl (Kz aH (SB (SR fun _ aX=>Rc rfl (Ra rfl (Kz aX ?_)))))))))));clear H K9 aH aX;intro a H;refine l6 H rfl ?_ ?_
  ·intro kG
   try have p25:=dT kG
   have hcl:=yG l[k].text;refine kP H (SR fun _ bD=>Rf vL rfl (Ro gB 1 rfl rfl ?_));clear H;intro a H;refine s_call Gd H wn rfl (FQ _ _ H.hp.ro _ (by omega)) rfl ?_;clear H;rintro v30 wF a w ⟨rfl,rfl⟩ uy H;refine kH H (Rm rfl ?_);clear H;intro a H;(iterate 2 refine gV H wn rfl rfl rfl ?_;clear H;intro a H);refine kH H (Ra rfl (Ra rfl (Kz bD (SC (Rm rfl (Rm rfl (Rs rfl (Rd rfl (Ra rfl ?_)))))))));clear H bD;intro a H
   have e:at_+1+((oQ l[k].text:Int) - 1)=at_+(nH l[k]:Int):=by rw [nH,if_pos p25];omega
   rw [e] at H;refine kH H (Kn K6 (SC (Rd rfl (Rm rfl ?_))));clear H K6;intro a H;refine au ?_;refine Ak ((k+1,at_+nH l[k],j1,Lt,g,ds)) (by exact (H.bL (Pl:=[_,_,_]) (bB:=[_]) [2] (by decide) rfl).sub ⟨rfl,rfl,rfl,rfl,rfl,rfl,trivial⟩) ?_ ?_
   ·(try dsimp only);exact ⟨by omega,hgm,by rw [Ci,if_neg (by omega),List.nil_append] at bE;exact bE,by omega,by show at_+(nH l[k]:Int)+(dw ((l.drop (k+1)).map aj.dat):Nat)≤n;omega⟩
   first|omega|(dsimp only;omega)
  intro kG
  try have p25:=dF kG
  have e:at_+1=at_+(nH l[k]:Int):=by rw [nH,if_neg p25];rfl
  rw [e] at H;refine kP H (SQ fun _ bH=>SR fun _ bG=>Rc rfl (Ra rfl (Kz bG (Cd rfl ?_ ?_)))) <;> clear H bG
  ·intro h37 a H
   try have p37:=dT h37
   have zV:l[k].kind=6∨l[k].kind=7:=by first|exact .inl p37|exact .inr p37
   rw [Ci,if_pos zV] at bE;refine kP H (Kc bH (Ct rfl h37 (SQ fun _ bV=>SR fun _ bQ=>Ro Cy 2 rfl rfl ?_)));clear H bH;intro a H;refine aK bN (cs:=[_,_]) H wn rfl rfl (H.hp.bF 0 rfl rfl) rfl ?_;clear H;intro a H;refine aK dH (cs:=[_,_,_,_,_,_,_,_,_,_,_]) H wn rfl rfl (H.hp.bF 1 rfl rfl) rfl ?_;clear H;intro a H;refine sG (Li:=[_,_,_]++jl ds) (L:=Lt) (St.un (A:=[_,_,_]) H) wn rfl rfl (hcb j1 _ _ _ _ ⟨_,bE.head,_,rfl,aO.mkItem (hhd.mono rJ) (hfl.mono rJ) (hrw.mono rJ)⟩ hgm bE.now (Hp.owns (Li:=[_,_,_]++jl ds) (St.un (A:=[_,_,_]) H).hp)) rfl ?_;clear H;rintro v43 wG yB a w ⟨FE,rfl,hb1,hb2⟩ kC H
   simp only [List.append_assoc,List.cons_append,List.nil_append] at H
   refine kH H (Rn rfl (Kz bQ (Cd rfl ?_ ?_))) <;> clear H bQ
   ·intro jS a H
    try have p44:=dT jS
    refine aR ?_;refine (sV (Lh:=[_,_,_]) _ H ?_).1;clear H;intro a w H;dsimp only [List.cons_append,List.nil_append] at H;refine (leave0 H Tryz.results81 ?_).1
    first
     | exact H.hp.bR (L':=Lx) (by repeat (first|exact List.Sublist.refl _|apply List.Sublist.cons)) (.inr hI)
     | exact H.hp.bR (L':=yB) (by repeat (first|exact List.Sublist.refl _|apply List.Sublist.cons)) (.inr (hb2 (by simpa using jS)))
     | exact H.hp.bR (L':=Lt) (by repeat (first|exact List.Sublist.refl _|apply List.Sublist.cons)) (.inl (by rw [List.drop_of_length_le (by omega),fK] at bE;have:=bE.len;simp only [List.length_nil,Nat.add_zero] at this;(try rw [List.length_map]);rw [← this];exact bE.now))
   intro jS a H
   try have p44:=dF jS
   have sQ:=bE.step (hb1 (by simpa using jS));refine eX ?_;refine bV _ _ ?_;clear bV;refine aY (fun _ bS=>?_);refine aK dH (cs:=[_,_,_,_,_,_,_,_,_,_,_]) H wn rfl rfl (H.hp.bF 1 rfl rfl) rfl ?_;clear H;intro a H;refine s_call Qa H wn rfl (U1 ih hn _ _ H.hp.ro l[k] _ (by omega) (aO.mkItem (hhd.mono fun b o h=>kC b o (rJ b o h)) (hfl.mono fun b o h=>kC b o (rJ b o h)) (hrw.mono fun b o h=>kC b o (rJ b o h)))) rfl ?_;clear H;rintro v46 Je a w ⟨bx,rfl,hit⟩ xB H;refine bS _ _ ?_;clear bS;refine lZ ?_;skip;refine tK (ι:=OL) (κ:=OL) (Lc:=[(_,_),(_,_),(_,_)]) (fun (k:Nat) (gh:OL)=>[]) (fun (k:Nat) (gh:OL)=>(jl ds++gh)) (fun (k:Nat) (gh:OL) (g:GH)=>J (j1+1+k) g gh) (fun (gx:OL)=>Code.ret) (fun (gx:OL)=>[]) (fun (gx:OL)=>(jl ds++gx)) (fun (gx:OL) (g:GH)=>Jx g gx) (yB) (by exact H) rfl JY (hit) (fun _ _ h=>h) rfl (fun k args g h=>by obtain ⟨_,_,rfl,_⟩:=vY h;rfl) (fun k i G G' hm h=>jw _ _ _ _ hm h) (fun x G G' hm h=>hJx _ _ _ hm h) (jw _ _ _ _ xB sQ.now) ?_ ?_ ?_
   ·clear H;intro l15 oD mM bk k args gh zy w15 Vr Vj a LX rO hI LD Mh Mx H;obtain ⟨mJ,hgh⟩:∃ x,x=gh:=⟨_,rfl⟩;subst hgh;obtain ⟨LY,FR,rfl,rT⟩:=vY LX;obtain ⟨aA,an,ac,bA,bn,bc,FT,FV,FU,FX,Gf,FY,Ho,Hu,Ht,rfl,-⟩:=rT.item;dsimp only [lY,List.cons_append,List.nil_append] at H;refine aY (fun _ cO=>?_);refine bX bN H wn rfl ?_;clear H;intro b10 a w BJ H;refine aP bN 0 (vs:=[_,_]) _ H wn rfl rfl rfl rfl rfl rfl rfl rfl ?_;clear H;intro w H;dsimp only [List.set,setRow] at H;refine cO _ _ ?_;clear cO;refine mP ?_;refine bX dH H wn rfl ?_;clear H;intro b11 a w yO H;refine aP dH 0 (vs:=[_,_,_,_,_,_,_,_,_,_,_]) _ H wn rfl rfl rfl rfl rfl rfl rfl rfl ?_;clear H;intro w H;dsimp only [List.set,setRow] at H;refine au ?_;refine LD _ _ _ _ _ _ (by exact H.bL (Pl:=[_,_,_,_,_,_]) (bB:=[_,_,_,_,_,_]) [2,0,1,3,4,5] (by decide) rfl) ?_;clear H;intro w H;refine kP H (SB (SR fun _ dV=>Ro Cy 5 rfl rfl ?_));clear H;intro a H;refine aK bN (cs:=[_,_]) H wn rfl rfl (H.hp.bF 2 rfl rfl) rfl ?_;clear H;intro a H;refine aK dH (cs:=[_,_,_,_,_,_,_,_,_,_,_]) H wn rfl rfl (H.hp.bF 1 rfl rfl) rfl ?_;clear H;intro a H;refine sG (Li:=([_,_,_,_,_,_]++bk)++jl ds) (L:=mJ) (St.un (A:=[_,_,_,_,_,_]++bk) (St.un (A:=[_,_,_,_,_,_]) H)) wn rfl rfl (hcb (j1+1+k) _ _ _ _ ⟨_,sQ.part k _ (List.getElem?_eq_getElem LY),_,rfl,rT⟩ (fun b o h=>rO b o (xB b o (kC b o (hgm b o h)))) hI (Hp.owns (Li:=([_,_,_,_,_,_]++bk)++jl ds) (St.un (A:=[_,_,_,_,_,_]++bk) (St.un (A:=[_,_,_,_,_,_]) H)).hp)) rfl ?_;clear H;rintro v52 Jg Dp a w ⟨V5,rfl,hb3,hb4⟩ Mc H
    simp only [List.append_assoc,List.cons_append,List.nil_append] at H
    refine kH H (Rn rfl (Kz dV (Cd rfl ?_ ?_))) <;> clear H dV
    ·intro jT a H
     try have p53:=dT jT
     refine aR ?_;refine (Mx (Dp) _ _ _ _ _ (by exact H.bL (Pl:=[_,_,_,_,_,_]) (bB:=[_,_,_,_]) [0,3,4,5] (by decide) rfl) ?_).1 rfl;exact hb4 (by simpa using jT)
    intro jT a H
    try have p53:=dF jT
    refine eX ?_;refine Mh (Dp) _ _ _ _ _ (by exact H.bL (Pl:=[_,_,_,_,_,_]) (bB:=[_,_,_,_]) [0,3,4,5] (by decide) rfl) ?_;exact hb3 (by simpa using jT)
   ·clear H;intro CZ gh Dc a w rO hI H;obtain ⟨mJ,hgh⟩:∃ x,x=gh:=⟨_,rfl⟩;subst hgh;dsimp only [List.cons_append,List.nil_append,List.append_nil] at H;refine K6 _ _ ?_;clear K6;refine kP H (SC (Rd rfl (Rm rfl ?_)));clear H;intro a H;refine au ?_;refine Ak ((k+1,at_+nH l[k],j1+1+(gZ (iL l[k])).length,mJ,Dc,CZ :: ds)) (by exact (H.bL (Pl:=[_,_,_,_]) (bB:=[_,_]) [3,0] (by decide) rfl).sub ⟨rfl,rfl,rfl,rfl,rfl,rfl,trivial⟩) ?_ ?_
    ·(try dsimp only);exact ⟨by omega,fun b o h=>rO b o (xB b o (kC b o (hgm b o h))),sQ.jump (by simpa using hI),by omega,by show at_+(nH l[k]:Int)+(dw ((l.drop (k+1)).map aj.dat):Nat)≤n;omega⟩
    first|omega|(dsimp only;omega)
   clear H;intro CZ gx Dc a w rO hI H;obtain ⟨Lx,hgh⟩:∃ x,x=gx:=⟨_,rfl⟩;subst hgh;dsimp only [List.cons_append,List.nil_append,List.append_nil] at H;refine aR ?_;refine (oo H 0 rfl ?_).1;clear H;intro a w H;dsimp only [List.eraseIdx_cons_succ,List.eraseIdx_cons_zero] at H;refine (sV (Lh:=[_,_,_]) _ H ?_).1;clear H;intro a w H;dsimp only [List.cons_append,List.nil_append] at H;refine (leave0 H Tryz.results81 ?_).1
   first
    | exact H.hp.bR (L':=Lx) (by repeat (first|exact List.Sublist.refl _|apply List.Sublist.cons)) (.inr hI)
    | exact H.hp.bR (L':=yB) (by repeat (first|exact List.Sublist.refl _|apply List.Sublist.cons)) (.inr (hb2 (by simpa using jS)))
    | exact H.hp.bR (L':=Lt) (by repeat (first|exact List.Sublist.refl _|apply List.Sublist.cons)) (.inl (by rw [List.drop_of_length_le (by omega),fK] at bE;have:=bE.len;simp only [List.length_nil,Nat.add_zero] at this;(try rw [List.length_map]);rw [← this];exact bE.now))
  intro h37 a H
  try have p37:=dF h37
  first
   | (have GZ:¬ l[k].kind=6:=p37)
   | (have hn7:¬ l[k].kind=7:=p37)
  refine kP H (SC (Rc rfl (Ra rfl (Kn bH (Cd rfl ?_ ?_))))) <;> clear H bH
  ·intro h37 a H
   try have p37:=dT h37
   have zV:l[k].kind=6∨l[k].kind=7:=by first|exact .inl p37|exact .inr p37
   rw [Ci,if_pos zV] at bE;refine kP H (SQ fun _ dI=>SR fun _ eH=>Ro Cy 2 rfl rfl ?_);clear H;intro a H;refine aK bN (cs:=[_,_]) H wn rfl rfl (H.hp.bF 0 rfl rfl) rfl ?_;clear H;intro a H;refine aK dH (cs:=[_,_,_,_,_,_,_,_,_,_,_]) H wn rfl rfl (H.hp.bF 1 rfl rfl) rfl ?_;clear H;intro a H;refine sG (Li:=[_,_,_]++jl ds) (L:=Lt) (St.un (A:=[_,_,_]) H) wn rfl rfl (hcb j1 _ _ _ _ ⟨_,bE.head,_,rfl,aO.mkItem (hhd.mono rJ) (hfl.mono rJ) (hrw.mono rJ)⟩ hgm bE.now (Hp.owns (Li:=[_,_,_]++jl ds) (St.un (A:=[_,_,_]) H).hp)) rfl ?_;clear H;rintro v43 wG yB a w ⟨FE,rfl,hb1,hb2⟩ kC H
   simp only [List.append_assoc,List.cons_append,List.nil_append] at H
   refine kH H (Rn rfl (Kz eH (Cd rfl ?_ ?_))) <;> clear H eH
   ·intro jS a H
    try have p44:=dT jS
    refine aR ?_;refine (sV (Lh:=[_,_,_]) _ H ?_).1;clear H;intro a w H;dsimp only [List.cons_append,List.nil_append] at H;refine (leave0 H Tryz.results81 ?_).1
    first
     | exact H.hp.bR (L':=Lx) (by repeat (first|exact List.Sublist.refl _|apply List.Sublist.cons)) (.inr hI)
     | exact H.hp.bR (L':=yB) (by repeat (first|exact List.Sublist.refl _|apply List.Sublist.cons)) (.inr (hb2 (by simpa using jS)))
     | exact H.hp.bR (L':=Lt) (by repeat (first|exact List.Sublist.refl _|apply List.Sublist.cons)) (.inl (by rw [List.drop_of_length_le (by omega),fK] at bE;have:=bE.len;simp only [List.length_nil,Nat.add_zero] at this;(try rw [List.length_map]);rw [← this];exact bE.now))
   intro jS a H
   try have p44:=dF jS
   have sQ:=bE.step (hb1 (by simpa using jS));refine eX ?_;refine dI _ _ ?_;clear dI;refine aY (fun _ fq=>?_);refine aK dH (cs:=[_,_,_,_,_,_,_,_,_,_,_]) H wn rfl rfl (H.hp.bF 1 rfl rfl) rfl ?_;clear H;intro a H;refine s_call Qa H wn rfl (U1 ih hn _ _ H.hp.ro l[k] _ (by omega) (aO.mkItem (hhd.mono fun b o h=>kC b o (rJ b o h)) (hfl.mono fun b o h=>kC b o (rJ b o h)) (hrw.mono fun b o h=>kC b o (rJ b o h)))) rfl ?_;clear H;rintro v46 Je a w ⟨bx,rfl,hit⟩ xB H;refine fq _ _ ?_;clear fq;refine lZ ?_;skip;refine tK (ι:=OL) (κ:=OL) (Lc:=[(_,_),(_,_),(_,_)]) (fun (k:Nat) (gh:OL)=>[]) (fun (k:Nat) (gh:OL)=>(jl ds++gh)) (fun (k:Nat) (gh:OL) (g:GH)=>J (j1+1+k) g gh) (fun (gx:OL)=>Code.ret) (fun (gx:OL)=>[]) (fun (gx:OL)=>(jl ds++gx)) (fun (gx:OL) (g:GH)=>Jx g gx) (yB) (by exact H) rfl JY (hit) (fun _ _ h=>h) rfl (fun k args g h=>by obtain ⟨_,_,rfl,_⟩:=vY h;rfl) (fun k i G G' hm h=>jw _ _ _ _ hm h) (fun x G G' hm h=>hJx _ _ _ hm h) (jw _ _ _ _ xB sQ.now) ?_ ?_ ?_
   ·clear H;intro l15 oD mM bk k args gh zy w15 Vr Vj a LX rO hI LD Mh Mx H;obtain ⟨mJ,hgh⟩:∃ x,x=gh:=⟨_,rfl⟩;subst hgh;obtain ⟨LY,FR,rfl,rT⟩:=vY LX;obtain ⟨aA,an,ac,bA,bn,bc,FT,FV,FU,FX,Gf,FY,Ho,Hu,Ht,rfl,-⟩:=rT.item;dsimp only [lY,List.cons_append,List.nil_append] at H;refine aY (fun _ gK=>?_);refine bX bN H wn rfl ?_;clear H;intro b10 a w BJ H;refine aP bN 0 (vs:=[_,_]) _ H wn rfl rfl rfl rfl rfl rfl rfl rfl ?_;clear H;intro w H;dsimp only [List.set,setRow] at H;refine gK _ _ ?_;clear gK;refine mP ?_;refine bX dH H wn rfl ?_;clear H;intro b11 a w yO H;refine aP dH 0 (vs:=[_,_,_,_,_,_,_,_,_,_,_]) _ H wn rfl rfl rfl rfl rfl rfl rfl rfl ?_;clear H;intro w H;dsimp only [List.set,setRow] at H;refine au ?_;refine LD _ _ _ _ _ _ (by exact H.bL (Pl:=[_,_,_,_,_,_]) (bB:=[_,_,_,_,_,_]) [2,0,1,3,4,5] (by decide) rfl) ?_;clear H;intro w H;refine kP H (SB (SR fun _ gF=>Ro Cy 5 rfl rfl ?_));clear H;intro a H;refine aK bN (cs:=[_,_]) H wn rfl rfl (H.hp.bF 2 rfl rfl) rfl ?_;clear H;intro a H;refine aK dH (cs:=[_,_,_,_,_,_,_,_,_,_,_]) H wn rfl rfl (H.hp.bF 1 rfl rfl) rfl ?_;clear H;intro a H;refine sG (Li:=([_,_,_,_,_,_]++bk)++jl ds) (L:=mJ) (St.un (A:=[_,_,_,_,_,_]++bk) (St.un (A:=[_,_,_,_,_,_]) H)) wn rfl rfl (hcb (j1+1+k) _ _ _ _ ⟨_,sQ.part k _ (List.getElem?_eq_getElem LY),_,rfl,rT⟩ (fun b o h=>rO b o (xB b o (kC b o (hgm b o h)))) hI (Hp.owns (Li:=([_,_,_,_,_,_]++bk)++jl ds) (St.un (A:=[_,_,_,_,_,_]++bk) (St.un (A:=[_,_,_,_,_,_]) H)).hp)) rfl ?_;clear H;rintro v52 Jg Dp a w ⟨V5,rfl,hb3,hb4⟩ Mc H
    simp only [List.append_assoc,List.cons_append,List.nil_append] at H
    refine kH H (Rn rfl (Kz gF (Cd rfl ?_ ?_))) <;> clear H gF
    ·intro jT a H
     try have p53:=dT jT
     refine aR ?_;refine (Mx (Dp) _ _ _ _ _ (by exact H.bL (Pl:=[_,_,_,_,_,_]) (bB:=[_,_,_,_]) [0,3,4,5] (by decide) rfl) ?_).1 rfl;exact hb4 (by simpa using jT)
    intro jT a H
    try have p53:=dF jT
    refine eX ?_;refine Mh (Dp) _ _ _ _ _ (by exact H.bL (Pl:=[_,_,_,_,_,_]) (bB:=[_,_,_,_]) [0,3,4,5] (by decide) rfl) ?_;exact hb3 (by simpa using jT)
   ·clear H;intro CZ gh Dc a w rO hI H;obtain ⟨mJ,hgh⟩:∃ x,x=gh:=⟨_,rfl⟩;subst hgh;dsimp only [List.cons_append,List.nil_append,List.append_nil] at H;refine K6 _ _ ?_;clear K6;refine kP H (SC (Rd rfl (Rm rfl ?_)));clear H;intro a H;refine au ?_;refine Ak ((k+1,at_+nH l[k],j1+1+(gZ (iL l[k])).length,mJ,Dc,CZ :: ds)) (by exact (H.bL (Pl:=[_,_,_,_]) (bB:=[_,_]) [3,0] (by decide) rfl).sub ⟨rfl,rfl,rfl,rfl,rfl,rfl,trivial⟩) ?_ ?_
    ·(try dsimp only);exact ⟨by omega,fun b o h=>rO b o (xB b o (kC b o (hgm b o h))),sQ.jump (by simpa using hI),by omega,by show at_+(nH l[k]:Int)+(dw ((l.drop (k+1)).map aj.dat):Nat)≤n;omega⟩
    first|omega|(dsimp only;omega)
   clear H;intro CZ gx Dc a w rO hI H;obtain ⟨Lx,hgh⟩:∃ x,x=gx:=⟨_,rfl⟩;subst hgh;dsimp only [List.cons_append,List.nil_append,List.append_nil] at H;refine aR ?_;refine (oo H 0 rfl ?_).1;clear H;intro a w H;dsimp only [List.eraseIdx_cons_succ,List.eraseIdx_cons_zero] at H;refine (sV (Lh:=[_,_,_]) _ H ?_).1;clear H;intro a w H;dsimp only [List.cons_append,List.nil_append] at H;refine (leave0 H Tryz.results81 ?_).1
   first
    | exact H.hp.bR (L':=Lx) (by repeat (first|exact List.Sublist.refl _|apply List.Sublist.cons)) (.inr hI)
    | exact H.hp.bR (L':=yB) (by repeat (first|exact List.Sublist.refl _|apply List.Sublist.cons)) (.inr (hb2 (by simpa using jS)))
    | exact H.hp.bR (L':=Lt) (by repeat (first|exact List.Sublist.refl _|apply List.Sublist.cons)) (.inl (by rw [List.drop_of_length_le (by omega),fK] at bE;have:=bE.len;simp only [List.length_nil,Nat.add_zero] at this;(try rw [List.length_map]);rw [← this];exact bE.now))
  intro h37 a H
  try have p37:=dF h37
  first
   | (have GZ:¬ l[k].kind=6:=p37)
   | (have hn7:¬ l[k].kind=7:=p37)
  refine kP H (Kc K6 (SC (Rd rfl (Rm rfl ?_))));clear H K6;intro a H;refine au ?_;refine Ak ((k+1,at_+nH l[k],j1,Lt,g,ds)) (by exact (H.bL (Pl:=[_,_,_]) (bB:=[_]) [2] (by decide) rfl).sub ⟨rfl,rfl,rfl,rfl,rfl,rfl,trivial⟩) ?_ ?_
  ·(try dsimp only);exact ⟨by omega,hgm,by rw [Ci,if_neg (by omega),List.nil_append] at bE;exact bE,by omega,by show at_+(nH l[k]:Int)+(dw ((l.drop (k+1)).map aj.dat):Nat)≤n;omega⟩
  first|omega|(dsimp only;omega)
 intro iM a H
 try have kQ:=dF iM
 refine dL ?_;refine (sV (Lh:=[_]) _ H ?_).2;clear H;intro a w H;dsimp only [List.cons_append,List.nil_append] at H;refine (leave0 H Tryz.results81 ?_).1
 first
  | exact H.hp.bR (L':=Lx) (by repeat (first|exact List.Sublist.refl _|apply List.Sublist.cons)) (.inr hI)
  | exact H.hp.bR (L':=yB) (by repeat (first|exact List.Sublist.refl _|apply List.Sublist.cons)) (.inr (hb2 (by simpa using jS)))
  | exact H.hp.bR (L':=Lt) (by repeat (first|exact List.Sublist.refl _|apply List.Sublist.cons)) (.inl (by rw [List.drop_of_length_le (by omega),fK] at bE;have:=bE.len;simp only [List.length_nil,Nat.add_zero] at this;(try rw [List.length_map]);rw [← this];exact bE.now))
theorem TD:∀ n:Nat,n≤4294967297→AY n
 | 0,_=>fun _ _ _ _ _ _ h=>absurd h (by omega)
 | n+1,hn=>adt (TD n (by omega)) (by omega)
theorem ads (G:GH) (w0:World) (hG:Hold G w0) (l:List aj) (id:Int) (v:Value) (hz:aS l≤4294967296) (hv:ah G (.sl 11 (l.map aj.dat)) v) :
  Calls Tryz.prog 52 #[vi id,v] w0 (aU w0 G fun u G'=>∃ bl bi,u=.func (.func 81) #[] #[.pointer (some ⟨bl,0,none⟩),.pointer (some ⟨bi,0,none⟩)]∧Iter Tryz.prog G' u ((fK id 0 l).map sW)) :=
 Ng (TD 4294967297 (by omega)) G w0 hG l id v (by omega) hv
end
section
open Go.RowKit
theorem Zn:∀ args w,(callFunc 83 args).run Tryz.prog w=.ok (.enter 83 args) w:=enters Tryz.func83 rfl (by kernel_rfl)
theorem Zo:∀ args w,(callFunc 84 args).run Tryz.prog w=.ok (.enter 84 args) w:=enters Tryz.func84 rfl (by kernel_rfl)
theorem Y6:∀ args w,(callFunc 55 args).run Tryz.prog w=.ok (.enter 55 args) w:=enters Tryz.func55 rfl (by kernel_rfl)
theorem Y4:∀ args w,(callFunc 53 args).run Tryz.prog w=.ok (.enter 53 args) w:=enters Tryz.func53 rfl (by kernel_rfl)
theorem Y7:∀ args w,(callFunc 56 args).run Tryz.prog w=.ok (.enter 56 args) w:=enters Tryz.func56 rfl (by kernel_rfl)
theorem Y5:∀ args w,(callFunc 54 args).run Tryz.prog w=.ok (.enter 54 args) w:=enters Tryz.func54 rfl (by kernel_rfl)
/-- What a test of elements owes. -/
def pG (fv:Value) (G:GH) (d:List Dat) (b:Bool):Prop:=∀ (G1:GH) (w1:World) (cs:List Value),(∀ b o,G b=some o→G1 b=some o)→Hold G1 w1→aO G1 d cs →
 qU Tryz.prog fv [.agg cs.toArray] w1 (aU w1 G1 fun u G'=>u=.bool b)
def kN (o:Option Nat):Int:=match o with|some i=>i|none=>-1
theorem ab3 (G:GH) (w0:World) (hG:Hold G w0) (l:List aN) (p:aN→Bool) (v fv:Value) (hv:ah G (.sl 6 (l.map aN.dat)) v) (hf:∀ x∈l,pG fv G x.dat (p x)) :
  Calls Tryz.prog 83 #[v,fv] w0 (aU w0 G fun u G'=>u=vi (kN (l.findIdx? p))):=by
 obtain ⟨A,c,rfl,hc1,hc2,hg⟩:=hv.slice;have hml:maxLen=9223372036854775807:=rfl;rw [List.length_map] at *;refine eN [(0,_),(1,_)] Tryz.func83 rfl Tryz.ntmps83 rfl rfl hG ?_;intro a H;refine kP H (SR fun _ K1=>Ra rfl (Kz K1 (SQ fun _ K2=>SR fun _ K3=>Rm rfl (Rl lV rfl (Rm rfl (Kz K3 (SB ?_)))))));clear H K1 K3;intro a H;skip;refine d9 (ι:=Nat × GH) (Tc:=[(0,_),(1,_),(7,_)]) (Lc:=[]) (fun (gh:Nat × GH)=>[(8,vi gh.1)]) (fun (gh:Nat × GH)=>[]) (fun (gh:Nat × GH)=>gh.2) (fun (gh:Nat × GH)=>gh.1≤l.length∧(l.take gh.1).findIdx? p=none∧(∀ b o,G b=some o→gh.2 b=some o)) (fun (gh:Nat × GH)=>l.length - gh.1) ((0,G)) (by exact (H).sub ⟨rfl,rfl,rfl,rfl,trivial⟩) ?_ ?_
 ·exact ⟨by omega,rfl,fun _ _ h=>h⟩
 clear H;intro gh a w hI H;obtain ⟨k,g⟩:=gh;dsimp only at hI H;obtain ⟨hk,hno,hgm⟩:=hI;dsimp only [List.cons_append,List.nil_append,List.append_nil] at H;refine kP H (SR fun _ K4=>Rc rfl (Kz K4 (SQ fun _ K5=>Cd rfl ?_ ?_))) <;> clear H K4
 ·intro h9 a H
  try have p9:=dT h9
  have hk2:k < l.length:=by omega
  obtain ⟨b,o,cs,rfl,hcl,hrow,hrep⟩:=hg k l[k].dat (by simp [hk2]);obtain ⟨pA,pn,pc,dA,dn,dc,yA,yn,yc,fA,fn,fc,rfl,-⟩:=hrep.row;replace hrow:=fun j u hj=>aD hgm (hrow j u hj);refine kP H (Kc K5 (SQ fun _ K6=>SB (SR fun _ K7=>Rm rfl (Ra rfl (Kz K7 (SR fun _ K8=>Rm rfl (Rm rfl (Rm rfl (Ri lV iV rfl rfl ?_)))))))));clear H K5 K7;intro a H;refine aK iV (cs:=[_,_,_,_,_,_]) H wn rfl rfl (fun j v hj=>H.hp.aB (hrow j v hj)) rfl ?_;clear H;intro a H;refine ng H wn rfl rfl (hf _ (List.getElem_mem hk2) _ _ _ hgm H.hp.ro (hrep.mono hgm)) rfl ?_;clear H;rintro v16 ql a w rfl nL H;refine K8 _ _ ?_;clear K8;refine l6 H rfl ?_ ?_
  ·intro h16
   try have p16:=dT h16
   refine kP H (SR fun _ K9=>Rm rfl (Ra rfl (Kz K9 ?_)));clear H K9;intro a H;refine lr H Tryz.results83 rfl ?_
   first
    | exact H.hp.ret (by rw [qK hk2 hno h16];rfl)
    | exact H.hp.ret (by rw [show l.take k=l from List.take_of_length_le (by omega)] at hno;rw [hno];rfl)
  intro h16
  try have p16:=dF h16
  refine kP H (Kc K6 (SC (Rd rfl (Rm rfl ?_))));clear H K6;intro a H;refine au ?_;refine dD ((k+1,ql)) (by exact (H).sub ⟨rfl,rfl,rfl,rfl,trivial⟩) ?_ ?_
  ·(try dsimp only);exact ⟨by omega,yZ hk2 hno h16,fun b o h=>nL b o (hgm b o h)⟩
  first|omega|(dsimp only;omega)
 intro h9 a H
 try have p9:=dF h9
 refine dL ?_;refine K2 _ _ ?_;clear K2;refine kP H (SR fun _ aH=>Ra rfl (Kz aH ?_));clear H aH;intro a H;refine lr H Tryz.results83 rfl ?_
 first
  | exact H.hp.ret (by rw [qK hk2 hno h16];rfl)
  | exact H.hp.ret (by rw [show l.take k=l from List.take_of_length_le (by omega)] at hno;rw [hno];rfl)
theorem Xz (G:GH) (w0:World) (hG:Hold G w0) (l:List aN) (p:aN→Bool) (v fv:Value) (hv:ah G (.sl 6 (l.map aN.dat)) v) (hf:∀ x∈l,pG fv G x.dat (p x)) :
  Calls Tryz.prog 53 #[v,fv] w0 (aU w0 G fun u G'=>u=.bool (l.findIdx? p).isSome):=by
 refine eN [(0,_),(1,_)] Tryz.func53 rfl Tryz.ntmps53 rfl rfl hG ?_;intro a H;refine kP H (SR fun _ K1=>Ra rfl (Kz K1 (SR fun _ K2=>Rm rfl (Rm rfl ?_))));clear H K1;intro a H;refine s_call Zn H wn rfl (ab3 _ _ H.hp.ro l p _ _ hv hf) rfl ?_;clear H;rintro v7 G7 a w rfl xC H;refine kH H (Rc rfl (Ra rfl (Kz K2 ?_)));clear H K2;intro a H;refine lr H Tryz.results53 rfl ?_
 exact H.hp.ret (by cases h:l.findIdx? p <;> simp [kN])
theorem ab2 (G:GH) (w0:World) (hG:Hold G w0) (l:List aJ) (p:aJ→Bool) (v fv:Value) (hv:ah G (.sl 7 (l.map aJ.dat)) v) (hf:∀ x∈l,pG fv G x.dat (p x)) :
  Calls Tryz.prog 84 #[v,fv] w0 (aU w0 G fun u G'=>u=vi (kN (l.findIdx? p))):=by
 obtain ⟨A,c,rfl,hc1,hc2,hg⟩:=hv.slice;have hml:maxLen=9223372036854775807:=rfl;rw [List.length_map] at *;refine eN [(0,_),(1,_)] Tryz.func84 rfl Tryz.ntmps84 rfl rfl hG ?_;intro a H;refine kP H (SR fun _ K1=>Ra rfl (Kz K1 (SQ fun _ K2=>SR fun _ K3=>Rm rfl (Rl kg rfl (Rm rfl (Kz K3 (SB ?_)))))));clear H K1 K3;intro a H;skip;refine d9 (ι:=Nat × GH) (Tc:=[(0,_),(1,_),(7,_)]) (Lc:=[]) (fun (gh:Nat × GH)=>[(8,vi gh.1)]) (fun (gh:Nat × GH)=>[]) (fun (gh:Nat × GH)=>gh.2) (fun (gh:Nat × GH)=>gh.1≤l.length∧(l.take gh.1).findIdx? p=none∧(∀ b o,G b=some o→gh.2 b=some o)) (fun (gh:Nat × GH)=>l.length - gh.1) ((0,G)) (by exact (H).sub ⟨rfl,rfl,rfl,rfl,trivial⟩) ?_ ?_
 ·exact ⟨by omega,rfl,fun _ _ h=>h⟩
 clear H;intro gh a w hI H;obtain ⟨k,g⟩:=gh;dsimp only at hI H;obtain ⟨hk,hno,hgm⟩:=hI;dsimp only [List.cons_append,List.nil_append,List.append_nil] at H;refine kP H (SR fun _ K4=>Rc rfl (Kz K4 (SQ fun _ K5=>Cd rfl ?_ ?_))) <;> clear H K4
 ·intro h9 a H
  try have p9:=dT h9
  have hk2:k < l.length:=by omega
  obtain ⟨b,o,cs,rfl,hcl,hrow,hrep⟩:=hg k l[k].dat (by simp [hk2]);obtain ⟨pA,pn,pc,dA,dn,dc,yA,yn,yc,fA,fn,fc,rfl,-⟩:=hrep.cell;replace hrow:=fun j u hj=>aD hgm (hrow j u hj);refine kP H (Kc K5 (SQ fun _ K6=>SB (SR fun _ K7=>Rm rfl (Ra rfl (Kz K7 (SR fun _ K8=>Rm rfl (Rm rfl (Rm rfl (Ri kg gQ rfl rfl ?_)))))))));clear H K5 K7;intro a H;refine aK gQ (cs:=[_,_,_,_,_,_,_]) H wn rfl rfl (fun j v hj=>H.hp.aB (hrow j v hj)) rfl ?_;clear H;intro a H;refine ng H wn rfl rfl (hf _ (List.getElem_mem hk2) _ _ _ hgm H.hp.ro (hrep.mono hgm)) rfl ?_;clear H;rintro v16 ql a w rfl nL H;refine K8 _ _ ?_;clear K8;refine l6 H rfl ?_ ?_
  ·intro h16
   try have p16:=dT h16
   refine kP H (SR fun _ K9=>Rm rfl (Ra rfl (Kz K9 ?_)));clear H K9;intro a H;refine lr H Tryz.results84 rfl ?_
   first
    | exact H.hp.ret (by rw [qK hk2 hno h16];rfl)
    | exact H.hp.ret (by rw [show l.take k=l from List.take_of_length_le (by omega)] at hno;rw [hno];rfl)
  intro h16
  try have p16:=dF h16
  refine kP H (Kc K6 (SC (Rd rfl (Rm rfl ?_))));clear H K6;intro a H;refine au ?_;refine dD ((k+1,ql)) (by exact (H).sub ⟨rfl,rfl,rfl,rfl,trivial⟩) ?_ ?_
  ·(try dsimp only);exact ⟨by omega,yZ hk2 hno h16,fun b o h=>nL b o (hgm b o h)⟩
  first|omega|(dsimp only;omega)
 intro h9 a H
 try have p9:=dF h9
 refine dL ?_;refine K2 _ _ ?_;clear K2;refine kP H (SR fun _ aH=>Ra rfl (Kz aH ?_));clear H aH;intro a H;refine lr H Tryz.results84 rfl ?_
 first
  | exact H.hp.ret (by rw [qK hk2 hno h16];rfl)
  | exact H.hp.ret (by rw [show l.take k=l from List.take_of_length_le (by omega)] at hno;rw [hno];rfl)
theorem Xy (G:GH) (w0:World) (hG:Hold G w0) (l:List aJ) (p:aJ→Bool) (v fv:Value) (hv:ah G (.sl 7 (l.map aJ.dat)) v) (hf:∀ x∈l,pG fv G x.dat (p x)) :
  Calls Tryz.prog 55 #[v,fv] w0 (aU w0 G fun u G'=>u=.bool (l.findIdx? p).isSome):=by
 refine eN [(0,_),(1,_)] Tryz.func55 rfl Tryz.ntmps55 rfl rfl hG ?_;intro a H;refine kP H (SR fun _ K1=>Ra rfl (Kz K1 (SR fun _ K2=>Rm rfl (Rm rfl ?_))));clear H K1;intro a H;refine s_call Zo H wn rfl (ab2 _ _ H.hp.ro l p _ _ hv hf) rfl ?_;clear H;rintro v7 G7 a w rfl xC H;refine kH H (Rc rfl (Ra rfl (Kz K2 ?_)));clear H K2;intro a H;refine lr H Tryz.results55 rfl ?_
 exact H.hp.ret (by cases h:l.findIdx? p <;> simp [kN])
def EG (id:Int) (r:aN):Bool:=(r.cells.findIdx? fun c=>decide (c.id=id)).isSome
def kM (id:Int) (x:aj):Bool:=decide (x.id=id) || (x.rows.findIdx? (EG id)).isSome
theorem adq {G:GH} {bi:Nat} {id:Int} (hb:aB G bi 0=some (vi id)) (c:aJ):pG (.func (.func 56) #[] #[.pointer (some ⟨bi,0,none⟩)]) G c.dat (decide (c.id=id)):=by
 intro G1 w0 cs hm hG hr;refine jI (caps:=[.pointer (some ⟨bi,0,none⟩)]) Y7 ?_;obtain ⟨pA,pn,pc,dA,dn,dc,yA,yn,yc,fA,fn,fc,rfl,-⟩:=hr.cell;replace hb:=aD hm hb;refine eN [(0,_),(1,_)] Tryz.func56 rfl Tryz.ntmps56 rfl rfl hG ?_;intro a H;refine aY (fun _ K1=>?_);refine bY (cs:=[_,_,_,_,_,_,_]) H wn rfl rfl rfl ?_;clear H;intro b2 a w hb2 H;refine kH H (Ra rfl (Kz K1 (SR fun _ K2=>Rf wS rfl (Ro ak 0 rfl rfl (Rg ak rfl (by assumption) ?_)))));clear H K1;intro a H;exact kH H (Rc rfl (Ra rfl (Kz K2 (LR Tryz.results56 rfl fun H=>H.hp.ret rfl))))
theorem adp {G:GH} {bi:Nat} {id:Int} (hb:aB G bi 0=some (vi id)) (r:aN):pG (.func (.func 54) #[] #[.pointer (some ⟨bi,0,none⟩)]) G r.dat (EG id r):=by
 intro G1 w0 cs hm hG hr;refine jI (caps:=[.pointer (some ⟨bi,0,none⟩)]) Y5 ?_;obtain ⟨pA,pn,pc,dA,dn,dc,yA,yn,yc,fA,fn,fc,rfl,-,hcl⟩:=hr.row;replace hb:=aD hm hb;refine eN [(0,_),(1,_)] Tryz.func54 rfl Tryz.ntmps54 rfl rfl hG ?_;intro a H;refine aY (fun _ K1=>?_);refine bY (cs:=[_,_,_,_,_,_]) H wn rfl rfl rfl ?_;clear H;intro b2 a w hb2 H;refine kH H (Ra rfl (Kz K1 (SR fun _ K2=>Rf vM rfl (Ro wB 0 rfl rfl ?_))));clear H K1;intro a H;refine lT H wn rfl rfl ?_;clear H;intro a H;refine s_call Y6 H wn rfl (Xy _ _ H.hp.ro r.cells (fun c=>decide (c.id=id)) _ _ hcl (fun c _=>adq hb c)) rfl ?_;clear H;rintro v7 G7 a w rfl xC H;exact kH H (Ra rfl (Kz K2 (LR Tryz.results54 rfl fun H=>H.hp.ret rfl)))
/-- Where a flow stands. -/
def jc (l:List aj) (id:Int):Option (Int × Int):=((fK 0 0 l).find? fun a=>kM id a.2).map (·.1)
theorem TA (G:GH) (w0:World) (hG:Hold G w0) (D:jh) (l:List aj) (id:Int) (hv:ah G (.sl 11 (l.map aj.dat)) (dY D.f)) (hz:aS l≤4294967296) :
  Calls Tryz.prog 34 #[D.val,vi id] w0 (aU w0 G fun u G'=>u=.tuple #[.agg #[vi ((jc l id).getD (0,0)).1,vi ((jc l id).getD (0,0)).2],.bool (jc l id).isSome]):=by
 refine eN [(0,_),(1,_)] Tryz.func34 rfl Tryz.ntmps34 rfl rfl hG ?_;intro a H;refine aY (fun _ K1=>?_);refine bY (cs:=[_,_,_,_,_,_,_,_,_,_,_]) H wn rfl rfl rfl ?_;clear H;intro b2 a w hb2 H;refine bY (cs:=[_]) H wn rfl rfl rfl ?_;clear H;intro b3 a w hb3 H;refine bX bN H wn rfl ?_;clear H;intro b4 a w hb4 H;refine bX oH H wn rfl ?_;clear H;intro b5 a w hb5 H;refine K1 _ _ ?_;clear K1;refine aQ (fun _ K2=>?_);refine aQ (fun _ K3=>?_);have H:=H.bL (Pl:=[_,_,_,_]) (bB:=[_,_,_,_]) [2,0,1,3] (by decide) rfl;obtain ⟨Ga,hma,hb3,H⟩:=H.dB
 have hbi:aB Ga b3 0=some (vi id):=by unfold aB;rw [hb3];rfl
 refine kP H (SC (Rf zQ rfl (Ro iR 2 rfl rfl ?_)));clear H;intro a H;refine s_call J8 H wn rfl (ads _ _ H.hp.ro l 0 _ hz (hv.mono hma)) rfl ?_;clear H;rintro v11 qj a w ⟨bl,bi,rfl,hit⟩ xq H;refine au ?_;refine K3 _ _ ?_;clear K3;refine lZ ?_;skip;refine tK (ι:=Unit) (κ:=Int × Int) (Lc:=[(_,_)]) (fun (k:Nat) (gh:Unit)=>[(b4,.cells #[vi 0,vi 0] 45 (0,0)),(b5,.cells #[.bool false] 4 (0,0))]) (fun (k:Nat) (gh:Unit)=>[]) (fun (k:Nat) (gh:Unit) (g:GH)=>((fK 0 0 l).take k).find? (fun a=>kM id a.2)=none) (fun (gx:Int × Int)=>Code.ret) (fun (gx:Int × Int)=>[(b4,.cells #[vi gx.1,vi gx.2] 45 (0,0)),(b5,.cells #[.bool true] 4 (0,0))]) (fun (gx:Int × Int)=>[]) (fun (gx:Int × Int) (g:GH)=>jc l id=some gx) (()) (by exact H.bL (Pl:=[_,_,_]) (bB:=[_,_,_]) [2,1,0] (by decide) rfl) rfl Gg (hit) (fun _ _ h=>h) rfl (fun k args g h=>by obtain ⟨_,_,rfl,_⟩:=vY h;rfl) (fun _ _ _ _ _ h=>h) (fun _ _ _ _ h=>h) (rfl) ?_ ?_ ?_
 ·clear H;intro l2 oD mM bk k args gh G2 w2 F2 B2 a hk2 hm2 hI El Eu BS H;obtain ⟨hk,FR,rfl,rT⟩:=vY hk2;obtain ⟨aA,an,ac,bA,bn,bc,FT,FV,FU,FX,Gf,FY,Ho,Hu,Ht,rfl,hh8,hf8,hr8⟩:=rT.item;dsimp only [lY,List.cons_append,List.nil_append] at H;replace hbi:=aD hm2 (aD xq hbi);refine aY (fun _ K4=>?_);refine bX bN H wn rfl ?_;clear H;intro b6 a w hb6 H;refine aP bN 0 (vs:=[_,_]) _ H wn rfl rfl rfl rfl rfl rfl rfl rfl ?_;clear H;intro w H;dsimp only [List.set,setRow] at H;refine K4 _ _ ?_;clear K4;refine mP ?_;refine bX dH H wn rfl ?_;clear H;intro b7 a w pU H;refine aP dH 0 (vs:=[_,_,_,_,_,_,_,_,_,_,_]) _ H wn rfl rfl rfl rfl rfl rfl rfl rfl ?_;clear H;intro w H;dsimp only [List.set,setRow] at H;refine au ?_;refine El _ _ _ _ _ _ (by exact H.bL (Pl:=[_,_,_,_,_,_]) (bB:=[_,_,_,_,_,_]) [2,0,1,3,4,5] (by decide) rfl) ?_;clear H;intro w H;refine kP H (SB (SR fun _ K5=>Rf tV rfl (Ro uU 1 rfl rfl ?_)));clear H;intro a H;refine lT H wn rfl rfl ?_;clear H;intro a H;refine s_call Y4 H wn rfl (Xz _ _ H.hp.ro _ (EG id) _ _ hr8 (fun r _=>adp hbi r)) rfl ?_;clear H;rintro v17 yj a w rfl nZ H;replace hbi:=aD nZ hbi;refine kH H (Ra rfl (Kz K5 (SR fun _ K6=>Rf wR rfl (Ro ak 1 rfl rfl (Rg ak rfl (by assumption) ?_)))));clear H K5;intro a H;refine kH H (Rc rfl (Rm rfl (Sp 22 rfl ?_ ?_))) <;> clear H
  ·intro h22 a H
   try have gP:=dT h22
   refine kH H (Ks h22 rfl (Pt h22 rfl (Kz K6 (Ct rfl rfl (SR fun _ K7=>?_)))));clear H K6;intro a H;refine aK bN (cs:=[_,_]) H wn rfl rfl (H.hp.bF 2 rfl rfl) rfl ?_;clear H;intro a H;refine aP bN 4 (vs:=[_,_]) _ H wn rfl rfl rfl rfl rfl rfl rfl rfl ?_;clear H;intro w H;dsimp only [List.set,setRow] at H;refine aP oH 5 (vs:=[_]) _ H wn rfl rfl rfl rfl rfl rfl rfl rfl ?_;clear H;intro w H;dsimp only [List.set,setRow] at H;refine K7 _ _ ?_;clear K7;refine aR ?_;refine (BS ((fK 0 0 l)[k].1) _ _ _ _ _ (by exact H.bL (Pl:=[_,_,_,_,_,_]) (bB:=[_,_,_,_]) [0,3,4,5] (by decide) rfl) ?_).1 rfl;exact (by unfold jc;rw [D8 hk hI (by unfold kM;simp_all)];rfl)
  intro h22 a H
  try have gP:=dF h22
  refine kH H (YM h22 rfl (Pf h22 rfl (Kz K6 (Cd rfl ?_ ?_)))) <;> clear H K6
  ·intro dM a H
   try have jA:=dT dM
   refine aY (fun _ K8=>?_);refine aK bN (cs:=[_,_]) H wn rfl rfl (H.hp.bF 2 rfl rfl) rfl ?_;clear H;intro a H;refine aP bN 4 (vs:=[_,_]) _ H wn rfl rfl rfl rfl rfl rfl rfl rfl ?_;clear H;intro w H;dsimp only [List.set,setRow] at H;refine aP oH 5 (vs:=[_]) _ H wn rfl rfl rfl rfl rfl rfl rfl rfl ?_;clear H;intro w H;dsimp only [List.set,setRow] at H;refine K8 _ _ ?_;clear K8;refine aR ?_;refine (BS ((fK 0 0 l)[k].1) _ _ _ _ _ (by exact H.bL (Pl:=[_,_,_,_,_,_]) (bB:=[_,_,_,_]) [0,3,4,5] (by decide) rfl) ?_).1 rfl;exact (by unfold jc;rw [D8 hk hI (by unfold kM;simp_all)];rfl)
  intro dM a H
  try have jA:=dF dM
  refine eX ?_;refine Eu (()) _ _ _ _ _ (by exact H.bL (Pl:=[_,_,_,_,_,_]) (bB:=[_,_,_,_]) [0,3,4,5] (by decide) rfl) ?_;exact Gx hk hI (by unfold kM;simp_all)
 ·clear H;intro C8 gh Df a w hm2 hI H;dsimp only [List.cons_append,List.nil_append,List.append_nil] at H;refine K2 _ _ ?_;clear K2;refine aY (fun _ K9=>?_);refine iP wo [_,_] H wn rfl rfl rfl rfl ?_;clear H;intro a H;refine aP bN 2 (vs:=[_,_]) _ H wn rfl rfl rfl rfl rfl rfl rfl rfl ?_;clear H;intro w H;dsimp only [List.set,setRow] at H;refine aP oH 3 (vs:=[_]) _ H wn rfl rfl rfl rfl rfl rfl rfl rfl ?_;clear H;intro w H;dsimp only [List.set,setRow] at H;refine K9 _ _ ?_;clear K9;refine aR ?_;refine (oo H 0 rfl ?_).1;clear H;intro a w H;dsimp only [List.eraseIdx_cons_succ,List.eraseIdx_cons_zero] at H;refine (bU H Tryz.results34 (.cons (uQ bN (cs:=[_,_]) H rfl rfl (H.hp.bF 1 rfl rfl)) (.cons (kR oH H rfl (H.hp.jE 2 rfl rfl)) .nil)) ?_).1
  have h:jc l id=none:=by unfold jc;rw [Kw (by simpa using hI)];rfl
  exact H.hp.ret (by rw [h];rfl)
 clear H;intro C8 gx Df a w hm2 hI H;obtain ⟨x,hgh⟩:∃ x,x=gx:=⟨_,rfl⟩;subst hgh;dsimp only [List.cons_append,List.nil_append,List.append_nil] at H;refine aR ?_;refine (oo H 0 rfl ?_).1;clear H;intro a w H;dsimp only [List.eraseIdx_cons_succ,List.eraseIdx_cons_zero] at H;refine (bU H Tryz.results34 (.cons (uQ bN (cs:=[_,_]) H rfl rfl (H.hp.bF 1 rfl rfl)) (.cons (kR oH H rfl (H.hp.jE 2 rfl rfl)) .nil)) ?_).1;exact H.hp.ret (by rw [hI];rfl)
end
end Go.Proofs.YthichnnlceeofaaGreat
