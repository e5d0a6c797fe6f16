/-
  What the claim stands on, part 2: Run Rg Pos Pq Doc Dq Eq Idx Bld Hv Ut Prk Prp Plc Plr.
-/
import Derived.Test.YtdacibabefnabaaGreatWza
import Derived.Laws.StructEq
import Derived.ChangeKeysEq
import Derived.Lib.OthersKept
import Derived.Laws.IdiomStrings
import Derived.Laws.Cover4
import Derived.Laws.Slices
import Derived.Laws.Strings2
namespace Go.Proofs.YtdacibabefnabaaGreat
open Go.Proofs.Tryz
section
open Go.RowKit
theorem hmx:prog.follows .mixedOrders=true:=by kernel_rfl
theorem kV:bV prog 47 0 0:=⟨by kernel_rfl⟩
theorem aC:Ty prog 3 1 8 [.int .i64 0] false:=⟨by kernel_rfl,by kernel_rfl⟩
theorem xE:bV prog 47 3 3:=⟨by kernel_rfl⟩
theorem iB:Ty prog 9 1 16 [.string ⟨#[]⟩] false:=⟨by kernel_rfl,by kernel_rfl⟩
theorem MG:∀ args w,(callFunc 84 args).run prog w=.ok (.enter 84 args) w:=enters func84 rfl (by kernel_rfl)
theorem oq:prog.underlying 22=some (.slice 47):=by kernel_rfl
theorem eX:Ty prog 47 11 176 [.int .i64 0,.int .i64 0,.int .i64 0,.string ⟨#[]⟩,.slice none 0 0,.int .i64 0,.int .i64 0,.slice none 0 0,.slice none 0 0,.slice none 0 0,.slice none 0 0] true:=⟨by kernel_rfl,by kernel_rfl⟩
theorem ZQ:∀ args w,(callFunc 111 args).run prog w=.ok (.enter 111 args) w:=enters func111 rfl (by kernel_rfl)
theorem tO:prog.underlying 23=some (.slice 166):=by kernel_rfl
theorem oZ:Ty prog 166 2 16 [.int .i64 0,.int .i64 0] true:=⟨by kernel_rfl,by kernel_rfl⟩
theorem uK:prog.underlying 24=some (.slice 169):=by kernel_rfl
theorem zO:Ty prog 169 2 16 [.int .i64 0,.int .i64 0] true:=⟨by kernel_rfl,by kernel_rfl⟩
theorem zR:prog.underlying 25=some (.slice 171):=by kernel_rfl
theorem zP:Ty prog 171 4 32 [.int .i64 0,.int .i64 0,.int .i64 0,.bool false] true:=⟨by kernel_rfl,by kernel_rfl⟩
theorem tL:Ty prog 29 5 88 [.slice none 0 0,.int .i64 0,.int .i64 0,.slice none 0 0,.slice none 0 0] true:=⟨by kernel_rfl,by kernel_rfl⟩
theorem Jf:bV prog 29 0 0:=⟨by kernel_rfl⟩
theorem EM:Ty prog 23 1 24 [.slice none 0 0] false:=⟨by kernel_rfl,by kernel_rfl⟩
theorem abA:∀ args w,(callFunc 91 args).run prog w=.ok (.enter 91 args) w:=enters func91 rfl (by kernel_rfl)
theorem DV:bV prog 29 1 1:=⟨by kernel_rfl⟩
theorem xD:bV prog 27 2 2:=⟨by kernel_rfl⟩
theorem xZ:Ty prog 24 1 24 [.slice none 0 0] false:=⟨by kernel_rfl,by kernel_rfl⟩
theorem abB:∀ args w,(callFunc 92 args).run prog w=.ok (.enter 92 args) w:=enters func92 rfl (by kernel_rfl)
theorem F8:bV prog 27 3 3:=⟨by kernel_rfl⟩
theorem HZ:Ty prog 25 1 24 [.slice none 0 0] false:=⟨by kernel_rfl,by kernel_rfl⟩
theorem abC:∀ args w,(callFunc 93 args).run prog w=.ok (.enter 93 args) w:=enters func93 rfl (by kernel_rfl)
theorem pq:prog.underlying 45=some (.slice 135):=by kernel_rfl
theorem jJ:Ty prog 135 6 112 [.slice none 0 0,.int .i64 0,.int .i64 0,.slice none 0 0,.slice none 0 0,.slice none 0 0] true:=⟨by kernel_rfl,by kernel_rfl⟩
theorem mY:prog.underlying 133=some (.slice 132):=by kernel_rfl
theorem iR:Ty prog 132 7 120 [.int .i64 0,.slice none 0 0,.int .i64 0,.int .i64 0,.slice none 0 0,.slice none 0 0,.slice none 0 0] true:=⟨by kernel_rfl,by kernel_rfl⟩
theorem Ao:bV prog 132 0 0:=⟨by kernel_rfl⟩
theorem Sw:bV prog 132 1 1:=⟨by kernel_rfl⟩
theorem Mx:∀ args w,(callFunc 32 args).run prog w=.ok (.enter 32 args) w:=enters func32 rfl (by kernel_rfl)
theorem BP:bV prog 132 2 6:=⟨by kernel_rfl⟩
theorem jL:Ty prog 22 1 24 [.slice none 0 0] false:=⟨by kernel_rfl,by kernel_rfl⟩
theorem Mw:∀ args w,(callFunc 31 args).run prog w=.ok (.enter 31 args) w:=enters func31 rfl (by kernel_rfl)
theorem VF:qO prog 132 [(0,1),(1,5),(6,1)] [.int .i64 0,.slice none 0 0,.int .i64 0,.int .i64 0,.slice none 0 0,.slice none 0 0,.slice none 0 0]:=⟨by kernel_rfl,by kernel_rfl⟩
theorem Sy:bV prog 135 0 0:=⟨by kernel_rfl⟩
theorem yO:bV prog 135 1 5:=⟨by kernel_rfl⟩
theorem zN:Ty prog 133 1 24 [.slice none 0 0] false:=⟨by kernel_rfl,by kernel_rfl⟩
theorem aak:∀ args w,(callFunc 146 args).run prog w=.ok (.enter 146 args) w:=enters func146 rfl (by kernel_rfl)
theorem ahh:qO prog 135 [(0,5),(5,1)] [.slice none 0 0,.int .i64 0,.int .i64 0,.slice none 0 0,.slice none 0 0,.slice none 0 0]:=⟨by kernel_rfl,by kernel_rfl⟩
theorem MO:bV prog 47 4 4:=⟨by kernel_rfl⟩
theorem BR:bV prog 47 5 9:=⟨by kernel_rfl⟩
theorem yQ:bV prog 47 6 10:=⟨by kernel_rfl⟩
theorem zQ:Ty prog 45 1 24 [.slice none 0 0] false:=⟨by kernel_rfl,by kernel_rfl⟩
theorem aby:∀ args w,(callFunc 89 args).run prog w=.ok (.enter 89 args) w:=enters func89 rfl (by kernel_rfl)
theorem abw:∀ args w,(callFunc 87 args).run prog w=.ok (.enter 87 args) w:=enters func87 rfl (by kernel_rfl)
theorem aal:∀ args w,(callFunc 147 args).run prog w=.ok (.enter 147 args) w:=enters func147 rfl (by kernel_rfl)
theorem abz:∀ args w,(callFunc 90 args).run prog w=.ok (.enter 90 args) w:=enters func90 rfl (by kernel_rfl)
theorem abx:∀ args w,(callFunc 88 args).run prog w=.ok (.enter 88 args) w:=enters func88 rfl (by kernel_rfl)
def fF (x:aB):Nat:=if x.kind=1 then jg x.text else 1
def qK (x:aB):Int:=if x.kind=1 then C9 x.text else 0
theorem ahK (G:GH) (w0:World) (hG:Hold G w0) (x:aB) (i2 i3:Int) (p i5 i6 d l f r:aj) (hs:x.text.size < 4611686018427387904) :
  Calls prog 111 #[.agg #[vi x.kind,vi i2,vi i3,.string x.text,p,i5,i6,d,l,f,r]] w0 (aZ w0 G fun v G'=>v=.tuple #[vi (fF x),vi (qK x)]∧G=G'):=by
 refine eN [(0,_)] func111 rfl ntmps111 rfl rfl hG ?_;intro a H;refine bK (fun _ K1=>?_);refine dz (cs:=[_,_,_,_,_,_,_,_,_,_,_]) H wn rfl rfl rfl ?_;clear H;intro b1 a w hb1 H;refine kH H (Ra rfl (ak K1 rfl (SQ fun _ K2=>SR fun _ K3=>aO kV aC 0 rfl rfl (Rc rfl (Kz K3 (Cd rfl ?_ ?_)))))) <;> clear H K1 K3
 ·intro h6 a H
  try have p6:=dT h6
  refine kP H (SR fun _ K4=>Ra rfl (ak K4 rfl ?_));clear H K4;intro a H;refine bF ?_;refine (dL H results111 (.cons (aN H rfl) (.cons (aN H rfl) .nil)) ?_).1;exact H.rt ⟨by simp only [fF,qK,ah p6];rfl,rfl⟩
 intro h6 a H
 try have p6:=dF h6
 refine kP H (Kc K2 (SR fun _ K5=>aO xE iB 0 rfl rfl ?_));clear H K2;intro a H;refine s_call MG H wn rfl (Mc _ _ H.ro _ hs) rfl ?_;clear H;rintro v9 _ a w ⟨rfl,rfl⟩ - H;(iterate 2 refine jy H wn rfl rfl rfl ?_;clear H;intro a H);refine kH H (Ra rfl (ak K5 rfl ?_));clear H K5;intro a H;refine bF ?_;refine (dL H results111 (.cons (aN H rfl) (.cons (aN H rfl) .nil)) ?_).1;exact H.rt ⟨by rw [mR] at p6;simp only [fF,qK,au p6],rfl⟩
def uW (l:List aB):Bool:=l.all fun x=>decide (qK x=0)
def oW:List aB→Nat
 | []=>0
 | x :: l=>fF x+oW l
def qV (l:List aB):Int:=if uW l then oW l else 0
def OE (l:List aB):Int:=if uW l then 0 else 12
def qZ:List aB→Nat
 | []=>0
 | x :: l=>x.text.size+1+qZ l
theorem Pv:∀ l:List aB,oW l≤qZ l
 | []=>bP _
 | x :: l=>by
  have:=Pv l;have h2:=yL x.text
  simp only [oW,qZ,fF];split <;> omega
theorem VQ {x:aB}:∀ {l:List aB},x∈l→x.text.size < qZ l
 | [],h=>by cases h
 | y :: l,h=>by
  simp only [qZ]
  rcases nS.1 h with rfl|h
  ·omega
  have:=VQ h;omega
theorem aht (l m:List aB):oW (l++m)=oW l+oW m:=by
 induction l with
 | nil=>simp [oW]
 | cons x l ih=>simp [oW,ih];omega
theorem ahu {l:List aB} {k:Nat} (h:k < l.length):oW (l.take (k+1))=oW (l.take k)+fF l[k]:=by
 rw [mP h,aht];simp [oW]
theorem ahz (l m:List aB):qZ (l++m)=qZ l+qZ m:=by
 induction l with
 | nil=>simp [qZ]
 | cons x l ih=>simp [qZ,ih];omega
theorem ahA (l:List aB) (k:Nat):qZ (l.take k)≤qZ l:=by
 have:=ahz (l.take k) (l.drop k);rw [List.take_append_drop] at this;omega
theorem Gd {G:GH} {l:List aB} {A:Option Addr} {k:Nat} (hk:k < l.length) (hg:∀ k r,(l.map aB.dat)[k]?=some r→∃ b o cs,A=some ⟨b,o,none⟩∧cs.length=11∧(∀ j u,cs[j]?=some u→aI G b (o+k*11+j)=some u)∧aS G r cs) :
  ∃ b o pA pn pc dA dn dc yA yn yc fA fn fc rA rn rc,A=some ⟨b,o,none⟩∧(∀ j u,[vi l[k].kind,vi l[k].code,vi l[k].id,.string l[k].text,.slice pA pn pc,vi l[k].head.marks.ins,vi l[k].head.marks.move,.slice dA dn dc,.slice yA yn yc,.slice fA fn fc,.slice rA rn rc][j]?=some u→aI G b (o+k*11+j)=some u) ∧
   jR G l[k].head (.slice pA pn pc) (.slice dA dn dc) (.slice yA yn yc)∧av G (.sl 11 (l[k].flow.map aB.dat)) (.slice fA fn fc)∧av G (.sl 6 (l[k].rows.map bC.dat)) (.slice rA rn rc):=by
 obtain ⟨b,o,cs,h1,h2,h3,h4⟩:=hg k l[k].dat (by simp [hk]);obtain ⟨pA,pn,pc,dA,dn,dc,yA,yn,yc,fA,fn,fc,rA,rn,rc,rfl,h5,h6,h7⟩:=h4.item;exact ⟨b,o,pA,pn,pc,dA,dn,dc,yA,yn,yc,fA,fn,fc,rA,rn,rc,h1,h3,h5,h6,h7⟩
theorem Zw {l:List aB} {k:Nat} (h:k < l.length):uW (l.take (k+1))=(uW (l.take k) && decide (qK l[k]=0)):=by
 unfold uW
 rw [mP h,List.all_append];simp
theorem Zv {l:List aB} {k:Nat} (h:k < l.length) (hn:¬ qK l[k]=0):uW l=false:=by
 unfold uW
 rw [List.all_eq_false];exact ⟨l[k],jT h,by simpa using hn⟩
theorem Us:∀ l:List aB,l.length≤qZ l
 | []=>bP _
 | x :: l=>by have:=Us l;simp only [lX,qZ];omega
theorem PD:∀ l:List aB,qZ l≤bG l
 | []=>bP _
 | x :: l=>by
  have:=PD l;have h2:=ou x
  simp only [qZ,bG,fG,dZ] at *;omega
theorem JQ (G:GH) (w0:World) (hG:Hold G w0) (l:List aB) (v:aj) (hv:av G (.sl 11 (l.map aB.dat)) v) (hz:bG l≤4294967296) :
  Calls prog 52 #[v] w0 (aZ w0 G fun v G'=>v=.tuple #[vi (qV l),vi (OE l)]∧G=G'):=by
 obtain ⟨A,c,rfl,hc1,hc2,hg⟩:=hv.slice;rw [bW] at *;have hll:=Us l;have htz:=PD l;refine eN [(0,_)] func52 rfl ntmps52 rfl rfl hG ?_;intro a H;refine kP H (SR fun _ K1=>Ra rfl (ak K1 rfl (SR fun _ K2=>ak K2 rfl (SQ fun _ K3=>SR fun _ K4=>Rm rfl (Rl oq rfl (Rm rfl (Kz K4 (SB ?_))))))));clear H K1 K2 K4;intro a H;skip;refine gq (ι:=Nat) (Tc:=[(9,_),(10,_)]) (Lc:=[]) (fun gh=>[(4,vi (oW (l.take gh))),(11,vi gh)]) (fun gh=>[]) (fun gh=>G) (fun gh=>gh≤l.length∧uW (l.take gh)=true) (fun gh=>l.length - gh) (0) (by exact (H).sub ⟨rfl,rfl,rfl,rfl,aD⟩) ?_ ?_
 ·exact ⟨by omega,by simp [uW]⟩
 clear H;intro gh a w hI H;obtain ⟨k,hgh⟩:∃ x,x=gh:=⟨_,rfl⟩;subst hgh;obtain ⟨hk,hd⟩:=hI;dsimp only [lca,aV] at H;refine kP H (SR fun _ K5=>Rc rfl (Kz K5 (SQ fun _ K6=>Cd rfl ?_ ?_))) <;> clear H K5
 ·intro h12 a H
  try have qD:=dT h12
  have hk2:k < l.length:=by omega
  obtain ⟨b,o,pA,pn,pc,dA,dn,dc,yA,yn,yc,fA,fn,fc,rA,rn,rc,rfl,hrow,-⟩:=Gd hk2 hg;have hsm:=ahu hk2;have hle:=Pv (l.take (k+1));have hle2:=ahA l (k+1);refine kP H (Kc K6 (SQ fun _ K7=>SB (SR fun _ K8=>Ri oq eX rfl rfl ?_)));clear H K6;intro a H;refine aW eX (cs:=[_,_,_,_,_,_,_,_,_,_,_]) H wn rfl rfl (fun j v hj=>H.hp.aI (hrow j v hj)) rfl ?_;clear H;intro a H;refine dx eX H wn rfl ?_;clear H;intro b6 a w hb6 H;refine aX eX 0 (vs:=[_,_,_,_,_,_,_,_,_,_,_]) _ H wn rfl rfl rfl rfl rfl rfl rfl rfl ?_;clear H;intro w H;dsimp only [List.set,setRow] at H;refine K8 _ _ ?_;clear K8;refine bK (fun _ K9=>?_);refine aW eX (cs:=[_,_,_,_,_,_,_,_,_,_,_]) H wn rfl rfl (H.hp.bT 0 rfl rfl) rfl ?_;clear H;intro a H;refine s_call ZQ H wn rfl (ahK _ _ H.ro _ _ _ _ _ _ _ _ _ _ (by have:=VQ (jT hk2);omega)) rfl ?_;clear H;rintro v17 _ a w ⟨rfl,rfl⟩ - H;refine kH H (Rm rfl ?_);clear H;intro a H;(iterate 2 refine jy H wn rfl rfl rfl ?_;clear H;intro a H);refine kH H (Ra rfl (ak K9 rfl (SQ fun _ aQ=>SR fun _ bH=>Rm rfl (Rc rfl (Kz bH (Cd rfl ?_ ?_)))))) <;> clear H K9 bH
  ·intro h21 a H
   try have nI:=dT h21
   refine kP H (SR fun _ bR=>Ra rfl (ak bR rfl ?_));clear H bR;intro a H;refine bF ?_;refine (dL H results52 (.cons (aN H rfl) (.cons (aN H rfl) .nil)) ?_).1;exact H.rt ⟨by simp [qV,OE,Zv hk2 nI],rfl⟩
  intro h21 a H
  try have nI:=dF h21
  refine kP H (Kc aQ (SC (Rm rfl (Rm rfl (Rd rfl ?_)))));clear H aQ;intro a H;rw [← Int.natCast_add,← hsm] at H;refine kH H (aU K7 rfl (SC (Rd rfl (Rm rfl ?_))));clear H K7;intro a H;refine aH ?_;refine eO ((k+1)) (by exact (H.bU (Pl:=[_]) (bN:=[]) [] (by decide) rfl).sub ⟨rfl,rfl,rfl,rfl,aD⟩) ?_ ?_
  ·exact ⟨by omega,by rw [Zw hk2,hd];simpa using nI⟩
  first|omega|(dsimp only;omega)
 intro h12 a H
 try have qD:=dF h12
 refine fI ?_;refine K3 _ _ ?_;clear K3;refine kP H (SR fun _ bY=>Rm rfl (Ra rfl (ak bY rfl ?_)));clear H bY;intro a H;refine bF ?_;refine (dL H results52 (.cons (aN H rfl) (.cons (aN H rfl) .nil)) ?_).1;exact H.rt ⟨by rw [show l.take k=l from jU (by omega)] at hd ⊢;simp [qV,OE,hd],rfl⟩
theorem Y2 (G:GH) (w0:World) (hG:Hold G w0) (rows:List (List Dat)) (A:Option Addr) (n c:Nat) (hv:av G (.sl 2 rows) (.slice A n c)) (hz:rows.length≤4294967296) :
  Calls prog 91 #[.slice A n c] w0 (aZ w0 G fun v G'=>av G' (.sl 2 rows) v):=by
 obtain ⟨hn,hc1,hc2,hnil,hx⟩:=hv.cells;refine eN [(0,_)] func91 rfl ntmps91 rfl rfl hG ?_;intro a H;refine kP H (SR fun _ K1=>ak K1 rfl (SQ fun _ K2=>SR fun _ K3=>Rm rfl ?_));clear H K1;intro a H;refine Ph tO H wn rfl rfl ?_;clear H;intro a H;refine K3 _ _ ?_;clear K3;refine mV H rfl ?_ ?_
 ·intro h4
  exact kP H (SR fun _ K4=>ak K4 rfl (LR results91 rfl fun H=>H.rt (by rw [hnil (by simpa using h4)];exact av.iQ rfl (by simp [maxLen]))))
 intro h4
 try have p4:=dF h4
 refine fQ ?_;refine K2 _ _ ?_;clear K2;refine bg (fun _ K5=>?_)
 have hA:¬ A=none:=by intro e;rw [e] at h4;cases h4
 refine mh ?_;refine Pb tO oZ H wn rfl ?_;clear H;intro b5 a w hb5 H;refine kH H (Rm rfl ?_);clear H;intro a H
 by_cases hr0:rows=[]
 ·have hn0:n=0:=by rw [hn,hr0];rfl
  subst hn0;refine Kg tO oZ H wn rfl rfl (bP _) rfl ?_;clear H;intro a H;exact kH H (aU K5 rfl (LR results91 rfl fun H=>H.rt (by rw [hr0];exact av.iQ rfl (by simp [maxLen]))))
 obtain ⟨b,o,xs,rfl,hxl,hxc,hx1,iI⟩:=hx hr0;refine tJ (Li:=[]) (Lo:=[_]) (news:=xs) tO oZ rfl rfl H wn rfl rfl eF.empty hxl (fun j u hj=>H.hp.aI (hxc j u hj)) hx1 (by omega) (by omega) rfl ?_;clear H;intro v7 Lo a w hrow H;obtain ⟨G',hm,hrep,H⟩:=H.Au hrow (rows:=rows) (by omega) (by simpa using iI)
 try clear hG
 obtain ⟨G2,hG2⟩:∃ g,g=G':=⟨_,rfl⟩;subst hG2;exact kH H (aU K5 rfl (LR results91 rfl fun H=>H.rt hrep))
theorem Y0 (G:GH) (w0:World) (hG:Hold G w0) (rows:List (List Dat)) (A:Option Addr) (n c:Nat) (hv:av G (.sl 2 rows) (.slice A n c)) (hz:rows.length≤4294967296) :
  Calls prog 92 #[.slice A n c] w0 (aZ w0 G fun v G'=>av G' (.sl 2 rows) v):=by
 obtain ⟨hn,hc1,hc2,hnil,hx⟩:=hv.cells;refine eN [(0,_)] func92 rfl ntmps92 rfl rfl hG ?_;intro a H;refine kP H (SR fun _ K1=>ak K1 rfl (SQ fun _ K2=>SR fun _ K3=>Rm rfl ?_));clear H K1;intro a H;refine Ph uK H wn rfl rfl ?_;clear H;intro a H;refine K3 _ _ ?_;clear K3;refine mV H rfl ?_ ?_
 ·intro h4
  exact kP H (SR fun _ K4=>ak K4 rfl (LR results92 rfl fun H=>H.rt (by rw [hnil (by simpa using h4)];exact av.iQ rfl (by simp [maxLen]))))
 intro h4
 try have p4:=dF h4
 refine fQ ?_;refine K2 _ _ ?_;clear K2;refine bg (fun _ K5=>?_)
 have hA:¬ A=none:=by intro e;rw [e] at h4;cases h4
 refine mh ?_;refine Pb uK zO H wn rfl ?_;clear H;intro b5 a w hb5 H;refine kH H (Rm rfl ?_);clear H;intro a H
 by_cases hr0:rows=[]
 ·have hn0:n=0:=by rw [hn,hr0];rfl
  subst hn0;refine Kg uK zO H wn rfl rfl (bP _) rfl ?_;clear H;intro a H;exact kH H (aU K5 rfl (LR results92 rfl fun H=>H.rt (by rw [hr0];exact av.iQ rfl (by simp [maxLen]))))
 obtain ⟨b,o,xs,rfl,hxl,hxc,hx1,iI⟩:=hx hr0;refine tJ (Li:=[]) (Lo:=[_]) (news:=xs) uK zO rfl rfl H wn rfl rfl eF.empty hxl (fun j u hj=>H.hp.aI (hxc j u hj)) hx1 (by omega) (by omega) rfl ?_;clear H;intro v7 Lo a w hrow H;obtain ⟨G',hm,hrep,H⟩:=H.Au hrow (rows:=rows) (by omega) (by simpa using iI)
 try clear hG
 obtain ⟨G2,hG2⟩:∃ g,g=G':=⟨_,rfl⟩;subst hG2;exact kH H (aU K5 rfl (LR results92 rfl fun H=>H.rt hrep))
theorem Y1 (G:GH) (w0:World) (hG:Hold G w0) (rows:List (List Dat)) (A:Option Addr) (n c:Nat) (hv:av G (.sl 4 rows) (.slice A n c)) (hz:rows.length≤4294967296) :
  Calls prog 93 #[.slice A n c] w0 (aZ w0 G fun v G'=>av G' (.sl 4 rows) v):=by
 obtain ⟨hn,hc1,hc2,hnil,hx⟩:=hv.cells;refine eN [(0,_)] func93 rfl ntmps93 rfl rfl hG ?_;intro a H;refine kP H (SR fun _ K1=>ak K1 rfl (SQ fun _ K2=>SR fun _ K3=>Rm rfl ?_));clear H K1;intro a H;refine Ph zR H wn rfl rfl ?_;clear H;intro a H;refine K3 _ _ ?_;clear K3;refine mV H rfl ?_ ?_
 ·intro h4
  exact kP H (SR fun _ K4=>ak K4 rfl (LR results93 rfl fun H=>H.rt (by rw [hnil (by simpa using h4)];exact av.iQ rfl (by simp [maxLen]))))
 intro h4
 try have p4:=dF h4
 refine fQ ?_;refine K2 _ _ ?_;clear K2;refine bg (fun _ K5=>?_)
 have hA:¬ A=none:=by intro e;rw [e] at h4;cases h4
 refine mh ?_;refine Pb zR zP H wn rfl ?_;clear H;intro b5 a w hb5 H;refine kH H (Rm rfl ?_);clear H;intro a H
 by_cases hr0:rows=[]
 ·have hn0:n=0:=by rw [hn,hr0];rfl
  subst hn0;refine Kg zR zP H wn rfl rfl (bP _) rfl ?_;clear H;intro a H;exact kH H (aU K5 rfl (LR results93 rfl fun H=>H.rt (by rw [hr0];exact av.iQ rfl (by simp [maxLen]))))
 obtain ⟨b,o,xs,rfl,hxl,hxc,hx1,iI⟩:=hx hr0;refine tJ (Li:=[]) (Lo:=[_]) (news:=xs) zR zP rfl rfl H wn rfl rfl eF.empty hxl (fun j u hj=>H.hp.aI (hxc j u hj)) hx1 (by omega) (by omega) rfl ?_;clear H;intro v7 Lo a w hrow H;obtain ⟨G',hm,hrep,H⟩:=H.Au hrow (rows:=rows) (by omega) (by simpa using iI)
 try clear hG
 obtain ⟨G2,hG2⟩:∃ g,g=G':=⟨_,rfl⟩;subst hG2;exact kH H (aU K5 rfl (LR results93 rfl fun H=>H.rt hrep))
theorem LY (G:GH) (w0:World) (hG:Hold G w0) (h:jm) (pA dA yA:Option Addr) (pn pc dn dc yn yc:Nat) (hv:jR G h (.slice pA pn pc) (.slice dA dn dc) (.slice yA yn yc)) (hz:pE h≤4294967296) :
  Calls prog 32 #[.agg #[.slice pA pn pc,vi h.marks.ins,vi h.marks.move,.slice dA dn dc,.slice yA yn yc]] w0 (aZ w0 G fun v G'=>∃ p d l,v=.agg #[p,vi h.marks.ins,vi h.marks.move,d,l]∧jR G' h p d l):=by
 have he:=Ie h;have h1:=qY (h.props.map jq.dat);have h2:=qY (h.marks.dH.map kZ.dat);have h3:=qY (h.marks.layers.map kg.dat);refine eN [(0,_)] func32 rfl ntmps32 rfl rfl hG ?_;intro a H;refine bK (fun _ K1=>?_);refine dz (cs:=[_,_,_,_,_]) H wn rfl rfl rfl ?_;clear H;intro b1 a w hb1 H;refine dx tL H wn rfl ?_;clear H;intro b2 a w hb2 H;refine K1 _ _ ?_;clear K1;refine kP H (SR fun _ K2=>aO Jf EM 1 rfl rfl ?_);clear H;intro a H;refine s_call abA H wn rfl (Y2 _ _ H.ro _ _ _ _ hv.props (by omega)) rfl ?_;clear H;rintro v5 G5 a w vo Eh H;obtain ⟨A5,n5,c5,rfl⟩:=vo.form;refine kH H (Rf Jf rfl ?_);clear H;intro a H;refine aX EM 1 (vs:=[_]) _ H wn rfl rfl rfl rfl rfl rfl rfl rfl ?_;clear H;intro w H;dsimp only [List.set,setRow] at H;refine K2 _ _ ?_;clear K2;refine bg (fun _ K3=>?_);obtain ⟨hvp,hvd,hvy⟩:=hv.mono Eh;clear hv
 have nG:∀ (dY:Nat) (v:aj) (G G':GH),(∀ k o,G k=some o→G' k=some o)→(fun (dY:Nat) (v:aj) (G:GH)=>match dY with|0=>v=(aJ b1 1)|1=>v=(aJ b1 3)|2=>v=.slice dA dn dc|3=>av G (.sl 2 (h.marks.dH.map kZ.dat)) v|4=>v=(aJ b1 1)|5=>v=(aJ b1 4)|6=>v=.slice yA yn yc|7=>av G (.sl 4 (h.marks.layers.map kg.dat)) v|8=>v=(aJ b1 1)|9=>v=(aJ b1 3)|_=>True) dY v G→(fun (dY:Nat) (v:aj) (G:GH)=>match dY with|0=>v=(aJ b1 1)|1=>v=(aJ b1 3)|2=>v=.slice dA dn dc|3=>av G (.sl 2 (h.marks.dH.map kZ.dat)) v|4=>v=(aJ b1 1)|5=>v=(aJ b1 4)|6=>v=.slice yA yn yc|7=>av G (.sl 4 (h.marks.layers.map kg.dat)) v|8=>v=(aJ b1 1)|9=>v=(aJ b1 3)|_=>True) dY v G':=by
  intro dY v G G' hm h
  match dY,h with
  | 0,h=>exact h
  | 1,h=>exact h
  | 2,h=>exact h
  | 3,h=>exact av.mono hm h
  | 4,h=>exact h
  | 5,h=>exact h
  | 6,h=>exact h
  | 7,h=>exact av.mono hm h
  | 8,h=>exact h
  | 9,h=>exact h
  | 10,h=>exact trivial
  | 11,h=>exact trivial
  | 12,h=>exact trivial
  | 13,h=>exact trivial
  | _+14,h=>exact trivial
 refine Dx (hmx) [[],[0],[0,1],[0,1,2],[],[4],[4,5],(ra 0 7),(ra 0 7),(ra 0 7++[8]),(ra 0 10),(ra 0 11),(ra 0 12),(ra 0 13)] (ra 10 4) (by kernel_rfl) (by kernel_rfl) (fun (dY:Nat) (v:aj) (G:GH)=>match dY with|0=>v=(aJ b1 1)|1=>v=(aJ b1 3)|2=>v=.slice dA dn dc|3=>av G (.sl 2 (h.marks.dH.map kZ.dat)) v|4=>v=(aJ b1 1)|5=>v=(aJ b1 4)|6=>v=.slice yA yn yc|7=>av G (.sl 4 (h.marks.layers.map kg.dat)) v|8=>v=(aJ b1 1)|9=>v=(aJ b1 3)|_=>True) nG H ?_ ?_
 ·clear H;refine aF ?_ ?_ ?_ ?_ (aF ?_ ?_ ?_ ?_ (aF ?_ ?_ (bJ rfl) (bJ rfl) (bM (bJ rfl) (bM (bJ rfl) dP))))
  ·refine gQ [] rfl trivial (by kernel_rfl) nG rfl rfl ?_;intro dW a w G1 hG HT H fin;exact kH H (Rf DV rfl fun _ H=>fin H iJ rfl)
  ·refine gQ [(0,7,_)] rfl ⟨fun _ _ h=>h,aD⟩ (by kernel_rfl) nG rfl rfl ?_;intro dW a w G1 hG HT H fin;exact kH H (Rf xD rfl fun _ H=>fin H iJ rfl)
  ·refine gQ [(1,8,_)] rfl ⟨fun _ _ h=>h,aD⟩ (by kernel_rfl) nG rfl rfl ?_;intro dW a w G1 hG HT H fin;exact kH H (Ro xZ 1 rfl fun _ H=>fin H iJ rfl)
  ·refine gQ [(2,9,_)] rfl ⟨fun _ _ h=>h,aD⟩ (by kernel_rfl) nG rfl rfl ?_;intro dW a w G1 hG HT H fin;refine s_call abB H wn rfl (Y0 _ _ H.ro _ _ _ _ (hvd.mono hG) (by omega)) rfl ?_;clear H;rintro v10 Fe a w wD rU H;exact fin H rU (wD)
  ·refine gQ [] rfl trivial (by kernel_rfl) nG rfl rfl ?_;intro dW a w G1 hG HT H fin;exact kH H (Rf DV rfl fun _ H=>fin H iJ rfl)
  ·refine gQ [(4,11,_)] rfl ⟨fun _ _ h=>h,aD⟩ (by kernel_rfl) nG rfl rfl ?_;intro dW a w G1 hG HT H fin;exact kH H (Rf F8 rfl fun _ H=>fin H iJ rfl)
  ·refine gQ [(5,12,_)] rfl ⟨fun _ _ h=>h,aD⟩ (by kernel_rfl) nG rfl rfl ?_;intro dW a w G1 hG HT H fin;exact kH H (Ro HZ 1 rfl fun _ H=>fin H iJ rfl)
  ·refine gQ [(6,13,_)] rfl ⟨fun _ _ h=>h,aD⟩ (by kernel_rfl) nG rfl rfl ?_;intro dW a w G1 hG HT H fin;refine s_call abC H wn rfl (Y1 _ _ H.ro _ _ _ _ (hvy.mono hG) (by omega)) rfl ?_;clear H;rintro v14 yB a w GX Gm H;exact fin H Gm (GX)
  ·refine gQ [] rfl trivial (by kernel_rfl) nG rfl rfl ?_;intro dW a w G1 hG HT H fin;exact kH H (Rf DV rfl fun _ H=>fin H iJ rfl)
  refine gQ [(8,15,_)] rfl ⟨fun _ _ h=>h,aD⟩ (by kernel_rfl) nG rfl rfl ?_;intro dW a w G1 hG HT H fin;exact kH H (Rf xD rfl fun _ H=>fin H iJ rfl)
 clear H;intro a w G yY H hv;obtain ⟨u10,Oj,wD⟩:=hv 3 10 (by decide) rfl;(try dsimp only at wD);obtain ⟨WK,n10,c10,rfl⟩:=wD.form;have H:=H.sJ Oj;obtain ⟨u14,aen,GX⟩:=hv 7 14 (by decide) rfl;(try dsimp only at GX);obtain ⟨PX,n14,c14,rfl⟩:=GX.form;have H:=H.sJ aen;have H:=H.aT (hv 9 16 rfl rfl) rfl;clear hv;refine aX xZ 1 (vs:=[_]) _ H wn rfl rfl rfl rfl rfl rfl rfl rfl ?_;clear H;intro w H;dsimp only [List.set,setRow] at H;refine kH H (Rf DV rfl (Rf F8 rfl ?_));clear H;intro a H;refine aX HZ 1 (vs:=[_]) _ H wn rfl rfl rfl rfl rfl rfl rfl rfl ?_;clear H;intro w H;dsimp only [List.set,setRow] at H;refine aH ⟨rfl,?_⟩;refine K3 _ _ ?_;clear K3;refine bK (fun _ K4=>?_);refine aW tL (cs:=[_,_,_,_,_]) H wn rfl rfl (H.hp.bT 1 rfl rfl) rfl ?_;clear H;intro a H;refine aX tL 0 (vs:=[_,_,_,_,_]) _ H wn rfl rfl rfl rfl rfl rfl rfl rfl ?_;clear H;intro w H;dsimp only [List.set,setRow] at H;refine K4 _ _ ?_;clear K4;refine bF ?_;refine (leave1 H results32 (.cons (wM tL (cs:=[_,_,_,_,_]) H rfl rfl (H.hp.bT 0 rfl rfl)) .nil) ?_).1;exact H.rt ⟨_,_,_,rfl,vo.mono yY,wD,GX⟩
theorem OQ {G:GH} {w:World} (h:Hold G w):gI G [] w:=⟨h,fun _ h=>(by cases h),fun _ h=>(by cases h),List.Pairwise.nil⟩
theorem LP {P:Program} {f:FuncId} {args:Array aj} {w0:World} {G:GH} {e sz n:Nat} {rows:List (List Dat)} (hG:Hold G w0) (h:Calls P f args w0 (fT w0 G [] fun u G' L'=>∃ xs,eF e sz u n xs L'∧gJ G' sz rows xs)) (hl:rows.length=n) :
  Calls P f args w0 (aZ w0 G fun u G'=>av G' (.sl sz rows) u):=by
 intro cs;obtain ⟨e1,w',fr,⟨v,G',L',rfl,hch,xs,hrow,iI⟩,h2,h3,h4⟩:=h cs;have hp0:Hp w0 (fun k=>k < w0.heap.size) G G ([]++[]) w0:=⟨rfl,rfl,rfl,bP _,fun _ h=>h,fun _ _=>rfl,hG,fun _ _ h=>h,fun _ _ h=>.inl h,fun _ h=>(by cases h),fun _ h=>(by cases h),fun _ h=>(by cases h),List.Pairwise.nil⟩;have hp1:=hp0.change hch;rw [ko] at hp1;refine ⟨_,w',fr,?_,h2,h3,h4⟩
 rcases hrow.2 with ⟨rfl,h5,rfl⟩|⟨b,cap,cur,rfl,rfl,h5,h6,h7,h8⟩
 ·refine hp1.ret ?_;have:rows=[]:=List.eq_nil_of_length_eq_zero (by omega);subst this
  simp only [av]
  exact ⟨none,0,by simp,by simp,by simp [maxLen],fun h=>absurd rfl h⟩
 have hn:=hp1.qI (b,.cells cur e (0,0)) (by simp);exact (hp1.giveUp 0 rfl).ret (av.dS (GH.Iy G' b _) hl h5 h6 h8 (iI.mono fun k o h=>GH.FE G' hn k o h))
def Bu (fv:aj) (w0:World) (G:GH) (d d':List Dat):Prop:=∀ (G1:GH) (w1:World) (cs:List aj),(∀ b o,G b=some o→G1 b=some o)→Hold G1 w1→aS G1 d cs →
 tT prog fv [.agg cs.toArray] w1 (aZ w1 G1 fun u G'=>∃ cs',u=.agg cs'.toArray∧aS G' d' cs')
abbrev Da (fv:aj) (w0:World) (G:GH) (d:List Dat):Prop:=Bu fv w0 G d d
theorem ZG (φ:aB→aB) (G:GH) (w0:World) (hO:gI G [] w0) (l:List aB) (v fv:aj) (hv:av G (.sl 11 (l.map aB.dat)) v) (hz:l.length≤4294967296) (hf:∀ x∈l,Bu fv w0 G x.dat (φ x).dat) :
  Calls prog 87 #[v,fv] w0 (fT w0 G [] fun u G' L'=>∃ xs,eF 47 11 u l.length xs L'∧gJ G' 11 (l.map fun x=>(φ x).dat) xs):=by
 obtain ⟨A,c,rfl,hc1,hc2,hg⟩:=hv.slice
 have hml:4294967297≤maxLen:=by decide
 rw [bW] at *;refine jh (N:=22) (T:=[(0,_),(1,_)]) func87 rfl ntmps87 rfl rfl hO ?_;intro a H;refine kP H (SR fun _ K1=>ak K1 rfl (SR fun _ K2=>ak K2 rfl (SQ fun _ K3=>SR fun _ K4=>Rm rfl (Rl oq rfl (Rm rfl (Kz K4 (SB ?_)))))));clear H K1 K2 K4;intro a H;skip;refine gq (ι:=Nat × aj × List aj × OL × GH) (Tc:=[(1,_),(8,_),(9,_)]) (Lc:=[]) (fun gh=>[(5,gh.2.1),(10,vi gh.1)]) (fun gh=>[]++gh.2.2.2.1) (fun gh=>gh.2.2.2.2) (fun gh=>gh.1≤l.length∧eF 47 11 gh.2.1 gh.1 gh.2.2.1 gh.2.2.2.1∧gJ gh.2.2.2.2 11 ((l.map fun x=>(φ x).dat).take gh.1) gh.2.2.1∧(∀ b o,G b=some o→gh.2.2.2.2 b=some o)) (fun gh=>l.length - gh.1) ((0,.slice none 0 0,[],[],G)) (by exact (H).sub ⟨rfl,rfl,rfl,rfl,rfl,aD⟩) ?_ ?_
 ·exact ⟨by omega,eF.nil,by simpa using gJ.nil,fun _ _ h=>h⟩
 clear H;intro gh a w hI H;obtain ⟨k,v,xs,Lo,g⟩:=gh;dsimp only at hI H;obtain ⟨hk,hrw,iI,hgm⟩:=hI;dsimp only [lca,aV] at H;refine kP H (SR fun _ K5=>Rc rfl (Kz K5 (SQ fun _ K6=>Cd rfl ?_ ?_))) <;> clear H K5
 ·intro h11 a H
  try have qC:=dT h11
  have hk2:k < l.length:=by omega
  obtain ⟨b,o,cs,rfl,hcl,hrow,hrep⟩:=hg k l[k].dat (by simp [hk2]);obtain ⟨pA,pn,pc,dA,dn,dc,yA,yn,yc,fA,fn,fc,rA,rn,rc,rfl,-⟩:=hrep.item;replace hrow:=fun j u hj=>aL hgm (hrow j u hj);refine kP H (Kc K6 (SQ fun _ K7=>SB (SR fun _ K8=>Ri oq eX rfl rfl ?_)));clear H K6;intro a H;refine aW eX (cs:=[_,_,_,_,_,_,_,_,_,_,_]) H wn rfl rfl (fun j v hj=>H.hp.aI (hrow j v hj)) rfl ?_;clear H;intro a H;refine dx eX H wn rfl ?_;clear H;intro b7 a w rW H;refine aX eX 0 (vs:=[_,_,_,_,_,_,_,_,_,_,_]) _ H wn rfl rfl rfl rfl rfl rfl rfl rfl ?_;clear H;intro w H;dsimp only [List.set,setRow] at H;refine K8 _ _ ?_;clear K8;refine kP H (SC (Rm rfl (Rm rfl ?_)));clear H;intro a H;refine aW eX (cs:=[_,_,_,_,_,_,_,_,_,_,_]) H wn rfl rfl (H.hp.bT 0 rfl rfl) rfl ?_;clear H;intro a H;refine oU H wn rfl rfl (hf _ (jT hk2) _ _ _ hgm H.ro (hrep.mono hgm)) rfl ?_;clear H;rintro v17 zV a w ⟨vT,rfl,dM⟩ oM H;obtain ⟨cs,hcs⟩:∃ cs,cs=vT:=⟨_,rfl⟩;obtain ⟨pA,pn,pc,dA,dn,dc,yA,yn,yc,fA,fn,fc,rA,rn,rc,sV,-⟩:=dM.item;rw [sV] at H;refine ig oq eX [_,_,_,_,_,_,_,_,_,_,_] [_,_,_,_,_,_,_,_,_,_,_] H wn rfl rfl rfl rfl rfl (by intro i q h;match i,h with|0,h=>exact h|n+1,h=>simp at h) rfl rfl ?_;clear H;intro b18 a w Jy H;refine tJ (Li:=[_,_]) (Lo:=Lo) (news:=vT) oq eX rfl rfl H wn rfl rfl hrw (by rw [sV];rfl) (by rw [sV];exact H.hp.bT 0 rfl rfl) dM.one (by omega) (by omega) rfl ?_;clear H;intro v19 BG a w vw H;refine kH H (aU K7 rfl (SC (Rd rfl (Rm rfl ?_))));clear H K7;intro a H;refine aH ?_;refine eO ((k+1,v19,xs++vT,BG,zV)) (by exact (H.bU (Pl:=[_,_]) (bN:=[]) [] (by decide) rfl).sub ⟨rfl,rfl,rfl,rfl,rfl,aD⟩) ?_ ?_
  ·(try dsimp only);refine ⟨by omega,vw,?_,fun b o h=>oM b o (hgm b o h)⟩;rw [mP (by simpa using hk2)];exact (iI.mono oM).snoc (by simpa using dM) (by rw [sV];rfl)
  first|omega|(dsimp only;omega)
 intro h11 a H
 try have qC:=dF h11
 refine fI ?_;refine K3 _ _ ?_;clear K3;refine kP H (SR fun _ K9=>Rm rfl (ak K9 rfl ?_));clear H K9;intro a H;refine lr H results87 rfl ?_
 obtain rfl:k=l.length:=by omega
 exact H.hp.eU ⟨_,hrw,by rw [jU (by simp)] at iI;exact iI⟩
theorem ZK (φ:aB→aB) (G:GH) (w0:World) (hG:Hold G w0) (l:List aB) (v fv:aj) (hv:av G (.sl 11 (l.map aB.dat)) v) (hz:l.length≤4294967296) (hf:∀ x∈l,Bu fv w0 G x.dat (φ x).dat) :
  Calls prog 87 #[v,fv] w0 (aZ w0 G fun u G'=>av G' (.sl 11 (l.map fun x=>(φ x).dat)) u):=LP hG (ZG φ G w0 (OQ hG) l v fv hv hz hf) (by simp)
theorem ZE (G:GH) (w0:World) (hG:Hold G w0) (l:List aB) (v fv:aj) (hv:av G (.sl 11 (l.map aB.dat)) v) (hz:l.length≤4294967296) (hf:∀ x∈l,Da fv w0 G x.dat) :
  Calls prog 87 #[v,fv] w0 (aZ w0 G fun u G'=>av G' (.sl 11 (l.map aB.dat)) u):=ZK (fun x=>x) G w0 hG l v fv hv hz hf
theorem ZH (φ:bC→bC) (G:GH) (w0:World) (hO:gI G [] w0) (l:List bC) (v fv:aj) (hv:av G (.sl 6 (l.map bC.dat)) v) (hz:l.length≤4294967296) (hf:∀ x∈l,Bu fv w0 G x.dat (φ x).dat) :
  Calls prog 89 #[v,fv] w0 (fT w0 G [] fun u G' L'=>∃ xs,eF 135 6 u l.length xs L'∧gJ G' 6 (l.map fun x=>(φ x).dat) xs):=by
 obtain ⟨A,c,rfl,hc1,hc2,hg⟩:=hv.slice
 have hml:4294967297≤maxLen:=by decide
 rw [bW] at *;refine jh (N:=22) (T:=[(0,_),(1,_)]) func89 rfl ntmps89 rfl rfl hO ?_;intro a H;refine kP H (SR fun _ K1=>ak K1 rfl (SR fun _ K2=>ak K2 rfl (SQ fun _ K3=>SR fun _ K4=>Rm rfl (Rl pq rfl (Rm rfl (Kz K4 (SB ?_)))))));clear H K1 K2 K4;intro a H;skip;refine gq (ι:=Nat × aj × List aj × OL × GH) (Tc:=[(1,_),(8,_),(9,_)]) (Lc:=[]) (fun gh=>[(5,gh.2.1),(10,vi gh.1)]) (fun gh=>[]++gh.2.2.2.1) (fun gh=>gh.2.2.2.2) (fun gh=>gh.1≤l.length∧eF 135 6 gh.2.1 gh.1 gh.2.2.1 gh.2.2.2.1∧gJ gh.2.2.2.2 6 ((l.map fun x=>(φ x).dat).take gh.1) gh.2.2.1∧(∀ b o,G b=some o→gh.2.2.2.2 b=some o)) (fun gh=>l.length - gh.1) ((0,.slice none 0 0,[],[],G)) (by exact (H).sub ⟨rfl,rfl,rfl,rfl,rfl,aD⟩) ?_ ?_
 ·exact ⟨by omega,eF.nil,by simpa using gJ.nil,fun _ _ h=>h⟩
 clear H;intro gh a w hI H;obtain ⟨k,v,xs,Lo,g⟩:=gh;dsimp only at hI H;obtain ⟨hk,hrw,iI,hgm⟩:=hI;dsimp only [lca,aV] at H;refine kP H (SR fun _ K5=>Rc rfl (Kz K5 (SQ fun _ K6=>Cd rfl ?_ ?_))) <;> clear H K5
 ·intro h11 a H
  try have qC:=dT h11
  have hk2:k < l.length:=by omega
  obtain ⟨b,o,cs,rfl,hcl,hrow,hrep⟩:=hg k l[k].dat (by simp [hk2]);obtain ⟨pA,pn,pc,dA,dn,dc,yA,yn,yc,fA,fn,fc,rfl,-⟩:=hrep.row;replace hrow:=fun j u hj=>aL hgm (hrow j u hj);refine kP H (Kc K6 (SQ fun _ K7=>SB (SR fun _ K8=>Ri pq jJ rfl rfl ?_)));clear H K6;intro a H;refine aW jJ (cs:=[_,_,_,_,_,_]) H wn rfl rfl (fun j v hj=>H.hp.aI (hrow j v hj)) rfl ?_;clear H;intro a H;refine dx jJ H wn rfl ?_;clear H;intro b7 a w rW H;refine aX jJ 0 (vs:=[_,_,_,_,_,_]) _ H wn rfl rfl rfl rfl rfl rfl rfl rfl ?_;clear H;intro w H;dsimp only [List.set,setRow] at H;refine K8 _ _ ?_;clear K8;refine kP H (SC (Rm rfl (Rm rfl ?_)));clear H;intro a H;refine aW jJ (cs:=[_,_,_,_,_,_]) H wn rfl rfl (H.hp.bT 0 rfl rfl) rfl ?_;clear H;intro a H;refine oU H wn rfl rfl (hf _ (jT hk2) _ _ _ hgm H.ro (hrep.mono hgm)) rfl ?_;clear H;rintro v17 zV a w ⟨vT,rfl,dM⟩ oM H;obtain ⟨cs,hcs⟩:∃ cs,cs=vT:=⟨_,rfl⟩;obtain ⟨pA,pn,pc,dA,dn,dc,yA,yn,yc,fA,fn,fc,sV,-⟩:=dM.row;rw [sV] at H;refine ig pq jJ [_,_,_,_,_,_] [_,_,_,_,_,_] H wn rfl rfl rfl rfl rfl (by intro i q h;match i,h with|0,h=>exact h|n+1,h=>simp at h) rfl rfl ?_;clear H;intro b18 a w Jy H;refine tJ (Li:=[_,_]) (Lo:=Lo) (news:=vT) pq jJ rfl rfl H wn rfl rfl hrw (by rw [sV];rfl) (by rw [sV];exact H.hp.bT 0 rfl rfl) dM.one (by omega) (by omega) rfl ?_;clear H;intro v19 BG a w vw H;refine kH H (aU K7 rfl (SC (Rd rfl (Rm rfl ?_))));clear H K7;intro a H;refine aH ?_;refine eO ((k+1,v19,xs++vT,BG,zV)) (by exact (H.bU (Pl:=[_,_]) (bN:=[]) [] (by decide) rfl).sub ⟨rfl,rfl,rfl,rfl,rfl,aD⟩) ?_ ?_
  ·(try dsimp only);refine ⟨by omega,vw,?_,fun b o h=>oM b o (hgm b o h)⟩;rw [mP (by simpa using hk2)];exact (iI.mono oM).snoc (by simpa using dM) (by rw [sV];rfl)
  first|omega|(dsimp only;omega)
 intro h11 a H
 try have qC:=dF h11
 refine fI ?_;refine K3 _ _ ?_;clear K3;refine kP H (SR fun _ K9=>Rm rfl (ak K9 rfl ?_));clear H K9;intro a H;refine lr H results89 rfl ?_
 obtain rfl:k=l.length:=by omega
 exact H.hp.eU ⟨_,hrw,by rw [jU (by simp)] at iI;exact iI⟩
theorem ZL (φ:bC→bC) (G:GH) (w0:World) (hG:Hold G w0) (l:List bC) (v fv:aj) (hv:av G (.sl 6 (l.map bC.dat)) v) (hz:l.length≤4294967296) (hf:∀ x∈l,Bu fv w0 G x.dat (φ x).dat) :
  Calls prog 89 #[v,fv] w0 (aZ w0 G fun u G'=>av G' (.sl 6 (l.map fun x=>(φ x).dat)) u):=LP hG (ZH φ G w0 (OQ hG) l v fv hv hz hf) (by simp)
theorem ZI (G:GH) (w0:World) (hG:Hold G w0) (l:List bC) (v fv:aj) (hv:av G (.sl 6 (l.map bC.dat)) v) (hz:l.length≤4294967296) (hf:∀ x∈l,Da fv w0 G x.dat) :
  Calls prog 89 #[v,fv] w0 (aZ w0 G fun u G'=>av G' (.sl 6 (l.map bC.dat)) u):=ZL (fun x=>x) G w0 hG l v fv hv hz hf
theorem ZF (φ:aY→aY) (G:GH) (w0:World) (hO:gI G [] w0) (l:List aY) (v fv:aj) (hv:av G (.sl 7 (l.map aY.dat)) v) (hz:l.length≤4294967296) (hf:∀ x∈l,Bu fv w0 G x.dat (φ x).dat) :
  Calls prog 146 #[v,fv] w0 (fT w0 G [] fun u G' L'=>∃ xs,eF 132 7 u l.length xs L'∧gJ G' 7 (l.map fun x=>(φ x).dat) xs):=by
 obtain ⟨A,c,rfl,hc1,hc2,hg⟩:=hv.slice
 have hml:4294967297≤maxLen:=by decide
 rw [bW] at *;refine jh (N:=22) (T:=[(0,_),(1,_)]) func146 rfl ntmps146 rfl rfl hO ?_;intro a H;refine kP H (SR fun _ K1=>ak K1 rfl (SR fun _ K2=>ak K2 rfl (SQ fun _ K3=>SR fun _ K4=>Rm rfl (Rl mY rfl (Rm rfl (Kz K4 (SB ?_)))))));clear H K1 K2 K4;intro a H;skip;refine gq (ι:=Nat × aj × List aj × OL × GH) (Tc:=[(1,_),(8,_),(9,_)]) (Lc:=[]) (fun gh=>[(5,gh.2.1),(10,vi gh.1)]) (fun gh=>[]++gh.2.2.2.1) (fun gh=>gh.2.2.2.2) (fun gh=>gh.1≤l.length∧eF 132 7 gh.2.1 gh.1 gh.2.2.1 gh.2.2.2.1∧gJ gh.2.2.2.2 7 ((l.map fun x=>(φ x).dat).take gh.1) gh.2.2.1∧(∀ b o,G b=some o→gh.2.2.2.2 b=some o)) (fun gh=>l.length - gh.1) ((0,.slice none 0 0,[],[],G)) (by exact (H).sub ⟨rfl,rfl,rfl,rfl,rfl,aD⟩) ?_ ?_
 ·exact ⟨by omega,eF.nil,by simpa using gJ.nil,fun _ _ h=>h⟩
 clear H;intro gh a w hI H;obtain ⟨k,v,xs,Lo,g⟩:=gh;dsimp only at hI H;obtain ⟨hk,hrw,iI,hgm⟩:=hI;dsimp only [lca,aV] at H;refine kP H (SR fun _ K5=>Rc rfl (Kz K5 (SQ fun _ K6=>Cd rfl ?_ ?_))) <;> clear H K5
 ·intro h11 a H
  try have qC:=dT h11
  have hk2:k < l.length:=by omega
  obtain ⟨b,o,cs,rfl,hcl,hrow,hrep⟩:=hg k l[k].dat (by simp [hk2]);obtain ⟨pA,pn,pc,dA,dn,dc,yA,yn,yc,fA,fn,fc,rfl,-⟩:=hrep.cell;replace hrow:=fun j u hj=>aL hgm (hrow j u hj);refine kP H (Kc K6 (SQ fun _ K7=>SB (SR fun _ K8=>Ri mY iR rfl rfl ?_)));clear H K6;intro a H;refine aW iR (cs:=[_,_,_,_,_,_,_]) H wn rfl rfl (fun j v hj=>H.hp.aI (hrow j v hj)) rfl ?_;clear H;intro a H;refine dx iR H wn rfl ?_;clear H;intro b7 a w rW H;refine aX iR 0 (vs:=[_,_,_,_,_,_,_]) _ H wn rfl rfl rfl rfl rfl rfl rfl rfl ?_;clear H;intro w H;dsimp only [List.set,setRow] at H;refine K8 _ _ ?_;clear K8;refine kP H (SC (Rm rfl (Rm rfl ?_)));clear H;intro a H;refine aW iR (cs:=[_,_,_,_,_,_,_]) H wn rfl rfl (H.hp.bT 0 rfl rfl) rfl ?_;clear H;intro a H;refine oU H wn rfl rfl (hf _ (jT hk2) _ _ _ hgm H.ro (hrep.mono hgm)) rfl ?_;clear H;rintro v17 zV a w ⟨vT,rfl,dM⟩ oM H;obtain ⟨cs,hcs⟩:∃ cs,cs=vT:=⟨_,rfl⟩;obtain ⟨pA,pn,pc,dA,dn,dc,yA,yn,yc,fA,fn,fc,sV,-⟩:=dM.cell;rw [sV] at H;refine ig mY iR [_,_,_,_,_,_,_] [_,_,_,_,_,_,_] H wn rfl rfl rfl rfl rfl (by intro i q h;match i,h with|0,h=>exact h|n+1,h=>simp at h) rfl rfl ?_;clear H;intro b18 a w Jy H;refine tJ (Li:=[_,_]) (Lo:=Lo) (news:=vT) mY iR rfl rfl H wn rfl rfl hrw (by rw [sV];rfl) (by rw [sV];exact H.hp.bT 0 rfl rfl) dM.one (by omega) (by omega) rfl ?_;clear H;intro v19 BG a w vw H;refine kH H (aU K7 rfl (SC (Rd rfl (Rm rfl ?_))));clear H K7;intro a H;refine aH ?_;refine eO ((k+1,v19,xs++vT,BG,zV)) (by exact (H.bU (Pl:=[_,_]) (bN:=[]) [] (by decide) rfl).sub ⟨rfl,rfl,rfl,rfl,rfl,aD⟩) ?_ ?_
  ·(try dsimp only);refine ⟨by omega,vw,?_,fun b o h=>oM b o (hgm b o h)⟩;rw [mP (by simpa using hk2)];exact (iI.mono oM).snoc (by simpa using dM) (by rw [sV];rfl)
  first|omega|(dsimp only;omega)
 intro h11 a H
 try have qC:=dF h11
 refine fI ?_;refine K3 _ _ ?_;clear K3;refine kP H (SR fun _ K9=>Rm rfl (ak K9 rfl ?_));clear H K9;intro a H;refine lr H results146 rfl ?_
 obtain rfl:k=l.length:=by omega
 exact H.hp.eU ⟨_,hrw,by rw [jU (by simp)] at iI;exact iI⟩
theorem ZJ (φ:aY→aY) (G:GH) (w0:World) (hG:Hold G w0) (l:List aY) (v fv:aj) (hv:av G (.sl 7 (l.map aY.dat)) v) (hz:l.length≤4294967296) (hf:∀ x∈l,Bu fv w0 G x.dat (φ x).dat) :
  Calls prog 146 #[v,fv] w0 (aZ w0 G fun u G'=>av G' (.sl 7 (l.map fun x=>(φ x).dat)) u):=LP hG (ZF φ G w0 (OQ hG) l v fv hv hz hf) (by simp)
theorem ZC (G:GH) (w0:World) (hG:Hold G w0) (l:List aY) (v fv:aj) (hv:av G (.sl 7 (l.map aY.dat)) v) (hz:l.length≤4294967296) (hf:∀ x∈l,Da fv w0 G x.dat) :
  Calls prog 146 #[v,fv] w0 (aZ w0 G fun u G'=>av G' (.sl 7 (l.map aY.dat)) u):=ZJ (fun x=>x) G w0 hG l v fv hv hz hf
def Bt (n:Nat):Prop:=∀ (G:GH) (w0:World),Hold G w0→∀ (l:List aB) (v:aj),av G (.sl 11 (l.map aB.dat)) v→bG l < n →
 Calls prog 31 #[v] w0 (aZ w0 G fun u G'=>av G' (.sl 11 (l.map aB.dat)) u)
theorem YZ {n:Nat} (ih:Bt n) (hn:n≤4294967296) (G:GH) (w0:World) (hG:Hold G w0) (x:aY) (cs:List aj) (hv:aS G x.dat cs) (hz:cB x.dat < n+1) :
  Calls prog 147 #[.agg cs.toArray] w0 (aZ w0 G fun u G'=>∃ cs',u=.agg cs'.toArray∧aS G' x.dat cs'):=by
 have he:=zT x;obtain ⟨pA,pn,pc,dA,dn,dc,yA,yn,yc,fA,fn,fc,rfl,hh,hf⟩:=hv.cell;refine eN [(0,_)] func147 rfl ntmps147 rfl rfl hG ?_;intro a H;refine bK (fun _ K1=>?_);refine dz (cs:=[_,_,_,_,_,_,_]) H wn rfl rfl rfl ?_;clear H;intro b1 a w hb1 H;refine dx iR H wn rfl ?_;clear H;intro b2 a w hb2 H;refine K1 _ _ ?_;clear K1;refine bg (fun _ K2=>?_)
 have iK:∀ (dY:Nat) (v:aj) (G G':GH),(∀ k o,G k=some o→G' k=some o)→(fun (dY:Nat) (v:aj) (G:GH)=>match dY with|0=>v=(aJ b1 0)|1=>v=vi x.id|2=>v=(aJ b1 1)|3=>v=.agg #[.slice pA pn pc,vi x.head.marks.ins,vi x.head.marks.move,.slice dA dn dc,.slice yA yn yc]|4=>∃ p d l,v=.agg #[p,vi x.head.marks.ins,vi x.head.marks.move,d,l]∧jR G x.head p d l|5=>v=(aJ b1 6)|6=>v=.slice fA fn fc|7=>av G (.sl 11 (x.flow.map aB.dat)) v|_=>True) dY v G→(fun (dY:Nat) (v:aj) (G:GH)=>match dY with|0=>v=(aJ b1 0)|1=>v=vi x.id|2=>v=(aJ b1 1)|3=>v=.agg #[.slice pA pn pc,vi x.head.marks.ins,vi x.head.marks.move,.slice dA dn dc,.slice yA yn yc]|4=>∃ p d l,v=.agg #[p,vi x.head.marks.ins,vi x.head.marks.move,d,l]∧jR G x.head p d l|5=>v=(aJ b1 6)|6=>v=.slice fA fn fc|7=>av G (.sl 11 (x.flow.map aB.dat)) v|_=>True) dY v G':=by
  intro dY v G G' hm h
  match dY,h with
  | 0,h=>exact h
  | 1,h=>exact h
  | 2,h=>exact h
  | 3,h=>exact h
  | 4,h=>exact let ⟨p,d,l,h1,h2⟩:=h;⟨p,d,l,h1,h2.mono hm⟩
  | 5,h=>exact h
  | 6,h=>exact h
  | 7,h=>exact av.mono hm h
  | 8,h=>exact trivial
  | 9,h=>exact trivial
  | _+10,h=>exact trivial
 refine Dx (hmx) [[],[0],[],[2],[2,3],[],[5],(ra 2 5),(ra 0 8),(ra 0 9)] [8,9] (by kernel_rfl) (by kernel_rfl) (fun (dY:Nat) (v:aj) (G:GH)=>match dY with|0=>v=(aJ b1 0)|1=>v=vi x.id|2=>v=(aJ b1 1)|3=>v=.agg #[.slice pA pn pc,vi x.head.marks.ins,vi x.head.marks.move,.slice dA dn dc,.slice yA yn yc]|4=>∃ p d l,v=.agg #[p,vi x.head.marks.ins,vi x.head.marks.move,d,l]∧jR G x.head p d l|5=>v=(aJ b1 6)|6=>v=.slice fA fn fc|7=>av G (.sl 11 (x.flow.map aB.dat)) v|_=>True) iK H ?_ ?_
 ·clear H;refine aF ?_ ?_ ?_ ?_ (aF ?_ ?_ ?_ ?_ (bM (bJ rfl) (bM (bJ rfl) dP)))
  ·refine gQ [] rfl trivial (by kernel_rfl) iK rfl rfl ?_;intro dW a w G1 hG HT H fin;exact kH H (Rf Ao rfl fun _ H=>fin H iJ rfl)
  ·refine gQ [(0,3,_)] rfl ⟨fun _ _ h=>h,aD⟩ (by kernel_rfl) iK rfl rfl ?_;intro dW a w G1 hG HT H fin;exact kH H (Ro aC 1 rfl fun _ H=>fin H iJ rfl)
  ·refine gQ [] rfl trivial (by kernel_rfl) iK rfl rfl ?_;intro dW a w G1 hG HT H fin;exact kH H (Rf Sw rfl fun _ H=>fin H iJ rfl)
  ·refine gQ [(2,5,_)] rfl ⟨fun _ _ h=>h,aD⟩ (by kernel_rfl) iK rfl rfl ?_;intro dW a w G1 hG HT H fin;refine aW tL (cs:=[_,_,_,_,_]) H wn rfl rfl (H.hp.bT 1 rfl rfl) rfl ?_;clear H;intro a H;exact fin H iJ rfl
  ·refine gQ [(3,6,_)] rfl ⟨fun _ _ h=>h,aD⟩ (by kernel_rfl) iK rfl rfl ?_;intro dW a w G1 hG HT H fin;refine s_call Mx H wn rfl (LY _ _ H.ro x.head _ _ _ _ _ _ _ _ _ (hh.mono hG) (by omega)) rfl ?_;clear H;rintro v7 G7 a w JG Nn H;exact fin H Nn (JG)
  ·refine gQ [] rfl trivial (by kernel_rfl) iK rfl rfl ?_;intro dW a w G1 hG HT H fin;exact kH H (Rf BP rfl fun _ H=>fin H iJ rfl)
  ·refine gQ [(5,8,_)] rfl ⟨fun _ _ h=>h,aD⟩ (by kernel_rfl) iK rfl rfl ?_;intro dW a w G1 hG HT H fin;exact kH H (Ro jL 1 rfl fun _ H=>fin H iJ rfl)
  refine gQ [(6,9,_)] rfl ⟨fun _ _ h=>h,aD⟩ (by kernel_rfl) iK rfl rfl ?_;intro dW a w G1 hG HT H fin;refine s_call Mw H wn rfl (ih _ _ H.ro x.flow _ (hf.mono hG) (by omega)) rfl ?_;clear H;rintro v10 Fe a w wD rU H;exact fin H rU (wD)
 clear H;intro a w G lU H hv;have H:=H.aT (hv 1 4 rfl rfl) rfl;obtain ⟨u7,hu7,JG⟩:=hv 4 7 (by decide) rfl;(try dsimp only at JG);obtain ⟨p7,d7,l7,rfl,JB⟩:=JG;obtain ⟨a1,a2,a3,rfl⟩:=JB.props.form;obtain ⟨a4,a5,a6,rfl⟩:=JB.dH.form;obtain ⟨a7,a8,a9,rfl⟩:=JB.layers.form;have H:=H.sJ hu7;obtain ⟨u10,Oj,wD⟩:=hv 7 10 (by decide) rfl;(try dsimp only at wD);obtain ⟨WK,n10,c10,rfl⟩:=wD.form;have H:=H.sJ Oj;clear hv;refine jw VF [_,_,_,_,_,_,_] H wn rfl rfl rfl rfl ?_;clear H;intro a H;refine aX iR 0 (vs:=[_,_,_,_,_,_,_]) _ H wn rfl rfl rfl rfl rfl rfl rfl rfl ?_;clear H;intro w H;dsimp only [List.set,setRow] at H;refine aH ⟨rfl,?_⟩;refine K2 _ _ ?_;clear K2;refine bF ?_;refine (leave1 H results147 (.cons (wM iR (cs:=[_,_,_,_,_,_,_]) H rfl rfl (H.hp.bT 0 rfl rfl)) .nil) ?_).1;exact H.rt ⟨_,rfl,aS.OH JB wD⟩
theorem YX {n:Nat} (ih:Bt n) (hn:n≤4294967296) {G:GH} {w0:World} (x:aY) (hz:cB x.dat < n+1):Da (.func (.func 147) #[] #[]) w0 G x.dat:=by
 intro G1 w1 cs hm1 hG1 hr;have h:=YZ ih hn _ _ hG1 x cs hr hz;have h2:=kG (P:=prog) (caps:=[]) (args:=[.agg cs.toArray]) aal h;exact h2
theorem Y4 {n:Nat} (ih:Bt n) (hn:n≤4294967296) (G:GH) (w0:World) (hG:Hold G w0) (x:bC) (cs:List aj) (hv:aS G x.dat cs) (hz:cB x.dat < n+1) :
  Calls prog 90 #[.agg cs.toArray] w0 (aZ w0 G fun u G'=>∃ cs',u=.agg cs'.toArray∧aS G' x.dat cs'):=by
 have he:=yu x;have hl:=E5 x.cells;obtain ⟨pA,pn,pc,dA,dn,dc,yA,yn,yc,fA,fn,fc,rfl,hh,hf⟩:=hv.row;refine eN [(0,_)] func90 rfl ntmps90 rfl rfl hG ?_;intro a H;refine bK (fun _ K1=>?_);refine dz (cs:=[_,_,_,_,_,_]) H wn rfl rfl rfl ?_;clear H;intro b1 a w hb1 H;refine dx jJ H wn rfl ?_;clear H;intro b2 a w hb2 H;refine K1 _ _ ?_;clear K1;refine bg (fun _ K2=>?_)
 have iK:∀ (dY:Nat) (v:aj) (G G':GH),(∀ k o,G k=some o→G' k=some o)→(fun (dY:Nat) (v:aj) (G:GH)=>match dY with|0=>v=(aJ b1 0)|1=>v=.agg #[.slice pA pn pc,vi x.head.marks.ins,vi x.head.marks.move,.slice dA dn dc,.slice yA yn yc]|2=>∃ p d l,v=.agg #[p,vi x.head.marks.ins,vi x.head.marks.move,d,l]∧jR G x.head p d l|3=>v=(aJ b1 5)|4=>v=.slice fA fn fc|5=>av G (.sl 7 (x.cells.map aY.dat)) v|_=>True) dY v G→(fun (dY:Nat) (v:aj) (G:GH)=>match dY with|0=>v=(aJ b1 0)|1=>v=.agg #[.slice pA pn pc,vi x.head.marks.ins,vi x.head.marks.move,.slice dA dn dc,.slice yA yn yc]|2=>∃ p d l,v=.agg #[p,vi x.head.marks.ins,vi x.head.marks.move,d,l]∧jR G x.head p d l|3=>v=(aJ b1 5)|4=>v=.slice fA fn fc|5=>av G (.sl 7 (x.cells.map aY.dat)) v|_=>True) dY v G':=by
  intro dY v G G' hm h
  match dY,h with
  | 0,h=>exact h
  | 1,h=>exact h
  | 2,h=>exact let ⟨p,d,l,h1,h2⟩:=h;⟨p,d,l,h1,h2.mono hm⟩
  | 3,h=>exact h
  | 4,h=>exact h
  | 5,h=>exact av.mono hm h
  | 6,h=>exact trivial
  | 7,h=>exact trivial
  | _+8,h=>exact trivial
 refine Dx (hmx) [[],[0],[0,1],[],[3],(ra 0 5),(ra 0 6),(ra 0 7)] [6,7] (by kernel_rfl) (by kernel_rfl) (fun (dY:Nat) (v:aj) (G:GH)=>match dY with|0=>v=(aJ b1 0)|1=>v=.agg #[.slice pA pn pc,vi x.head.marks.ins,vi x.head.marks.move,.slice dA dn dc,.slice yA yn yc]|2=>∃ p d l,v=.agg #[p,vi x.head.marks.ins,vi x.head.marks.move,d,l]∧jR G x.head p d l|3=>v=(aJ b1 5)|4=>v=.slice fA fn fc|5=>av G (.sl 7 (x.cells.map aY.dat)) v|_=>True) iK H ?_ ?_
 ·clear H;refine aF ?_ ?_ ?_ ?_ (aF ?_ ?_ (bJ rfl) (bJ rfl) dP)
  ·refine gQ [] rfl trivial (by kernel_rfl) iK rfl rfl ?_;intro dW a w G1 hG HT H fin;exact kH H (Rf Sy rfl fun _ H=>fin H iJ rfl)
  ·refine gQ [(0,3,_)] rfl ⟨fun _ _ h=>h,aD⟩ (by kernel_rfl) iK rfl rfl ?_;intro dW a w G1 hG HT H fin;refine aW tL (cs:=[_,_,_,_,_]) H wn rfl rfl (H.hp.bT 1 rfl rfl) rfl ?_;clear H;intro a H;exact fin H iJ rfl
  ·refine gQ [(1,4,_)] rfl ⟨fun _ _ h=>h,aD⟩ (by kernel_rfl) iK rfl rfl ?_;intro dW a w G1 hG HT H fin;refine s_call Mx H wn rfl (LY _ _ H.ro x.head _ _ _ _ _ _ _ _ _ (hh.mono hG) (by omega)) rfl ?_;clear H;rintro v5 G5 a w vo Az H;exact fin H Az (vo)
  ·refine gQ [] rfl trivial (by kernel_rfl) iK rfl rfl ?_;intro dW a w G1 hG HT H fin;exact kH H (Rf yO rfl fun _ H=>fin H iJ rfl)
  ·refine gQ [(3,6,_)] rfl ⟨fun _ _ h=>h,aD⟩ (by kernel_rfl) iK rfl rfl ?_;intro dW a w G1 hG HT H fin;exact kH H (Ro zN 1 rfl fun _ H=>fin H iJ rfl)
  refine gQ [(4,7,_)] rfl ⟨fun _ _ h=>h,aD⟩ (by kernel_rfl) iK rfl rfl ?_;intro dW a w G1 hG HT H fin;refine s_call aak H wn rfl (ZC _ _ H.ro x.cells _ _ (hf.mono hG) (by omega) (fun y hy=>YX ih hn y (by have:=WH hy;omega))) rfl ?_;clear H;rintro v8 G8 a w wE ql H;exact fin H ql (wE)
 clear H;intro a w G lU H hv;obtain ⟨u5,Ol,vo⟩:=hv 2 5 (by decide) rfl;(try dsimp only at vo);obtain ⟨p5,d5,l5,rfl,zk⟩:=vo;obtain ⟨a1,a2,a3,rfl⟩:=zk.props.form;obtain ⟨a4,a5,a6,rfl⟩:=zk.dH.form;obtain ⟨a7,a8,a9,rfl⟩:=zk.layers.form;have H:=H.sJ Ol;obtain ⟨u8,Om,wE⟩:=hv 5 8 (by decide) rfl;(try dsimp only at wE);obtain ⟨A8,n8,c8,rfl⟩:=wE.form;have H:=H.sJ Om;clear hv;refine jw ahh [_,_,_,_,_,_] H wn rfl rfl rfl rfl ?_;clear H;intro a H;refine aX jJ 0 (vs:=[_,_,_,_,_,_]) _ H wn rfl rfl rfl rfl rfl rfl rfl rfl ?_;clear H;intro w H;dsimp only [List.set,setRow] at H;refine aH ⟨rfl,?_⟩;refine K2 _ _ ?_;clear K2;refine bF ?_;refine (leave1 H results90 (.cons (wM jJ (cs:=[_,_,_,_,_,_]) H rfl rfl (H.hp.bT 0 rfl rfl)) .nil) ?_).1;exact H.rt ⟨_,rfl,aS.UE zk wE⟩
theorem Y3 {n:Nat} (ih:Bt n) (hn:n≤4294967296) {G:GH} {w0:World} (x:bC) (hz:cB x.dat < n+1):Da (.func (.func 90) #[] #[]) w0 G x.dat:=by
 intro G1 w1 cs hm1 hG1 hr;have h:=Y4 ih hn _ _ hG1 x cs hr hz;have h2:=kG (P:=prog) (caps:=[]) (args:=[.agg cs.toArray]) abz h;exact h2
theorem YW {n:Nat} (ih:Bt n) (hn:n≤4294967296) (G:GH) (w0:World) (hG:Hold G w0) (x:aB) (cs:List aj) (hv:aS G x.dat cs) (hz:cB x.dat < n+1) :
  Calls prog 88 #[.agg cs.toArray] w0 (aZ w0 G fun u G'=>∃ cs',u=.agg cs'.toArray∧aS G' x.dat cs'):=by
 have he:=ou x;have hl:=Ig x.rows;obtain ⟨pA,pn,pc,dA,dn,dc,yA,yn,yc,fA,fn,fc,rA,rn,rc,rfl,hh,hf,hr⟩:=hv.item;refine eN [(0,_)] func88 rfl ntmps88 rfl rfl hG ?_;intro a H;refine bK (fun _ K1=>?_);refine dz (cs:=[_,_,_,_,_,_,_,_,_,_,_]) H wn rfl rfl rfl ?_;clear H;intro b1 a w hb1 H;refine dx eX H wn rfl ?_;clear H;intro b2 a w hb2 H;refine K1 _ _ ?_;clear K1;refine bg (fun _ K2=>?_)
 have iK:∀ (dY:Nat) (v:aj) (G G':GH),(∀ k o,G k=some o→G' k=some o)→(fun (dY:Nat) (v:aj) (G:GH)=>match dY with|0=>v=(aJ b1 4)|1=>v=.agg #[.slice pA pn pc,vi x.head.marks.ins,vi x.head.marks.move,.slice dA dn dc,.slice yA yn yc]|2=>∃ p d l,v=.agg #[p,vi x.head.marks.ins,vi x.head.marks.move,d,l]∧jR G x.head p d l|3=>v=(aJ b1 9)|4=>v=.slice fA fn fc|5=>av G (.sl 11 (x.flow.map aB.dat)) v|6=>v=(aJ b1 10)|7=>v=.slice rA rn rc|8=>av G (.sl 6 (x.rows.map bC.dat)) v|9=>v=(aJ b1 4)|_=>True) dY v G→(fun (dY:Nat) (v:aj) (G:GH)=>match dY with|0=>v=(aJ b1 4)|1=>v=.agg #[.slice pA pn pc,vi x.head.marks.ins,vi x.head.marks.move,.slice dA dn dc,.slice yA yn yc]|2=>∃ p d l,v=.agg #[p,vi x.head.marks.ins,vi x.head.marks.move,d,l]∧jR G x.head p d l|3=>v=(aJ b1 9)|4=>v=.slice fA fn fc|5=>av G (.sl 11 (x.flow.map aB.dat)) v|6=>v=(aJ b1 10)|7=>v=.slice rA rn rc|8=>av G (.sl 6 (x.rows.map bC.dat)) v|9=>v=(aJ b1 4)|_=>True) dY v G':=by
  intro dY v G G' hm h
  match dY,h with
  | 0,h=>exact h
  | 1,h=>exact h
  | 2,h=>exact let ⟨p,d,l,h1,h2⟩:=h;⟨p,d,l,h1,h2.mono hm⟩
  | 3,h=>exact h
  | 4,h=>exact h
  | 5,h=>exact av.mono hm h
  | 6,h=>exact h
  | 7,h=>exact h
  | 8,h=>exact av.mono hm h
  | 9,h=>exact h
  | 10,h=>exact trivial
  | 11,h=>exact trivial
  | 12,h=>exact trivial
  | 13,h=>exact trivial
  | 14,h=>exact trivial
  | _+15,h=>exact trivial
 refine Dx (hmx) [[],[0],[0,1],[],[3],(ra 0 5),[],[6],(ra 0 8),[0,1,2,3,4,6,7],(ra 0 10),(ra 0 11),(ra 0 12),(ra 0 13),(ra 0 14)] (ra 10 5) (by kernel_rfl) (by kernel_rfl) (fun (dY:Nat) (v:aj) (G:GH)=>match dY with|0=>v=(aJ b1 4)|1=>v=.agg #[.slice pA pn pc,vi x.head.marks.ins,vi x.head.marks.move,.slice dA dn dc,.slice yA yn yc]|2=>∃ p d l,v=.agg #[p,vi x.head.marks.ins,vi x.head.marks.move,d,l]∧jR G x.head p d l|3=>v=(aJ b1 9)|4=>v=.slice fA fn fc|5=>av G (.sl 11 (x.flow.map aB.dat)) v|6=>v=(aJ b1 10)|7=>v=.slice rA rn rc|8=>av G (.sl 6 (x.rows.map bC.dat)) v|9=>v=(aJ b1 4)|_=>True) iK H ?_ ?_
 ·clear H;refine aF ?_ ?_ ?_ ?_ (aF ?_ ?_ ?_ ?_ (aF ?_ ?_ (bJ rfl) (bJ rfl) (bM (bJ rfl) (bM (bJ rfl) (bM (bJ rfl) dP)))))
  ·refine gQ [] rfl trivial (by kernel_rfl) iK rfl rfl ?_;intro dW a w G1 hG HT H fin;exact kH H (Rf MO rfl fun _ H=>fin H iJ rfl)
  ·refine gQ [(0,3,_)] rfl ⟨fun _ _ h=>h,aD⟩ (by kernel_rfl) iK rfl rfl ?_;intro dW a w G1 hG HT H fin;refine aW tL (cs:=[_,_,_,_,_]) H wn rfl rfl (H.hp.bT 1 rfl rfl) rfl ?_;clear H;intro a H;exact fin H iJ rfl
  ·refine gQ [(1,4,_)] rfl ⟨fun _ _ h=>h,aD⟩ (by kernel_rfl) iK rfl rfl ?_;intro dW a w G1 hG HT H fin;refine s_call Mx H wn rfl (LY _ _ H.ro x.head _ _ _ _ _ _ _ _ _ (hh.mono hG) (by omega)) rfl ?_;clear H;rintro v5 G5 a w vo Az H;exact fin H Az (vo)
  ·refine gQ [] rfl trivial (by kernel_rfl) iK rfl rfl ?_;intro dW a w G1 hG HT H fin;exact kH H (Rf BR rfl fun _ H=>fin H iJ rfl)
  ·refine gQ [(3,6,_)] rfl ⟨fun _ _ h=>h,aD⟩ (by kernel_rfl) iK rfl rfl ?_;intro dW a w G1 hG HT H fin;exact kH H (Ro jL 1 rfl fun _ H=>fin H iJ rfl)
  ·refine gQ [(4,7,_)] rfl ⟨fun _ _ h=>h,aD⟩ (by kernel_rfl) iK rfl rfl ?_;intro dW a w G1 hG HT H fin;refine s_call Mw H wn rfl (ih _ _ H.ro x.flow _ (hf.mono hG) (by omega)) rfl ?_;clear H;rintro v8 G8 a w wE ql H;exact fin H ql (wE)
  ·refine gQ [] rfl trivial (by kernel_rfl) iK rfl rfl ?_;intro dW a w G1 hG HT H fin;exact kH H (Rf yQ rfl fun _ H=>fin H iJ rfl)
  ·refine gQ [(6,9,_)] rfl ⟨fun _ _ h=>h,aD⟩ (by kernel_rfl) iK rfl rfl ?_;intro dW a w G1 hG HT H fin;exact kH H (Ro zQ 1 rfl fun _ H=>fin H iJ rfl)
  ·refine gQ [(7,10,_)] rfl ⟨fun _ _ h=>h,aD⟩ (by kernel_rfl) iK rfl rfl ?_;intro dW a w G1 hG HT H fin;refine s_call aby H wn rfl (ZI _ _ H.ro x.rows _ _ (hr.mono hG) (by omega) (fun y hy=>Y3 ih hn y (by have:=WI hy;omega))) rfl ?_;clear H;rintro v11 sF a w GV rV H;exact fin H rV (GV)
  refine gQ [] rfl trivial (by kernel_rfl) iK rfl rfl ?_;intro dW a w G1 hG HT H fin;exact kH H (Rf MO rfl fun _ H=>fin H iJ rfl)
 clear H;intro a w G lU H hv;obtain ⟨u5,Ol,vo⟩:=hv 2 5 (by decide) rfl;(try dsimp only at vo);obtain ⟨p5,d5,l5,rfl,zk⟩:=vo;obtain ⟨a1,a2,a3,rfl⟩:=zk.props.form;obtain ⟨a4,a5,a6,rfl⟩:=zk.dH.form;obtain ⟨a7,a8,a9,rfl⟩:=zk.layers.form;have H:=H.sJ Ol;obtain ⟨u8,Om,wE⟩:=hv 5 8 (by decide) rfl;(try dsimp only at wE);obtain ⟨A8,n8,c8,rfl⟩:=wE.form;have H:=H.sJ Om;obtain ⟨u11,aem,GV⟩:=hv 8 11 (by decide) rfl;(try dsimp only at GV);obtain ⟨A11,n11,c11,rfl⟩:=GV.form;have H:=H.sJ aem;have H:=H.aT (hv 9 12 rfl rfl) rfl;clear hv;refine aX tL 1 (vs:=[_,_,_,_,_]) _ H wn rfl rfl rfl rfl rfl rfl rfl rfl ?_;clear H;intro w H;dsimp only [List.set,setRow] at H;refine kH H (Rf BR rfl ?_);clear H;intro a H;refine aX jL 1 (vs:=[_]) _ H wn rfl rfl rfl rfl rfl rfl rfl rfl ?_;clear H;intro w H;dsimp only [List.set,setRow] at H;refine kH H (Rf yQ rfl ?_);clear H;intro a H;refine aX zQ 1 (vs:=[_]) _ H wn rfl rfl rfl rfl rfl rfl rfl rfl ?_;clear H;intro w H;dsimp only [List.set,setRow] at H;refine aH ⟨rfl,?_⟩;refine K2 _ _ ?_;clear K2;refine bK (fun _ K3=>?_);refine aW eX (cs:=[_,_,_,_,_,_,_,_,_,_,_]) H wn rfl rfl (H.hp.bT 1 rfl rfl) rfl ?_;clear H;intro a H;refine aX eX 0 (vs:=[_,_,_,_,_,_,_,_,_,_,_]) _ H wn rfl rfl rfl rfl rfl rfl rfl rfl ?_;clear H;intro w H;dsimp only [List.set,setRow] at H;refine K3 _ _ ?_;clear K3;refine bF ?_;refine (leave1 H results88 (.cons (wM eX (cs:=[_,_,_,_,_,_,_,_,_,_,_]) H rfl rfl (H.hp.bT 0 rfl rfl)) .nil) ?_).1;exact H.rt ⟨_,rfl,aS.mkItem zk wE GV⟩
theorem YV {n:Nat} (ih:Bt n) (hn:n≤4294967296) {G:GH} {w0:World} (x:aB) (hz:cB x.dat < n+1):Da (.func (.func 88) #[] #[]) w0 G x.dat:=by
 intro G1 w1 cs hm1 hG1 hr;have h:=YW ih hn _ _ hG1 x cs hr hz;have h2:=kG (P:=prog) (caps:=[]) (args:=[.agg cs.toArray]) abx h;exact h2
theorem Ru:∀ n:Nat,n≤4294967297→Bt n
 | 0,_=>fun _ _ _ _ _ _ h=>absurd h (by omega)
 | n+1,hn=>by
  intro G w0 hG l v hv hz;have ih:=Ru n (by omega);have hl:=E8 l;refine eN [(0,_)] func31 rfl ntmps31 rfl rfl hG ?_;intro a H;refine kP H (SR fun _ K1=>ak K1 rfl (SR fun _ K2=>Rm rfl ?_));clear H K1;intro a H;refine s_call abw H wn rfl (ZE _ _ H.ro l _ _ hv (by omega) (fun y hy=>YV ih (by omega) y (by have:=PW hy;omega))) rfl ?_;clear H;rintro v4 G4 a w hp4 yZ H;exact kH H (ak K2 rfl (LR results31 rfl fun H=>H.rt hp4))
theorem Y5 (G:GH) (w0:World) (hG:Hold G w0) (l:List aB) (v:aj) (hv:av G (.sl 11 (l.map aB.dat)) v) (hz:bG l≤4294967296) :
  Calls prog 31 #[v] w0 (aZ w0 G fun u G'=>av G' (.sl 11 (l.map aB.dat)) u):=Ru 4294967297 (by omega) G w0 hG l v hv (by omega)
end
section
open Go.RowKit
section
variable {P:Program} {N:Nat} {D:List Deferred} {w0 w w':World} {F:Nat→Prop} {G0 G G':GH} {L L' Li Lo:OL} {T:List (Nat × aj)} {a a':Act} {Q:Exit→Act→World→Prop}
theorem St.cast (h:St N D w0 F G0 G L T a w) (e:L=L'):St N D w0 F G0 G L' T a w:=e ▸ h
theorem St.assoc {A B C:OL} (h:St N D w0 F G0 G ((A++B)++C) T a w):St N D w0 F G0 G (A++(B++C)) T a w:=h.cast (mg _ _ _)
theorem St.un {A B C:OL} (h:St N D w0 F G0 G (A++(B++C)) T a w):St N D w0 F G0 G ((A++B)++C) T a w:=h.cast (mg _ _ _).symm
theorem St.OJ {A B:OL} (h:St N D w0 F G0 G (A++B) T a w):St N D w0 F G0 G (A++(B++[])) T a w:=h.cast (by rw [vN])
theorem vS {ι κ:Type} {Lc:OL} {vX:Operand} {ps:List Nat} {assign body:Code} {gf:FuncId} {caps:List aj} {xs:List AP} {Gi:GH}
  (Lv:Nat→ι→OL) (Lt:Nat→ι→OL) (inv:Nat→ι→GH→Prop) (cx:κ→Code) (Lx BH:κ→OL) (wI:κ→GH→Prop) (i0:ι)
  (H:St N D w0 F G0 G (Lc++Lv 0 i0++Lt 0 i0) T a w) (hg:ev T vX=some (.func (.func gf) #[] caps.toArray)) (en:∀ args w,(callFunc gf args).run P w=.ok (.enter gf args) w) (hit:Iter P Gi (.func (.func gf) #[] caps.toArray) xs) (hGi:∀ b o,Gi b=some o→G b=some o)
  (hps:ps.all (Nat.blt · N)=true) (hlen:∀ k args g,tQ xs k args g→args.length=ps.length) (hinv:∀ k i (G G':GH),(∀ b o,G b=some o→G' b=some o)→inv k i G→inv k i G') (NK:∀ x (G G':GH),(∀ b o,G b=some o→G' b=some o)→wI x G→wI x G') (h0:inv 0 i0 G)
  (round:∀ (l:Nat) (qG oF:Obj) (bk:OL) (k:Nat) (args:List aj) (i:ι) (G1:GH) (w1:World) (F1:Nat→Prop) (B1:Code→Exit→Act→World→Prop) (a1:Act),tQ xs k args G1→(∀ b o,G b=some o→G1 b=some o)→inv k i G1 →
   (∀ T' G2 L2 a2 w2 c,St N [] w1 F1 G1 G2 ((l,qG) :: L2) T' a2 w2→(∀ w3,St N [] w1 F1 G1 G2 ((l,oF) :: L2) T' a2 w3→WP (some l) P c (B1 c) a2 w3)→Exit.then (fun a2 w2=>∃ w3,(Instr.beginRound l).run P w2=.ok () w3∧c.wpIn (FW (some l)) 0 P (B1 c) a2 w3) (fun _ _ _=>False) .normal a2 w2) →
   (∀ i' T' G2 a2 w2 c,St N [] w1 F1 G1 G2 ((l,oF) :: (Lc++Lv (k+1) i'++(bk++Lt (k+1) i'))) T' a2 w2→inv (k+1) i' G2→B1 c .normal a2 w2) →
   (∀ x T' G2 a2 w2 c,St N [] w1 F1 G1 G2 ((l,oF) :: (Lc++Lx x++(bk++BH x))) T' a2 w2→wI x G2→(cx x=.ret→B1 c .ret a2 w2)∧∀ n,cx x=.exit n→B1 c (.exit n) a2 w2) →
   St N [] w1 F1 G1 G1 ((l,qG) :: (Lc++Lv k i++(bk++Lt k i))) (nT ps args T) a1 w1 →
   WP (some l) P assign (Exit.then (fun a2 w2=>∃ w3,(Instr.beginRound l).run P w2=.ok () w3∧body.wpIn (FW (some l)) 0 P (B1 body) a2 w3) (fun _ _ _=>False)) a1 w1)
  (hdone:∀ Dk i G1 a1 w1,(∀ b o,G b=some o→G1 b=some o)→inv xs.length i G1→St N ({ target:=.collected Dk,args:=#[] } :: D) w0 F G0 G1 ((Dk,.deferred (some [])) :: (Lc++Lv xs.length i++Lt xs.length i)) T a1 w1→Q .normal a1 w1)
  (hstop:∀ Dk x G1 a1 w1,(∀ b o,G b=some o→G1 b=some o)→wI x G1→St N ({ target:=.collected Dk,args:=#[] } :: D) w0 F G0 G1 ((Dk,.deferred (some [])) :: (Lc++Lx x++BH x)) T a1 w1→WP none P (cx x) Q a1 w1) :
  WP none P (.rangeFunc vX ps.toArray assign body) Q a w:=by
 refine Yf (J:=fun k g L=>∃ i,L=Lc++Lv k i++Lt k i∧inv k i g) (Jx:=fun c g L=>∃ x,c=cx x∧L=Lc++Lx x++BH x∧wI x g) H hg en hit hGi hps hlen (fun k G G' L hm ⟨i,e,h⟩=>⟨i,e,hinv k i G G' hm h⟩) (fun c G G' L hm ⟨x,e1,e2,h⟩=>⟨x,e1,e2,NK x G G' hm h⟩) ⟨i0,rfl,h0⟩ ?_ ?_ ?_
 ·rintro l q bk k args G1 L1 w1 a1 hk hm ⟨i,rfl,hi⟩ H1
  have pm:∀ A B:OL,(bk++(A++B)).Perm (A++(bk++B)):=fun A B=>by
   rw [← mg,← mg]
   exact List.Perm.append_right B Aj
  refine round l (q.at .ready none) (q.at .busy none) bk k args i G1 w1 _ (fun _=>roundPost P l _) a1 hk hm hi ?_ ?_ ?_ (H1.perm (List.Perm.cons _ (pm _ _)))
  ·intro T' G2 L2 a2 w2 c H2 h
   exact Q0 H2 h
  ·intro i' T' G2 a2 w2 c H2 h2
   exact EB none (H2.perm (List.Perm.cons _ (pm _ _).symm)) ⟨_,rfl,i',rfl,h2⟩
  ·intro x T' G2 a2 w2 c H2 h2
   have H3:=H2.perm (List.Perm.cons _ (pm _ _).symm)
   refine ⟨fun e=>?_,fun n e=>?_⟩
   ·exact EB (some .ret) H3 ⟨_,_,rfl,x,e.symm,rfl,h2⟩
   ·exact EB (some (.exit n)) H3 ⟨_,_,rfl,x,e.symm,rfl,h2⟩
 ·rintro Dk G1 L1 a1 w1 hm ⟨i,rfl,hi⟩ H1
  exact hdone Dk i G1 a1 w1 hm hi H1
 ·rintro Dk c G1 L1 a1 w1 hm ⟨x,rfl,rfl,hx⟩ H1
  exact hstop Dk x G1 a1 w1 hm hx H1
def Et (ds:List Nat):List Deferred:=ds.map fun b=>{ target:=.collected b,args:=#[] }
def jO (ds:List Nat):OL:=ds.map fun b=>(b,.deferred (some []))
theorem IG {r:Option Nat} {ι:Type} {c:Code} {Tc:List (Nat × aj)} {Lc:List (Nat × Obj)} (Dv:ι→List Deferred) (Tv:ι→List (Nat × aj)) (Lv:ι→List (Nat × Obj)) (Gv:ι→GH) (Pr:ι→Prop) (m:ι→Nat) (i0:ι)
  (H:St N (Dv i0) w0 F G0 (Gv i0) (Lc++Lv i0) (Tv i0++Tc) a w) (hP:Pr i0)
  (round:∀ i a w,Pr i→St N (Dv i) w0 F G0 (Gv i) (Lc++Lv i) (Tv i++Tc) a w →
   WP r P c (Exit.then (fun a' w'=>∃ i',(St N (Dv i') w0 F G0 (Gv i') (Lc++Lv i') (Tv i'++Tc) a' w'∧Pr i')∧m i' < m i) Q) a w):WP r P (.loop c) Q a w :=
 Q6 (fun i a w=>St N (Dv i) w0 F G0 (Gv i) (Lc++Lv i) (Tv i++Tc) a w∧Pr i) m i0 ⟨H,hP⟩ fun i a w hI=>round i a w hI.2 hI.1
theorem Cz {ι:Type} {Dv:ι→List Deferred} {Tc:List (Nat × aj)} {Lc:List (Nat × Obj)} {Tv:ι→List (Nat × aj)} {Lv:ι→List (Nat × Obj)} {Gv:ι→GH} {Pr:ι→Prop} {m:ι→Nat} {i:ι} (i':ι)
  (H:St N (Dv i') w0 F G0 (Gv i') (Lc++Lv i') (Tv i'++Tc) a w) (hP:Pr i') (hm:m i' < m i) :
  ∃ i',(St N (Dv i') w0 F G0 (Gv i') (Lc++Lv i') (Tv i'++Tc) a w∧Pr i')∧m i' < m i:=⟨i',⟨H,hP⟩,hm⟩
theorem vB {fn:Func} {R:Ending→World→Prop} {Lh Lt:OL}:∀ (ds:List Nat) {a:Act} {w:World},St N (Et ds) w0 F G0 G (Lh++(jO ds++Lt)) T a w →
  (∀ a' w',St N [] w0 F G0 G (Lh++Lt) T a' w'→bodyPostM (FW none) 0 P fn R .ret a' w')→bodyPostM (FW none) 0 P fn R .ret a w∧bodyPostM (FW none) 0 P fn R .normal a w
 | [],a,w,H,k=>⟨k a w H,k a w H⟩
 | b :: ds,a,w,H,k=>by
  refine qy (b:=b) (D:=Et ds) H Lh.length (by rw [xk (bP _),Nat.sub_self];rfl) fun a' w' H'=>?_
  refine (vB ds (Lh:=Lh) (Lt:=Lt) (H'.cast ?_) k).1
  rw [List.eraseIdx_append_of_length_le (bP _),Nat.sub_self];rfl
end
end
section
open Go.RowKit
theorem I7:∀ args w,(callFunc 151 args).run prog w=.ok (.enter 151 args) w:=enters func151 rfl (by kernel_rfl)
theorem Ja:∀ args w,(callFunc 52 args).run prog w=.ok (.enter 52 args) w:=enters func52 rfl (by kernel_rfl)
theorem zI:qO prog 64 [(0,1),(1,1)] [.int .i64 0,.int .i64 0]:=⟨by kernel_rfl,by kernel_rfl⟩
theorem Ap:bV prog 47 2 2:=⟨by kernel_rfl⟩
def n1 (x:aB):Nat:=if qK x=0 then fF x else 0
theorem Ur (x:aB):qV [x]=n1 x:=by
 simp only [qV,uW,n1,oW,List.all_cons,List.all_nil,Bool.and_true,lM]
 split <;> simp_all
mutual
/-- The positions of a flow and of those within it, from an item on. -/
def H9 (flow:Int) (at_:Nat):aB→List (Int × Int)
 | .mk k c i t h f r=>(List.range (n1 (.mk k c i t h f r))).map (fun q=>(flow,((at_+q:Nat):Int)))++((if k=6 then iq i 0 f else [])++qL r)
def iq (flow:Int):Nat→List aB→List (Int × Int)
 | at_,[]=>[(flow,(at_:Int))]
 | at_,x :: l=>H9 flow at_ x++iq flow (at_+n1 x) l
def qL:List bC→List (Int × Int)
 | []=>[]
 | r :: l=>Ib r++qL l
def Ib:bC→List (Int × Int)
 | .mk _ cs=>vI cs
def vI:List aY→List (Int × Int)
 | []=>[]
 | c :: l=>H8 c++vI l
def H8:aY→List (Int × Int)
 | .mk i _ f=>iq i 0 f
end
theorem PO (flow:Int) (at_:Nat) (x:aB):H9 flow at_ x=(List.range (n1 x)).map (fun q=>(flow,((at_+q:Nat):Int)))++((if x.kind=6 then iq x.id 0 x.flow else [])++qL x.rows):=by
 cases x;rw [H9];rfl
theorem V8 (x:bC):Ib x=vI x.cells:=by cases x;simp [Ib,bC.cells]
theorem V6 (x:aY):H8 x=iq x.id 0 x.flow:=by cases x;simp [H8,aY.id,aY.flow]
theorem UF (x:aB):n1 x < cB x.dat:=by
 have h1:=ou x;have h2:=yL x.text
 unfold n1 fF;split <;> (try split) <;> omega
def zC (a:Int × Int):AP:=fun args _=>args=[.agg #[vi a.1,vi a.2]]
theorem av.len {G:GH} {sz:Nat} {rows:List (List Dat)} {A:Option Addr} {n c:Nat} (h:av G (.sl sz rows) (.slice A n c)):n=rows.length:=h.cells.1
theorem av.at_ {G:GH} {sz:Nat} {rows:List (List Dat)} {A:Option Addr} {n c:Nat} (h:av G (.sl sz rows) (.slice A n c)):∀ k r,rows[k]?=some r→∃ b o cs,A=some ⟨b,o,none⟩∧cs.length=sz∧(∀ j u,cs[j]?=some u→aI G b (o+k*sz+j)=some u)∧aS G r cs:=by
 obtain ⟨A2,c2,e,_,_,hg⟩:=h.slice
 cases e;exact hg
theorem Hy {G:GH} {l:List bC} {A:Option Addr} {k:Nat} (hk:k < l.length) (hg:∀ k r,(l.map bC.dat)[k]?=some r→∃ b o cs,A=some ⟨b,o,none⟩∧cs.length=6∧(∀ j u,cs[j]?=some u→aI G b (o+k*6+j)=some u)∧aS G r cs) :
  ∃ b o pA pn pc dA dn dc yA yn yc cA cn cc,A=some ⟨b,o,none⟩∧(∀ j u,[.slice pA pn pc,vi l[k].head.marks.ins,vi l[k].head.marks.move,.slice dA dn dc,.slice yA yn yc,.slice cA cn cc][j]?=some u→aI G b (o+k*6+j)=some u) ∧
   jR G l[k].head (.slice pA pn pc) (.slice dA dn dc) (.slice yA yn yc)∧av G (.sl 7 (l[k].cells.map aY.dat)) (.slice cA cn cc):=by
 obtain ⟨b,o,cs,h1,h2,h3,h4⟩:=hg k l[k].dat (by simp [hk]);obtain ⟨pA,pn,pc,dA,dn,dc,yA,yn,yc,cA,cn,cc,rfl,h5,h6⟩:=h4.row;exact ⟨b,o,pA,pn,pc,dA,dn,dc,yA,yn,yc,cA,cn,cc,h1,h3,h5,h6⟩
theorem Dy {G:GH} {l:List aY} {A:Option Addr} {k:Nat} (hk:k < l.length) (hg:∀ k r,(l.map aY.dat)[k]?=some r→∃ b o cs,A=some ⟨b,o,none⟩∧cs.length=7∧(∀ j u,cs[j]?=some u→aI G b (o+k*7+j)=some u)∧aS G r cs) :
  ∃ b o pA pn pc dA dn dc yA yn yc fA fn fc,A=some ⟨b,o,none⟩∧(∀ j u,[vi l[k].id,.slice pA pn pc,vi l[k].head.marks.ins,vi l[k].head.marks.move,.slice dA dn dc,.slice yA yn yc,.slice fA fn fc][j]?=some u→aI G b (o+k*7+j)=some u) ∧
   jR G l[k].head (.slice pA pn pc) (.slice dA dn dc) (.slice yA yn yc)∧av G (.sl 11 (l[k].flow.map aB.dat)) (.slice fA fn fc):=by
 obtain ⟨b,o,cs,h1,h2,h3,h4⟩:=hg k l[k].dat (by simp [hk]);obtain ⟨pA,pn,pc,dA,dn,dc,yA,yn,yc,fA,fn,fc,rfl,h5,h6⟩:=h4.cell;exact ⟨b,o,pA,pn,pc,dA,dn,dc,yA,yn,yc,fA,fn,fc,h1,h3,h5,h6⟩
def Lg (n:Nat):Prop:=∀ (fv:aj) (Gi:GH) (xs:List AP) (J:Nat→GH→OL→Prop) (Jx:GH→OL→Prop) (G:GH) (L:OL) (w0:World) (j:Nat) (l:List aB) (flow:Int) (v:aj),
 (∀ b o,Gi b=some o→G b=some o)→zU prog fv Gi xs J Jx→BA J→BI Jx→J j G L→gI G L w0→av G (.sl 11 (l.map aB.dat)) v→bG l < n→(∀ i a,(iq flow 0 l)[i]?=some a→xs[j+i]?=some (zC a)) →
 Calls prog 151 #[v,vi flow,fv] w0 (fT w0 G L fun u G' L'=>∃ b,u=.bool b∧(b=true→J (j+(iq flow 0 l).length) G' L')∧(b=false→Jx G' L'))
set_option maxHeartbeats 1000000 in
theorem aib {n:Nat} (ih:Lg n) (hn:n≤4294967296):Lg (n+1):=by
 intro fv Gi xs J Jx G L w0 j0 l flow v hGi hcb jY hJx hJ0 hO hv hz hx0;obtain ⟨A,c,rfl,hc1,hc2,hg⟩:=hv.slice;rw [bW] at *;have hll:=E8 l;refine jh (N:=81) (T:=[(0,_),(1,_),(2,_)]) func151 rfl ntmps151 rfl rfl hO ?_;intro a H;refine kP H (SR fun _ K1=>ak K1 rfl (SR fun _ K2=>ak K2 rfl (SQ fun _ K3=>SR fun _ K4=>Rm rfl (Rl oq rfl (Rm rfl (Kz K4 (SB ?_)))))));clear H K1 K2 K4;intro a H;skip;refine gq (ι:=Nat × Nat × Nat × OL × GH) (Tc:=[(1,_),(2,_),(16,_),(17,_)]) (Lc:=[]) (fun gh=>[(7,vi gh.2.1),(18,vi gh.1)]) (fun gh=>[]++gh.2.2.2.1) (fun gh=>gh.2.2.2.2) (fun gh=>gh.1≤l.length∧(∀ b o,G b=some o→gh.2.2.2.2 b=some o)∧Now xs zC J (j0+(iq flow 0 l).length) gh.2.2.1 (iq flow gh.2.1 (l.drop gh.1)) gh.2.2.2.2 gh.2.2.2.1∧gh.2.1+bG (l.drop gh.1)≤n) (fun gh=>l.length - gh.1) ((0,0,j0,L,G)) (by exact (H).sub ⟨rfl,rfl,rfl,rfl,rfl,rfl,aD⟩) ?_ ?_
 ·exact ⟨by omega,fun _ _ h=>h,⟨hJ0,hx0,rfl⟩,by simp;omega⟩
 clear H;intro gh a w hI H;obtain ⟨k,at_,j,Lt,g⟩:=gh;dsimp only at hI H;obtain ⟨hk,hgm,bQ,hsz⟩:=hI;dsimp only [lca,aV] at H;refine kP H (SR fun _ K5=>Rc rfl (Kz K5 (SQ fun _ K6=>Cd rfl ?_ ?_))) <;> clear H K5
 ·intro h19 a H
  try have pU:=dT h19
  have hk2:k < l.length:=by omega
  obtain ⟨b,o,pA,pn,pc,dA,dn,dc,yA,yn,yc,fA,fn,fc,rA,rn,rc,rfl,hrow,hhd,hfl,hrw⟩:=Gd hk2 hg;replace hrow:=fun j u hj=>aL hgm (hrow j u hj);have hrn:=hrw.len;rw [bW] at hrn;subst hrn;have hrs:=Ig l[k].rows;have hsz1:=ou l[k];have hn1:=UF l[k];rw [lu hk2] at bQ hsz
  simp only [iq,PO,mg] at bQ
  rw [bG,fG,dZ] at hsz;refine kP H (Kc K6 (SQ fun _ K7=>SB (SR fun _ K8=>Ri oq eX rfl rfl ?_)));clear H K6;intro a H;refine aW eX (cs:=[_,_,_,_,_,_,_,_,_,_,_]) H wn rfl rfl (fun j v hj=>H.hp.aI (hrow j v hj)) rfl ?_;clear H;intro a H;refine dx eX H wn rfl ?_;clear H;intro b9 a w um H;refine aX eX 0 (vs:=[_,_,_,_,_,_,_,_,_,_,_]) _ H wn rfl rfl rfl rfl rfl rfl rfl rfl ?_;clear H;intro w H;dsimp only [List.set,setRow] at H;refine K8 _ _ ?_;clear K8;refine bK (fun _ K9=>?_);refine aW eX (cs:=[_,_,_,_,_,_,_,_,_,_,_]) H wn rfl rfl (H.hp.bT 0 rfl rfl) rfl ?_;clear H;intro a H;refine ig oq eX [_,_,_,_,_,_,_,_,_,_,_] [_,_,_,_,_,_,_,_,_,_,_] H wn rfl rfl rfl rfl rfl (by intro i q h;match i,h with|0,h=>exact h|n+1,h=>simp at h) rfl rfl ?_;clear H;intro XO a w adn H;obtain ⟨Dc,xL,aee,H⟩:=H.MZ (sz:=11) (d:=l[k].dat) rfl (aS.mkItem (hhd.mono hgm) (hfl.mono hgm) (hrw.mono hgm));refine s_call Ja H wn rfl (JQ _ _ H.ro [l[k]] _ aee (by simp only [bG,fG,pI,dZ];omega)) rfl ?_;clear H;rintro v25 Qd a w ⟨rfl,rfl⟩ AO H;rw [Ur] at H;refine kH H (Rm rfl ?_);clear H;intro a H;(iterate 2 refine jy H wn rfl rfl rfl ?_;clear H;intro a H);refine kH H (Ra rfl (ak K9 rfl (SQ fun _ aQ=>SR fun _ bH=>Rm rfl (Rm rfl (Kz bH (SB ?_))))));clear H K9 bH;intro a H;skip;refine gq (ι:=Nat × Nat × OL × GH) (Tc:=[(1,_),(2,_),(9,_),(16,_),(17,_),(18,_),(28,_)]) (Lc:=[(_,_)]) (fun gh=>[(7,vi ((at_+gh.1:Nat):Int)),(29,vi gh.1)]) (fun gh=>[]++gh.2.2.1) (fun gh=>gh.2.2.2) (fun gh=>gh.1≤n1 l[k]∧(∀ b o,G b=some o→gh.2.2.2 b=some o)∧Now xs zC J (j0+(iq flow 0 l).length) gh.2.1 (((List.range (n1 l[k])).map (fun q=>(flow,((at_+q:Nat):Int)))).drop gh.1++((if l[k].kind=6 then iq l[k].id 0 l[k].flow else [])++(qL l[k].rows++iq flow (at_+n1 l[k]) (l.drop (k+1))))) gh.2.2.2 gh.2.2.1) (fun gh=>n1 l[k] - gh.1) ((0,j,Lt,Dc)) (by exact (H).sub ⟨rfl,rfl,rfl,rfl,rfl,rfl,rfl,rfl,rfl,aD⟩) ?_ ?_
  ·exact ⟨by omega,fun b o h=>xL b o (hgm b o h),by dsimp only;rw [sM];exact ⟨jY _ _ _ _ xL bQ.now,bQ.rem,bQ.len⟩⟩
  clear H;intro gh a w hI H;obtain ⟨i,j1,oD,g1⟩:=gh;dsimp only at hI H;obtain ⟨hi,wB,tu⟩:=hI;dsimp only [lca,aV] at H;refine kP H (SR fun _ bR=>Rc rfl (Kz bR (SQ fun _ bY=>Cd rfl ?_ ?_))) <;> clear H bR
  ·intro lG a H
   try have p30:=dT lG
   have hi2:i < n1 l[k]:=by omega
   rw [lu (by simpa using hi2)] at tu
   simp only [List.getElem_map,List.getElem_range,lN] at tu
   refine kP H (Kc bY (SQ fun _ bX=>SB (SQ fun _ dO=>SR fun _ dJ=>Rm rfl (Rm rfl (Rm rfl ?_)))));clear H bY;intro a H;refine jw zI [_,_] H wn rfl rfl rfl rfl ?_;clear H;intro a H;refine uJ (Li:=[_]) (L:=oD) H wn rfl rfl (hcb _ _ _ _ _ ⟨_,tu.head,rfl⟩ (fun b o h=>wB b o (hGi b o h)) tu.now (Hp.owns (Li:=[_]) H.hp)) rfl ?_;clear H;rintro v35 KS Di a w ⟨b35,rfl,hb1,hb2⟩ adK H;refine kH H (Rn rfl (Kz dJ (Cd rfl ?_ ?_))) <;> clear H dJ
   ·intro yU a H
    try have p36:=dT yU
    refine kP H (SR fun _ dD=>ak dD rfl ?_);clear H dD;intro a H;refine lr H results151 rfl ?_
    first
     | exact H.hp.cu (L':=Di) (by repeat (first|exact cZ _|apply List.Sublist.cons)) ⟨_,rfl,fun e=>(by cases e),fun _=>hb2 (by simpa using yU)⟩
     | exact H.hp.cu (L':=Aa) (by repeat (first|exact cZ _|apply List.Sublist.cons)) ⟨_,rfl,fun e=>(by cases e),fun _=>hb4 (by simpa using gY)⟩
     | exact H.hp.cu (L':=Ab) (by repeat (first|exact cZ _|apply List.Sublist.cons)) ⟨_,rfl,fun e=>(by cases e),fun _=>hb6 (by simpa using h72)⟩
     | exact H.hp.eU ⟨_,rfl,fun e=>(by have:=bQ.len;simp only [List.length_singleton] at this;rw [← this];exact rW e),uj⟩
   intro yU a H
   try have p36:=dF yU
   refine kP H (Kc dO (SC (Rm rfl (Rd rfl (aU bX rfl (SC (Rd rfl (Rm rfl ?_))))))));clear H dO bX;intro a H;refine aH ?_;refine eO ((i+1,j1+1,Di,KS)) (by exact (H).sub ⟨rfl,rfl,rfl,rfl,rfl,rfl,rfl,rfl,rfl,aD⟩) ?_ ?_
   ·(try dsimp only);exact ⟨by omega,fun b o h=>adK b o (wB b o h),tu.step (hb1 (by simpa using yU))⟩
   first|omega|(dsimp only;omega)
  intro lG a H
  try have p30:=dF lG
  refine fI ?_;refine aQ _ _ ?_;clear aQ;refine bg (fun _ dU=>?_);refine bg (fun _ fP=>?_)
  have hin:i=n1 l[k]:=by omega
  subst hin;rw [gK (by simp),ko] at tu;refine kP H (SC (aO kV aC 0 rfl rfl (Rc rfl (Rm rfl (Sp 43 rfl ?_ ?_))))) <;> clear H
  ·intro h43 a H
   try have p43:=dT h43
   rw [au p43] at tu;refine kH H (YF BR h43 rfl (YO jL 0 h43 rfl (YF Ap h43 rfl (YO aC 0 h43 rfl (YM h43 rfl ?_)))));clear H;intro a H;refine gT I7 (Li:=[_]) (L:=oD) H (wg H rfl rfl h43) rfl (ih fv Gi xs J Jx _ _ _ j1 l[k].flow l[k].id _ (fun b o h=>wB b o (hGi b o h)) hcb jY hJx tu.now (Hp.owns (Li:=[_]) H.hp) (hfl.mono wB) (by omega) tu.part) rfl ?_;clear H;rintro v49 Il Aa a w ⟨b49,rfl,hb3,hb4⟩ adN H;refine kH H (YN h43 rfl (Pt h43 rfl (Kn fP (Cd rfl ?_ ?_)))) <;> clear H fP
   ·intro gY a H
    try have p51:=dT gY
    refine kP H (SR fun _ eG=>ak eG rfl ?_);clear H eG;intro a H;refine lr H results151 rfl ?_
    first
     | exact H.hp.cu (L':=Di) (by repeat (first|exact cZ _|apply List.Sublist.cons)) ⟨_,rfl,fun e=>(by cases e),fun _=>hb2 (by simpa using yU)⟩
     | exact H.hp.cu (L':=Aa) (by repeat (first|exact cZ _|apply List.Sublist.cons)) ⟨_,rfl,fun e=>(by cases e),fun _=>hb4 (by simpa using gY)⟩
     | exact H.hp.cu (L':=Ab) (by repeat (first|exact cZ _|apply List.Sublist.cons)) ⟨_,rfl,fun e=>(by cases e),fun _=>hb6 (by simpa using h72)⟩
     | exact H.hp.eU ⟨_,rfl,fun e=>(by have:=bQ.len;simp only [List.length_singleton] at this;rw [← this];exact rW e),uj⟩
   intro gY a H
   try have p51:=dF gY
   have vk:=tu.jump (hb3 (by simpa using gY));have nY:∀ b o,G b=some o→Il b=some o:=fun b o h=>adN b o (wB b o h);obtain ⟨OC,adI⟩:∃ x,x=j1+(iq l[k].id 0 l[k].flow).length:=⟨_,rfl⟩;rw [← adI] at vk;clear tu wB;refine kP H (Kc dU (SR fun _ fZ=>aO yQ zQ 0 rfl rfl (Rl pq rfl (Rm rfl (Kz fZ (SB ?_))))));clear H dU fZ;intro a H;skip;refine gq (ι:=Nat × Nat × OL × GH) (Tc:=[(1,_),(2,_),(7,_),(16,_),(17,_),(18,_),(53,_),(54,_)]) (Lc:=[(_,_)]) (fun gh=>[(55,vi gh.1)]) (fun gh=>[]++gh.2.2.1) (fun gh=>gh.2.2.2) (fun gh=>gh.1≤l[k].rows.length∧(∀ b o,G b=some o→gh.2.2.2 b=some o)∧Now xs zC J (j0+(iq flow 0 l).length) gh.2.1 (qL (l[k].rows.drop gh.1)++iq flow (at_+n1 l[k]) (l.drop (k+1))) gh.2.2.2 gh.2.2.1) (fun gh=>l[k].rows.length - gh.1) ((0,OC,Aa,Il)) (by exact (H).sub ⟨rfl,rfl,rfl,rfl,rfl,rfl,rfl,rfl,rfl,aD⟩) ?_ ?_
   ·exact ⟨by omega,nY,vk⟩
   clear H;intro gh a w hI H;obtain ⟨rk,j3,Lt3,g3⟩:=gh;dsimp only at hI H;obtain ⟨Ob,sW,qx⟩:=hI;dsimp only [lca,aV] at H;refine kP H (SR fun _ gN=>Rc rfl (Kz gN (SQ fun _ iW=>Cd rfl ?_ ?_))) <;> clear H gN
   ·intro BZ a H
    try have p56:=dT BZ
    have hk3:rk < l[k].rows.length:=by omega
    obtain ⟨b2,o2,qA,qn,qc,eA,en,ec,zA,zn,zc,cA,cn,cc,rfl,hrow,Ck,hcl⟩:=Hy hk3 hrw.at_;replace hrow:=fun j u hj=>aL sW (hrow j u hj);have hcn:=hcl.len;rw [bW] at hcn;subst hcn;have hsz2:=KO hk3;have hcs:=E5 l[k].rows[rk].cells;rw [lu hk3] at qx
    simp only [qL,V8,mg] at qx
    refine kP H (Kc iW (SQ fun _ iN=>SB (SR fun _ iO=>Ri pq jJ rfl rfl ?_)));clear H iW;intro a H;refine aW jJ (cs:=[_,_,_,_,_,_]) H wn rfl rfl (fun j v hj=>H.hp.aI (hrow j v hj)) rfl ?_;clear H;intro a H;refine dx jJ H wn rfl ?_;clear H;intro b13 a w Gx H;refine aX jJ 0 (vs:=[_,_,_,_,_,_]) _ H wn rfl rfl rfl rfl rfl rfl rfl rfl ?_;clear H;intro w H;dsimp only [List.set,setRow] at H;refine iO _ _ ?_;clear iO;refine kP H (SR fun _ jM=>aO yO zN 0 rfl rfl (Rl mY rfl (Rm rfl (Kz jM (SB ?_)))));clear H jM;intro a H;skip;refine gq (ι:=Nat × Nat × OL × GH) (Tc:=[(1,_),(2,_),(7,_),(16,_),(17,_),(18,_),(53,_),(54,_),(55,_),(60,_),(61,_)]) (Lc:=[(_,_),(_,_)]) (fun gh=>[(62,vi gh.1)]) (fun gh=>[]++gh.2.2.1) (fun gh=>gh.2.2.2) (fun gh=>gh.1≤l[k].rows[rk].cells.length∧(∀ b o,G b=some o→gh.2.2.2 b=some o)∧Now xs zC J (j0+(iq flow 0 l).length) gh.2.1 (vI (l[k].rows[rk].cells.drop gh.1)++(qL (l[k].rows.drop (rk+1))++iq flow (at_+n1 l[k]) (l.drop (k+1)))) gh.2.2.2 gh.2.2.1) (fun gh=>l[k].rows[rk].cells.length - gh.1) ((0,j3,Lt3,g3)) (by exact (H).sub ⟨rfl,rfl,rfl,rfl,rfl,rfl,rfl,rfl,rfl,rfl,rfl,rfl,aD⟩) ?_ ?_
    ·exact ⟨by omega,sW,qx⟩
    clear H;intro gh a w hI H;obtain ⟨ck,j4,Lt4,g4⟩:=gh;dsimp only at hI H;obtain ⟨hck,qp,mD⟩:=hI;dsimp only [lca,aV] at H;refine kP H (SR fun _ kC=>Rc rfl (Kz kC (SQ fun _ jo=>Cd rfl ?_ ?_))) <;> clear H kC
    ·intro h63 a H
     try have p63:=dT h63
     have hk4:ck < l[k].rows[rk].cells.length:=by omega
     obtain ⟨b3,o3,sA,sn,sc,tA,tn,tc,uA,un,uc,gA,gn,gc,rfl,hrow,hch,hcf⟩:=Dy hk4 hcl.at_;replace hrow:=fun j u hj=>aL qp (hrow j u hj);have JJ:=KN hk4;rw [lu hk4] at mD
     simp only [vI,V6,mg] at mD
     refine kP H (Kc jo (SQ fun _ ng=>SB (SR fun _ nO=>Ri mY iR rfl rfl ?_)));clear H jo;intro a H;refine aW iR (cs:=[_,_,_,_,_,_,_]) H wn rfl rfl (fun j v hj=>H.hp.aI (hrow j v hj)) rfl ?_;clear H;intro a H;refine dx iR H wn rfl ?_;clear H;intro b15 a w Jw H;refine aX iR 0 (vs:=[_,_,_,_,_,_,_]) _ H wn rfl rfl rfl rfl rfl rfl rfl rfl ?_;clear H;intro w H;dsimp only [List.set,setRow] at H;refine nO _ _ ?_;clear nO;refine kP H (SR fun _ ow=>aO BP jL 0 rfl rfl (aO Ao aC 0 rfl rfl (Rm rfl ?_)));clear H;intro a H;refine gT I7 (Li:=[_,_,_]) (L:=Lt4) H wn rfl (ih fv Gi xs J Jx _ _ _ j4 l[k].rows[rk].cells[ck].flow l[k].rows[rk].cells[ck].id _ (fun b o h=>qp b o (hGi b o h)) hcb jY hJx mD.now (Hp.owns (Li:=[_,_,_]) H.hp) (hcf.mono qp) (by omega) mD.part) rfl ?_;clear H;rintro v71 KW Ab a w ⟨XU,rfl,hb5,hb6⟩ NU H;refine kH H (Rn rfl (Kz ow (Cd rfl ?_ ?_))) <;> clear H ow
     ·intro h72 a H
      try have p72:=dT h72
      refine kP H (SR fun _ nQ=>ak nQ rfl ?_);clear H nQ;intro a H;refine lr H results151 rfl ?_
      first
       | exact H.hp.cu (L':=Di) (by repeat (first|exact cZ _|apply List.Sublist.cons)) ⟨_,rfl,fun e=>(by cases e),fun _=>hb2 (by simpa using yU)⟩
       | exact H.hp.cu (L':=Aa) (by repeat (first|exact cZ _|apply List.Sublist.cons)) ⟨_,rfl,fun e=>(by cases e),fun _=>hb4 (by simpa using gY)⟩
       | exact H.hp.cu (L':=Ab) (by repeat (first|exact cZ _|apply List.Sublist.cons)) ⟨_,rfl,fun e=>(by cases e),fun _=>hb6 (by simpa using h72)⟩
       | exact H.hp.eU ⟨_,rfl,fun e=>(by have:=bQ.len;simp only [List.length_singleton] at this;rw [← this];exact rW e),uj⟩
     intro h72 a H
     try have p72:=dF h72
     refine kP H (Kc ng (SC (Rd rfl (Rm rfl ?_))));clear H ng;intro a H;refine aH ?_;refine eO ((ck+1,j4+(iq l[k].rows[rk].cells[ck].id 0 l[k].rows[rk].cells[ck].flow).length,Ab,KW)) (by exact (H.bU (Pl:=[_,_,_]) (bN:=[_,_]) [1,2] (by decide) rfl).sub ⟨rfl,rfl,rfl,rfl,rfl,rfl,rfl,rfl,rfl,rfl,rfl,rfl,aD⟩) ?_ ?_
     ·(try dsimp only);exact ⟨by omega,fun b o h=>NU b o (qp b o h),mD.jump (hb5 (by simpa using h72))⟩
     first|omega|(dsimp only;omega)
    intro h63 a H
    try have p63:=dF h63
    refine fI ?_;refine iN _ _ ?_;clear iN;refine kP H (SC (Rd rfl (Rm rfl ?_)));clear H;intro a H;refine aH ?_;refine eO ((rk+1,j4,Lt4,g4)) (by exact (H.bU (Pl:=[_,_]) (bN:=[_]) [1] (by decide) rfl).sub ⟨rfl,rfl,rfl,rfl,rfl,rfl,rfl,rfl,rfl,aD⟩) ?_ ?_
    ·(try dsimp only);exact ⟨by omega,qp,by rw [gK (by omega),vI,ko] at mD;exact mD⟩
    first|omega|(dsimp only;omega)
   intro BZ a H
   try have p56:=dF BZ
   refine fI ?_;refine K7 _ _ ?_;clear K7;refine kP H (SC (Rd rfl (Rm rfl ?_)));clear H;intro a H;refine aH ?_;refine eO ((k+1,at_+n1 l[k],j3,Lt3,g3)) (by exact (H.bU (Pl:=[_]) (bN:=[]) [] (by decide) rfl).sub ⟨rfl,rfl,rfl,rfl,rfl,rfl,aD⟩) ?_ ?_
   ·(try dsimp only);exact ⟨by omega,sW,by rw [gK (by omega),qL,ko] at qx;exact qx,by show at_+n1 l[k]+dZ ((l.drop (k+1)).map aB.dat)≤n;omega⟩
   first|omega|(dsimp only;omega)
  intro h43 a H
  try have p43:=dF h43
  rw [ah p43,ko] at tu;obtain ⟨Aa,GY⟩:∃ x,x=oD:=⟨_,rfl⟩;subst GY;obtain ⟨Il,GY⟩:∃ x,x=g1:=⟨_,rfl⟩;subst GY;obtain ⟨OC,GY⟩:∃ x,x=j1:=⟨_,rfl⟩;subst GY;have nY:=wB;have vk:=tu;clear wB tu;refine kH H (cK h43 rfl (bO h43 rfl (bO h43 rfl (Pf h43 rfl (Kn fP (Cf rfl rfl (Kc dU (SR fun _ nk=>aO yQ zQ 0 rfl rfl (Rl pq rfl (Rm rfl (Kz nk (SB ?_))))))))))));clear H fP dU nk;intro a H;skip;refine gq (ι:=Nat × Nat × OL × GH) (Tc:=[(1,_),(2,_),(7,_),(16,_),(17,_),(18,_),(53,_),(54,_)]) (Lc:=[(_,_)]) (fun gh=>[(55,vi gh.1)]) (fun gh=>[]++gh.2.2.1) (fun gh=>gh.2.2.2) (fun gh=>gh.1≤l[k].rows.length∧(∀ b o,G b=some o→gh.2.2.2 b=some o)∧Now xs zC J (j0+(iq flow 0 l).length) gh.2.1 (qL (l[k].rows.drop gh.1)++iq flow (at_+n1 l[k]) (l.drop (k+1))) gh.2.2.2 gh.2.2.1) (fun gh=>l[k].rows.length - gh.1) ((0,OC,Aa,Il)) (by exact (H).sub ⟨rfl,rfl,rfl,rfl,rfl,rfl,rfl,rfl,rfl,aD⟩) ?_ ?_
  ·exact ⟨by omega,nY,vk⟩
  clear H;intro gh a w hI H;obtain ⟨rk,j3,Lt3,g3⟩:=gh;dsimp only at hI H;obtain ⟨Ob,sW,qx⟩:=hI;dsimp only [lca,aV] at H;refine kP H (SR fun _ pF=>Rc rfl (Kz pF (SQ fun _ qN=>Cd rfl ?_ ?_))) <;> clear H pF
  ·intro BZ a H
   try have p56:=dT BZ
   have hk3:rk < l[k].rows.length:=by omega
   obtain ⟨b2,o2,qA,qn,qc,eA,en,ec,zA,zn,zc,cA,cn,cc,rfl,hrow,Ck,hcl⟩:=Hy hk3 hrw.at_;replace hrow:=fun j u hj=>aL sW (hrow j u hj);have hcn:=hcl.len;rw [bW] at hcn;subst hcn;have hsz2:=KO hk3;have hcs:=E5 l[k].rows[rk].cells;rw [lu hk3] at qx
   simp only [qL,V8,mg] at qx
   refine kP H (Kc qN (SQ fun _ oz=>SB (SR fun _ sH=>Ri pq jJ rfl rfl ?_)));clear H qN;intro a H;refine aW jJ (cs:=[_,_,_,_,_,_]) H wn rfl rfl (fun j v hj=>H.hp.aI (hrow j v hj)) rfl ?_;clear H;intro a H;refine dx jJ H wn rfl ?_;clear H;intro b13 a w Gx H;refine aX jJ 0 (vs:=[_,_,_,_,_,_]) _ H wn rfl rfl rfl rfl rfl rfl rfl rfl ?_;clear H;intro w H;dsimp only [List.set,setRow] at H;refine sH _ _ ?_;clear sH;refine kP H (SR fun _ wU=>aO yO zN 0 rfl rfl (Rl mY rfl (Rm rfl (Kz wU (SB ?_)))));clear H wU;intro a H;skip;refine gq (ι:=Nat × Nat × OL × GH) (Tc:=[(1,_),(2,_),(7,_),(16,_),(17,_),(18,_),(53,_),(54,_),(55,_),(60,_),(61,_)]) (Lc:=[(_,_),(_,_)]) (fun gh=>[(62,vi gh.1)]) (fun gh=>[]++gh.2.2.1) (fun gh=>gh.2.2.2) (fun gh=>gh.1≤l[k].rows[rk].cells.length∧(∀ b o,G b=some o→gh.2.2.2 b=some o)∧Now xs zC J (j0+(iq flow 0 l).length) gh.2.1 (vI (l[k].rows[rk].cells.drop gh.1)++(qL (l[k].rows.drop (rk+1))++iq flow (at_+n1 l[k]) (l.drop (k+1)))) gh.2.2.2 gh.2.2.1) (fun gh=>l[k].rows[rk].cells.length - gh.1) ((0,j3,Lt3,g3)) (by exact (H).sub ⟨rfl,rfl,rfl,rfl,rfl,rfl,rfl,rfl,rfl,rfl,rfl,rfl,aD⟩) ?_ ?_
   ·exact ⟨by omega,sW,qx⟩
   clear H;intro gh a w hI H;obtain ⟨ck,j4,Lt4,g4⟩:=gh;dsimp only at hI H;obtain ⟨hck,qp,mD⟩:=hI;dsimp only [lca,aV] at H;refine kP H (SR fun _ wV=>Rc rfl (Kz wV (SQ fun _ mK=>Cd rfl ?_ ?_))) <;> clear H wV
   ·intro h63 a H
    try have p63:=dT h63
    have hk4:ck < l[k].rows[rk].cells.length:=by omega
    obtain ⟨b3,o3,sA,sn,sc,tA,tn,tc,uA,un,uc,gA,gn,gc,rfl,hrow,hch,hcf⟩:=Dy hk4 hcl.at_;replace hrow:=fun j u hj=>aL qp (hrow j u hj);have JJ:=KN hk4;rw [lu hk4] at mD
    simp only [vI,V6,mg] at mD
    refine kP H (Kc mK (SQ fun _ yD=>SB (SR fun _ zX=>Ri mY iR rfl rfl ?_)));clear H mK;intro a H;refine aW iR (cs:=[_,_,_,_,_,_,_]) H wn rfl rfl (fun j v hj=>H.hp.aI (hrow j v hj)) rfl ?_;clear H;intro a H;refine dx iR H wn rfl ?_;clear H;intro b15 a w Jw H;refine aX iR 0 (vs:=[_,_,_,_,_,_,_]) _ H wn rfl rfl rfl rfl rfl rfl rfl rfl ?_;clear H;intro w H;dsimp only [List.set,setRow] at H;refine zX _ _ ?_;clear zX;refine kP H (SR fun _ BD=>aO BP jL 0 rfl rfl (aO Ao aC 0 rfl rfl (Rm rfl ?_)));clear H;intro a H;refine gT I7 (Li:=[_,_,_]) (L:=Lt4) H wn rfl (ih fv Gi xs J Jx _ _ _ j4 l[k].rows[rk].cells[ck].flow l[k].rows[rk].cells[ck].id _ (fun b o h=>qp b o (hGi b o h)) hcb jY hJx mD.now (Hp.owns (Li:=[_,_,_]) H.hp) (hcf.mono qp) (by omega) mD.part) rfl ?_;clear H;rintro v71 KW Ab a w ⟨XU,rfl,hb5,hb6⟩ NU H;refine kH H (Rn rfl (Kz BD (Cd rfl ?_ ?_))) <;> clear H BD
    ·intro h72 a H
     try have p72:=dT h72
     refine kP H (SR fun _ zY=>ak zY rfl ?_);clear H zY;intro a H;refine lr H results151 rfl ?_
     first
      | exact H.hp.cu (L':=Di) (by repeat (first|exact cZ _|apply List.Sublist.cons)) ⟨_,rfl,fun e=>(by cases e),fun _=>hb2 (by simpa using yU)⟩
      | exact H.hp.cu (L':=Aa) (by repeat (first|exact cZ _|apply List.Sublist.cons)) ⟨_,rfl,fun e=>(by cases e),fun _=>hb4 (by simpa using gY)⟩
      | exact H.hp.cu (L':=Ab) (by repeat (first|exact cZ _|apply List.Sublist.cons)) ⟨_,rfl,fun e=>(by cases e),fun _=>hb6 (by simpa using h72)⟩
      | exact H.hp.eU ⟨_,rfl,fun e=>(by have:=bQ.len;simp only [List.length_singleton] at this;rw [← this];exact rW e),uj⟩
    intro h72 a H
    try have p72:=dF h72
    refine kP H (Kc yD (SC (Rd rfl (Rm rfl ?_))));clear H yD;intro a H;refine aH ?_;refine eO ((ck+1,j4+(iq l[k].rows[rk].cells[ck].id 0 l[k].rows[rk].cells[ck].flow).length,Ab,KW)) (by exact (H.bU (Pl:=[_,_,_]) (bN:=[_,_]) [1,2] (by decide) rfl).sub ⟨rfl,rfl,rfl,rfl,rfl,rfl,rfl,rfl,rfl,rfl,rfl,rfl,aD⟩) ?_ ?_
    ·(try dsimp only);exact ⟨by omega,fun b o h=>NU b o (qp b o h),mD.jump (hb5 (by simpa using h72))⟩
    first|omega|(dsimp only;omega)
   intro h63 a H
   try have p63:=dF h63
   refine fI ?_;refine oz _ _ ?_;clear oz;refine kP H (SC (Rd rfl (Rm rfl ?_)));clear H;intro a H;refine aH ?_;refine eO ((rk+1,j4,Lt4,g4)) (by exact (H.bU (Pl:=[_,_]) (bN:=[_]) [1] (by decide) rfl).sub ⟨rfl,rfl,rfl,rfl,rfl,rfl,rfl,rfl,rfl,aD⟩) ?_ ?_
   ·(try dsimp only);exact ⟨by omega,qp,by rw [gK (by omega),vI,ko] at mD;exact mD⟩
   first|omega|(dsimp only;omega)
  intro BZ a H
  try have p56:=dF BZ
  refine fI ?_;refine K7 _ _ ?_;clear K7;refine kP H (SC (Rd rfl (Rm rfl ?_)));clear H;intro a H;refine aH ?_;refine eO ((k+1,at_+n1 l[k],j3,Lt3,g3)) (by exact (H.bU (Pl:=[_]) (bN:=[]) [] (by decide) rfl).sub ⟨rfl,rfl,rfl,rfl,rfl,rfl,aD⟩) ?_ ?_
  ·(try dsimp only);exact ⟨by omega,sW,by rw [gK (by omega),qL,ko] at qx;exact qx,by show at_+n1 l[k]+dZ ((l.drop (k+1)).map aB.dat)≤n;omega⟩
  first|omega|(dsimp only;omega)
 intro h19 a H
 try have pU:=dF h19
 refine fI ?_;refine K3 _ _ ?_;clear K3;refine bg (fun _ BF=>?_);rw [gK (by omega),iq] at bQ;refine kP H (SC (Rm rfl (Rm rfl (Rm rfl ?_))));clear H;intro a H;refine jw zI [_,_] H wn rfl rfl rfl rfl ?_;clear H;intro a H;refine uJ (Li:=[]) (L:=Lt) H wn rfl rfl (hcb _ _ _ _ _ ⟨_,bQ.head,rfl⟩ (fun b o h=>hgm b o (hGi b o h)) bQ.now (Hp.owns (Li:=[]) H.hp)) rfl ?_;clear H;rintro v80 G80 aiB a w ⟨b80,rfl,rW,uj⟩ aje H;refine kH H (aU BF rfl ?_);clear H BF;intro a H;refine lr H results151 rfl ?_
 first
  | exact H.hp.cu (L':=Di) (by repeat (first|exact cZ _|apply List.Sublist.cons)) ⟨_,rfl,fun e=>(by cases e),fun _=>hb2 (by simpa using yU)⟩
  | exact H.hp.cu (L':=Aa) (by repeat (first|exact cZ _|apply List.Sublist.cons)) ⟨_,rfl,fun e=>(by cases e),fun _=>hb4 (by simpa using gY)⟩
  | exact H.hp.cu (L':=Ab) (by repeat (first|exact cZ _|apply List.Sublist.cons)) ⟨_,rfl,fun e=>(by cases e),fun _=>hb6 (by simpa using h72)⟩
  | exact H.hp.eU ⟨_,rfl,fun e=>(by have:=bQ.len;simp only [List.length_singleton] at this;rw [← this];exact rW e),uj⟩
end
section
open Go.RowKit
theorem ahD:Ty prog 238 1 8 [.nilFunc] false:=⟨by kernel_rfl,by kernel_rfl⟩
theorem fM:Ty prog 64 2 16 [.int .i64 0,.int .i64 0] true:=⟨by kernel_rfl,by kernel_rfl⟩
theorem DW:bV prog 38 0 0:=⟨by kernel_rfl⟩
theorem jl:Ty prog 38 11 232 [.slice none 0 0,.slice none 0 0,.int .i64 0,.int .i64 0,.slice none 0 0,.slice none 0 0,.slice none 0 0,.slice none 0 0,.slice none 0 0,.slice none 0 0,.slice none 0 0] true:=⟨by kernel_rfl,by kernel_rfl⟩
theorem Mh:∀ args w,(callFunc 108 args).run prog w=.ok (.enter 108 args) w:=enters func108 rfl (by kernel_rfl)
theorem I6:∀ args w,(callFunc 150 args).run prog w=.ok (.enter 150 args) w:=enters func150 rfl (by kernel_rfl)
theorem aan:∀ args w,(callFunc 152 args).run prog w=.ok (.enter 152 args) w:=enters func152 rfl (by kernel_rfl)
theorem Wm:∀ n:Nat,n≤4294967297→Lg n
 | 0,_=>fun _ _ _ _ _ _ _ _ _ _ _ _ _ _ _ _ _ _ _ h=>absurd h (by omega)
 | n+1,hn=>aib (Wm n (by omega)) (by omega)
mutual
theorem ahX (flow:Int) (at_:Nat):∀ x:aB,(H9 flow at_ x).length < cB x.dat
 | .mk k c i t h f r=>by
  have h1:=Ia i 0 f;have h2:=V9 r;have h3:=UF (.mk k c i t h f r);have h4:=ou (.mk k c i t h f r);have h5:=yL t
  simp only [H9,lC,bW,List.length_range]
  simp only [aB.text,aB.head,aB.flow,aB.rows] at h4
  have h6:n1 (.mk k c i t h f r)≤t.size+1:=by unfold n1 fF;simp only [aB.text];split <;> (try split) <;> omega
  split <;> (try simp only [List.length_nil]) <;> omega
theorem Ia (flow:Int):∀ (at_:Nat) (l:List aB),(iq flow at_ l).length≤bG l+1
 | _,[]=>by simp [iq]
 | at_,x :: l=>by
  have h1:=ahX flow at_ x;have h2:=Ia flow (at_+n1 x) l
  simp only [iq,lC,bG,fG,dZ] at *;omega
theorem V9:∀ l:List bC,(qL l).length≤iV l
 | []=>by simp [qL]
 | x :: l=>by
  have h1:=ahY x;have h2:=V9 l
  simp only [qL,lC,iV,fG,dZ] at *;omega
theorem ahY:∀ x:bC,(Ib x).length≤cB x.dat
 | .mk h cs=>by
  have h1:=V7 cs;have h4:=yu (.mk h cs)
  simp only [bC.head,bC.cells] at h4
  simp only [Ib];omega
theorem V7:∀ l:List aY,(vI l).length≤lW l
 | []=>by simp [vI]
 | x :: l=>by
  have h1:=ahW x;have h2:=V7 l
  simp only [vI,lC,lW,fG,dZ] at *;omega
theorem ahW:∀ x:aY,(H8 x).length≤cB x.dat
 | .mk i h f=>by
  have h1:=Ia i 0 f;have h4:=zT (.mk i h f)
  simp only [aY.head,aY.flow] at h4
  simp only [H8];omega
end
def Ho (k:Nat) (a:Int × Int):AP:=fun args _=>args=[vi k,.agg #[vi a.1,vi a.2]]
def Qj (bi:Nat) (J:Nat→GH→OL→Prop):Nat→GH→OL→Prop:=fun k g L=>∃ Lu,L=(bi,.cells #[vi ((k:Int) - 1)] 3 (0,0)) :: Lu∧J k g Lu
def QK (bi:Nat) (Jx:GH→OL→Prop):GH→OL→Prop:=fun g L=>∃ i Lu,L=(bi,.cells #[vi i] 3 (0,0)) :: Lu∧Jx g Lu
theorem YU {fv:aj} {Gi:GH} {A:List (Int × Int)} {J:Nat→GH→OL→Prop} {Jx:GH→OL→Prop} {bi bf:Nat} (hA:A.length≤4294967297) (hf:aI Gi bf 0=some fv) (hcb:zU prog fv Gi (A.mapIdx Ho) J Jx) :
  zU prog (.func (.func 152) #[] #[(aJ bi 0),(aJ bf 0)]) Gi (A.map zC) (Qj bi J) (QK bi Jx):=by
 rintro k args G L w0 ⟨p0,hp0,hargs⟩ hGi ⟨Lu,rfl,hJ⟩ hO;rw [mM] at hp0;obtain ⟨p,hp,hpp⟩:=kS.1 hp0;subst hpp;obtain rfl:args=[.agg #[vi p.1,vi p.2]]:=hargs;have hk:k < A.length:=(jr.1 hp).1;have AB:=aL hGi hf;refine kG (caps:=[(aJ bi 0),(aJ bf 0)]) aan ?_;refine jh (N:=11) (T:=[(0,_),(1,_),(2,_)]) func152 rfl ntmps152 rfl rfl hO ?_;intro a H;refine bK (fun _ K1=>?_);refine dz (cs:=[_,_]) H wn rfl rfl rfl ?_;clear H;intro b3 a w hb3 H;refine kH H (ak K1 rfl (SR fun _ K2=>Ro aC 1 rfl (Rd rfl ?_)));clear H K1;intro a H;rw [Int.sub_add_cancel] at H;refine aX aC 1 (vs:=[_]) _ H wn rfl rfl rfl rfl rfl rfl rfl rfl ?_;clear H;intro w H;dsimp only [List.set,setRow] at H;refine K2 _ _ ?_;clear K2;refine kP H (SR fun _ K3=>Rg ahD rfl (by assumption) ?_);clear H;intro a H;refine kH H (Ro aC 1 rfl ?_);clear H;intro a H;refine aW fM (cs:=[_,_]) H wn rfl rfl (H.hp.bT 0 rfl rfl) rfl ?_;clear H;intro a H;refine uJ (Li:=[_,_]) (L:=Lu) H wn rfl rfl (hcb k _ _ _ _ ⟨Ho k p,by rw [List.getElem?_mapIdx,hp];rfl,rfl⟩ hGi hJ (Hp.owns (Li:=[_,_]) H.hp)) rfl ?_;clear H;rintro v10 Fe La a w ⟨b10,rfl,hb1,hb2⟩ TG H;exact kH H (ak K3 rfl (LR results152 rfl fun H=>H.hp.cu (L':=(bi,.cells #[vi k] 3 (0,0)) :: La) (List.Sublist.cons _ (cZ _)) ⟨_,rfl,fun e=>⟨La,by simp,hb1 e⟩,fun e=>⟨_,La,rfl,hb2 e⟩⟩))
structure jQ where
 (f p d y r s1 s2 s3 s4:Option Addr × Nat × Nat)
 (ins move:Int)
abbrev fJ (x:Option Addr × Nat × Nat):aj:=.slice x.1 x.2.1 x.2.2
abbrev jQ.cells (D:jQ):List aj:=[fJ D.f,fJ D.p,vi D.ins,vi D.move,fJ D.d,fJ D.y,fJ D.r,fJ D.s1,fJ D.s2,fJ D.s3,fJ D.s4]
abbrev jQ.val (D:jQ):aj:=.agg D.cells.toArray
theorem afJ {G:GH} {bd:Nat} {D:jQ} {l:List aB} (hb:G bd=some (.cells D.cells.toArray 38 (0,0))) (hv:av G (.sl 11 (l.map aB.dat)) (fJ D.f)) (hz:bG l≤4294967296) :
  Iter prog G (.func (.func 150) #[] #[(aJ bd 0)]) ((iq 0 0 l).mapIdx Ho):=by
 intro J Jx fv G1 L w0 AB hGi jY hJx hJ hO hcb;refine kG (caps:=[(aJ bd 0)]) I6 ?_;have hfl:aI G1 bd 0=some (fJ D.f):=aL hGi (by unfold aI;rw [hb];rfl);have hvl:=Ia 0 0 l;refine jh (N:=8) (T:=[(0,_),(1,_)]) func150 rfl ntmps150 rfl rfl hO ?_;intro a H;refine bK (fun _ K1=>?_);refine dz (cs:=[fv]) H wn rfl AB rfl ?_;clear H;intro b2 a w hb2 H;refine K1 _ _ ?_;clear K1;refine bK (fun _ K2=>?_);refine dx aC H wn rfl ?_;clear H;intro b3 a w hb3 H;refine aX aC 0 (vs:=[_]) _ H wn rfl rfl rfl rfl rfl rfl rfl rfl ?_;clear H;intro w H;dsimp only [List.set,setRow] at H;refine K2 _ _ ?_;clear K2;have H:=H.bU (Pl:=[_,_]) (bN:=[_,_]) [1,0] (by decide) rfl;obtain ⟨G2,hm2,hb2,H⟩:=H.dQ;replace hfl:=aL hm2 hfl;refine kP H (SC (Rf DW rfl (Rg jL rfl (by assumption) ?_)));clear H;intro a H;refine nK H wn rfl rfl ?_;clear H;intro a H;refine gT I7 (Li:=[]) (L:=(b3,_) :: L) H wn rfl (Wm 4294967297 (by omega) _ G2 ((iq 0 0 l).map zC) (Qj b3 J) (QK b3 Jx) G2 _ _ 0 l 0 _ (fun _ _ h=>h) (YU (bf:=b2) (by omega) (by unfold aI;rw [hb2];rfl) (fun k args G L w h1 h2=>hcb k args G L w h1 (fun b o h=>h2 b o (hm2 b o h)))) (fun k G G' L hm ⟨Lu,e,h⟩=>⟨Lu,e,jY k G G' Lu hm h⟩) (fun G G' L hm ⟨i,Lu,e,h⟩=>⟨i,Lu,e,hJx G G' Lu hm h⟩) ⟨L,rfl,jY _ _ _ _ hm2 hJ⟩ (Hp.owns (Li:=[]) H.hp) (hv.mono fun b o h=>hm2 b o (hGi b o h)) (by omega) (fun i a h=>by rw [mQ,mM,h];rfl)) rfl ?_;clear H;rintro v7 G7 L7 a w ⟨b7,rfl,h1,h2⟩ xO H;refine aH ?_;refine (leave0 H results150 ?_).2
 cases b7
 ·obtain ⟨i,Lu,rfl,h⟩:=h2 rfl;exact H.hp.cu (L':=Lu) (List.Sublist.cons _ (cZ _)) (.inr h)
 obtain ⟨Lu,rfl,h⟩:=h1 rfl;exact H.hp.cu (L':=Lu) (List.Sublist.cons _ (cZ _)) (.inl (by simpa using h))
theorem O4 (G:GH) (w0:World) (hG:Hold G w0) (D:jQ) (l:List aB) (hv:av G (.sl 11 (l.map aB.dat)) (fJ D.f)) (hz:bG l≤4294967296) :
  Calls prog 108 #[D.val] w0 (aZ w0 G fun v G'=>∃ bd,v=.func (.func 150) #[] #[(aJ bd 0)]∧Iter prog G' v ((iq 0 0 l).mapIdx Ho)):=by
 refine eN [(0,_)] func108 rfl ntmps108 rfl rfl hG ?_;intro a H;refine bK (fun _ K1=>?_);refine dz (cs:=[_,_,_,_,_,_,_,_,_,_,_]) H wn rfl rfl rfl ?_;clear H;intro b1 a w hb1 H;refine kH H (ak K1 rfl (SR fun _ K2=>?_));clear H K1;intro a H;refine nK H wn rfl rfl ?_;clear H;intro a H;refine kH H (ak K2 rfl ?_);clear H K2;intro a H;refine bF ?_;obtain ⟨G2,hm2,hb2,H⟩:=H.dQ;refine lv H results108 rfl ?_;exact H.rt ⟨b1,rfl,afJ hb2 (hv.mono hm2) hz⟩
def J3 (l:List aB):Nat:=(iq 0 0 l).length
theorem Er {A:List (Int × Int)} {k:Nat} {args:List aj} {g:GH} (h:tQ (A.mapIdx Ho) k args g):∃ hk:k < A.length,args=[vi k,.agg #[vi A[k].1,vi A[k].2]]:=by
 obtain ⟨p,hp,hargs⟩:=h;rw [List.getElem?_mapIdx] at hp;obtain ⟨q,hq,rfl⟩:=kS.1 hp;obtain ⟨hk,rfl⟩:=jr.1 hq;exact ⟨hk,hargs⟩
theorem Zm (G:GH) (w0:World) (hG:Hold G w0) (D:jQ) (l:List aB) (hv:av G (.sl 11 (l.map aB.dat)) (fJ D.f)) (hz:bG l≤4294967296) :
  Calls prog 50 #[D.val] w0 (aZ w0 G fun v G'=>v=vi (J3 l)):=by
 have hvl:=Ia 0 0 l;refine eN [(0,_)] func50 rfl ntmps50 rfl rfl hG ?_;intro a H;refine bK (fun _ K1=>?_);refine dz (cs:=[_,_,_,_,_,_,_,_,_,_,_]) H wn rfl rfl rfl ?_;clear H;intro b1 a w hb1 H;refine kH H (ak K1 rfl (SR fun _ K2=>?_));clear H K1;intro a H;refine dx aC H wn rfl ?_;clear H;intro b3 a w hb3 H;refine aX aC 0 (vs:=[_]) _ H wn rfl rfl rfl rfl rfl rfl rfl rfl ?_;clear H;intro w H;dsimp only [List.set,setRow] at H;refine K2 _ _ ?_;clear K2;refine bg (fun _ K3=>?_);refine bK (fun _ K4=>?_);refine aW jl (cs:=[_,_,_,_,_,_,_,_,_,_,_]) H wn rfl rfl (H.hp.bT 1 rfl rfl) rfl ?_;clear H;intro a H;refine s_call Mh H wn rfl (O4 _ _ H.ro D l hv hz) rfl ?_;clear H;rintro v5 G5 a w ⟨bd,rfl,hit⟩ Eh H;refine K4 _ _ ?_;clear K4;refine oG ?_;skip;refine vS (ι:=Unit) (κ:=Empty) (Lc:=[(_,_)]) (fun (k:Nat) (gh:Unit)=>[(b3,.cells #[vi k] 3 (0,0))]) (fun (k:Nat) (gh:Unit)=>[]) (fun (k:Nat) (gh:Unit) (g:GH)=>True) (fun x=>x.elim) (fun x=>x.elim) (fun x=>x.elim) (fun x=>x.elim) (()) (by exact H.bU (Pl:=[_,_]) (bN:=[_,_]) [1,0] (by decide) rfl) rfl I6 (hit) (fun _ _ h=>h) rfl (fun k args g h=>by obtain ⟨_,rfl⟩:=Er h;rfl) (fun _ _ _ _ _ h=>h) (fun x=>x.elim) (trivial) ?_ ?_ ?_
 ·clear H;intro l3 qG oF bk k args gh G3 w3 F3 B3 a hk3 oN hI GD GU TU H;obtain ⟨hk,rfl⟩:=Er hk3;dsimp only [nT,List.cons_append,List.nil_append] at H;refine fQ ?_;refine GD _ _ _ _ _ _ (by exact H) ?_;clear H;intro w H;refine kP H (SB (SC (Ro aC 2 rfl (Rd rfl ?_))));clear H;intro a H;refine aX aC 2 (vs:=[_]) _ H wn rfl rfl rfl rfl rfl rfl rfl rfl ?_;clear H;intro w H;dsimp only [List.set,setRow] at H;refine aH ?_;refine GU (()) _ _ _ _ _ (by exact H) ?_
  trivial
 ·clear H;intro P6 gh Qh a w oN hI H;dsimp only [lca,aV] at H;refine K3 _ _ ?_;clear K3;refine kP H (SR fun _ K5=>Ro aC 2 rfl (ak K5 rfl ?_));clear H K5;intro a H;refine bF ?_;refine (qy H 0 rfl ?_).1;clear H;intro a w H;dsimp only [List.eraseIdx_cons_succ,List.eraseIdx_cons_zero] at H;refine lv H results50 rfl ?_;exact H.rt (by simp [J3])
 intro Dk x;exact x.elim
end
section
open Go.RowKit
theorem Ml:∀ args w,(callFunc 154 args).run prog w=.ok (.enter 154 args) w:=enters func154 rfl (by kernel_rfl)
theorem KC:Ty prog 116 3 16 [.bool false,.bool false,.int .i64 0] true:=⟨by kernel_rfl,by kernel_rfl⟩
theorem ahg:qO prog 118 [(0,1),(1,3)] [.slice none 0 0,.bool false,.bool false,.int .i64 0]:=⟨by kernel_rfl,by kernel_rfl⟩
theorem FX:bV prog 116 2 2:=⟨by kernel_rfl⟩
theorem Bl:qO prog 116 [(0,1),(1,1),(2,1)] [.bool false,.bool false,.int .i64 0]:=⟨by kernel_rfl,by kernel_rfl⟩
theorem MJ:bV prog 116 1 1:=⟨by kernel_rfl⟩
theorem qJ:Ty prog 4 1 1 [.bool false] false:=⟨by kernel_rfl,by kernel_rfl⟩
theorem ZR:∀ args w,(callFunc 112 args).run prog w=.ok (.enter 112 args) w:=enters func112 rfl (by kernel_rfl)
theorem I8:∀ args w,(callFunc 153 args).run prog w=.ok (.enter 153 args) w:=enters func153 rfl (by kernel_rfl)
structure jf where
 id:Int
 items:List aB
 body:Bool
 note:Bool
 tables:Int
mutual
def wS (note:Bool) (t:Int):aB→List jf
 | .mk k _ i _ _ f r=>if k=6 then ⟨i,f,false,true,t⟩ :: iT true t f else if k=7 then pz note t r else []
def iT (note:Bool) (t:Int):List aB→List jf
 | []=>[]
 | x :: l=>wS note t x++iT note t l
def pz (note:Bool) (t:Int):List bC→List jf
 | []=>[]
 | r :: l=>wT note t r++pz note t l
def wT (note:Bool) (t:Int):bC→List jf
 | .mk _ cs=>pV note t cs
def pV (note:Bool) (t:Int):List aY→List jf
 | []=>[]
 | c :: l=>wR note t c++pV note t l
def wR (note:Bool) (t:Int):aY→List jf
 | .mk i _ f=>⟨i,f,false,note,t+1⟩ :: iT note (t+1) f
end
theorem Wp (note:Bool) (t:Int) (x:aB):wS note t x=if x.kind=6 then ⟨x.id,x.flow,false,true,t⟩ :: iT true t x.flow else if x.kind=7 then pz note t x.rows else []:=by cases x;rw [wS];rfl
theorem aik (note:Bool) (t:Int) (x:bC):wT note t x=pV note t x.cells:=by cases x;rw [wT];rfl
theorem aic (note:Bool) (t:Int) (x:aY):wR note t x=⟨x.id,x.flow,false,note,t+1⟩ :: iT note (t+1) x.flow:=by cases x;rw [wR];rfl
def yR (a:jf):AP:=fun args g=>∃ v,args=[vi a.id,.agg #[v,.bool a.body,.bool a.note,vi a.tables]]∧av g (.sl 11 (a.items.map aB.dat)) v
def Lj (n:Nat):Prop:=∀ (fv:aj) (Gi:GH) (xs:List AP) (J:Nat→GH→OL→Prop) (Jx:GH→OL→Prop) (G:GH) (L:OL) (w0:World) (j:Nat) (l:List aB) (id:Int) (body note:Bool) (t:Int) (v:aj),
 (∀ b o,Gi b=some o→G b=some o)→zU prog fv Gi xs J Jx→BA J→BI Jx→J j G L→gI G L w0→av G (.sl 11 (l.map aB.dat)) v→bG l < n→0≤t→t+bG l≤4294967296→(∀ i a,(⟨id,l,body,note,t⟩ :: iT note t l)[i]?=some a→xs[j+i]?=some (yR a)) →
 Calls prog 154 #[vi id,v,.agg #[.bool body,.bool note,vi t],fv] w0 (fT w0 G L fun u G' L'=>∃ b,u=.bool b∧(b=true→J (j+((iT note t l).length+1)) G' L')∧(b=false→Jx G' L'))
set_option maxHeartbeats 1000000 in
theorem aio {n:Nat} (ih:Lj n) (hn:n≤4294967296):Lj (n+1):=by
 intro fv Gi xs J Jx G L w0 j0 l id body note t v hGi hcb jY hJx hJ0 hO hv hz ht0 ht1 hx0;obtain ⟨A,c,rfl,hc1,hc2,hg⟩:=hv.slice;rw [bW] at *;have hll:=E8 l;have N9:Now xs yR J (j0+((iT note t l).length+1)) j0 (⟨id,l,body,note,t⟩ :: iT note t l) G L:=⟨hJ0,hx0,rfl⟩;refine jh (N:=74) (T:=[(0,_),(1,_),(2,_),(3,_)]) func154 rfl ntmps154 rfl rfl hO ?_;intro a H;refine bK (fun _ K1=>?_);refine dz (cs:=[_,_,_]) H wn rfl rfl rfl ?_;clear H;intro b6 a w hb6 H;refine kH H (ak K1 rfl (SQ fun _ K2=>SR fun _ K3=>Rm rfl (Rm rfl (Rm rfl ?_))));clear H K1;intro a H;refine aW KC (cs:=[_,_,_]) H wn rfl rfl (H.hp.bT 0 rfl rfl) rfl ?_;clear H;intro a H;refine jw ahg [_,_,_,_] H wn rfl rfl rfl rfl ?_;clear H;intro a H;refine uJ (Li:=[_]) (L:=L) H wn rfl rfl (hcb _ _ _ _ _ ⟨_,N9.head,_,rfl,hv⟩ hGi N9.now (Hp.owns (Li:=[_]) H.hp)) rfl ?_;clear H;rintro v20 Db Fx a w ⟨b20,rfl,hb1,hb2⟩ AL H;refine kH H (Rn rfl (Kz K3 (Cd rfl ?_ ?_))) <;> clear H K3
 ·intro h21 a H
  try have nI:=dT h21
  refine kP H (SR fun _ K4=>ak K4 rfl ?_);clear H K4;intro a H;refine lr H results154 rfl ?_
  first
   | exact H.hp.cu (L':=Fx) (by repeat (first|exact cZ _|apply List.Sublist.cons)) ⟨_,rfl,fun e=>(by cases e),fun _=>hb2 (by simpa using h21)⟩
   | exact H.hp.cu (L':=Fy) (by repeat (first|exact cZ _|apply List.Sublist.cons)) ⟨_,rfl,fun e=>(by cases e),fun _=>hb4 (by simpa using Av)⟩
   | exact H.hp.cu (L':=FC) (by repeat (first|exact cZ _|apply List.Sublist.cons)) ⟨_,rfl,fun e=>(by cases e),fun _=>hb6 (by simpa using uh)⟩
   | exact H.hp.cu (L':=Lt) (by repeat (first|exact cZ _|apply List.Sublist.cons)) ⟨_,rfl,fun _=>(by rw [gK (by omega),iT] at bQ;have:=bQ.len;simp only [List.length_nil,lZ] at this;rw [← this];exact bQ.now),fun e=>(by cases e)⟩
 intro h21 a H
 try have nI:=dF h21
 refine kP H (Kc K2 (SQ fun _ K5=>SR fun _ K6=>Rm rfl (Rl oq rfl (Rm rfl (Kz K6 (SB ?_))))));clear H K2 K6;intro a H;skip;refine gq (ι:=Nat × Nat × OL × GH) (Tc:=[(3,_),(6,_),(22,_),(23,_)]) (Lc:=[(_,_)]) (fun gh=>[(24,vi gh.1)]) (fun gh=>[]++gh.2.2.1) (fun gh=>gh.2.2.2) (fun gh=>gh.1≤l.length∧(∀ b o,G b=some o→gh.2.2.2 b=some o)∧Now xs yR J (j0+((iT note t l).length+1)) gh.2.1 (iT note t (l.drop gh.1)) gh.2.2.2 gh.2.2.1) (fun gh=>l.length - gh.1) ((0,j0+1,Fx,Db)) (by exact (H).sub ⟨rfl,rfl,rfl,rfl,rfl,aD⟩) ?_ ?_
 ·exact ⟨by omega,AL,N9.step (hb1 (by simpa using h21))⟩
 clear H;intro gh a w hI H;obtain ⟨k,j1,Lt,g⟩:=gh;dsimp only at hI H;obtain ⟨hk,hgm,bQ⟩:=hI;dsimp only [lca,aV] at H;refine kP H (SR fun _ K7=>Rc rfl (Kz K7 (SQ fun _ K8=>Cd rfl ?_ ?_))) <;> clear H K7
 ·intro nC a H
  try have p25:=dT nC
  have hk2:k < l.length:=by omega
  obtain ⟨b,o,pA,pn,pc,dA,dn,dc,yA,yn,yc,fA,fn,fc,rA,rn,rc,rfl,hrow,hhd,hfl,hrw⟩:=Gd hk2 hg;replace hrow:=fun j u hj=>aL hgm (hrow j u hj);have hrn:=hrw.len;rw [bW] at hrn;subst hrn;have hrs:=Ig l[k].rows;have hsz1:=aix hk2;rw [lu hk2] at bQ
  simp only [iT,Wp] at bQ
  refine kP H (Kc K8 (SQ fun _ K9=>SB (SR fun _ aQ=>Ri oq eX rfl rfl ?_)));clear H K8;intro a H;refine aW eX (cs:=[_,_,_,_,_,_,_,_,_,_,_]) H wn rfl rfl (fun j v hj=>H.hp.aI (hrow j v hj)) rfl ?_;clear H;intro a H;refine dx eX H wn rfl ?_;clear H;intro b10 a w Ny H;refine aX eX 0 (vs:=[_,_,_,_,_,_,_,_,_,_,_]) _ H wn rfl rfl rfl rfl rfl rfl rfl rfl ?_;clear H;intro w H;dsimp only [List.set,setRow] at H;refine aQ _ _ ?_;clear aQ;refine kP H (SR fun _ bH=>aO kV aC 0 rfl rfl (Kz bH (SB (SR fun _ bR=>Rc rfl (ak bR rfl (Cd rfl ?_ ?_)))))) <;> clear H bH bR
  ·intro lG a H
   try have p30:=dT lG
   rw [au p30] at bQ;refine kP H (SR fun _ bY=>aO Ap aC 0 rfl rfl (aO BR jL 0 rfl rfl (aO FX aC 1 rfl rfl ?_)));clear H;intro a H;refine jw Bl [_,_,_] H wn rfl rfl rfl rfl ?_;clear H;intro a H;refine kH H (Rm rfl ?_);clear H;intro a H;refine gT Ml (Li:=[_,_]) (L:=Lt) H wn rfl (ih fv Gi xs J Jx _ _ _ j1 l[k].flow l[k].id false true t _ (fun b o h=>hgm b o (hGi b o h)) hcb jY hJx bQ.now (Hp.owns (Li:=[_,_]) H.hp) (hfl.mono hgm) (by omega) ht0 (by omega) bQ.part) rfl ?_;clear H;rintro v40 Qf Fy a w ⟨b40,rfl,hb3,hb4⟩ JD H;refine kH H (Rn rfl (Kz bY (Cd rfl ?_ ?_))) <;> clear H bY
   ·intro Av a H
    try have p41:=dT Av
    refine kP H (SR fun _ bX=>ak bX rfl ?_);clear H bX;intro a H;refine lr H results154 rfl ?_
    first
     | exact H.hp.cu (L':=Fx) (by repeat (first|exact cZ _|apply List.Sublist.cons)) ⟨_,rfl,fun e=>(by cases e),fun _=>hb2 (by simpa using h21)⟩
     | exact H.hp.cu (L':=Fy) (by repeat (first|exact cZ _|apply List.Sublist.cons)) ⟨_,rfl,fun e=>(by cases e),fun _=>hb4 (by simpa using Av)⟩
     | exact H.hp.cu (L':=FC) (by repeat (first|exact cZ _|apply List.Sublist.cons)) ⟨_,rfl,fun e=>(by cases e),fun _=>hb6 (by simpa using uh)⟩
     | exact H.hp.cu (L':=Lt) (by repeat (first|exact cZ _|apply List.Sublist.cons)) ⟨_,rfl,fun _=>(by rw [gK (by omega),iT] at bQ;have:=bQ.len;simp only [List.length_nil,lZ] at this;rw [← this];exact bQ.now),fun e=>(by cases e)⟩
   intro Av a H
   try have p41:=dF Av
   refine kP H (Kc K9 (SC (Rd rfl (Rm rfl ?_))));clear H K9;intro a H;refine aH ?_;refine eO ((k+1,j1+((iT true t l[k].flow).length+1),Fy,Qf)) (by exact (H.bU (Pl:=[_,_]) (bN:=[_]) [1] (by decide) rfl).sub ⟨rfl,rfl,rfl,rfl,rfl,aD⟩) ?_ ?_
   ·(try dsimp only);exact ⟨by omega,fun b o h=>JD b o (hgm b o h),bQ.jump (hb3 (by simpa using Av))⟩
   first|omega|(dsimp only;omega)
  intro lG a H
  try have p30:=dF lG
  refine kP H (SR fun _ dO=>Rc rfl (ak dO rfl (Cd rfl ?_ ?_))) <;> clear H dO
  ·intro BX a H
   try have p42:=dT BX
   rw [ah p30,au p42] at bQ;refine kP H (SR fun _ dJ=>aO yQ zQ 0 rfl rfl (Rl pq rfl (Rm rfl (Kz dJ (SB ?_)))));clear H dJ;intro a H;skip;refine gq (ι:=Nat × Nat × OL × GH) (Tc:=[(3,_),(6,_),(22,_),(23,_),(24,_),(45,_),(46,_)]) (Lc:=[(_,_),(_,_)]) (fun gh=>[(47,vi gh.1)]) (fun gh=>[]++gh.2.2.1) (fun gh=>gh.2.2.2) (fun gh=>gh.1≤l[k].rows.length∧(∀ b o,G b=some o→gh.2.2.2 b=some o)∧Now xs yR J (j0+((iT note t l).length+1)) gh.2.1 (pz note t (l[k].rows.drop gh.1)++iT note t (l.drop (k+1))) gh.2.2.2 gh.2.2.1) (fun gh=>l[k].rows.length - gh.1) ((0,j1,Lt,g)) (by exact (H).sub ⟨rfl,rfl,rfl,rfl,rfl,rfl,rfl,rfl,aD⟩) ?_ ?_
   ·exact ⟨by omega,hgm,bQ⟩
   clear H;intro gh a w hI H;obtain ⟨rk,j3,Lt3,g3⟩:=gh;dsimp only at hI H;obtain ⟨Ob,sW,qx⟩:=hI;dsimp only [lca,aV] at H;refine kP H (SR fun _ dD=>Rc rfl (Kz dD (SQ fun _ dU=>Cd rfl ?_ ?_))) <;> clear H dD
   ·intro h48 a H
    try have p48:=dT h48
    have hk3:rk < l[k].rows.length:=by omega
    obtain ⟨b2,o2,qA,qn,qc,eA,en,ec,zA,zn,zc,cA,cn,cc,rfl,hrow,Ck,hcl⟩:=Hy hk3 hrw.at_;replace hrow:=fun j u hj=>aL sW (hrow j u hj);have hcn:=hcl.len;rw [bW] at hcn;subst hcn;have hsz2:=KO hk3;have hcs:=E5 l[k].rows[rk].cells;rw [lu hk3] at qx
    simp only [pz,aik,mg] at qx
    refine kP H (Kc dU (SQ fun _ fP=>SB (SR fun _ eG=>Ri pq jJ rfl rfl ?_)));clear H dU;intro a H;refine aW jJ (cs:=[_,_,_,_,_,_]) H wn rfl rfl (fun j v hj=>H.hp.aI (hrow j v hj)) rfl ?_;clear H;intro a H;refine dx jJ H wn rfl ?_;clear H;intro b12 a w Ec H;refine aX jJ 0 (vs:=[_,_,_,_,_,_]) _ H wn rfl rfl rfl rfl rfl rfl rfl rfl ?_;clear H;intro w H;dsimp only [List.set,setRow] at H;refine eG _ _ ?_;clear eG;refine kP H (SR fun _ fZ=>aO yO zN 0 rfl rfl (Rl mY rfl (Rm rfl (Kz fZ (SB ?_)))));clear H fZ;intro a H;skip;refine gq (ι:=Nat × Nat × OL × GH) (Tc:=[(3,_),(6,_),(22,_),(23,_),(24,_),(45,_),(46,_),(47,_),(52,_),(53,_)]) (Lc:=[(_,_),(_,_),(_,_)]) (fun gh=>[(54,vi gh.1)]) (fun gh=>[]++gh.2.2.1) (fun gh=>gh.2.2.2) (fun gh=>gh.1≤l[k].rows[rk].cells.length∧(∀ b o,G b=some o→gh.2.2.2 b=some o)∧Now xs yR J (j0+((iT note t l).length+1)) gh.2.1 (pV note t (l[k].rows[rk].cells.drop gh.1)++(pz note t (l[k].rows.drop (rk+1))++iT note t (l.drop (k+1)))) gh.2.2.2 gh.2.2.1) (fun gh=>l[k].rows[rk].cells.length - gh.1) ((0,j3,Lt3,g3)) (by exact (H).sub ⟨rfl,rfl,rfl,rfl,rfl,rfl,rfl,rfl,rfl,rfl,rfl,aD⟩) ?_ ?_
    ·exact ⟨by omega,sW,qx⟩
    clear H;intro gh a w hI H;obtain ⟨ck,j4,Lt4,g4⟩:=gh;dsimp only at hI H;obtain ⟨hck,qp,mD⟩:=hI;dsimp only [lca,aV] at H;refine kP H (SR fun _ gN=>Rc rfl (Kz gN (SQ fun _ iW=>Cd rfl ?_ ?_))) <;> clear H gN
    ·intro kI a H
     try have p55:=dT kI
     have hk4:ck < l[k].rows[rk].cells.length:=by omega
     obtain ⟨b3,o3,sA,sn,sc,tA,tn,tc,uA,un,uc,gA,gn,gc,rfl,hrow,hch,hcf⟩:=Dy hk4 hcl.at_;replace hrow:=fun j u hj=>aL qp (hrow j u hj);have JJ:=KN hk4;rw [lu hk4] at mD
     simp only [pV,aic,mg] at mD
     refine kP H (Kc iW (SQ fun _ iN=>SB (SR fun _ iO=>Ri mY iR rfl rfl ?_)));clear H iW;intro a H;refine aW iR (cs:=[_,_,_,_,_,_,_]) H wn rfl rfl (fun j v hj=>H.hp.aI (hrow j v hj)) rfl ?_;clear H;intro a H;refine dx iR H wn rfl ?_;clear H;intro b14 a w Tw H;refine aX iR 0 (vs:=[_,_,_,_,_,_,_]) _ H wn rfl rfl rfl rfl rfl rfl rfl rfl ?_;clear H;intro w H;dsimp only [List.set,setRow] at H;refine iO _ _ ?_;clear iO;refine kP H (SR fun _ jM=>aO Ao aC 0 rfl rfl (aO BP jL 0 rfl rfl (aO MJ qJ 3 rfl rfl (aO FX aC 3 rfl rfl (Rd rfl ?_)))));clear H;intro a H;refine jw Bl [_,_,_] H wn rfl rfl rfl rfl ?_;clear H;intro a H;refine kH H (Rm rfl ?_);clear H;intro a H;refine gT Ml (Li:=[_,_,_,_]) (L:=Lt4) H wn rfl (ih fv Gi xs J Jx _ _ _ j4 l[k].rows[rk].cells[ck].flow l[k].rows[rk].cells[ck].id false note (t+1) _ (fun b o h=>qp b o (hGi b o h)) hcb jY hJx mD.now (Hp.owns (Li:=[_,_,_,_]) H.hp) (hcf.mono qp) (by omega) (by omega) (by omega) mD.part) rfl ?_;clear H;rintro v69 Xo FC a w ⟨b69,rfl,hb5,hb6⟩ adR H;refine kH H (Rn rfl (Kz jM (Cd rfl ?_ ?_))) <;> clear H jM
     ·intro uh a H
      try have p70:=dT uh
      refine kP H (SR fun _ kC=>ak kC rfl ?_);clear H kC;intro a H;refine lr H results154 rfl ?_
      first
       | exact H.hp.cu (L':=Fx) (by repeat (first|exact cZ _|apply List.Sublist.cons)) ⟨_,rfl,fun e=>(by cases e),fun _=>hb2 (by simpa using h21)⟩
       | exact H.hp.cu (L':=Fy) (by repeat (first|exact cZ _|apply List.Sublist.cons)) ⟨_,rfl,fun e=>(by cases e),fun _=>hb4 (by simpa using Av)⟩
       | exact H.hp.cu (L':=FC) (by repeat (first|exact cZ _|apply List.Sublist.cons)) ⟨_,rfl,fun e=>(by cases e),fun _=>hb6 (by simpa using uh)⟩
       | exact H.hp.cu (L':=Lt) (by repeat (first|exact cZ _|apply List.Sublist.cons)) ⟨_,rfl,fun _=>(by rw [gK (by omega),iT] at bQ;have:=bQ.len;simp only [List.length_nil,lZ] at this;rw [← this];exact bQ.now),fun e=>(by cases e)⟩
     intro uh a H
     try have p70:=dF uh
     refine kP H (Kc iN (SC (Rd rfl (Rm rfl ?_))));clear H iN;intro a H;refine aH ?_;refine eO ((ck+1,j4+((iT note (t+1) l[k].rows[rk].cells[ck].flow).length+1),FC,Xo)) (by exact (H.bU (Pl:=[_,_,_,_]) (bN:=[_,_,_]) [1,2,3] (by decide) rfl).sub ⟨rfl,rfl,rfl,rfl,rfl,rfl,rfl,rfl,rfl,rfl,rfl,aD⟩) ?_ ?_
     ·(try dsimp only);exact ⟨by omega,fun b o h=>adR b o (qp b o h),mD.jump (hb5 (by simpa using uh))⟩
     first|omega|(dsimp only;omega)
    intro kI a H
    try have p55:=dF kI
    refine fI ?_;refine fP _ _ ?_;clear fP;refine kP H (SC (Rd rfl (Rm rfl ?_)));clear H;intro a H;refine aH ?_;refine eO ((rk+1,j4,Lt4,g4)) (by exact (H.bU (Pl:=[_,_,_]) (bN:=[_,_]) [1,2] (by decide) rfl).sub ⟨rfl,rfl,rfl,rfl,rfl,rfl,rfl,rfl,aD⟩) ?_ ?_
    ·(try dsimp only);exact ⟨by omega,qp,by rw [gK (by omega),pV,ko] at mD;exact mD⟩
    first|omega|(dsimp only;omega)
   intro h48 a H
   try have p48:=dF h48
   refine fI ?_;refine K9 _ _ ?_;clear K9;refine kP H (SC (Rd rfl (Rm rfl ?_)));clear H;intro a H;refine aH ?_;refine eO ((k+1,j3,Lt3,g3)) (by exact (H.bU (Pl:=[_,_]) (bN:=[_]) [1] (by decide) rfl).sub ⟨rfl,rfl,rfl,rfl,rfl,aD⟩) ?_ ?_
   ·(try dsimp only);exact ⟨by omega,sW,by rw [gK (by omega),pz,ko] at qx;exact qx⟩
   first|omega|(dsimp only;omega)
  intro BX a H
  try have p42:=dF BX
  refine kP H (Kc K9 (SC (Rd rfl (Rm rfl ?_))));clear H K9;intro a H;refine aH ?_;refine eO ((k+1,j1,Lt,g)) (by exact (H.bU (Pl:=[_,_]) (bN:=[_]) [1] (by decide) rfl).sub ⟨rfl,rfl,rfl,rfl,rfl,aD⟩) ?_ ?_
  ·(try dsimp only);exact ⟨by omega,hgm,by rw [ah p30,ah p42,ko] at bQ;exact bQ⟩
  first|omega|(dsimp only;omega)
 intro nC a H
 try have p25:=dF nC
 refine fI ?_;refine K5 _ _ ?_;clear K5;refine kP H (SR fun _ jo=>ak jo rfl ?_);clear H jo;intro a H;refine lr H results154 rfl ?_
 first
  | exact H.hp.cu (L':=Fx) (by repeat (first|exact cZ _|apply List.Sublist.cons)) ⟨_,rfl,fun e=>(by cases e),fun _=>hb2 (by simpa using h21)⟩
  | exact H.hp.cu (L':=Fy) (by repeat (first|exact cZ _|apply List.Sublist.cons)) ⟨_,rfl,fun e=>(by cases e),fun _=>hb4 (by simpa using Av)⟩
  | exact H.hp.cu (L':=FC) (by repeat (first|exact cZ _|apply List.Sublist.cons)) ⟨_,rfl,fun e=>(by cases e),fun _=>hb6 (by simpa using uh)⟩
  | exact H.hp.cu (L':=Lt) (by repeat (first|exact cZ _|apply List.Sublist.cons)) ⟨_,rfl,fun _=>(by rw [gK (by omega),iT] at bQ;have:=bQ.len;simp only [List.length_nil,lZ] at this;rw [← this];exact bQ.now),fun e=>(by cases e)⟩
theorem Wt:∀ n:Nat,n≤4294967297→Lj n
 | 0,_=>fun _ _ _ _ _ _ _ _ _ _ _ _ _ _ _ _ _ _ _ _ _ _ h=>absurd h (by omega)
 | n+1,hn=>aio (Wt n (by omega)) (by omega)
def ji (l:List aB):List jf:=⟨0,l,true,false,0⟩ :: iT false 0 l
theorem acE {G:GH} {ba bl bp:Nat} {l:List aB} {v:aj} {id t:Int} {body note:Bool} (h1:aI G ba 0=some (vi id)) (h2:aI G bl 0=some v) (h3:G bp=some (.cells #[.bool body,.bool note,vi t] 116 (0,0))) (hv:av G (.sl 11 (l.map aB.dat)) v) (hz:bG l≤4294967296) (ht0:0≤t) (ht1:t+bG l≤4294967296) :
  Iter prog G (.func (.func 153) #[] #[(aJ ba 0),(aJ bl 0),(aJ bp 0)]) ((⟨id,l,body,note,t⟩ :: iT note t l).map yR):=by
 intro J Jx fv G1 L w0 AB hGi jY hJx hJ hO hcb;refine kG (caps:=[(aJ ba 0),(aJ bl 0),(aJ bp 0)]) I8 ?_;replace h1:=aL hGi h1;replace h2:=aL hGi h2
 have hrow:∀ j u,[.bool body,.bool note,vi t][j]?=some u→aI G1 bp (0+j)=some u:=by
  intro j u hj;refine aL hGi ?_
  unfold aI;rw [h3];simpa using hj
 refine jh (N:=10) (T:=[(0,_),(1,_),(2,_),(3,_)]) func153 rfl ntmps153 rfl rfl hO ?_;intro a H;refine kP H (SC (Rg aC rfl (by assumption) ?_));clear H;intro a H;refine kH H (Rg jL rfl (by assumption) ?_);clear H;intro a H;refine aW KC (cs:=[_,_,_]) H wn rfl rfl (fun j v hj=>H.hp.aI (hrow j v hj)) rfl ?_;clear H;intro a H;refine kH H (Rm rfl ?_);clear H;intro a H;refine gT Ml (Li:=[]) (L:=L) H wn rfl (Wt 4294967297 (by omega) _ G1 _ J Jx G1 _ _ 0 l id body note t _ (fun _ _ h=>h) hcb jY hJx hJ (Hp.owns (Li:=[]) H.hp) (hv.mono hGi) (by omega) ht0 ht1 (fun i a h=>by rw [mQ,mM,h];rfl)) rfl ?_;clear H;rintro v9 G9 L9 a w ⟨b9,rfl,h1,h2⟩ AU H;refine aH ?_;refine (leave0 H results153 ?_).2
 cases b9
 ·exact H.hp.eU (.inr (h2 rfl))
 exact H.hp.eU (.inl (by simpa using h1 rfl))
theorem acF (G:GH) (w0:World) (hG:Hold G w0) (l:List aB) (v:aj) (id t:Int) (body note:Bool) (hv:av G (.sl 11 (l.map aB.dat)) v) (hz:bG l≤4294967296) (ht0:0≤t) (ht1:t+bG l≤4294967296) :
  Calls prog 112 #[vi id,v,.agg #[.bool body,.bool note,vi t]] w0 (aZ w0 G fun u G'=>∃ ba bl bp,u=.func (.func 153) #[] #[(aJ ba 0),(aJ bl 0),(aJ bp 0)]∧Iter prog G' u ((⟨id,l,body,note,t⟩ :: iT note t l).map yR)):=by
 obtain ⟨A,c,rfl,hc1,hc2,hg⟩:=hv.slice;refine eN [(0,_),(1,_),(2,_)] func112 rfl ntmps112 rfl rfl hG ?_;intro a H;refine bK (fun _ K1=>?_);refine dz (cs:=[_]) H wn rfl rfl rfl ?_;clear H;intro b3 a w hb3 H;refine dz (cs:=[_]) H wn rfl rfl rfl ?_;clear H;intro b4 a w hb4 H;refine dz (cs:=[_,_,_]) H wn rfl rfl rfl ?_;clear H;intro b5 a w hb5 H;refine kH H (ak K1 rfl (SR fun _ K2=>?_));clear H K1;intro a H;refine nK H wn rfl rfl ?_;clear H;intro a H;refine kH H (ak K2 rfl ?_);clear H K2;intro a H;refine bF ?_;obtain ⟨G2,hm2,hb5,H⟩:=H.dQ;obtain ⟨G3,oN,hb4,H⟩:=H.dQ;obtain ⟨G4,JC,hb3,H⟩:=H.dQ;refine lv H results112 rfl ?_;exact H.rt ⟨b3,b4,b5,rfl,acE (by unfold aI;rw [hb3];rfl) (aL JC (by unfold aI;rw [hb4];rfl)) (JC _ _ (oN _ _ hb5)) (hv.mono fun b o h=>JC _ _ (oN _ _ (hm2 _ _ h))) hz ht0 ht1⟩
theorem OM (G:GH) (w0:World) (hG:Hold G w0) (D:jQ) (l:List aB) (hv:av G (.sl 11 (l.map aB.dat)) (fJ D.f)) (hz:bG l≤4294967296) :
  Calls prog 53 #[D.val] w0 (aZ w0 G fun u G'=>∃ ba bl bp,u=.func (.func 153) #[] #[(aJ ba 0),(aJ bl 0),(aJ bp 0)]∧Iter prog G' u ((ji l).map yR)):=by
 refine eN [(0,_)] func53 rfl ntmps53 rfl rfl hG ?_;intro a H;refine bK (fun _ K1=>?_);refine dz (cs:=[_,_,_,_,_,_,_,_,_,_,_]) H wn rfl rfl rfl ?_;clear H;intro b1 a w hb1 H;refine kH H (ak K1 rfl (SR fun _ K2=>aO DW jL 0 rfl rfl ?_));clear H K1;intro a H;refine jw Bl [_,_,_] H wn rfl rfl rfl rfl ?_;clear H;intro a H;refine s_call ZR H wn rfl (acF _ _ H.ro l _ 0 0 true false hv hz (by omega) (by omega)) rfl ?_;clear H;rintro v6 G6 a w ⟨ba,bl,bp,rfl,hit⟩ TI H;exact kH H (ak K2 rfl (LR results53 rfl fun H=>H.rt ⟨ba,bl,bp,rfl,hit⟩))
end
section
open Go.RowKit
theorem MB:∀ args w,(callFunc 53 args).run prog w=.ok (.enter 53 args) w:=enters func53 rfl (by kernel_rfl)
theorem KD:Ty prog 118 4 40 [.slice none 0 0,.bool false,.bool false,.int .i64 0] true:=⟨by kernel_rfl,by kernel_rfl⟩
theorem Sv:bV prog 118 0 0:=⟨by kernel_rfl⟩
theorem FT:∀ args w,(callFunc 15 args).run prog w=.ok (.enter 15 args) w:=enters func15 rfl (by kernel_rfl)
theorem Jh:bV prog 51 0 0:=⟨by kernel_rfl⟩
theorem ZP:∀ args w,(callFunc 110 args).run prog w=.ok (.enter 110 args) w:=enters func110 rfl (by kernel_rfl)
theorem DZ:bV prog 51 1 1:=⟨by kernel_rfl⟩
theorem D5:bV prog 51 2 2:=⟨by kernel_rfl⟩
theorem F9:bV prog 64 0 0:=⟨by kernel_rfl⟩
theorem Ji:bV prog 64 1 1:=⟨by kernel_rfl⟩
theorem ahl:qO prog 51 [(0,1),(1,1),(2,1)] [.int .i64 0,.int .i64 0,.int .i64 0]:=⟨by kernel_rfl,by kernel_rfl⟩
theorem Sd:∀ args w,(callFunc 51 args).run prog w=.ok (.enter 51 args) w:=enters func51 rfl (by kernel_rfl)
mutual
theorem aij {note:Bool} {t:Int} {f:jf}:∀ {x:aB},f∈wS note t x→bG f.items < cB x.dat
 | .mk k c i tx h fl r,hf=>by
  have h4:=ou (.mk k c i tx h fl r)
  simp only [aB.text,aB.head,aB.flow,aB.rows] at h4
  rw [wS] at hf
  split at hf
  ·rcases nS.1 hf with rfl|hf
   ·show bG fl < _;omega
   have:=KJ hf;omega
  split at hf
  ·have:=Ws hf;omega
  cases hf
theorem KJ {note:Bool} {t:Int} {f:jf}:∀ {l:List aB},f∈iT note t l→bG f.items≤bG l
 | [],hf=>by simp [iT] at hf
 | x :: l,hf=>by
  rw [iT] at hf
  simp only [bG,fG,dZ]
  rcases sK.1 hf with hf|hf
  ·have:=aij hf;simp only [bG] at this;omega
  have:=KJ hf;simp only [bG] at this;omega
theorem Ws {note:Bool} {t:Int} {f:jf}:∀ {l:List bC},f∈pz note t l→bG f.items≤iV l
 | [],hf=>by simp [pz] at hf
 | x :: l,hf=>by
  rw [pz] at hf
  simp only [iV,fG,dZ]
  rcases sK.1 hf with hf|hf
  ·have:=ain hf;simp only [bG] at *;omega
  have:=Ws hf;simp only [bG,iV] at *;omega
theorem ain {note:Bool} {t:Int} {f:jf}:∀ {x:bC},f∈wT note t x→bG f.items≤cB x.dat
 | .mk h cs,hf=>by
  have h4:=yu (.mk h cs)
  simp only [bC.head,bC.cells] at h4
  rw [wT] at hf;have:=Wo hf;omega
theorem Wo {note:Bool} {t:Int} {f:jf}:∀ {l:List aY},f∈pV note t l→bG f.items≤lW l
 | [],hf=>by simp [pV] at hf
 | x :: l,hf=>by
  rw [pV] at hf
  simp only [lW,fG,dZ]
  rcases sK.1 hf with hf|hf
  ·have:=aif hf;simp only [bG] at *;omega
  have:=Wo hf;simp only [bG,lW] at *;omega
theorem aif {note:Bool} {t:Int} {f:jf}:∀ {x:aY},f∈wR note t x→bG f.items≤cB x.dat
 | .mk i h fl,hf=>by
  have h4:=zT (.mk i h fl)
  simp only [aY.head,aY.flow] at h4
  rw [wR] at hf
  rcases nS.1 hf with rfl|hf
  ·show bG fl≤_;omega
  have:=KJ hf;omega
end
theorem Jo {f:jf} {l:List aB} (h:f∈ji l):bG f.items≤bG l:=by
 rcases nS.1 h with rfl|h
 ·exact bP _
 exact KJ h
def jW (l:List aB) (id:Int):Option (List aB):=((ji l).find? fun f=>decide (f.id=id)).map jf.items
theorem Jm {f:List aB} {l:List aB} {id:Int} (h:jW l id=some f):bG f≤bG l:=by
 obtain ⟨a,ha,rfl⟩:=kS.1 h;exact Jo (List.mem_of_find?_eq_some ha)
theorem MS {α:Type} {p:α→Bool} {A:List α} {k:Nat} (hk:k < A.length) (h:(A.take k).find? p=none) (hp:p A[k]=false):(A.take (k+1)).find? p=none:=by
 rw [mP hk,List.find?_append,h]
 simp [hp]
theorem Jk {α:Type} {p:α→Bool} {A:List α} {k:Nat} (hk:k < A.length) (h:(A.take k).find? p=none) (hp:p A[k]=true):A.find? p=some A[k]:=by
 have e:A.find? p=(A.take k++A.drop k).find? p:=by rw [List.take_append_drop]
 rw [e,List.find?_append,h,lu hk,List.find?_cons,hp]
 rfl
theorem MR {α:Type} {p:α→Bool} {A:List α} (h:(A.take A.length).find? p=none):A.find? p=none:=by rwa [List.take_length] at h
theorem D7 {A:List jf} {k:Nat} {args:List aj} {g:GH} (h:tQ (A.map yR) k args g):∃ (hk:k < A.length) (a:Option Addr) (n c:Nat),args=[vi A[k].id,.agg #[.slice a n c,.bool A[k].body,.bool A[k].note,vi A[k].tables]]∧av g (.sl 11 (A[k].items.map aB.dat)) (.slice a n c):=by
 obtain ⟨p,hp,hargs⟩:=h;rw [mM] at hp;obtain ⟨q,hq,rfl⟩:=kS.1 hp;obtain ⟨hk,rfl⟩:=jr.1 hq;obtain ⟨v,h1,h2⟩:=hargs;obtain ⟨a,n,c,rfl⟩:=h2.form;exact ⟨hk,a,n,c,h1,h2⟩
theorem Gf (G:GH) (w0:World) (hG:Hold G w0) (D:jQ) (l:List aB) (id:Int) (hv:av G (.sl 11 (l.map aB.dat)) (fJ D.f)) (hz:bG l≤4294967296) :
  Calls prog 15 #[D.val,vi id] w0 (aZ w0 G fun u G'=>∃ v,u=.tuple #[v,.bool (jW l id).isSome]∧av G' (.sl 11 (((jW l id).getD []).map aB.dat)) v):=by
 refine eN [(0,_),(1,_)] func15 rfl ntmps15 rfl rfl hG ?_;intro a H;refine bK (fun _ K1=>?_);refine dz (cs:=[_,_,_,_,_,_,_,_,_,_,_]) H wn rfl rfl rfl ?_;clear H;intro b2 a w hb2 H;refine dz (cs:=[_]) H wn rfl rfl rfl ?_;clear H;intro b3 a w hb3 H;refine dx jL H wn rfl ?_;clear H;intro b4 a w hb4 H;refine dx qJ H wn rfl ?_;clear H;intro b5 a w hb5 H;refine K1 _ _ ?_;clear K1;refine bg (fun _ K2=>?_);refine bK (fun _ K3=>?_);refine aW jl (cs:=[_,_,_,_,_,_,_,_,_,_,_]) H wn rfl rfl (H.hp.bT 3 rfl rfl) rfl ?_;clear H;intro a H;refine s_call MB H wn rfl (OM _ _ H.ro D l hv hz) rfl ?_;clear H;rintro v9 G9 a w ⟨ba,bl,bp,rfl,hit⟩ AU H;refine K3 _ _ ?_;clear K3;refine oG ?_;skip;refine vS (ι:=Unit) (κ:=aj) (Lc:=[(_,_),(_,_)]) (fun (k:Nat) (gh:Unit)=>[(b4,.cells #[.slice none 0 0] 22 (0,0)),(b5,.cells #[.bool false] 4 (0,0))]) (fun (k:Nat) (gh:Unit)=>[]) (fun (k:Nat) (gh:Unit) (g:GH)=>((ji l).take k).find? (fun f=>decide (f.id=id))=none) (fun (gx:aj)=>Code.ret) (fun (gx:aj)=>[(b4,.cells #[gx] 22 (0,0)),(b5,.cells #[.bool true] 4 (0,0))]) (fun (gx:aj)=>[]) (fun (gx:aj) (g:GH)=>∃ f,jW l id=some f∧av g (.sl 11 (f.map aB.dat)) gx) (()) (by exact H.bU (Pl:=[_,_,_,_]) (bN:=[_,_,_,_]) [2,3,1,0] (by decide) rfl) rfl I8 (hit) (fun _ _ h=>h) rfl (fun k args g h=>by obtain ⟨_,_,_,_,rfl,_⟩:=D7 h;rfl) (fun _ _ _ _ _ h=>h) (fun x G G' hm h=>let ⟨f,h1,h2⟩:=h;⟨f,h1,h2.mono hm⟩) (rfl) ?_ ?_ ?_
 ·clear H;intro l2 qG oF bk k args gh G2 w2 F2 B2 a hk2 hm2 hI GA GR El H;obtain ⟨hk,vA,vn,vc,rfl,hrep⟩:=D7 hk2;dsimp only [nT,List.cons_append,List.nil_append] at H;refine kP H (SR fun _ K4=>ak K4 rfl (SC ?_));clear H K4;intro a H;refine dx KD H wn rfl ?_;clear H;intro b7 a w rW H;refine aX KD 0 (vs:=[_,_,_,_]) _ H wn rfl rfl rfl rfl rfl rfl rfl rfl ?_;clear H;intro w H;dsimp only [List.set,setRow] at H;refine aH ?_;refine GA _ _ _ _ _ _ (by exact H.bU (Pl:=[_,_,_,_,_,_]) (bN:=[_,_,_,_,_,_]) [1,0,2,3,4,5] (by decide) rfl) ?_;clear H;intro w H;refine kP H (SB (SR fun _ K5=>Rm rfl (Ro aC 2 rfl (Rc rfl (Kz K5 (Cd rfl ?_ ?_)))))) <;> clear H K5
  ·intro dX a H
   try have kJ:=dT dX
   refine kP H (SR fun _ K6=>aO Sv jL 1 rfl rfl ?_);clear H;intro a H;refine s_call Mw H wn rfl (Y5 _ _ H.ro _ _ hrep (by have:=Jo (jT hk);omega)) rfl ?_;clear H;rintro v17 zV a w TM oM H;obtain ⟨WQ,n17,c17,rfl⟩:=TM.form;refine aX jL 4 (vs:=[_]) _ H wn rfl rfl rfl rfl rfl rfl rfl rfl ?_;clear H;intro w H;dsimp only [List.set,setRow] at H;refine aX qJ 5 (vs:=[_]) _ H wn rfl rfl rfl rfl rfl rfl rfl rfl ?_;clear H;intro w H;dsimp only [List.set,setRow] at H;refine K6 _ _ ?_;clear K6;refine bF ?_;refine (El (.slice WQ n17 c17) _ _ _ _ _ (by exact H.bU (Pl:=[_,_,_,_,_,_]) (bN:=[_,_,_,_,_]) [0,2,3,4,5] (by decide) rfl) ?_).1 rfl;exact ⟨_,by unfold jW;rw [Jk hk hI dX];rfl,TM⟩
  intro dX a H
  refine fQ ?_;refine GR (()) _ _ _ _ _ (by exact H.bU (Pl:=[_,_,_,_,_,_]) (bN:=[_,_,_,_,_]) [0,2,3,4,5] (by decide) rfl) ?_;exact MS hk hI dX
 ·clear H;intro Fb gh Fp a w hm2 hI H;dsimp only [lca,aV] at H;refine K2 _ _ ?_;clear K2;refine bK (fun _ K7=>?_);refine aX jL 3 (vs:=[_]) _ H wn rfl rfl rfl rfl rfl rfl rfl rfl ?_;clear H;intro w H;dsimp only [List.set,setRow] at H;refine aX qJ 4 (vs:=[_]) _ H wn rfl rfl rfl rfl rfl rfl rfl rfl ?_;clear H;intro w H;dsimp only [List.set,setRow] at H;refine K7 _ _ ?_;clear K7;refine bF ?_;refine (qy H 0 rfl ?_).1;clear H;intro a w H;dsimp only [List.eraseIdx_cons_succ,List.eraseIdx_cons_zero] at H;refine (dL H results15 (.cons (mE jL H rfl (H.hp.kr 2 rfl rfl)) (.cons (mE qJ H rfl (H.hp.kr 3 rfl rfl)) .nil)) ?_).1;exact H.rt ⟨_,by unfold jW;rw [MR (by simpa using hI)];rfl,by unfold jW;rw [MR (by simpa using hI)];exact av.iQ rfl (by decide)⟩
 clear H;intro Fb gx Fp a w hm2 hI H;obtain ⟨x,hgh⟩:∃ x,x=gx:=⟨_,rfl⟩;subst hgh;dsimp only [lca,aV] at H;obtain ⟨f,hf,hrep⟩:=hI;obtain ⟨xA,xn,xc,rfl⟩:=hrep.form;refine bF ?_;refine (qy H 0 rfl ?_).1;clear H;intro a w H;dsimp only [List.eraseIdx_cons_succ,List.eraseIdx_cons_zero] at H;refine (dL H results15 (.cons (mE jL H rfl (H.hp.kr 2 rfl rfl)) (.cons (mE qJ H rfl (H.hp.kr 3 rfl rfl)) .nil)) ?_).1;exact H.rt ⟨_,by rw [hf];rfl,by rw [hf];exact hrep⟩
theorem aeT (G:GH) (w0:World) (hG:Hold G w0) (D:jQ) (l:List aB) (id:Int) (hv:av G (.sl 11 (l.map aB.dat)) (fJ D.f)) (hz:bG l≤4294967296) :
  Calls prog 110 #[D.val,vi id] w0 (aZ w0 G fun u G'=>u=.tuple #[vi (qV ((jW l id).getD [])),.bool (jW l id).isSome]):=by
 have hsz:bG ((jW l id).getD [])≤bG l:=by
  cases h:jW l id with
  | none=>exact gW _
  | some f=>exact Jm h
 refine eN [(0,_),(1,_)] func110 rfl ntmps110 rfl rfl hG ?_;intro a H;refine bK (fun _ K1=>?_);refine dz (cs:=[_,_,_,_,_,_,_,_,_,_,_]) H wn rfl rfl rfl ?_;clear H;intro b2 a w hb2 H;refine kH H (Ra rfl (ak K1 rfl (SR fun _ K2=>?_)));clear H K1;intro a H;refine aW jl (cs:=[_,_,_,_,_,_,_,_,_,_,_]) H wn rfl rfl (H.hp.bT 0 rfl rfl) rfl ?_;clear H;intro a H;refine kH H (Rm rfl ?_);clear H;intro a H;refine s_call FT H wn rfl (Gf _ _ H.ro D l id hv hz) rfl ?_;clear H;rintro v13 vK a w ⟨v,rfl,hr⟩ pR H;refine kH H (Rm rfl ?_);clear H;intro a H;(iterate 2 refine jy H wn rfl rfl rfl ?_;clear H;intro a H);refine kH H (Ra rfl (ak K2 rfl (SR fun _ K3=>Rm rfl ?_)));clear H K2;intro a H;refine s_call Ja H wn rfl (JQ _ _ H.ro _ _ hr (by omega)) rfl ?_;clear H;rintro v18 KQ a w ⟨rfl,rfl⟩ hm18 H;refine kH H (Rm rfl ?_);clear H;intro a H;(iterate 2 refine jy H wn rfl rfl rfl ?_;clear H;intro a H);refine kH H (Ra rfl (ak K3 rfl (SR fun _ K4=>Rm rfl (Rm rfl (Ra rfl (ak K4 rfl ?_))))));clear H K3 K4;intro a H;refine bF ?_;refine (dL H results110 (.cons (aN H rfl) (.cons (aN H rfl) .nil)) ?_).1;exact H.rt rfl
def lS (l:List aB) (flow from_ to:Int):Int :=
 if (jW l flow).isSome=true then if from_ < 0∨to < from_∨qV ((jW l flow).getD []) < to then 2 else 0 else 8
theorem Rj (G:GH) (w0:World) (hG:Hold G w0) (D:jQ) (l:List aB) (flow from_ to:Int) (hv:av G (.sl 11 (l.map aB.dat)) (fJ D.f)) (hz:bG l≤4294967296) :
  Calls prog 51 #[D.val,.agg #[vi flow,vi from_,vi to]] w0 (aZ w0 G fun u G'=>u=vi (lS l flow from_ to)):=by
 refine eN [(0,_),(1,_)] func51 rfl ntmps51 rfl rfl hG ?_;intro a H;refine bK (fun _ K1=>?_);refine dz (cs:=[_,_,_,_,_,_,_,_,_,_,_]) H wn rfl rfl rfl ?_;clear H;intro b2 a w hb2 H;refine dz (cs:=[_,_,_]) H wn rfl rfl rfl ?_;clear H;intro b3 a w hb3 H;refine kH H (ak K1 rfl (SR fun _ K2=>?_));clear H K1;intro a H;refine aW jl (cs:=[_,_,_,_,_,_,_,_,_,_,_]) H wn rfl rfl (H.hp.bT 1 rfl rfl) rfl ?_;clear H;intro a H;refine kH H (aO Jh aC 0 rfl rfl ?_);clear H;intro a H;refine s_call ZP H wn rfl (aeT _ _ H.ro D l flow hv hz) rfl ?_;clear H;rintro v11 sF a w rfl zl H;refine kH H (Rm rfl ?_);clear H;intro a H;(iterate 2 refine jy H wn rfl rfl rfl ?_;clear H;intro a H);refine kH H (Ra rfl (ak K2 rfl (SQ fun _ K3=>SB (SR fun _ K4=>Rm rfl (Rn rfl (ak K4 rfl (Cd rfl ?_ ?_))))))) <;> clear H K2 K4
 ·intro dX a H
  try have kJ:=dT dX
  exact kP H (SR fun _ K5=>ak K5 rfl (LR results51 rfl fun H=>H.rt (by unfold lS;congr 1;simp_all)))
 intro dX a H
 try have kJ:=dF dX
 refine kP H (SR fun _ K6=>aO DZ aC 0 rfl rfl (Rc rfl (Rm rfl (Sp 21 rfl ?_ ?_)))) <;> clear H
 ·intro h21 a H
  try have nI:=dT h21
  exact kH H (cK h21 rfl (bO h21 rfl (Pt h21 rfl (Rm rfl (bO rfl rfl (bO rfl rfl (Pt rfl rfl (ak K6 rfl (Ct rfl rfl (SR fun _ K7=>ak K7 rfl (LR results51 rfl fun H=>H.rt (by unfold lS;congr 1;simp_all))))))))))))
 intro h21 a H
 try have nI:=dF h21
 refine kH H (YF D5 h21 rfl (YO aC 0 h21 rfl (YF DZ h21 rfl (YO aC 0 h21 rfl (YC h21 rfl (Pf h21 rfl (Rm rfl (Sp 28 rfl ?_ ?_)))))))) <;> clear H
 ·intro dR a H
  try have p28:=dT dR
  exact kH H (bO dR rfl (bO dR rfl (Pt dR rfl (ak K6 rfl (Ct rfl rfl (SR fun _ K8=>ak K8 rfl (LR results51 rfl fun H=>H.rt (by unfold lS;congr 1;simp_all))))))))
 intro dR a H
 try have p28:=dF dR
 refine kH H (YF D5 dR rfl (YO aC 0 dR rfl (YM dR rfl (YC dR rfl (Pf dR rfl (ak K6 rfl (Cd rfl ?_ ?_))))))) <;> clear H K6
 ·intro dM a H
  try have kK:=dT dM
  exact kP H (SR fun _ K9=>ak K9 rfl (LR results51 rfl fun H=>H.rt (by unfold lS;congr 1;simp_all)))
 intro dM a H
 try have kK:=dF dM
 exact kP H (Kc K3 (SR fun _ aQ=>ak aQ rfl (LR results51 rfl fun H=>H.rt (by unfold lS;congr 1;simp_all))))
theorem Rp (G:GH) (w0:World) (hG:Hold G w0) (D:jQ) (l:List aB) (flow at_:Int) (hv:av G (.sl 11 (l.map aB.dat)) (fJ D.f)) (hz:bG l≤4294967296) :
  Calls prog 107 #[D.val,.agg #[vi flow,vi at_]] w0 (aZ w0 G fun u G'=>u=vi (lS l flow at_ at_)):=by
 refine eN [(0,_),(1,_)] func107 rfl ntmps107 rfl rfl hG ?_;intro a H;refine bK (fun _ K1=>?_);refine dz (cs:=[_,_,_,_,_,_,_,_,_,_,_]) H wn rfl rfl rfl ?_;clear H;intro b2 a w hb2 H;refine dz (cs:=[_,_]) H wn rfl rfl rfl ?_;clear H;intro b3 a w hb3 H;refine kH H (ak K1 rfl (SR fun _ K2=>?_));clear H K1;intro a H;refine aW jl (cs:=[_,_,_,_,_,_,_,_,_,_,_]) H wn rfl rfl (H.hp.bT 1 rfl rfl) rfl ?_;clear H;intro a H;refine kH H (aO F9 aC 0 rfl rfl (aO Ji aC 0 rfl rfl (aO Ji aC 0 rfl rfl ?_)));clear H;intro a H;refine jw ahl [_,_,_] H wn rfl rfl rfl rfl ?_;clear H;intro a H;refine s_call Sd H wn rfl (Rj _ _ H.ro D l flow at_ at_ hv hz) rfl ?_;clear H;rintro v13 vK a w rfl pR H;exact kH H (ak K2 rfl (LR results107 rfl fun H=>H.rt rfl))
end
section
open Go.RowKit
def qd (xs:Array aj) (o:Nat):Option Int:=match xs[o]? with|some (.int .i64 n)=>some n|_=>none
def Oy (u:Option TypeDesc):Bool:=match u with|some (.int .i64)=>true|_=>false
structure P9 (P:Program) (t:TypeId) (Ew:List Nat):Prop where
 und:P.underlying t=some (.struct (P.fieldsOf t))
 held:P.stoodInHeld t=false
 guard:P.eqGuardType P.depth t=false
 Gc:(P.fieldsOf t).toList.map (·.offset)=Ew
 ok:(P.fieldsOf t).toList.all (fun f=>decide (f.name ≠ "_") && P.plainKey f.type && Oy (P.underlying f.type))=true
theorem Vi {P:Program} {w:World} {d:Nat} {xs ys:Array aj}:∀ fs:List Field,fs.all (fun f=>decide (f.name ≠ "_") && P.plainKey f.type && Oy (P.underlying f.type))=true →
  (fs.map (·.offset)).all (fun o=>(qd xs o).isSome && (qd ys o).isSome)=true→(Op.eqFields (d+1) xs ys fs).run P w=.ok ((fs.map (·.offset)).all fun o=>qd xs o == qd ys o) w
 | [],_,_=>by simp [Op.eqFields]
 | f :: fs,h1,h2=>by
  simp only [List.all_cons,jS,lM,fG] at h1 h2
  obtain ⟨⟨⟨hn,hp⟩,hi⟩,h1⟩:=h1
  obtain ⟨⟨hx,hy⟩,h2⟩:=h2
  have ih:=Vi (w:=w) (d:=d) fs (by simpa using h1) h2
  unfold Oy at hi
  split at hi
  ·rename_i hu
   unfold qd at hx hy
   split at hx
   ·rename_i m hxm
    split at hy
    ·rename_i m2 hym
     have e1:qd xs f.offset=some m:=by unfold qd;rw [hxm]
     have e2:qd ys f.offset=some m2:=by unfold qd;rw [hym]
     simp only [Op.eqFields,hn,ne_eq,not_false_eq_true,if_true,cO,run_part_plain w hp hxm,run_part_plain w hp hym,kE,run_equalIn_int w d f.type .i64 .i64 m m2 hu,fG,List.all_cons,e1,e2]
     by_cases e:m=m2
     ·subst e;simp [ih,List.all_map]
     ·simp [e]
    ·simp at hy
   ·simp at hx
  ·simp at hi
section
variable {N:Nat} {D:List Deferred} {w0:World} {F:Nat→Prop} {G0 G:GH} {L:List (Nat × Obj)} {T:List (Nat × aj)}
variable {r:Option Nat} {P:Program} {ops:Array Oper} {Q:Exit→Act→World→Prop} {rest:List Oper} {a:Act} {w:World}
variable {d:Nat} {ty:TypeId} {pos:String} {aK:Array Edge} {g:Option (Nat × Bool)}
theorem Pg {t yt:TypeId} {Ew:List Nat} (he:P9 P t Ew) {x y:Operand} {xs ys:Array aj} (H:St N D w0 F G0 G L T a w) (hw:Region.wanted ⟨some d,.binOp .eql t x y yt,ty,pos,aK,g⟩ (yielded ops a.tmps)=true) (hx:ev T x=some (.agg xs)) (hy:ev T y=some (.agg ys))
  (hi:Ew.all (fun o=>(qd xs o).isSome && (qd ys o).isSome)=true) (hd:Nat.blt d N=true)
  (k:∀ a',St N D w0 F G0 G L ((d,.bool (Ew.all fun o=>qd xs o == qd ys o)) :: T) a' w→WL r P ops Q rest a' w):WL r P ops Q (⟨some d,.binOp .eql t x y yt,ty,pos,aK,g⟩ :: rest) a w:=by
 refine eY (v:=.bool (Ew.all fun o=>qd xs o == qd ys o)) (w':=w) hw rfl ?_ (k _ (H.put hd _ H.hp))
 have h1:=Vi (P:=P) (w:=w) (d:=9998) (xs:=xs) (ys:=ys) _ he.ok (by rw [he.Gc];exact hi)
 rw [he.Gc] at h1
 simp only [execOp,H.ev hx,H.ev hy,cO,run_eqGuard_agg w .eql t x y xs ys he.guard,kE,run_eql_struct,run_equalIn_struct w 9999 t xs ys he.und he.held,h1]
 rfl
theorem CQ {t yt:TypeId} {x y:Operand} {p q:ByteArray} (H:St N D w0 F G0 G L T a w) (hw:Region.wanted ⟨some d,.binOp .eql t x y yt,ty,pos,aK,g⟩ (yielded ops a.tmps)=true) (hx:ev T x=some (.string p)) (hy:ev T y=some (.string q)) (hd:Nat.blt d N=true)
  (k:∀ a',St N D w0 F G0 G L ((d,.bool (p.toList == q.toList)) :: T) a' w→WL r P ops Q rest a' w):WL r P ops Q (⟨some d,.binOp .eql t x y yt,ty,pos,aK,g⟩ :: rest) a w:=by
 refine eY (v:=.bool (p.toList == q.toList)) (w':=w) hw rfl ?_ (k _ (H.put hd _ H.hp))
 simp [execOp,H.ev hx,H.ev hy,cO,eqGuard,binOp,Op.stringOp]
end
end
section
open Go.RowKit
theorem eP:Ty prog 41 1 8 [.int .i64 0] false:=⟨by kernel_rfl,by kernel_rfl⟩
theorem RS:∀ args w,(callFunc 107 args).run prog w=.ok (.enter 107 args) w:=enters func107 rfl (by kernel_rfl)
theorem MH:P9 prog 64 [0,1]:=⟨by kernel_rfl,by kernel_rfl,by kernel_rfl,by kernel_rfl,by kernel_rfl⟩
theorem Bb {α:Type} {p:α→Bool} {A:List α} {k:Nat} (hk:k < A.length) (h:(A.take k).findIdx? p=none) (hp:p A[k]=false):(A.take (k+1)).findIdx? p=none:=by
 rw [List.findIdx?_eq_none_iff] at h ⊢;rw [mP hk];intro x hx
 rcases sK.1 hx with hx|hx
 ·exact h x hx
 rw [uS.1 hx];exact hp
theorem tC {α:Type} {p:α→Bool} {A:List α} {k:Nat} (hk:k < A.length) (h:(A.take k).findIdx? p=none) (hp:p A[k]=true):A.findIdx? p=some k:=by
 have e:A.findIdx? p=(A.take k++A.drop k).findIdx? p:=by rw [List.take_append_drop]
 rw [e,List.findIdx?_append,h,lu hk,List.findIdx?_cons,hp]
 simp;omega
theorem aez {α:Type} {p:α→Bool} {A:List α} (h:(A.take A.length).findIdx? p=none):A.findIdx? p=none:=by rwa [List.take_length] at h
def Cr (l:List aB) (f t:Int):Int × Int :=
 if lS l f t t=0 then match (iq 0 0 l).findIdx? (fun q=>q.1 == f && q.2 == t) with|some i=>(i,0)|none=>(0,8) else (0,lS l f t t)
theorem index_spec (G:GH) (w0:World) (hG:Hold G w0) (D:jQ) (l:List aB) (f t:Int) (hv:av G (.sl 11 (l.map aB.dat)) (fJ D.f)) (hz:bG l≤4294967296) :
  Calls prog 46 #[D.val,.agg #[vi f,vi t]] w0 (aZ w0 G fun u G'=>u=.tuple #[vi (Cr l f t).1,vi (Cr l f t).2]):=by
 refine eN [(0,_),(1,_)] func46 rfl ntmps46 rfl rfl hG ?_;intro a H;refine bK (fun _ K1=>?_);refine dz (cs:=[_,_,_,_,_,_,_,_,_,_,_]) H wn rfl rfl rfl ?_;clear H;intro b2 a w hb2 H;refine dz (cs:=[_,_]) H wn rfl rfl rfl ?_;clear H;intro b3 a w hb3 H;refine dx aC H wn rfl ?_;clear H;intro b4 a w hb4 H;refine dx eP H wn rfl ?_;clear H;intro b5 a w hb5 H;refine K1 _ _ ?_;clear K1;refine bg (fun _ K2=>?_);refine bK (fun _ K3=>?_);refine aW jl (cs:=[_,_,_,_,_,_,_,_,_,_,_]) H wn rfl rfl (H.hp.bT 3 rfl rfl) rfl ?_;clear H;intro a H;refine aW fM (cs:=[_,_]) H wn rfl rfl (H.hp.bT 2 rfl rfl) rfl ?_;clear H;intro a H;refine s_call RS H wn rfl (Rp _ _ H.ro D l f t hv hz) rfl ?_;clear H;rintro v11 sF a w rfl zl H;refine kH H (ak K3 rfl (SR fun _ K4=>Rm rfl (Rc rfl (Kz K4 (Cd rfl ?_ ?_))))) <;> clear H K3 K4
 ·intro gB a H
  try have qE:=dT gB
  refine kP H (SR fun _ K5=>Rm rfl ?_);clear H;intro a H;refine aX aC 1 (vs:=[_]) _ H wn rfl rfl rfl rfl rfl rfl rfl rfl ?_;clear H;intro w H;dsimp only [List.set,setRow] at H;refine aX eP 0 (vs:=[_]) _ H wn rfl rfl rfl rfl rfl rfl rfl rfl ?_;clear H;intro w H;dsimp only [List.set,setRow] at H;refine K5 _ _ ?_;clear K5;refine bF ?_;refine (dL H results46 (.cons (mE aC H rfl (H.hp.kr 1 rfl rfl)) (.cons (mE eP H rfl (H.hp.kr 0 rfl rfl)) .nil)) ?_).1;exact H.rt (by rw [Cr,ah qE];rfl)
 intro gB a H
 try have qE:=dF gB
 refine kP H (Kc K2 (SQ fun _ K6=>SR fun _ K7=>?_));clear H K2;intro a H;refine aW jl (cs:=[_,_,_,_,_,_,_,_,_,_,_]) H wn rfl rfl (H.hp.bT 3 rfl rfl) rfl ?_;clear H;intro a H;refine s_call Mh H wn rfl (O4 _ _ H.ro D l (hv.mono zl) hz) rfl ?_;clear H;rintro v16 sG a w ⟨bd,rfl,hit⟩ qw H;refine K7 _ _ ?_;clear K7;refine oG ?_;skip;refine vS (ι:=Unit) (κ:=Nat) (Lc:=[(_,_),(_,_)]) (fun (k:Nat) (gh:Unit)=>[(b4,.cells #[vi 0] 3 (0,0)),(b5,.cells #[vi 0] 41 (0,0))]) (fun (k:Nat) (gh:Unit)=>[]) (fun (k:Nat) (gh:Unit) (g:GH)=>((iq 0 0 l).take k).findIdx? (fun q=>q.1 == f && q.2 == t)=none) (fun (gx:Nat)=>Code.ret) (fun (gx:Nat)=>[(b4,.cells #[vi gx] 3 (0,0)),(b5,.cells #[vi 0] 41 (0,0))]) (fun (gx:Nat)=>[]) (fun (gx:Nat) (g:GH)=>(iq 0 0 l).findIdx? (fun q=>q.1 == f && q.2 == t)=some gx) (()) (by exact H.bU (Pl:=[_,_,_,_]) (bN:=[_,_,_,_]) [2,3,1,0] (by decide) rfl) rfl I6 (hit) (fun _ _ h=>h) rfl (fun k args g h=>by obtain ⟨_,rfl⟩:=Er h;rfl) (fun _ _ _ _ _ h=>h) (fun _ _ _ _ h=>h) (rfl) ?_ ?_ ?_
 ·clear H;intro l5 qG oF bk k args gh G5 w5 F5 B5 a hk5 Eh hI adu adX aek H;obtain ⟨hk,rfl⟩:=Er hk5;dsimp only [nT,List.cons_append,List.nil_append] at H;refine kP H (SR fun _ K8=>ak K8 rfl (SC ?_));clear H K8;intro a H;refine dx fM H wn rfl ?_;clear H;intro b8 a w uj H;refine aX fM 0 (vs:=[_,_]) _ H wn rfl rfl rfl rfl rfl rfl rfl rfl ?_;clear H;intro w H;dsimp only [List.set,setRow] at H;refine aH ?_;refine adu _ _ _ _ _ _ (by exact H.bU (Pl:=[_,_,_,_,_,_]) (bN:=[_,_,_,_,_,_]) [1,0,2,3,4,5] (by decide) rfl) ?_;clear H;intro w H;refine oG ?_;refine bK (fun _ K9=>?_);refine aW fM (cs:=[_,_]) H wn rfl rfl (H.hp.bT 1 rfl rfl) rfl ?_;clear H;intro a H;refine aW fM (cs:=[_,_]) H wn rfl rfl (H.hp.bT 2 rfl rfl) rfl ?_;clear H;intro a H;refine Pg MH H wn rfl rfl rfl rfl ?_;clear H;intro a H;refine K9 _ _ ?_;clear K9;refine mV H rfl ?_ ?_
  ·intro h21
   refine kP H (SR fun _ aQ=>Rm rfl ?_);clear H;intro a H;refine aX aC 4 (vs:=[_]) _ H wn rfl rfl rfl rfl rfl rfl rfl rfl ?_;clear H;intro w H;dsimp only [List.set,setRow] at H;refine aX eP 5 (vs:=[_]) _ H wn rfl rfl rfl rfl rfl rfl rfl rfl ?_;clear H;intro w H;dsimp only [List.set,setRow] at H;refine aQ _ _ ?_;clear aQ;refine bF ?_;refine (aek (k) _ _ _ _ _ (by exact H.bU (Pl:=[_,_,_,_,_,_]) (bN:=[_,_,_,_,_]) [0,2,3,4,5] (by decide) rfl) ?_).1 rfl;exact tC hk hI (by simpa [qd] using h21)
  intro h21
  refine fQ ?_;refine adX (()) _ _ _ _ _ (by exact H.bU (Pl:=[_,_,_,_,_,_]) (bN:=[_,_,_,_,_]) [0,2,3,4,5] (by decide) rfl) ?_;exact Bb hk hI (by simpa [qd] using h21)
 ·clear H;intro Xb gh Xu a w Eh hI H;dsimp only [lca,aV] at H;refine K6 _ _ ?_;clear K6;refine bK (fun _ bH=>?_);refine aX aC 3 (vs:=[_]) _ H wn rfl rfl rfl rfl rfl rfl rfl rfl ?_;clear H;intro w H;dsimp only [List.set,setRow] at H;refine aX eP 4 (vs:=[_]) _ H wn rfl rfl rfl rfl rfl rfl rfl rfl ?_;clear H;intro w H;dsimp only [List.set,setRow] at H;refine bH _ _ ?_;clear bH;refine bF ?_;refine (qy H 0 rfl ?_).1;clear H;intro a w H;dsimp only [List.eraseIdx_cons_succ,List.eraseIdx_cons_zero] at H;refine (dL H results46 (.cons (mE aC H rfl (H.hp.kr 2 rfl rfl)) (.cons (mE eP H rfl (H.hp.kr 3 rfl rfl)) .nil)) ?_).1;exact H.rt (by rw [Cr,au (by omega),aez (by simpa using hI)];rfl)
 clear H;intro Xb gx Xu a w Eh hI H;obtain ⟨x,hgh⟩:∃ x,x=gx:=⟨_,rfl⟩;subst hgh;dsimp only [lca,aV] at H;refine bF ?_;refine (qy H 0 rfl ?_).1;clear H;intro a w H;dsimp only [List.eraseIdx_cons_succ,List.eraseIdx_cons_zero] at H;refine (dL H results46 (.cons (mE aC H rfl (H.hp.kr 2 rfl rfl)) (.cons (mE eP H rfl (H.hp.kr 3 rfl rfl)) .nil)) ?_).1;exact H.rt (by rw [Cr,au (by omega),hI];rfl)
def Bf (l:List aB) (i:Int):(Int × Int) × Int :=
 if 0≤i then match (iq 0 0 l)[i.toNat]? with|some p=>(p,0)|none=>((0,0),2) else ((0,0),2)
theorem afm (G:GH) (w0:World) (hG:Hold G w0) (D:jQ) (l:List aB) (i:Int) (hv:av G (.sl 11 (l.map aB.dat)) (fJ D.f)) (hz:bG l≤4294967296) :
  Calls prog 47 #[D.val,vi i] w0 (aZ w0 G fun u G'=>u=.tuple #[.agg #[vi (Bf l i).1.1,vi (Bf l i).1.2],vi (Bf l i).2]):=by
 refine eN [(0,_),(1,_)] func47 rfl ntmps47 rfl rfl hG ?_;intro a H;refine bK (fun _ K1=>?_);refine dz (cs:=[_,_,_,_,_,_,_,_,_,_,_]) H wn rfl rfl rfl ?_;clear H;intro b2 a w hb2 H;refine dz (cs:=[_]) H wn rfl rfl rfl ?_;clear H;intro b3 a w hb3 H;refine dx fM H wn rfl ?_;clear H;intro b4 a w hb4 H;refine dx eP H wn rfl ?_;clear H;intro b5 a w hb5 H;refine K1 _ _ ?_;clear K1;refine bg (fun _ K2=>?_);refine bK (fun _ K3=>?_);refine aW jl (cs:=[_,_,_,_,_,_,_,_,_,_,_]) H wn rfl rfl (H.hp.bT 3 rfl rfl) rfl ?_;clear H;intro a H;refine s_call Mh H wn rfl (O4 _ _ H.ro D l hv hz) rfl ?_;clear H;rintro v9 G9 a w ⟨bd,rfl,hit⟩ AU H;refine K3 _ _ ?_;clear K3;refine oG ?_;skip;refine vS (ι:=Unit) (κ:=Int × Int) (Lc:=[(_,_),(_,_)]) (fun (k:Nat) (gh:Unit)=>[(b4,.cells #[vi 0,vi 0] 64 (0,0)),(b5,.cells #[vi 0] 41 (0,0))]) (fun (k:Nat) (gh:Unit)=>[]) (fun (k:Nat) (gh:Unit) (g:GH)=>∀ j < k,(j:Int)≠i) (fun (gx:Int × Int)=>Code.ret) (fun (gx:Int × Int)=>[(b4,.cells #[vi gx.1,vi gx.2] 64 (0,0)),(b5,.cells #[vi 0] 41 (0,0))]) (fun (gx:Int × Int)=>[]) (fun (gx:Int × Int) (g:GH)=>0≤i∧(iq 0 0 l)[i.toNat]?=some gx) (()) (by exact H.bU (Pl:=[_,_,_,_]) (bN:=[_,_,_,_]) [2,3,1,0] (by decide) rfl) rfl I6 (hit) (fun _ _ h=>h) rfl (fun k args g h=>by obtain ⟨_,rfl⟩:=Er h;rfl) (fun _ _ _ _ _ h=>h) (fun _ _ _ _ h=>h) (fun j hj=>absurd hj (by omega)) ?_ ?_ ?_
 ·clear H;intro l2 qG oF bk k args gh G2 w2 F2 B2 a hk2 hm2 hI GA GR El H;obtain ⟨hk,rfl⟩:=Er hk2;dsimp only [nT,List.cons_append,List.nil_append] at H;refine kP H (SR fun _ K4=>ak K4 rfl (SC ?_));clear H K4;intro a H;refine dx fM H wn rfl ?_;clear H;intro b7 a w rW H;refine aX fM 0 (vs:=[_,_]) _ H wn rfl rfl rfl rfl rfl rfl rfl rfl ?_;clear H;intro w H;dsimp only [List.set,setRow] at H;refine aH ?_;refine GA _ _ _ _ _ _ (by exact H.bU (Pl:=[_,_,_,_,_,_]) (bN:=[_,_,_,_,_,_]) [1,0,2,3,4,5] (by decide) rfl) ?_;clear H;intro w H;refine kP H (SB (SR fun _ K5=>Rm rfl (Ro aC 2 rfl (Rc rfl (Kz K5 (Cd rfl ?_ ?_)))))) <;> clear H K5
  ·intro dX a H
   try have kJ:=dT dX
   refine bK (fun _ K6=>?_);refine aW fM (cs:=[_,_]) H wn rfl rfl (H.hp.bT 1 rfl rfl) rfl ?_;clear H;intro a H;refine aX fM 4 (vs:=[_,_]) _ H wn rfl rfl rfl rfl rfl rfl rfl rfl ?_;clear H;intro w H;dsimp only [List.set,setRow] at H;refine aX eP 5 (vs:=[_]) _ H wn rfl rfl rfl rfl rfl rfl rfl rfl ?_;clear H;intro w H;dsimp only [List.set,setRow] at H;refine K6 _ _ ?_;clear K6;refine bF ?_;refine (El ((iq 0 0 l)[k]) _ _ _ _ _ (by exact H.bU (Pl:=[_,_,_,_,_,_]) (bN:=[_,_,_,_,_]) [0,2,3,4,5] (by decide) rfl) ?_).1 rfl;exact ⟨by omega,by rw [show i.toNat=k by omega];exact gy hk⟩
  intro dX a H
  try have kJ:=dF dX
  refine fQ ?_;refine GR (()) _ _ _ _ _ (by exact H.bU (Pl:=[_,_,_,_,_,_]) (bN:=[_,_,_,_,_]) [0,2,3,4,5] (by decide) rfl) ?_;intro j hj
  by_cases e:j=k
  ·rw [e];exact kJ
  exact hI j (by omega)
 ·clear H;intro Fb gh Fp a w hm2 hI H;dsimp only [lca,aV] at H;refine K2 _ _ ?_;clear K2;refine bK (fun _ K7=>?_);refine jw zI [_,_] H wn rfl rfl rfl rfl ?_;clear H;intro a H;refine aX fM 3 (vs:=[_,_]) _ H wn rfl rfl rfl rfl rfl rfl rfl rfl ?_;clear H;intro w H;dsimp only [List.set,setRow] at H;refine aX eP 4 (vs:=[_]) _ H wn rfl rfl rfl rfl rfl rfl rfl rfl ?_;clear H;intro w H;dsimp only [List.set,setRow] at H;refine K7 _ _ ?_;clear K7;refine bF ?_;refine (qy H 0 rfl ?_).1;clear H;intro a w H;dsimp only [List.eraseIdx_cons_succ,List.eraseIdx_cons_zero] at H;refine (dL H results47 (.cons (wM fM (cs:=[_,_]) H rfl rfl (H.hp.bT 2 rfl rfl)) (.cons (mE eP H rfl (H.hp.kr 3 rfl rfl)) .nil)) ?_).1
  have h2:Bf l i=((0,0),2):=by
   unfold Bf;split
   ·rename_i h0
    have h1:(iq 0 0 l)[i.toNat]?=none:=by
     rw [List.getElem?_eq_none_iff];exact Nat.le_of_not_lt fun hn=>hI i.toNat (by simpa using hn) (by omega)
    rw [h1]
   rfl
  exact H.rt (by rw [h2];rfl)
 clear H;intro Fb gx Fp a w hm2 hI H;obtain ⟨x,hgh⟩:∃ x,x=gx:=⟨_,rfl⟩;subst hgh;dsimp only [lca,aV] at H;refine bF ?_;refine (qy H 0 rfl ?_).1;clear H;intro a w H;dsimp only [List.eraseIdx_cons_succ,List.eraseIdx_cons_zero] at H;refine (dL H results47 (.cons (wM fM (cs:=[_,_]) H rfl rfl (H.hp.bT 2 rfl rfl)) (.cons (mE eP H rfl (H.hp.kr 3 rfl rfl)) .nil)) ?_).1;exact H.rt (by rw [Bf,au hI.1,hI.2];rfl)
end
section
open Go.RowKit
theorem EI:Dm prog 124:=⟨by kernel_rfl⟩
theorem u8B:U8 prog 5:=⟨by kernel_rfl⟩
theorem aeV:liesAt prog prog.depth 124 (2 / prog.cellsOf 124) 0 124 1=true:=by kernel_rfl
theorem Rb:prog.cellsOf 5=1:=by kernel_rfl
theorem UK (v:aj) (w:World):(callFunc 156 #[v]).run prog w=.ok (.value v) w:=agf func156 (by kernel_rfl) (by kernel_rfl) (by kernel_rfl) (by kernel_rfl) v w
theorem yg:prog.underlying 121=some (.pointer 124):=by kernel_rfl
theorem KG:prog.underlying 245=some .unsafePointer:=by kernel_rfl
theorem yN:bV prog 124 0 0:=⟨by kernel_rfl⟩
theorem zM:Ty prog 121 1 8 [.pointer none] false:=⟨by kernel_rfl,by kernel_rfl⟩
theorem RU:∀ args w,(callFunc 115 args).run prog w=.ok (.enter 115 args) w:=enters func115 rfl (by kernel_rfl)
theorem tN:prog.underlying 122=some (.slice 5):=by kernel_rfl
theorem uZ:bV prog 124 1 1:=⟨by kernel_rfl⟩
theorem vH:Ty prog 122 1 24 [.slice none 0 0] false:=⟨by kernel_rfl,by kernel_rfl⟩
theorem PL:prog.underlying 205=some (.pointer 5):=by kernel_rfl
abbrev bB (b:Nat) (p v:aj):Nat × Obj:=(b,.cells #[p,v] 124 (0,0))
theorem Zj (G:GH) (L:OL) (w0:World) (b:Nat) (A:Option Addr) (n c:Nat) (hO:gI G (bB b (.pointer none) (.slice A n c) :: L) w0) :
  Calls prog 115 #[(aJ b 0)] w0 (fT w0 G (bB b (.pointer none) (.slice A n c) :: L) fun u G' L'=>L'=bB b (aJ b 0) (.slice A n c) :: L∧G'=G):=by
 refine jh (N:=20) (T:=[(0,_)]) func115 rfl ntmps115 rfl rfl hO ?_;intro a H;refine kP H (SR fun _ K1=>Rm rfl (Rk rfl (aO yN zM 0 rfl rfl ?_)));clear H;intro a H;refine Ki yg H wn rfl rfl ?_;clear H;intro a H;refine K1 _ _ ?_;clear K1;refine mV H rfl ?_ ?_
 ·intro h6
  refine kP H (SC (Rm rfl (Rm rfl ?_)));clear H;intro a H;refine Vz yg KG EI H wn rfl 0 rfl rfl rfl ?_;clear H;intro a H;refine Vs (xs:=[.tmp 9]) (UK _) H wn rfl rfl ?_;clear H;intro a H;refine Vo KG yg EI H wn rfl 0 rfl aeV rfl ?_;clear H;intro a H;refine kH H (Rk rfl (Rf yN rfl ?_));clear H;intro a H;refine aX zM 0 (vs:=[_]) _ H wn rfl rfl rfl rfl rfl rfl rfl rfl ?_;clear H;intro w H;dsimp only [List.set,setRow] at H;refine aH ?_;refine (leave0 H results115 ?_).2;exact H.hp.eU ⟨rfl,rfl⟩
 intro h6
 exact absurd h6 (by decide)
theorem Zk (G:GH) (L:OL) (w0:World) (b:Nat) (A:Option Addr) (n c:Nat) (hO:gI G (bB b (aJ b 0) (.slice A n c) :: L) w0) :
  Calls prog 115 #[(aJ b 0)] w0 (fT w0 G (bB b (aJ b 0) (.slice A n c) :: L) fun u G' L'=>L'=bB b (aJ b 0) (.slice A n c) :: L∧G'=G):=by
 refine jh (N:=20) (T:=[(0,_)]) func115 rfl ntmps115 rfl rfl hO ?_;intro a H;refine kP H (SR fun _ K1=>Rm rfl (Rk rfl (aO yN zM 0 rfl rfl ?_)));clear H;intro a H;refine Ki yg H wn rfl rfl ?_;clear H;intro a H;refine K1 _ _ ?_;clear K1;refine mV H rfl ?_ ?_
 ·intro h6
  exact absurd h6 (by simp)
 intro h6
 refine kP H (SR fun _ K2=>Rm rfl (Rk rfl (aO yN zM 0 rfl rfl (Rm rfl ?_))));clear H;intro a H;refine Vr yg EI H wn rfl rfl rfl ?_;clear H;intro a H;refine K2 _ _ ?_;clear K2;refine mV H rfl ?_ ?_
 ·intro h19
  exact absurd h19 (by decide)
 intro h19
 refine fQ ?_;refine (leave0 H results115 ?_).2;exact H.hp.eU ⟨rfl,rfl⟩
theorem Zl (G:GH) (L:OL) (w0:World) (b:Nat) (p:aj) (A:Option Addr) (n c:Nat) (hp:p=.pointer none∨p=(aJ b 0)) (hO:gI G (bB b p (.slice A n c) :: L) w0) :
  Calls prog 115 #[(aJ b 0)] w0 (fT w0 G (bB b p (.slice A n c) :: L) fun u G' L'=>L'=bB b (aJ b 0) (.slice A n c) :: L∧G'=G):=by
 rcases hp with rfl|rfl
 ·exact Zj G L w0 b A n c hO
 exact Zk G L w0 b A n c hO
theorem WE (G:GH) (Lo:OL) (w0:World) (b:Nat) (p v:aj) (n:Nat) (xs:List aj) (s:ByteArray) (hp:p=.pointer none∨p=(aJ b 0)) (hO:gI G (bB b p v :: Lo) w0) (hrow:eF 5 1 v n xs Lo) (hn:n+s.size≤140737488355328) :
  Calls prog 57 #[(aJ b 0),.string s] w0 (fT w0 G (bB b p v :: Lo) fun u G' L'=>∃ v' gP,L'=bB b (aJ b 0) v' :: gP∧eF 5 1 v' (n+s.size) (xs++Lib.strCells s) gP∧G'=G):=by
 obtain ⟨A,c,rfl,-,-⟩:=hrow.shape;refine jh (N:=19) (T:=[(0,_),(1,_)]) func57 rfl ntmps57 rfl rfl hO ?_;intro a H;refine kP H (SR fun _ K1=>Ra rfl (ak K1 rfl (SR fun _ K2=>Rm rfl ?_)));clear H K1;intro a H;refine gT RU (Li:=[]) (L:=bB b p _ :: Lo) H wn rfl (Zl _ _ _ b p A n c hp (Hp.owns (Li:=[]) H.hp)) rfl ?_;clear H;rintro v7 _ L7 a w ⟨rfl,rfl⟩ xO H;dsimp only [List.nil_append] at H;refine K2 _ _ ?_;clear K2;refine kP H (SR fun _ K3=>Rm rfl (Rm rfl (Rk rfl (aO uZ vH 0 rfl rfl (Rm rfl ?_)))));clear H;intro a H;refine agn (Li:=[_]) (Lo:=Lo) tN fC u8B H wn rfl rfl hrow hn rfl ?_;clear H;intro v14 QG a w GZ H;obtain ⟨PX,c14,rfl,-,-⟩:=GZ.shape;refine kH H (Rk rfl (Rf uZ rfl ?_));clear H;intro a H;refine aX vH 0 (vs:=[_]) _ H wn rfl rfl rfl rfl rfl rfl rfl rfl ?_;clear H;intro w H;dsimp only [List.set,setRow] at H;refine K3 _ _ ?_;clear K3;refine kP H (SR fun _ K4=>Rm rfl (Rv fC rfl (Ra rfl (ak K4 rfl ?_))));clear H K4;intro a H;refine bF ?_;refine (dL H results57 (.cons (aN H rfl) (.cons (aN H rfl) .nil)) ?_).1;exact H.hp.eU ⟨_,_,rfl,GZ,rfl⟩
theorem ahq (G:GH) (Lo:OL) (w0:World) (b:Nat) (p v:aj) (l:List UInt8) (hO:gI G (bB b p v :: Lo) w0) (hrow:eF 5 1 v l.length (Lib.byteCells l) Lo) (h0:l≠[]) :
  Calls prog 59 #[(aJ b 0)] w0 (fT w0 G (bB b p v :: Lo) fun u G' L'=>u=.string ⟨l.toArray⟩):=by
 rcases hrow.2 with ⟨-,h,-⟩|⟨b2,cap,cur,rfl,rfl,hc1,hc2,hc3,hc4⟩
 ·exact absurd (List.eq_nil_of_length_eq_zero h) h0
 have hl0:l.length≠0:=fun h=>h0 (List.eq_nil_of_length_eq_zero h);have hml:maxLen=9223372036854775807:=rfl;refine jh (N:=14) (T:=[(0,_)]) func59 rfl ntmps59 rfl rfl hO ?_;intro a H;refine kP H (SR fun _ K1=>ak K1 rfl (SQ fun _ K2=>?_));clear H K1;intro a H;have H:=H.sub (T':=[(0,_)]) ⟨rfl,aD⟩;refine dI hmx [[],[0],[0,1],[0,1,2],(ra 0 4),[],[5],[5,6],[5,6,7],(ra 5 4),(ra 0 10),(ra 0 11)] [10,11] (by kernel_rfl) [_,_,_,.slice (some ⟨b2,0,none⟩) l.length cap,(aJ b2 0),_,_,_,.slice (some ⟨b2,0,none⟩) l.length cap,_] H (aF (Z0 rfl (Rm rfl)) (Z1 0 3 rfl (Rk rfl)) (Z1 1 4 rfl (Rf uZ rfl)) (Z1 2 5 rfl (Ro vH 0 rfl)) (aF ?_ (Z0 rfl (Rm rfl)) (Z1 5 8 rfl (Rk rfl)) (Z1 6 9 rfl (Rf uZ rfl)) (aF (Z1 7 10 rfl (Ro vH 0 rfl)) (Z1 8 11 rfl (Rl tN rfl)) (bJ rfl) (bJ rfl) dP))) ?_
 ·refine eH 3 6 rfl rfl fun _ a w G1 hG HT H fin=>?_;refine Vw H wn rfl (by omega) rfl ?_;clear H;intro a H;exact fin H iJ rfl
 clear H;intro a w G lU H hv;have H:=H.aT (hv 4 7 rfl rfl) rfl;have H:=H.aT (hv 9 12 rfl rfl) rfl;clear hv;refine Pm (i:=1) l PL Rb h0 (by omega) H wn rfl rfl rfl (by rw [← hc4,Nat.mul_one]) rfl ?_;clear H;intro fz a w H;dsimp only [List.set] at H;refine kH H (Ra rfl ?_);clear H;intro a H;refine aH ⟨rfl,?_⟩;refine K2 _ _ ?_;clear K2;refine lr H results59 rfl ?_;exact H.hp.eU rfl
end
section
open Go.RowKit
def wG (p:Nat→Bool):Nat→Nat→Nat→Nat
 | 0,i,_=>i
 | f+1,i,j=>if i < j then (if p ((i+j) / 2) then wG p f i ((i+j) / 2) else wG p f ((i+j) / 2+1) j) else i
theorem aew {p:Nat→Bool} {f i j:Nat} (hf:j - i≤f) (h:i < j):wG p f i j=if p ((i+j) / 2) then wG p (f - 1) i ((i+j) / 2) else wG p (f - 1) ((i+j) / 2+1) j:=by
 match f,hf with
 | 0,hf=>omega
 | f+1,_=>rw [wG,au h];rfl
theorem aeu {p:Nat→Bool} {f i j:Nat} (h:¬ i < j):wG p f i j=i:=by
 match f with
 | 0=>rfl
 | f+1=>rw [wG,ah h]
theorem aex {z:Int} (h1:0≤z) (h2:z < 18446744073709551616):IntKind.u64.wrap z=z:=by
 simp only [IntKind.wrap,IntKind.bits,IntKind.signed,tV,Dr,if_false]
 omega
theorem aev (n:Nat):((n:Nat):Int).fdiv (2 ^ 1)=((n / 2:Nat):Int):=by
 rw [Int.fdiv_eq_ediv_of_nonneg _ (by decide)];omega
def yK (a b:Int):Int:=if a < b then -1 else if b < a then 1 else 0
theorem Rx {a b:Int}:yK a b < 0↔a < b:=by
 unfold yK
 split
 ·simp [*]
 ·split <;> simp_all
theorem Y8 {a b:Int}:yK a b=0↔a=b:=by
 unfold yK
 split
 ·omega
 ·split <;> omega
def xw (ks:List Int) (t:Int):Nat:=wG (fun h=>decide (¬ ks.getD h 0 < t)) ks.length 0 ks.length
def AA (ks:List Int) (t:Int):Bool:=decide (ks[xw ks t]?=some t)
theorem ada {ks:List Int} {t:Int} (h:AA ks t=true):xw ks t < ks.length:=by
 have:=rF h
 exact (jr.1 this).1
theorem acZ {ks:List Int} {t:Int} {n:Nat} (e:xw ks t=n) (h:n < ks.length):AA ks t=decide (yK ks[n] t=0):=by
 unfold AA
 rw [e,gy h]
 simp [Y8]
theorem adb {ks:List Int} {t:Int} {n:Nat} (e:xw ks t=n) (h:¬ n < ks.length):AA ks t=false:=by
 unfold AA
 rw [e,List.getElem?_eq_none (by omega)]
 simp
theorem getD_map {α:Type} {f:α→Int} {l:List α} {n:Nat} (h:n < l.length):(l.map f).getD n 0=f l[n]:=by
 simp [List.getD,h]
end
section
open Go.RowKit
structure QJ (P:Program) (s n off:Nat):Prop where
 h:(match P.underlying s with|some (.struct fs)=>(fs[n]?).bind fun f=>((P.underlying f.type).map (fun|.struct _=>true|.array _ _=>true|_=>false)).map fun g=>(f.offset,g)|_=>none)=some (off,false)
theorem QJ.parts {P:Program} {s n off:Nat} (h:QJ P s n off):∃ fs fl u,P.underlying s=some (.struct fs)∧fs[n]?=some fl∧P.underlying fl.type=some u∧(match u with|.struct _=>true|.array _ _=>true|_=>false)=false∧fl.offset=off:=by
 obtain ⟨h⟩:=h
 split at h
 ·rename_i fs hs
  obtain ⟨fl,hf,h2⟩:=Option.bind_eq_some_iff.1 h
  obtain ⟨b,hb,h3⟩:=kS.1 h2
  obtain ⟨u,hu,h4⟩:=kS.1 hb
  simp only [gF] at h3
  refine ⟨fs,fl,u,hs,hf,hu,?_,h3.1⟩
  rw [← h3.2,← h4]
  cases u <;> rfl
 ·cases h
def oh (s:ByteArray):Nat→Nat→List (Nat × Nat)
 | 0,_=>[]
 | f+1,p=>if p < s.size then (p,(Utf8.decode s p).1) :: oh s f (p+(Utf8.decode s p).2) else []
def kN (s:ByteArray):List (Nat × Nat):=oh s s.size 0
theorem Vb (s:ByteArray):∀ f p,(oh s f p).length≤f
 | 0,_=>by simp [oh]
 | f+1,p=>by
  rw [oh];split
  ·rw [lX];have:=Vb s f (p+(Utf8.decode s p).2);omega
  ·simp
theorem Vm (s:ByteArray):∀ f p acc,Conv.runesFrom s f p acc=acc++((oh s f p).map fun x=>Value.int .i32 (x.2:Int)).toArray
 | 0,p,acc=>by simp [Conv.runesFrom,oh]
 | f+1,p,acc=>by
  rw [Conv.runesFrom,oh]
  split
  ·show Conv.runesFrom s f (p+(Utf8.decode s p).2) (acc.push (.int .i32 (Int.ofNat (Utf8.decode s p).1)))=_
   rw [Vm s f];simp
  ·simp
section
variable {N:Nat} {D:List Deferred} {w0:World} {F:Nat→Prop} {G0 G:GH} {L Li Lo:OL} {T:List (Nat × aj)}
variable {r:Option Nat} {P:Program} {ops:Array Oper} {Q:Exit→Act→World→Prop} {rest:List Oper} {a:Act} {w:World}
variable {d:Nat} {ty:TypeId} {pos:String} {aK:Array Edge} {g:Option (Nat × Bool)}
theorem agz {t u e:TypeId} {x:Operand} {s:ByteArray} (ht:P.underlying t=some .string) (hu:P.underlying u=some (.slice e)) (he:P.underlying e=some (.int .i32)) (H:St N D w0 F G0 G L T a w) (hw:Region.wanted ⟨some d,.convert t u x,ty,pos,aK,g⟩ (yielded ops a.tmps)=true) (hx:ev T x=some (.string s)) (hz:s.size≤4294967296) (hd:Nat.blt d N=true)
  (k:∀ v Lo a' w',eF e 1 v (kN s).length ((kN s).map fun x=>Value.int .i32 (x.2:Int)) Lo→St N D w0 F G0 G (Lo++L) ((d,v) :: T) a' w'→WL r P ops Q rest a' w'):WL r P ops Q (⟨some d,.convert t u x,ty,pos,aK,g⟩ :: rest) a w:=by
 have hr:=Vm s s.size 0 #[]
 have hl:=Vb s s.size 0
 have hsz:(Conv.runesFrom s s.size 0 #[]).size=(kN s).length:=by rw [hr];simp [kN]
 have hc:=run_runes_of_string (P:=P) w t u e s ht hu he (by rw [hsz];unfold kN;omega)
 have hge:=grownCap_ge w (kN s).length 0 e
 have hml:(kN s).length≤maxLen:=by
  have:maxLen=9223372036854775807:=rfl
  unfold kN;omega
 rw [hsz] at hc
 have hrow:eF e 1 (.slice (some ⟨w.heap.size,0,none⟩) (kN s).length (grownCap w (kN s).length 0 e)) (kN s).length ((kN s).map fun x=>Value.int .i32 (x.2:Int)) [(w.heap.size,.cells (Conv.runesFrom s s.size 0 #[]++Array.replicate (grownCap w (kN s).length 0 e - (kN s).length) (.int .i32 0)) e (0,0))]:=by
  refine ⟨by simp,.inr ⟨_,_,_,rfl,rfl,hge,grownCap_le_maxLen w _ 0 e hml,?_,?_⟩⟩
  ·simp only [Array.size_append,hsz,Array.size_replicate];omega
  ·rw [hr,Array.toList_append,Nat.mul_one]
   simp only [Array.empty_append,kN]
   rw [List.take_left' (by simp)]
 have k2:=k _ _ _ _ hrow (H.put hd _ (H.hp.drew.alloc _))
 refine eY (v:=.slice (some ⟨w.heap.size,0,none⟩) (kN s).length (grownCap w (kN s).length 0 e)) (w':=w.drew.alloc _) hw rfl ?_ k2
 simp only [execOp,H.ev hx,cO,hc,kE,mO]
theorem agx {t u e:TypeId} {x:Operand} {b o n c:Nat} (zs:List Int) (ht:P.underlying t=some (.slice e)) (he:P.underlying e=some (.int .i32)) (hu:P.underlying u=some .string) (H:St N D w0 F G0 G L T a w) (hw:Region.wanted ⟨some d,.convert t u x,ty,pos,aK,g⟩ (yielded ops a.tmps)=true) (hx:ev T x=some (.slice (some ⟨b,o,none⟩) n c)) (hn:zs.length=n)
  (hc:∀ j (h:j < zs.length),w.cell? ⟨b,o+j,none⟩=some (.int .i32 zs[j])) (hd:Nat.blt d N=true)
  (k:∀ a',St N D w0 F G0 G L ((d,.string (runesBytes zs)) :: T) a' w→WL r P ops Q rest a' w):WL r P ops Q (⟨some d,.convert t u x,ty,pos,aK,g⟩ :: rest) a w:=by
 have hr:=run_convert_runes (P:=P) w t u e ⟨b,o,none⟩ n c zs (by omega) ht he hu (fun j hj=>by
  have h:=hc j hj
  rw [List.getD_eq_getElem?_getD,gy hj,add_lit]
  exact h)
 rw [jU (by omega)] at hr
 refine eY (v:=.string (runesBytes zs)) (w':=w) hw rfl ?_ (k _ (H.put hd _ H.hp))
 simp only [execOp,H.ev hx,cO,hr,kE,mO]
theorem agE {t:TypeId} {x y z:Operand} {s:ByteArray} {ky kz:IntKind} {p q:Int} (lo hi:Nat) (ht:P.underlying t=some .string) (H:St N D w0 F G0 G L T a w) (hw:Region.wanted ⟨some d,.slice t x (some y) (some z) none,ty,pos,aK,g⟩ (yielded ops a.tmps)=true) (hx:ev T x=some (.string s)) (hy:ev T y=some (.int ky p)) (hz:ev T z=some (.int kz q)) (hp:p=(lo:Int)) (hq:q=(hi:Int)) (h1:lo≤hi) (h2:hi≤s.size) (hd:Nat.blt d N=true)
  (k:∀ a',St N D w0 F G0 G L ((d,.string (s.extract lo hi)) :: T) a' w→WL r P ops Q rest a' w):WL r P ops Q (⟨some d,.slice t x (some y) (some z) none,ty,pos,aK,g⟩ :: rest) a w:=by
 subst hp;subst hq
 have hr:=run_slice_string (P:=P) w t s ky kz (lo:Int) (hi:Int) ht (by omega) (by omega) (by omega)
 rw [Int.toNat_natCast,Int.toNat_natCast] at hr
 refine eY (v:=.string (s.extract lo hi)) (w':=w) hw rfl ?_ (k _ (H.put hd _ H.hp))
 simp only [execOp,H.ev hx,Option.map_some,Option.map_none,H.ev hy,H.ev hz,cO,run_sliceAt_string w t _ _ _ _ ht,hr,kE,mO]
theorem Pk {t:TypeId} {x y:Operand} {s:ByteArray} {ky:IntKind} {p:Int} (lo:Nat) (ht:P.underlying t=some .string) (H:St N D w0 F G0 G L T a w) (hw:Region.wanted ⟨some d,.slice t x (some y) none none,ty,pos,aK,g⟩ (yielded ops a.tmps)=true) (hx:ev T x=some (.string s)) (hy:ev T y=some (.int ky p)) (hp:p=(lo:Int)) (h1:lo≤s.size) (hd:Nat.blt d N=true)
  (k:∀ a',St N D w0 F G0 G L ((d,.string (s.extract lo s.size)) :: T) a' w→WL r P ops Q rest a' w):WL r P ops Q (⟨some d,.slice t x (some y) none none,ty,pos,aK,g⟩ :: rest) a w:=by
 subst hp
 have hr:=run_slice_string_l (P:=P) w t s ht ky (lo:Int) (by omega) (by omega)
 rw [Int.toNat_natCast] at hr
 refine eY (v:=.string (s.extract lo s.size)) (w':=w) hw rfl ?_ (k _ (H.put hd _ H.hp))
 simp only [execOp,H.ev hx,Option.map_some,Option.map_none,H.ev hy,cO,run_sliceAt_string w t _ _ _ _ ht,hr,kE,mO]
end
end
section
open Go.RowKit
theorem H6:prog.underlying 260=some (.slice 229):=by kernel_rfl
theorem ru:Ty prog 229 6 56 [.int .i64 0,.int .i64 0,.int .i64 0,.int .i64 0,.int .i64 0,.string ⟨#[]⟩] true:=⟨by kernel_rfl,by kernel_rfl⟩
theorem VG:qO prog 229 [(0,1),(1,1),(2,1),(3,1),(4,1),(5,1)] [.int .i64 0,.int .i64 0,.int .i64 0,.int .i64 0,.int .i64 0,.string ⟨#[]⟩]:=⟨by kernel_rfl,by kernel_rfl⟩
theorem R7:∀ args w,(callFunc 193 args).run prog w=.ok (.enter 193 args) w:=enters func193 rfl (by kernel_rfl)
structure iX where
 num:Int
 xI:Int
 low:Int
 high:Int
 std:Int
 name:ByteArray
def iX.dat (x:iX):List Dat:=[li x.num,li x.xI,li x.low,li x.high,li x.std,.lf (.string x.name)]
def iX.cells (x:iX):List aj:=[vi x.num,vi x.xI,vi x.low,vi x.high,vi x.std,.string x.name]
def jq.cells (x:jq):List aj:=[vi x.key,vi x.value]
theorem aeM (G:GH) (x:iX):aS G x.dat x.cells:=by
 simp only [iX.dat,iX.cells,aS]
 exact ⟨_,_,rfl,by simp [av,Value.oneCell'],_,_,rfl,by simp [av,Value.oneCell'],_,_,rfl,by simp [av,Value.oneCell'],_,_,rfl,by simp [av,Value.oneCell'],_,_,rfl,by simp [av,Value.oneCell'],_,_,rfl,by simp [av,Value.oneCell'],rfl⟩
theorem aeL {G:GH} {x:iX} {cs:List aj} (h:aS G x.dat cs):cs=x.cells:=by
 simp only [iX.dat,aS,av] at h
 obtain ⟨v1,_,rfl,⟨rfl,-⟩,v2,_,rfl,⟨rfl,-⟩,v3,_,rfl,⟨rfl,-⟩,v4,_,rfl,⟨rfl,-⟩,v5,_,rfl,⟨rfl,-⟩,v6,_,rfl,⟨rfl,-⟩,rfl⟩:=h
 rfl
theorem afL {G:GH} {x:jq} {cs:List aj} (h:aS G x.dat cs):cs=x.cells:=by
 simp only [jq.dat,aS,av] at h
 obtain ⟨v1,_,rfl,⟨rfl,-⟩,v2,_,rfl,⟨rfl,-⟩,rfl⟩:=h
 rfl
theorem Un (G:GH):∀ (B A:List iX),gJ G 6 (A.map iX.dat) (A.map iX.cells).flatten→gJ G 6 ((A++B).map iX.dat) ((A++B).map iX.cells).flatten
 | [],A,h=>by rw [vN];exact h
 | x :: B,A,h=>by
  have h2:=h.snoc (aeM G x) rfl;have h3:=Un G B (A++[x]) (by simpa using h2)
  simpa using h3
theorem aeN (G:GH) (A:List iX):gJ G 6 (A.map iX.dat) (A.map iX.cells).flatten:=Un G A [] gJ.nil
theorem OD {G:GH} {l:List iX} {A:Option Addr} {n c k:Nat} (hv:av G (.sl 6 (l.map iX.dat)) (.slice A n c)) (hk:k < l.length):∃ b o,A=some ⟨b,o,none⟩∧(∀ j u,[vi l[k].num,vi l[k].xI,vi l[k].low,vi l[k].high,vi l[k].std,.string l[k].name][j]?=some u→aI G b (o+k*6+j)=some u):=by
 obtain ⟨A',c',he,_,_,hg⟩:=hv.slice
 injection he with e1 e2 e3
 subst e1;obtain ⟨b,o,cs,h1,h2,h3,h4⟩:=hg k l[k].dat (by simp [hk]);obtain rfl:=aeL h4;exact ⟨b,o,h1,h3⟩
theorem J6 {G:GH} {l:List jq} {A:Option Addr} {n c k:Nat} (hv:av G (.sl 2 (l.map jq.dat)) (.slice A n c)) (hk:k < l.length):∃ b o,A=some ⟨b,o,none⟩∧(∀ j u,[vi l[k].key,vi l[k].value][j]?=some u→aI G b (o+k*2+j)=some u):=by
 obtain ⟨A',c',he,_,_,hg⟩:=hv.slice
 injection he with e1 e2 e3
 subst e1;obtain ⟨b,o,cs,h1,h2,h3,h4⟩:=hg k l[k].dat (by simp [hk]);obtain rfl:=afL h4;exact ⟨b,o,h1,h3⟩
def Cv:List iX:=[⟨1,1,0,1073741824,0,⟨#[99,104,97,114,97,99,116,101,114,45,115,116,121,108,101]⟩⟩,⟨2,1,0,1,0,⟨#[98,111,108,100]⟩⟩,⟨3,1,0,1,0,⟨#[105,116,97,108,105,99]⟩⟩,⟨4,1,0,3,0,⟨#[117,110,100,101,114,108,105,110,101]⟩⟩,⟨5,1,2,1638,22,⟨#[115,105,122,101]⟩⟩,⟨6,1,0,16777215,0,⟨#[99,111,108,111,114]⟩⟩,⟨7,1,0,63,0,⟨#[102,111,110,116]⟩⟩,⟨8,1,0,255,0,⟨#[108,97,110,103,117,97,103,101]⟩⟩,⟨9,1,-400,400,0,⟨#[114,97,105,115,101]⟩⟩,⟨10,1,0,1,0,⟨#[104,105,100,100,101,110]⟩⟩,⟨20,2,0,1073741824,0,⟨#[112,97,114,97,103,114,97,112,104,45,115,116,121,108,101]⟩⟩,⟨21,2,0,3,0,⟨#[97,108,105,103,110]⟩⟩,⟨22,2,-31680,31680,0,⟨#[108,101,102,116]⟩⟩,⟨23,2,-31680,31680,0,⟨#[114,105,103,104,116]⟩⟩,⟨24,2,-31680,31680,0,⟨#[102,105,114,115,116]⟩⟩,⟨25,2,0,31680,0,⟨#[98,101,102,111,114,101]⟩⟩,⟨26,2,0,31680,0,⟨#[97,102,116,101,114]⟩⟩,⟨27,2,0,31680,0,⟨#[108,101,97,100,105,110,103]⟩⟩,⟨28,2,0,1,0,⟨#[107,101,101,112,45,110,101,120,116]⟩⟩,⟨29,2,0,1,0,⟨#[107,101,101,112,45,108,105,110,101,115]⟩⟩,⟨30,2,0,1,1,⟨#[119,105,100,111,119]⟩⟩,⟨31,2,0,1,0,⟨#[112,97,103,101,45,98,101,102,111,114,101]⟩⟩,⟨32,2,0,9,0,⟨#[111,117,116,108,105,110,101]⟩⟩,⟨33,2,0,1073741824,0,⟨#[108,105,115,116]⟩⟩,⟨34,2,1,9,1,⟨#[108,101,118,101,108]⟩⟩,⟨35,2,0,32767,0,⟨#[114,101,115,116,97,114,116]⟩⟩,⟨36,2,1,31680,720,⟨#[116,97,98,45,115,116,111,112]⟩⟩,⟨37,2,0,1,0,⟨#[104,121,112,104,101,110,97,116,101]⟩⟩,⟨40,3,720,31680,12240,⟨#[112,97,103,101,45,119,105,100,116,104]⟩⟩,⟨41,3,720,31680,15840,⟨#[112,97,103,101,45,104,101,105,103,104,116]⟩⟩,⟨42,3,0,31680,1440,⟨#[116,111,112]⟩⟩,⟨43,3,0,31680,1440,⟨#[98,111,116,116,111,109]⟩⟩,⟨44,3,0,31680,1440,⟨#[105,110,110,101,114]⟩⟩,⟨45,3,0,31680,1440,⟨#[111,117,116,101,114]⟩⟩,⟨46,3,0,32767,0,⟨#[102,105,114,115,116,45,112,97,103,101]⟩⟩,⟨47,3,1,6,1,⟨#[112,97,103,101,45,102,111,114,109,97,116]⟩⟩,⟨50,4,0,1,0,⟨#[104,101,97,100,101,114]⟩⟩,⟨51,4,0,1,0,⟨#[99,97,110,116,45,115,112,108,105,116]⟩⟩,⟨52,4,0,31680,0,⟨#[114,111,119,45,104,101,105,103,104,116]⟩⟩,⟨60,5,1,32,1,⟨#[99,111,108,117,109,110,45,115,112,97,110]⟩⟩,⟨61,5,0,2,0,⟨#[118,101,114,116,105,99,97,108,45,109,101,114,103,101]⟩⟩,⟨62,5,0,31680,0,⟨#[99,101,108,108,45,119,105,100,116,104]⟩⟩,⟨63,5,0,16777215,16777215,⟨#[115,104,97,100,101]⟩⟩,⟨70,6,0,31680,0,⟨#[116,97,98,108,101,45,119,105,100,116,104]⟩⟩,⟨71,6,0,2,0,⟨#[116,97,98,108,101,45,97,108,105,103,110]⟩⟩]
set_option maxRecDepth 20000 in
theorem aeO (G:GH) (w0:World) (hG:Hold G w0):Calls prog 177 #[] w0 (aZ w0 G fun u G'=>av G' (.sl 6 (Cv.map iX.dat)) u):=by
 refine eN [] func177 rfl ntmps177 rfl rfl hG ?_;intro a H;refine kP H (SR fun _ K1=>ak K1 rfl (SR fun _ K2=>?_));clear H K1;intro a H;(iterate 45 refine jw VG [_,_,_,_,_,_] H wn rfl rfl rfl rfl ?_;clear H;intro a H);refine agq H6 ru (Cv.map iX.cells) H wn rfl rfl rfl rfl rfl rfl rfl ?_;clear H;intro b46 a w aiS H;refine kH H (ak K2 rfl ?_);clear H K2;intro a H;refine lr H results177 rfl ?_;obtain ⟨Gz,hmz,hbz,H⟩:=H.dQ;exact H.rt (av.dS (n:=45) (cap:=45) hbz rfl (bP _) (show 45≤maxLen by decide) (jU (bP _)) (aeN _ _))
theorem Uk (G:GH) (w0:World) (hG:Hold G w0) (x:Int):Calls prog 193 #[vi x] w0 (aZ w0 G fun u G'=>u=.bool false∧G=G'):=by
 refine eN [(0,_)] func193 rfl ntmps193 rfl rfl hG ?_;intro a H;exact kP H (SR fun _ K1=>ak K1 rfl (SR fun _ K2=>Rm rfl (Rm rfl (Rc rfl (ak K2 rfl (LR results193 rfl fun H=>H.rt ⟨by simp,rfl⟩))))))
theorem Ma {x y z:Int} (h:(x < y∧z=-1)∨(y < x∧z=1)∨(x=y∧z=0)):z=yK x y:=by
 unfold yK;split
 ·omega
 split <;> omega
theorem Zb (G:GH) (w0:World) (hG:Hold G w0) (x y:Int):Calls prog 180 #[vi x,vi y] w0 (aZ w0 G fun u G'=>u=vi (yK x y)):=by
 refine eN [(0,_),(1,_)] func180 rfl ntmps180 rfl rfl hG ?_;intro a H;refine kP H (SR fun _ K1=>ak K1 rfl (SR fun _ K2=>Rm rfl ?_));clear H K1;intro a H;refine s_call R7 H wn rfl (Uk _ _ H.ro x) rfl ?_;clear H;rintro v8 G8 a w ⟨rfl,-⟩ AQ H;refine kH H (ak K2 rfl (SR fun _ K3=>Rm rfl ?_));clear H K2;intro a H;refine s_call R7 H wn rfl (Uk _ _ H.ro y) rfl ?_;clear H;rintro v10 Fe a w ⟨rfl,-⟩ TG H;refine kH H (ak K3 rfl (SQ fun _ K4=>SR fun _ K5=>Rm rfl (Kz K5 (Cd rfl ?_ ?_)))) <;> clear H K3 K5
 ·intro h11 a H
  cases h11
 intro h11 a H
 try have qC:=dF h11
 refine kP H (Kc K4 (SQ fun _ K6=>SR fun _ K7=>Rm rfl (Kz K7 (Cd rfl ?_ ?_)))) <;> clear H K4 K7
 ·intro gB a H
  cases gB
 intro gB a H
 try have qE:=dF gB
 refine kP H (Kc K6 (SQ fun _ K8=>SR fun _ K9=>Rm rfl (Rm rfl (Rc rfl (Kz K9 (Cd rfl ?_ ?_)))))) <;> clear H K6 K9
 ·intro h16 a H
  try have p16:=dT h16
  exact kP H (SR fun _ aQ=>ak aQ rfl (LR results180 rfl fun H=>H.rt (ay vi (Ma (by omega)))))
 intro h16 a H
 try have p16:=dF h16
 refine kP H (Kc K8 (SQ fun _ bH=>SR fun _ bR=>Rm rfl (Rm rfl (Rc rfl (Kz bR (Cd rfl ?_ ?_)))))) <;> clear H K8 bR
 ·intro h19 a H
  try have pU:=dT h19
  exact kP H (SR fun _ bY=>ak bY rfl (LR results180 rfl fun H=>H.rt (ay vi (Ma (by omega)))))
 intro h19 a H
 try have pU:=dF h19
 exact kP H (Kc bH (SR fun _ bX=>ak bX rfl (LR results180 rfl fun H=>H.rt (ay vi (Ma (by omega))))))
end
section
open Go.RowKit
theorem abW:bV prog 229 0 0:=⟨by kernel_rfl⟩
theorem aaI:∀ args w,(callFunc 180 args).run prog w=.ok (.enter 180 args) w:=enters func180 rfl (by kernel_rfl)
theorem VW:prog.underlying 270=some (.int .u64):=by kernel_rfl
theorem aaH:∀ args w,(callFunc 179 args).run prog w=.ok (.enter 179 args) w:=enters func179 rfl (by kernel_rfl)
theorem Q8 (G:GH) (w0:World) (hG:Hold G w0) (x:iX) (t:Int):tT prog (.func (.func 179) #[] #[]) [.agg x.cells.toArray,vi t] w0 (aZ w0 G fun u G'=>u=vi (yK x.num t)):=by
 refine kG (caps:=[]) aaH ?_;refine eN [(0,_),(1,_)] func179 rfl ntmps179 rfl rfl hG ?_;intro a H;refine bK (fun _ K1=>?_);refine dz (cs:=[_,_,_,_,_,_]) H wn rfl rfl rfl ?_;clear H;intro b2 a w hb2 H;refine kH H (ak K1 rfl (SR fun _ K2=>aO abW aC 0 rfl rfl (Rm rfl ?_)));clear H K1;intro a H;refine s_call aaI H wn rfl (Zb _ _ H.ro x.num t) rfl ?_;clear H;rintro v8 G8 a w rfl AQ H;exact kH H (ak K2 rfl (LR results179 rfl fun H=>H.rt rfl))
theorem X7 (G:GH) (w0:World) (hG:Hold G w0) (l:List iX) (t:Int) (v:aj) (hv:av G (.sl 6 (l.map iX.dat)) v) (hl:l.length≤4294967296) :
  Calls prog 178 #[v,vi t,.func (.func 179) #[] #[]] w0 (aZ w0 G fun u G'=>u=.tuple #[vi (xw (l.map iX.num) t),.bool (AA (l.map iX.num) t)]):=by
 obtain ⟨A,c,rfl,hc1,hc2,-⟩:=hv.slice;rw [bW] at *;obtain ⟨p,hp⟩:∃ p:Nat→Bool,p=fun h=>decide (¬ (l.map iX.num).getD h 0 < t):=⟨_,rfl⟩
 have hbs:xw (l.map iX.num) t=wG p l.length 0 l.length:=by rw [hp,xw,bW]
 refine eN [(0,_),(1,_),(2,_)] func178 rfl ntmps178 rfl rfl hG ?_;intro a H;refine kP H (SR fun _ K1=>Ra rfl (ak K1 rfl (SR fun _ K2=>Rm rfl (Rl H6 rfl (ak K2 rfl (SR fun _ K3=>Rm rfl (Ra rfl (ak K3 rfl (SQ fun _ K4=>SB ?_)))))))));clear H K1 K2 K3;intro a H;skip;refine gq (ι:=Nat × Nat × Nat × GH) (Tc:=[(0,_),(1,_),(2,_),(8,_)]) (Lc:=[]) (fun gh=>[(9,vi gh.1),(10,vi gh.2.1)]) (fun gh=>[]) (fun gh=>gh.2.2.2) (fun gh=>gh.1≤gh.2.1∧gh.2.1≤l.length∧gh.2.1 - gh.1≤gh.2.2.1∧wG p gh.2.2.1 gh.1 gh.2.1=xw (l.map iX.num) t∧(∀ b o,G b=some o→gh.2.2.2 b=some o)) (fun gh=>gh.2.1 - gh.1) ((0,l.length,l.length,G)) (by exact (H).sub ⟨rfl,rfl,rfl,rfl,rfl,rfl,aD⟩) ?_ ?_
 ·exact ⟨gW _,bP _,Nat.sub_le _ _,hbs.symm,fun _ _ h=>h⟩
 clear H;intro gh a w hI H;obtain ⟨i,j,f,g⟩:=gh;dsimp only at hI H;obtain ⟨hij,hj,hf1,heq,hgm⟩:=hI;have Cn:=hv.mono hgm;dsimp only [lca,aV] at H;refine kP H (SQ fun _ K5=>SR fun _ K6=>Rm rfl (Rm rfl (Rc rfl (Kz K6 (Cd rfl ?_ ?_))))) <;> clear H K6
 ·intro dM a H
  try have kK:=dT dM
  have hlt:i < j:=by omega
  rw [aew hf1 hlt] at heq;obtain ⟨m,hm⟩:∃ m,m=(i+j) / 2:=⟨_,rfl⟩;rw [← hm] at heq
  have hml:m < l.length:=by omega
  obtain ⟨b,o,rfl,hrow⟩:=OD Cn hml
  have hpm:p m=decide (¬ l[m].num < t):=by rw [hp];dsimp only;rw [getD_map hml]
  rw [hpm] at heq;refine kP H (Kc K5 (SB (SR fun _ K7=>Rm rfl (Rm rfl (Rd rfl ?_)))));clear H K5;intro a H;rw [show ((i:Int)+(j:Int))=((i+j:Nat):Int) by push_cast;rfl] at H;refine EF ((i+j:Nat):Int) VW mJ H wn rfl (aex (by omega) (by omega)) rfl ?_;clear H;intro a H;refine Vu _ H wn rfl rfl rfl (by decide) rfl ?_;clear H;intro a H;rw [aev,← hm] at H;refine EF (m:Int) mJ VW H wn rfl (He (by omega) (by omega)) rfl ?_;clear H;intro a H;refine kH H (ak K7 rfl (SR fun _ K8=>Rm rfl (Rm rfl (Rm rfl (Ri H6 ru rfl rfl ?_)))));clear H K7;intro a H;refine aW ru (cs:=[_,_,_,_,_,_]) H wn rfl rfl (fun j v hj=>H.hp.aI (hrow j v hj)) rfl ?_;clear H;intro a H;refine kH H (Rm rfl ?_);clear H;intro a H;refine oU H wn rfl rfl (Q8 _ _ H.ro l[m] t) rfl ?_;clear H;rintro v30 yC a w rfl wC H;refine kH H (Rc rfl (Kz K8 (Cd rfl ?_ ?_))) <;> clear H K8
  ·intro h31 a H
   try have p31:=dT h31
   rw [ah (by simpa using Rx.1 p31)] at heq;refine kP H (SC (Rm rfl (Rd rfl (Ra rfl ?_))));clear H;intro a H;refine aH ?_;refine eO ((m+1,j,f - 1,yC)) (by exact (H).sub ⟨rfl,rfl,rfl,rfl,rfl,rfl,aD⟩) ?_ ?_
   ·(try dsimp only);exact ⟨by omega,hj,by omega,heq,fun b o h=>wC b o (hgm b o h)⟩
   first|omega|(dsimp only;omega)
  intro h31 a H
  try have p31:=dF h31
  rw [au (by simpa using fun h=>p31 (Rx.2 h))] at heq;refine kP H (SC (Rm rfl (Ra rfl ?_)));clear H;intro a H;refine aH ?_;refine eO ((i,m,f - 1,yC)) (by exact (H).sub ⟨rfl,rfl,rfl,rfl,rfl,rfl,aD⟩) ?_ ?_
  ·(try dsimp only);exact ⟨by omega,by omega,by omega,heq,fun b o h=>wC b o (hgm b o h)⟩
  first|omega|(dsimp only;omega)
 intro dM a H
 try have kK:=dF dM
 refine fI ?_;refine K4 _ _ ?_;clear K4;refine bg (fun _ K9=>?_);rw [aeu (by omega)] at heq;refine kP H (SC (Rm rfl (Rm rfl (Rm rfl (Rc rfl (Rm rfl (Sp 39 rfl ?_ ?_))))))) <;> clear H
 ·intro jE a H
  try have p39:=dT jE
  have hil:i < l.length:=by omega
  obtain ⟨b,o,rfl,hrow⟩:=OD Cn hil;refine kH H (YM jE rfl (YM jE rfl (YM jE rfl (YI H6 ru jE rfl rfl ?_))));clear H;intro a H;refine aW ru (cs:=[_,_,_,_,_,_]) H (wg H rfl rfl jE) rfl rfl (fun j v hj=>H.hp.aI (hrow j v hj)) rfl ?_;clear H;intro a H;refine kH H (YM jE rfl ?_);clear H;intro a H;refine oU H (wg H rfl rfl jE) rfl rfl (Q8 _ _ H.ro l[i] t) rfl ?_;clear H;rintro v46 KU a w rfl zq H;refine kH H (YC jE rfl (Pt jE rfl (Ra rfl (aU K9 rfl ?_))));clear H K9;intro a H;refine bF ?_;refine (dL H results178 (.cons (aN H rfl) (.cons (aN H rfl) .nil)) ?_).1;exact H.rt (by rw [acZ heq.symm (by rw [bW];omega),← heq];simp)
 intro jE a H
 try have p39:=dF jE
 refine kH H (cK jE rfl (cK jE rfl (bO jE rfl (Pf jE rfl (Ra rfl (aU K9 rfl ?_))))));clear H K9;intro a H;refine bF ?_;refine (dL H results178 (.cons (aN H rfl) (.cons (aN H rfl) .nil)) ?_).1;exact H.rt (by rw [adb heq.symm (by rw [bW];omega),← heq])
end
section
open Go.RowKit
theorem MC:∀ args w,(callFunc 60 args).run prog w=.ok (.enter 60 args) w:=enters func60 rfl (by kernel_rfl)
theorem I5:∀ args w,(callFunc 116 args).run prog w=.ok (.enter 116 args) w:=enters func116 rfl (by kernel_rfl)
theorem EL:Ty prog 206 1 8 [.nilFunc] false:=⟨by kernel_rfl,by kernel_rfl⟩
theorem RX:∀ args w,(callFunc 117 args).run prog w=.ok (.enter 117 args) w:=enters func117 rfl (by kernel_rfl)
theorem Mq:∀ args w,(callFunc 157 args).run prog w=.ok (.enter 157 args) w:=enters func157 rfl (by kernel_rfl)
def pW (x:aB):Nat:=if x.kind=1 then jg x.text else 1
mutual
def OX (flow at_:Int):aB→List ((Int × Int) × aB)
 | .mk k c i t h f r=>if k=6 then ((flow,at_),.mk k c i t h f r) :: kM i 0 f else if k=7 then ((flow,at_),.mk k c i t h f r) :: Hu r else []
/-- The notes and tables of a flow, and those in them, with their positions. -/
def kM (flow:Int):Int→List aB→List ((Int × Int) × aB)
 | _,[]=>[]
 | at_,x :: l=>OX flow at_ x++kM flow (at_+pW x) l
def Hu:List bC→List ((Int × Int) × aB)
 | []=>[]
 | r :: l=>OY r++Hu l
def OY:bC→List ((Int × Int) × aB)
 | .mk _ cs=>jP cs
def jP:List aY→List ((Int × Int) × aB)
 | []=>[]
 | c :: l=>JZ c++jP l
def JZ:aY→List ((Int × Int) × aB)
 | .mk i _ f=>kM i 0 f
end
def jd (x:aB):List aY:=if x.kind=7 then x.rows.flatMap bC.cells else [.mk x.id ⟨[],⟨0,0,[],[]⟩⟩ x.flow]
theorem UW (x:aY):JZ x=kM x.id 0 x.flow:=by cases x;simp [JZ,aY.id,aY.flow]
theorem afA (x:bC):OY x=jP x.cells:=by cases x;simp [OY,bC.cells]
theorem UY:∀ a b:List aY,jP (a++b)=jP a++jP b
 | [],b=>by simp [jP]
 | x :: a,b=>by simp [jP,UY a b]
theorem U0:∀ l:List bC,Hu l=jP (l.flatMap bC.cells)
 | []=>by simp [Hu,jP]
 | x :: l=>by simp [Hu,afA,UY,U0 l]
theorem EA (flow at_:Int) (x:aB):OX flow at_ x=if x.kind=6∨x.kind=7 then ((flow,at_),x) :: jP (jd x) else []:=by
 obtain ⟨k,c,i,t,h,f,r⟩:=x
 simp only [OX,jd,aB.kind,aB.rows,aB.id,aB.flow]
 by_cases h6:k=6
 ·subst h6;simp [jP,JZ]
 by_cases h7:k=7
 ·subst h7;simp [U0]
 simp [h6,h7]
theorem Uj {x:aB} {c:aY} (h:c∈jd x):bG c.flow < cB x.dat:=by
 have h4:=ou x
 unfold jd at h
 split at h
 ·obtain ⟨r,hr,hc⟩:=List.mem_flatMap.1 h;have h1:=WI hr;have h2:=WH hc;have h3:=yu r;have h5:=zT c
  omega
 rw [uS.1 h];show bG x.flow < _;omega
def vD (a:(Int × Int) × aB):AP:=fun args g=>∃ cs,args=[.agg #[vi a.1.1,vi a.1.2],.agg cs.toArray]∧aS g a.2.dat cs
theorem xU {A:List ((Int × Int) × aB)} {k:Nat} {args:List aj} {g:GH} (h:tQ (A.map vD) k args g):∃ (hk:k < A.length) (cs:List aj),args=[.agg #[vi A[k].1.1,vi A[k].1.2],.agg cs.toArray]∧aS g A[k].2.dat cs:=by
 obtain ⟨p,hp,hargs⟩:=h;rw [mM] at hp;obtain ⟨q,hq,rfl⟩:=kS.1 hp;obtain ⟨hk,rfl⟩:=jr.1 hq;exact ⟨hk,hargs⟩
def Dl (n:Nat):Prop:=∀ (G:GH) (l:List aB) (id:Int) (bl bi:Nat) (v:aj),bG l < n→aI G bl 0=some v→aI G bi 0=some (vi id)→av G (.sl 11 (l.map aB.dat)) v →
 Iter prog G (.func (.func 116) #[] #[(aJ bl 0),(aJ bi 0)]) ((kM id 0 l).map vD)
theorem O1 {n:Nat} (ih:Dl n) (G:GH) (w0:World) (hG:Hold G w0) (l:List aB) (id:Int) (v:aj) (hz:bG l < n) (hv:av G (.sl 11 (l.map aB.dat)) v) :
  Calls prog 60 #[vi id,v] w0 (aZ w0 G fun u G'=>∃ bl bi,u=.func (.func 116) #[] #[(aJ bl 0),(aJ bi 0)]∧Iter prog G' u ((kM id 0 l).map vD)):=by
 obtain ⟨A,c,rfl,hc1,hc2,hg⟩:=hv.slice;refine eN [(0,_),(1,_)] func60 rfl ntmps60 rfl rfl hG ?_;intro a H;refine bK (fun _ K1=>?_);refine dz (cs:=[_]) H wn rfl rfl rfl ?_;clear H;intro b2 a w hb2 H;refine dz (cs:=[_]) H wn rfl rfl rfl ?_;clear H;intro b3 a w hb3 H;refine kH H (ak K1 rfl (SR fun _ K2=>?_));clear H K1;intro a H;refine nK H wn rfl rfl ?_;clear H;intro a H;refine kH H (ak K2 rfl ?_);clear H K2;intro a H;refine bF ?_;obtain ⟨G2,hm2,hb3,H⟩:=H.dQ;obtain ⟨G3,oN,hb2,H⟩:=H.dQ;refine lv H results60 rfl ?_;exact H.rt ⟨b3,b2,rfl,ih _ _ _ _ _ _ hz (aL oN (by unfold aI;rw [hb3];rfl)) (by unfold aI;rw [hb2];rfl) (hv.mono fun b o h=>oN _ _ (hm2 _ _ h))⟩
theorem MW:∀ l:List bC,(l.flatMap bC.cells).length≤iV l
 | []=>bP _
 | x :: l=>by
  have h1:=MW l;have h2:=E5 x.cells;have h3:=yu x
  simp only [List.flatMap_cons,lC,iV,fG,dZ] at *;omega
theorem aiy (l:List bC) (k:Nat):iV (l.take k)≤iV l:=by
 have h:iV l=iV (l.take k++l.drop k):=by rw [List.take_append_drop]
 rw [h];simp only [iV,sN,VN];omega
theorem UZ (c:aY) (l:List aY):jP (c :: l)=kM c.id 0 c.flow++jP l:=by rw [jP,UW]
set_option maxHeartbeats 1000000 in
theorem ais {n:Nat} (ih:Dl n) (hn:n≤4294967296) {G:GH} {x:aB} {bx:Nat} {cs:List aj} (hsz:cB x.dat≤n) (hb:G bx=some (.cells cs.toArray 47 (0,0))) (hv:aS G x.dat cs) :
  Iter prog G (.func (.func 157) #[] #[(aJ bx 0)]) ((jP (jd x)).map vD):=by
 intro J Jx fv G1 L w0 AB hGi jY hJx hJ hO hcb;refine kG (caps:=[(aJ bx 0)]) Mq ?_;obtain ⟨pA,pn,pc,dA,dn,dc,yA,yn,yc,fA,fn,fc,rA,rn,rc,rfl,hh,hf,hr⟩:=hv.item;have hsz1:=ou x;have hrn:=hr.len;rw [bW] at hrn;subst hrn;have hrs:=Ig x.rows
 have hrow:∀ j u,[vi x.kind,vi x.code,vi x.id,.string x.text,.slice pA pn pc,vi x.head.marks.ins,vi x.head.marks.move,.slice dA dn dc,.slice yA yn yc,.slice fA fn fc,.slice rA x.rows.length rc][j]?=some u→aI G1 bx (0+j)=some u:=by
  intro j u hj;refine aL hGi ?_
  unfold aI;rw [hb];simpa using hj
 have hfc:aI G1 bx 0=some (vi x.kind)∧aI G1 bx 2=some (vi x.id)∧aI G1 bx 9=some (.slice fA fn fc)∧aI G1 bx 10=some (.slice rA x.rows.length rc):=⟨hrow 0 _ rfl,hrow 2 _ rfl,hrow 9 _ rfl,hrow 10 _ rfl⟩;obtain ⟨hc0,hc2,hc9,aiV⟩:=hfc
 have hml:4294967297≤maxLen:=by decide
 refine jh (N:=50) (T:=[(0,_),(1,_)]) func157 rfl ntmps157 rfl rfl hO ?_;intro a H;refine bK (fun _ K1=>?_);refine dz (cs:=[fv]) H wn rfl AB rfl ?_;clear H;intro b2 a w hb2 H;refine K1 _ _ ?_;clear K1;refine kP H (SR fun _ K2=>Rf Ap rfl (Rg aC rfl (by assumption) ?_));clear H;intro a H;refine kH H (Rf BR rfl (Rg jL rfl (by assumption) ?_));clear H;intro a H;refine jw VF [_,_,_,_,_,_,_] H wn rfl rfl rfl rfl ?_;clear H;intro a H;refine ig mY iR [_,_,_,_,_,_,_] [_,_,_,_,_,_,_] H wn rfl rfl rfl rfl rfl (by intro i q h;match i,h with|0,h=>exact h|n+1,h=>simp at h) rfl rfl ?_;clear H;intro b15 a w Jw H;refine kH H (ak K2 rfl (SQ fun _ K3=>SR fun _ K4=>Rf kV rfl (Rg aC rfl (by assumption) ?_)));clear H K2;intro a H;refine kH H (Rc rfl (Kz K4 (Cd rfl ?_ ?_))) <;> clear H K4
 ·intro h18 a H
  try have rZ:=dT h18
  refine kP H (SR fun _ K5=>ak K5 rfl (SR fun _ K6=>Rf yQ rfl (Rg zQ rfl (by assumption) ?_)));clear H K5;intro a H;refine kH H (Rl pq rfl (Rm rfl (Kz K6 (SB ?_))));clear H K6;intro a H;skip;refine gq (ι:=Nat × aj × List aj × OL) (Tc:=[(2,_),(20,_),(21,_)]) (Lc:=[(_,_)]) (fun gh=>[(3,gh.2.1),(22,vi gh.1)]) (fun gh=>[]++(L++gh.2.2.2)) (fun gh=>G1) (fun gh=>gh.1≤x.rows.length∧eF 132 7 gh.2.1 ((x.rows.take gh.1).flatMap bC.cells).length gh.2.2.1 gh.2.2.2∧gJ G1 7 (((x.rows.take gh.1).flatMap bC.cells).map aY.dat) gh.2.2.1) (fun gh=>x.rows.length - gh.1) ((0,.slice none 0 0,[],[])) (by exact (St.OJ (A:=[_]) (H.bU (Pl:=[_,_]) (bN:=[_]) [1] (by decide) rfl)).sub ⟨rfl,rfl,rfl,rfl,rfl,aD⟩) ?_ ?_
  ·exact ⟨by omega,eF.nil,by simpa using gJ.nil⟩
  clear H;intro gh a w hI H;obtain ⟨rk,v3,xs,Lo⟩:=gh;dsimp only at hI H;obtain ⟨Ob,hrw3,iI⟩:=hI;dsimp only [lca,aV] at H;refine kP H (SR fun _ K7=>Rc rfl (Kz K7 (SQ fun _ K8=>Cd rfl ?_ ?_))) <;> clear H K7
  ·intro h23 a H
   try have Bg:=dT h23
   have hk2:rk < x.rows.length:=by omega
   obtain ⟨b,o,qA,qn,qc,eA,en,ec,zA,zn,zc,cA,cn,cc,rfl,hrow,Ck,hcl⟩:=Hy hk2 hr.at_;replace hrow:=fun j u hj=>aL hGi (hrow j u hj);have TA:=hcl.len;rw [bW] at TA;subst TA;have hsz2:=MW (x.rows.take (rk+1));have JJ:=aiy x.rows (rk+1);rw [mP hk2,List.flatMap_append,lC,List.flatMap_singleton] at hsz2;rw [mP hk2] at JJ;refine kP H (Kc K8 (SQ fun _ K9=>SB (SR fun _ aQ=>Ri pq jJ rfl rfl ?_)));clear H K8;intro a H;refine aW jJ (cs:=[_,_,_,_,_,_]) H wn rfl rfl (fun j v hj=>H.hp.aI (hrow j v hj)) rfl ?_;clear H;intro a H;refine dx jJ H wn rfl ?_;clear H;intro b5 a w hb5 H;refine aX jJ 0 (vs:=[_,_,_,_,_,_]) _ H wn rfl rfl rfl rfl rfl rfl rfl rfl ?_;clear H;intro w H;dsimp only [List.set,setRow] at H;refine aQ _ _ ?_;clear aQ;refine kP H (SC (Rm rfl (aO yO zN 0 rfl rfl ?_)));clear H;intro a H;refine agm (Li:=[_,_]++L) (Lo:=Lo) mY iR rfl rfl (St.un (A:=[_,_]) H) wn rfl rfl hrw3 (hcl.mono hGi) (by omega) (by omega) rfl ?_;clear H;intro v29 XA news a w aeh hcn H;refine kH H (Ra rfl ?_);clear H;intro a H;refine aH ?_;replace H:=H.assoc.bU (Pl:=[_,_]) (bN:=[_]) [1] (by decide) rfl;refine K9 _ _ ?_;clear K9;refine kP H (SC (Rd rfl (Rm rfl ?_)));clear H;intro a H;refine aH ?_;refine eO ((rk+1,v29,xs++news,XA)) (by exact H.sub ⟨rfl,rfl,rfl,rfl,rfl,aD⟩) ?_ ?_
   ·(try dsimp only);exact ⟨by omega,by rw [mP hk2,List.flatMap_append,lC,List.flatMap_singleton];exact aeh,by rw [mP hk2,List.flatMap_append,sN,List.flatMap_singleton];exact iI.append hcn⟩
   first|omega|(dsimp only;omega)
  intro h23 a H
  try have Bg:=dF h23
  have aef:rk=x.rows.length:=by omega
  subst aef;rw [List.take_length] at hrw3 iI;obtain ⟨G3,oN,hin,H⟩:=(St.un (A:=[_]) H).Au (rows:=((x.rows.flatMap bC.cells)).map aY.dat) hrw3 (by simp) iI
  replace hin:av G3 (.sl 7 ((jd x).map aY.dat)) v3:=by rw [jd,au rZ];exact hin
  obtain ⟨iA,ni,ic,rfl⟩:=hin.form;have N8:=hin.len;rw [bW] at N8
  have hisz:(jd x).length≤4294967296:=by
   have h1:=MW x.rows;rw [jd,au rZ];omega
  refine fI ?_;refine K3 _ _ ?_;clear K3;refine kP H (SR fun _ bH=>Rm rfl (Rl mY rfl (Rm rfl (Kz bH (SB ?_)))));clear H bH;intro a H;skip;refine IG (ι:=Nat × Nat × OL × GH × List Nat) (Tc:=[(2,_),(31,_),(32,_)]) (Lc:=[(_,_)]) (fun gh=>Et gh.2.2.2.2) (fun gh=>[(33,vi gh.1)]) (fun gh=>[]++(jO gh.2.2.2.2++gh.2.2.1)) (fun gh=>gh.2.2.2.1) (fun gh=>gh.1≤(jd x).length∧(∀ b o,G3 b=some o→gh.2.2.2.1 b=some o)∧Now ((jP (jd x)).map vD) vD J (jP (jd x)).length gh.2.1 (jP ((jd x).drop gh.1)) gh.2.2.2.1 gh.2.2.1) (fun gh=>(jd x).length - gh.1) ((0,0,L,G3,[])) (by exact (H).sub ⟨rfl,rfl,rfl,rfl,aD⟩) ?_ ?_
  ·exact ⟨by omega,fun _ _ h=>h,⟨jY _ _ _ _ oN hJ,fun i a h=>by rw [mQ,mM];rw [sM] at h;rw [h];rfl,by simp⟩⟩
  clear H;intro gh a w hI H;obtain ⟨ck,j1,Lt,g,ds⟩:=gh;dsimp only at hI H;obtain ⟨hck,hgm,bQ⟩:=hI;dsimp only [lca,aV] at H;refine kP H (SR fun _ bR=>Rc rfl (Kz bR (SQ fun _ bY=>Cd rfl ?_ ?_))) <;> clear H bR
  ·intro eT a H
   try have p34:=dT eT
   have hk3:ck < (jd x).length:=by omega
   obtain ⟨b,o,sA,sn,sc,tA,tn,tc,uA,un,uc,gA,gn,gc,NJ,hrow,hch,hcf⟩:=Dy hk3 hin.at_;subst NJ;replace hrow:=fun j u hj=>aL hgm (hrow j u hj);rw [lu hk3,UZ] at bQ;refine kP H (Kc bY (SQ fun _ bX=>SB (SR fun _ dO=>Ri mY iR rfl rfl ?_)));clear H bY;intro a H;refine aW iR (cs:=[_,_,_,_,_,_,_]) H wn rfl rfl (fun j v hj=>H.hp.aI (hrow j v hj)) rfl ?_;clear H;intro a H;refine dx iR H wn rfl ?_;clear H;intro b7 a w rW H;refine aX iR 0 (vs:=[_,_,_,_,_,_,_]) _ H wn rfl rfl rfl rfl rfl rfl rfl rfl ?_;clear H;intro w H;dsimp only [List.set,setRow] at H;refine dO _ _ ?_;clear dO;refine kP H (SR fun _ dJ=>aO Ao aC 0 rfl rfl (aO BP jL 0 rfl rfl ?_));clear H;intro a H;refine s_call MC H wn rfl (O1 ih _ _ H.ro (jd x)[ck].flow (jd x)[ck].id _ (by have:=Uj (jT hk3);omega) (hcf.mono hgm)) rfl ?_;clear H;rintro v41 Fg a w ⟨bl,bi,rfl,hit⟩ xM H;refine dJ _ _ ?_;clear dJ;refine oG ?_;skip;refine vS (ι:=OL) (κ:=OL) (Lc:=[(_,_),(_,_)]) (fun (k:Nat) (gh:OL)=>[]) (fun (k:Nat) (gh:OL)=>(jO ds++gh)) (fun (k:Nat) (gh:OL) (g:GH)=>J (j1+k) g gh) (fun (gx:OL)=>Code.ret) (fun (gx:OL)=>[]) (fun (gx:OL)=>(jO ds++gx)) (fun (gx:OL) (g:GH)=>Jx g gx) (Lt) (by exact H) rfl I5 (hit) (fun _ _ h=>h) rfl (fun k args g h=>by obtain ⟨_,_,rfl,_⟩:=xU h;rfl) (fun k i G G' hm h=>jY _ _ _ _ hm h) (fun x G G' hm h=>hJx _ _ _ hm h) (jY _ _ _ _ xM bQ.now) ?_ ?_ ?_
   ·clear H;intro l13 qG oF bk k args gh vK w13 Xc WV a NM pR hI NC NZ Oh H;obtain ⟨oD,hgh⟩:∃ x,x=gh:=⟨_,rfl⟩;subst hgh;obtain ⟨hk,IU,rfl,uD⟩:=xU NM;obtain ⟨aA,an,ac,bA,bn,bc,IV,IY,IW,IZ,Jb,I4,JK,JM,JL,rfl,-⟩:=uD.item;dsimp only [nT,List.cons_append,List.nil_append] at H;refine bK (fun _ dD=>?_);refine dx fM H wn rfl ?_;clear H;intro b8 a w uj H;refine aX fM 0 (vs:=[_,_]) _ H wn rfl rfl rfl rfl rfl rfl rfl rfl ?_;clear H;intro w H;dsimp only [List.set,setRow] at H;refine dD _ _ ?_;clear dD;refine mh ?_;refine dx eX H wn rfl ?_;clear H;intro b9 a w um H;refine aX eX 0 (vs:=[_,_,_,_,_,_,_,_,_,_,_]) _ H wn rfl rfl rfl rfl rfl rfl rfl rfl ?_;clear H;intro w H;dsimp only [List.set,setRow] at H;refine aH ?_;refine NC _ _ _ _ _ _ (by exact H.bU (Pl:=[_,_,_,_,_]) (bN:=[_,_,_,_,_]) [2,0,1,3,4] (by decide) rfl) ?_;clear H;intro w H;refine kP H (SB (SR fun _ dU=>Ro EL 4 rfl ?_));clear H;intro a H;refine aW fM (cs:=[_,_]) H wn rfl rfl (H.hp.bT 2 rfl rfl) rfl ?_;clear H;intro a H;refine aW eX (cs:=[_,_,_,_,_,_,_,_,_,_,_]) H wn rfl rfl (H.hp.bT 1 rfl rfl) rfl ?_;clear H;intro a H;refine uJ (Li:=([_,_,_,_,_]++bk)++jO ds) (L:=oD) (St.un (A:=[_,_,_,_,_]++bk) (St.un (A:=[_,_,_,_,_]) H)) wn rfl rfl (hcb (j1+k) _ _ _ _ ⟨_,bQ.part k _ (gy hk),_,rfl,uD⟩ (fun b o h=>pR b o (xM b o (hgm b o (oN b o h)))) hI (Hp.owns (Li:=([_,_,_,_,_]++bk)++jO ds) (St.un (A:=[_,_,_,_,_]++bk) (St.un (A:=[_,_,_,_,_]) H)).hp)) rfl ?_;clear H;rintro v47 Ik Fz a w ⟨XP,rfl,hb1,hb2⟩ adM H
    simp only [mg,lN,ko] at H
    refine kH H (Rn rfl (Kz dU (Cd rfl ?_ ?_))) <;> clear H dU
    ·intro h48 a H
     refine bF ?_;refine (Oh (Fz) _ _ _ _ _ (by exact H.bU (Pl:=[_,_,_,_,_]) (bN:=[_,_,_]) [0,3,4] (by decide) rfl) ?_).1 rfl;exact hb2 (by simpa using h48)
    intro h48 a H
    refine fQ ?_;refine NZ (Fz) _ _ _ _ _ (by exact H.bU (Pl:=[_,_,_,_,_]) (bN:=[_,_,_]) [0,3,4] (by decide) rfl) ?_;exact hb1 (by simpa using h48)
   ·clear H;intro E9 gh Fh a w pR hI H;obtain ⟨oD,hgh⟩:∃ x,x=gh:=⟨_,rfl⟩;subst hgh;dsimp only [lca,aV] at H;refine bX _ _ ?_;clear bX;refine kP H (SC (Rd rfl (Rm rfl ?_)));clear H;intro a H;refine aH ?_;refine Cz ((ck+1,j1+(kM (jd x)[ck].id 0 (jd x)[ck].flow).length,oD,Fh,E9 :: ds)) (by exact (H.bU (Pl:=[_,_,_]) (bN:=[_,_]) [2,0] (by decide) rfl).sub ⟨rfl,rfl,rfl,rfl,aD⟩) ?_ ?_
    ·(try dsimp only);exact ⟨by omega,fun b o h=>pR b o (xM b o (hgm b o h)),bQ.jump (by simpa using hI)⟩
    first|omega|(dsimp only;omega)
   clear H;intro E9 gx Fh a w pR hI H;obtain ⟨Lx,hgh⟩:∃ x,x=gx:=⟨_,rfl⟩;subst hgh;dsimp only [lca,aV] at H;refine bF ?_;refine (qy H 0 rfl ?_).1;clear H;intro a w H;dsimp only [List.eraseIdx_cons_succ,List.eraseIdx_cons_zero] at H;refine (vB (Lh:=[_,_]) _ H ?_).1;clear H;intro a w H;dsimp only [lca,aV] at H;refine (leave0 H results157 ?_).1
   first
    | exact H.hp.cu (L':=Lx) (by repeat (first|exact cZ _|apply List.Sublist.cons)) (.inr hI)
    | exact H.hp.cu (L':=Lt) (by repeat (first|exact cZ _|apply List.Sublist.cons)) (.inl (by rw [gK (by omega),jP] at bQ;have:=bQ.len;simp only [List.length_nil,lZ] at this;rw [bW,← this];exact bQ.now))
  intro eT a H
  try have p34:=dF eT
  refine fI ?_;refine (vB (Lh:=[_]) _ H ?_).2;clear H;intro a w H;dsimp only [lca,aV] at H;refine (leave0 H results157 ?_).1
  first
   | exact H.hp.cu (L':=Lx) (by repeat (first|exact cZ _|apply List.Sublist.cons)) (.inr hI)
   | exact H.hp.cu (L':=Lt) (by repeat (first|exact cZ _|apply List.Sublist.cons)) (.inl (by rw [gK (by omega),jP] at bQ;have:=bQ.len;simp only [List.length_nil,lZ] at this;rw [bW,← this];exact bQ.now))
 intro h18 a H
 try have rZ:=dF h18
 obtain ⟨G3,oN,hin,H⟩:=H.MZ (sz:=7) (d:=(aY.mk x.id ⟨[],⟨0,0,[],[]⟩⟩ x.flow).dat) rfl (aS.OH (x:=aY.mk x.id ⟨[],⟨0,0,[],[]⟩⟩ x.flow) ⟨av.iQ rfl (by decide),av.iQ rfl (by decide),av.iQ rfl (by decide)⟩ (hf.mono hGi))
 replace hin:av G3 (.sl 7 ((jd x).map aY.dat)) (.slice (some ⟨b15,0,none⟩) 1 1):=by rw [jd,ah rZ];exact hin
 obtain ⟨iA,hiA⟩:∃ z,z=some (Addr.mk b15 0 none):=⟨_,rfl⟩;obtain ⟨ni,hni⟩:∃ z,z=1:=⟨_,rfl⟩;obtain ⟨ic,hic⟩:∃ z,z=1:=⟨_,rfl⟩;rw [← hiA] at hin H;have N8:=hin.len;rw [bW] at N8
 have hisz:(jd x).length≤4294967296:=by omega
 refine kP H (Kc K3 (SR fun _ fP=>Rm rfl (Rl mY rfl (Rm rfl (Kz fP (SB ?_))))));clear H K3 fP;intro a H;skip;refine IG (ι:=Nat × Nat × OL × GH × List Nat) (Tc:=[(2,_),(31,_),(32,_)]) (Lc:=[(_,_)]) (fun gh=>Et gh.2.2.2.2) (fun gh=>[(33,vi gh.1)]) (fun gh=>[]++(jO gh.2.2.2.2++gh.2.2.1)) (fun gh=>gh.2.2.2.1) (fun gh=>gh.1≤(jd x).length∧(∀ b o,G3 b=some o→gh.2.2.2.1 b=some o)∧Now ((jP (jd x)).map vD) vD J (jP (jd x)).length gh.2.1 (jP ((jd x).drop gh.1)) gh.2.2.2.1 gh.2.2.1) (fun gh=>(jd x).length - gh.1) ((0,0,L,G3,[])) (by exact (H).sub ⟨rfl,rfl,rfl,rfl,aD⟩) ?_ ?_
 ·exact ⟨by omega,fun _ _ h=>h,⟨jY _ _ _ _ oN hJ,fun i a h=>by rw [mQ,mM];rw [sM] at h;rw [h];rfl,by simp⟩⟩
 clear H;intro gh a w hI H;obtain ⟨ck,j1,Lt,g,ds⟩:=gh;dsimp only at hI H;obtain ⟨hck,hgm,bQ⟩:=hI;dsimp only [lca,aV] at H;refine kP H (SR fun _ eG=>Rc rfl (Kz eG (SQ fun _ fZ=>Cd rfl ?_ ?_))) <;> clear H eG
 ·intro eT a H
  try have p34:=dT eT
  have hk3:ck < (jd x).length:=by omega
  obtain ⟨b,o,sA,sn,sc,tA,tn,tc,uA,un,uc,gA,gn,gc,NJ,hrow,hch,hcf⟩:=Dy hk3 hin.at_;subst NJ;replace hrow:=fun j u hj=>aL hgm (hrow j u hj);rw [lu hk3,UZ] at bQ;refine kP H (Kc fZ (SQ fun _ gN=>SB (SR fun _ iW=>Ri mY iR rfl rfl ?_)));clear H fZ;intro a H;refine aW iR (cs:=[_,_,_,_,_,_,_]) H wn rfl rfl (fun j v hj=>H.hp.aI (hrow j v hj)) rfl ?_;clear H;intro a H;refine dx iR H wn rfl ?_;clear H;intro b7 a w rW H;refine aX iR 0 (vs:=[_,_,_,_,_,_,_]) _ H wn rfl rfl rfl rfl rfl rfl rfl rfl ?_;clear H;intro w H;dsimp only [List.set,setRow] at H;refine iW _ _ ?_;clear iW;refine kP H (SR fun _ iN=>aO Ao aC 0 rfl rfl (aO BP jL 0 rfl rfl ?_));clear H;intro a H;refine s_call MC H wn rfl (O1 ih _ _ H.ro (jd x)[ck].flow (jd x)[ck].id _ (by have:=Uj (jT hk3);omega) (hcf.mono hgm)) rfl ?_;clear H;rintro v41 Fg a w ⟨bl,bi,rfl,hit⟩ xM H;refine iN _ _ ?_;clear iN;refine oG ?_;skip;refine vS (ι:=OL) (κ:=OL) (Lc:=[(_,_),(_,_)]) (fun (k:Nat) (gh:OL)=>[]) (fun (k:Nat) (gh:OL)=>(jO ds++gh)) (fun (k:Nat) (gh:OL) (g:GH)=>J (j1+k) g gh) (fun (gx:OL)=>Code.ret) (fun (gx:OL)=>[]) (fun (gx:OL)=>(jO ds++gx)) (fun (gx:OL) (g:GH)=>Jx g gx) (Lt) (by exact H) rfl I5 (hit) (fun _ _ h=>h) rfl (fun k args g h=>by obtain ⟨_,_,rfl,_⟩:=xU h;rfl) (fun k i G G' hm h=>jY _ _ _ _ hm h) (fun x G G' hm h=>hJx _ _ _ hm h) (jY _ _ _ _ xM bQ.now) ?_ ?_ ?_
  ·clear H;intro l13 qG oF bk k args gh vK w13 Xc WV a NM pR hI NC NZ Oh H;obtain ⟨oD,hgh⟩:∃ x,x=gh:=⟨_,rfl⟩;subst hgh;obtain ⟨hk,IU,rfl,uD⟩:=xU NM;obtain ⟨aA,an,ac,bA,bn,bc,IV,IY,IW,IZ,Jb,I4,JK,JM,JL,rfl,-⟩:=uD.item;dsimp only [nT,List.cons_append,List.nil_append] at H;refine bK (fun _ iO=>?_);refine dx fM H wn rfl ?_;clear H;intro b8 a w uj H;refine aX fM 0 (vs:=[_,_]) _ H wn rfl rfl rfl rfl rfl rfl rfl rfl ?_;clear H;intro w H;dsimp only [List.set,setRow] at H;refine iO _ _ ?_;clear iO;refine mh ?_;refine dx eX H wn rfl ?_;clear H;intro b9 a w um H;refine aX eX 0 (vs:=[_,_,_,_,_,_,_,_,_,_,_]) _ H wn rfl rfl rfl rfl rfl rfl rfl rfl ?_;clear H;intro w H;dsimp only [List.set,setRow] at H;refine aH ?_;refine NC _ _ _ _ _ _ (by exact H.bU (Pl:=[_,_,_,_,_]) (bN:=[_,_,_,_,_]) [2,0,1,3,4] (by decide) rfl) ?_;clear H;intro w H;refine kP H (SB (SR fun _ jM=>Ro EL 4 rfl ?_));clear H;intro a H;refine aW fM (cs:=[_,_]) H wn rfl rfl (H.hp.bT 2 rfl rfl) rfl ?_;clear H;intro a H;refine aW eX (cs:=[_,_,_,_,_,_,_,_,_,_,_]) H wn rfl rfl (H.hp.bT 1 rfl rfl) rfl ?_;clear H;intro a H;refine uJ (Li:=([_,_,_,_,_]++bk)++jO ds) (L:=oD) (St.un (A:=[_,_,_,_,_]++bk) (St.un (A:=[_,_,_,_,_]) H)) wn rfl rfl (hcb (j1+k) _ _ _ _ ⟨_,bQ.part k _ (gy hk),_,rfl,uD⟩ (fun b o h=>pR b o (xM b o (hgm b o (oN b o h)))) hI (Hp.owns (Li:=([_,_,_,_,_]++bk)++jO ds) (St.un (A:=[_,_,_,_,_]++bk) (St.un (A:=[_,_,_,_,_]) H)).hp)) rfl ?_;clear H;rintro v47 Ik Fz a w ⟨XP,rfl,hb1,hb2⟩ adM H
   simp only [mg,lN,ko] at H
   refine kH H (Rn rfl (Kz jM (Cd rfl ?_ ?_))) <;> clear H jM
   ·intro h48 a H
    refine bF ?_;refine (Oh (Fz) _ _ _ _ _ (by exact H.bU (Pl:=[_,_,_,_,_]) (bN:=[_,_,_]) [0,3,4] (by decide) rfl) ?_).1 rfl;exact hb2 (by simpa using h48)
   intro h48 a H
   refine fQ ?_;refine NZ (Fz) _ _ _ _ _ (by exact H.bU (Pl:=[_,_,_,_,_]) (bN:=[_,_,_]) [0,3,4] (by decide) rfl) ?_;exact hb1 (by simpa using h48)
  ·clear H;intro E9 gh Fh a w pR hI H;obtain ⟨oD,hgh⟩:∃ x,x=gh:=⟨_,rfl⟩;subst hgh;dsimp only [lca,aV] at H;refine gN _ _ ?_;clear gN;refine kP H (SC (Rd rfl (Rm rfl ?_)));clear H;intro a H;refine aH ?_;refine Cz ((ck+1,j1+(kM (jd x)[ck].id 0 (jd x)[ck].flow).length,oD,Fh,E9 :: ds)) (by exact (H.bU (Pl:=[_,_,_]) (bN:=[_,_]) [2,0] (by decide) rfl).sub ⟨rfl,rfl,rfl,rfl,aD⟩) ?_ ?_
   ·(try dsimp only);exact ⟨by omega,fun b o h=>pR b o (xM b o (hgm b o h)),bQ.jump (by simpa using hI)⟩
   first|omega|(dsimp only;omega)
  clear H;intro E9 gx Fh a w pR hI H;obtain ⟨Lx,hgh⟩:∃ x,x=gx:=⟨_,rfl⟩;subst hgh;dsimp only [lca,aV] at H;refine bF ?_;refine (qy H 0 rfl ?_).1;clear H;intro a w H;dsimp only [List.eraseIdx_cons_succ,List.eraseIdx_cons_zero] at H;refine (vB (Lh:=[_,_]) _ H ?_).1;clear H;intro a w H;dsimp only [lca,aV] at H;refine (leave0 H results157 ?_).1
  first
   | exact H.hp.cu (L':=Lx) (by repeat (first|exact cZ _|apply List.Sublist.cons)) (.inr hI)
   | exact H.hp.cu (L':=Lt) (by repeat (first|exact cZ _|apply List.Sublist.cons)) (.inl (by rw [gK (by omega),jP] at bQ;have:=bQ.len;simp only [List.length_nil,lZ] at this;rw [bW,← this];exact bQ.now))
 intro eT a H
 try have p34:=dF eT
 refine fI ?_;refine (vB (Lh:=[_]) _ H ?_).2;clear H;intro a w H;dsimp only [lca,aV] at H;refine (leave0 H results157 ?_).1
 first
  | exact H.hp.cu (L':=Lx) (by repeat (first|exact cZ _|apply List.Sublist.cons)) (.inr hI)
  | exact H.hp.cu (L':=Lt) (by repeat (first|exact cZ _|apply List.Sublist.cons)) (.inl (by rw [gK (by omega),jP] at bQ;have:=bQ.len;simp only [List.length_nil,lZ] at this;rw [bW,← this];exact bQ.now))
theorem Wx {n:Nat} (ih:Dl n) (hn:n≤4294967296) (G:GH) (w0:World) (hG:Hold G w0) (x:aB) (cs:List aj) (hsz:cB x.dat≤n) (hv:aS G x.dat cs) :
  Calls prog 117 #[.agg cs.toArray] w0 (aZ w0 G fun u G'=>∃ bx,u=.func (.func 157) #[] #[(aJ bx 0)]∧Iter prog G' u ((jP (jd x)).map vD)):=by
 obtain ⟨pA,pn,pc,dA,dn,dc,yA,yn,yc,fA,fn,fc,rA,rn,rc,hcs,-⟩:=hv.item;have hv2:=hv;rw [hcs] at hv2 ⊢;refine eN [(0,_)] func117 rfl ntmps117 rfl rfl hG ?_;intro a H;refine bK (fun _ K1=>?_);refine dz (cs:=[_,_,_,_,_,_,_,_,_,_,_]) H wn rfl rfl rfl ?_;clear H;intro b1 a w hb1 H;refine kH H (ak K1 rfl (SR fun _ K2=>?_));clear H K1;intro a H;refine nK H wn rfl rfl ?_;clear H;intro a H;refine kH H (ak K2 rfl ?_);clear H K2;intro a H;refine bF ?_;obtain ⟨G2,hm2,hb1,H⟩:=H.dQ;refine lv H results117 rfl ?_;exact H.rt ⟨b1,rfl,ais ih hn hsz hb1 (hv2.mono hm2)⟩
theorem XG (x:aB):pW x < cB x.dat:=by
 have h1:=ou x;have h2:=yL x.text
 unfold pW;split <;> omega
set_option maxHeartbeats 1000000 in
theorem afH {n:Nat} (ih:Dl n) (hn:n≤4294967296):Dl (n+1):=by
 intro G l id bl bi v hz hbl hbi hv J Jx fv G1 L w0 AB hGi jY hJx hJ hO hcb;refine kG (caps:=[(aJ bl 0),(aJ bi 0)]) I5 ?_;obtain ⟨A,c,rfl,hc1,hc2,hg⟩:=hv.slice;rw [bW] at *;have hll:=E8 l;replace hbl:=aL hGi hbl;replace hbi:=aL hGi hbi;refine jh (N:=55) (T:=[(0,_),(1,_),(2,_)]) func116 rfl ntmps116 rfl rfl hO ?_;intro a H;refine bK (fun _ K1=>?_);refine dz (cs:=[fv]) H wn rfl AB rfl ?_;clear H;intro b3 a w hb3 H;refine K1 _ _ ?_;clear K1;refine kP H (SR fun _ K2=>ak K2 rfl (SR fun _ K3=>Rg jL rfl (by assumption) ?_));clear H K2;intro a H;refine kH H (Rl oq rfl (Rm rfl (Kz K3 (SB ?_))));clear H K3;intro a H;skip;refine IG (ι:=Nat × Int × Nat × OL × GH × List Nat) (Tc:=[(2,_),(3,_),(12,_),(13,_)]) (Lc:=[(_,_)]) (fun gh=>Et gh.2.2.2.2.2) (fun gh=>[(4,vi gh.2.1),(14,vi gh.1)]) (fun gh=>[]++(jO gh.2.2.2.2.2++gh.2.2.2.1)) (fun gh=>gh.2.2.2.2.1) (fun gh=>gh.1≤l.length∧(∀ b o,G1 b=some o→gh.2.2.2.2.1 b=some o)∧Now ((kM id 0 l).map vD) vD J (kM id 0 l).length gh.2.2.1 (kM id gh.2.1 (l.drop gh.1)) gh.2.2.2.2.1 gh.2.2.2.1∧0≤gh.2.1∧gh.2.1+bG (l.drop gh.1)≤n) (fun gh=>l.length - gh.1) ((0,0,0,L,G1,[])) (by exact (H).sub ⟨rfl,rfl,rfl,rfl,rfl,rfl,aD⟩) ?_ ?_
 ·exact ⟨by omega,fun _ _ h=>h,⟨hJ,fun i a h=>by rw [mQ,mM];rw [sM] at h;rw [h];rfl,by simp⟩,Int.le_refl _,by simp;omega⟩
 clear H;intro gh a w hI H;obtain ⟨k,at_,j1,Lt,g,ds⟩:=gh;dsimp only at hI H;obtain ⟨hk,hgm,bQ,aiM,hat⟩:=hI;dsimp only [lca,aV] at H;refine kP H (SR fun _ K4=>Rc rfl (Kz K4 (SQ fun _ K5=>Cd rfl ?_ ?_))) <;> clear H K4
 ·intro jX a H
  try have oP:=dT jX
  have hk2:k < l.length:=by omega
  obtain ⟨b,o,pA,pn,pc,dA,dn,dc,yA,yn,yc,fA,fn,fc,rA,rn,rc,rfl,hrow,hhd,hfl,hrw⟩:=Gd hk2 hg;have uo:∀ b o,G b=some o→g b=some o:=fun b o h=>hgm b o (hGi b o h);replace hrow:=fun j u hj=>aL uo (hrow j u hj);have aiU:=aL hgm hbi;have hsz1:=ou l[k];have hsz2:=PW (jT hk2);have aiL:=XG l[k];rw [lu hk2] at bQ hat;rw [bG,fG,dZ] at hat;rw [kM] at bQ;refine kP H (Kc K5 (SQ fun _ K6=>SB (SR fun _ K7=>Ri oq eX rfl rfl ?_)));clear H K5;intro a H;refine aW eX (cs:=[_,_,_,_,_,_,_,_,_,_,_]) H wn rfl rfl (fun j v hj=>H.hp.aI (hrow j v hj)) rfl ?_;clear H;intro a H;refine dx eX H wn rfl ?_;clear H;intro b6 a w hb6 H;refine aX eX 0 (vs:=[_,_,_,_,_,_,_,_,_,_,_]) _ H wn rfl rfl rfl rfl rfl rfl rfl rfl ?_;clear H;intro w H;dsimp only [List.set,setRow] at H;refine K7 _ _ ?_;clear K7;refine kP H (SR fun _ K8=>Rg aC rfl (by assumption) ?_);clear H;intro a H;refine kH H (Rm rfl ?_);clear H;intro a H;refine jw zI [_,_] H wn rfl rfl rfl rfl ?_;clear H;intro a H;refine dx fM H wn rfl ?_;clear H;intro b7 a w rW H;refine aX fM 0 (vs:=[_,_]) _ H wn rfl rfl rfl rfl rfl rfl rfl rfl ?_;clear H;intro w H;dsimp only [List.set,setRow] at H;refine K8 _ _ ?_;clear K8;refine kP H (SR fun _ K9=>Rm rfl (Rd rfl (ak K9 rfl (SR fun _ aQ=>aO kV aC 1 rfl rfl (Kz aQ (SB (SR fun _ bH=>Rc rfl (ak bH rfl (Cd rfl ?_ ?_))))))))) <;> clear H K9 aQ bH
  ·intro nC a H
   try have p25:=dT nC
   have hcl:=yL l[k].text;refine kP H (SR fun _ bR=>aO xE iB 1 rfl rfl ?_);clear H;intro a H;refine s_call MG H wn rfl (Mc _ _ H.ro _ (by omega)) rfl ?_;clear H;rintro v30 yC a w ⟨rfl,rfl⟩ wC H;refine kH H (Rm rfl ?_);clear H;intro a H;(iterate 2 refine jy H wn rfl rfl rfl ?_;clear H;intro a H);refine kH H (Ra rfl (ak bR rfl (SC (Rm rfl (Rm rfl (Rs rfl (Rd rfl (Ra rfl ?_))))))));clear H bR;intro a H
   have e:at_+1+((jg l[k].text:Int) - 1)=at_+(pW l[k]:Int):=by rw [pW,au p25];omega
   rw [e] at H;refine kH H (Kn K6 (SC (Rd rfl (Rm rfl ?_))));clear H K6;intro a H;refine aH ?_;refine Cz ((k+1,at_+pW l[k],j1,Lt,g,ds)) (by exact (H.bU (Pl:=[_,_,_]) (bN:=[_]) [2] (by decide) rfl).sub ⟨rfl,rfl,rfl,rfl,rfl,rfl,aD⟩) ?_ ?_
   ·(try dsimp only);exact ⟨by omega,hgm,by rw [EA,ah (by omega),ko] at bQ;exact bQ,by omega,by show at_+(pW l[k]:Int)+(dZ ((l.drop (k+1)).map aB.dat):Nat)≤n;omega⟩
   first|omega|(dsimp only;omega)
  intro nC a H
  try have p25:=dF nC
  have e:at_+1=at_+(pW l[k]:Int):=by rw [pW,ah p25];rfl
  rw [e] at H;refine kP H (SQ fun _ bY=>SR fun _ bX=>Rc rfl (ak bX rfl (Cd rfl ?_ ?_))) <;> clear H bX
  ·intro h37 a H
   try have p37:=dT h37
   have Ca:l[k].kind=6∨l[k].kind=7:=by first|exact .inl p37|exact .inr p37
   rw [EA,au Ca] at bQ;refine kP H (Kc bY (Ct rfl h37 (SQ fun _ dO=>SR fun _ dJ=>Ro EL 2 rfl ?_)));clear H bY;intro a H;refine aW fM (cs:=[_,_]) H wn rfl rfl (H.hp.bT 0 rfl rfl) rfl ?_;clear H;intro a H;refine aW eX (cs:=[_,_,_,_,_,_,_,_,_,_,_]) H wn rfl rfl (H.hp.bT 1 rfl rfl) rfl ?_;clear H;intro a H;refine uJ (Li:=[_,_,_]++jO ds) (L:=Lt) (St.un (A:=[_,_,_]) H) wn rfl rfl (hcb j1 _ _ _ _ ⟨_,bQ.head,_,rfl,aS.mkItem (hhd.mono uo) (hfl.mono uo) (hrw.mono uo)⟩ hgm bQ.now (Hp.owns (Li:=[_,_,_]++jO ds) (St.un (A:=[_,_,_]) H).hp)) rfl ?_;clear H;rintro v43 Df zZ a w ⟨IB,rfl,hb1,hb2⟩ nZ H
   simp only [mg,lN,ko] at H
   refine kH H (Rn rfl (Kz dJ (Cd rfl ?_ ?_))) <;> clear H dJ
   ·intro lH a H
    try have p44:=dT lH
    refine bF ?_;refine (vB (Lh:=[_,_,_]) _ H ?_).1;clear H;intro a w H;dsimp only [lca,aV] at H;refine (leave0 H results116 ?_).1
    first
     | exact H.hp.cu (L':=Lx) (by repeat (first|exact cZ _|apply List.Sublist.cons)) (.inr hI)
     | exact H.hp.cu (L':=zZ) (by repeat (first|exact cZ _|apply List.Sublist.cons)) (.inr (hb2 (by simpa using lH)))
     | exact H.hp.cu (L':=Lt) (by repeat (first|exact cZ _|apply List.Sublist.cons)) (.inl (by rw [gK (by omega),kM] at bQ;have:=bQ.len;simp only [List.length_nil,lZ] at this;(try rw [bW]);rw [← this];exact bQ.now))
   intro lH a H
   try have p44:=dF lH
   have vk:=bQ.step (hb1 (by simpa using lH));refine fQ ?_;refine dO _ _ ?_;clear dO;refine bK (fun _ dD=>?_);refine aW eX (cs:=[_,_,_,_,_,_,_,_,_,_,_]) H wn rfl rfl (H.hp.bT 1 rfl rfl) rfl ?_;clear H;intro a H;refine s_call RX H wn rfl (Wx ih hn _ _ H.ro l[k] _ (by omega) (aS.mkItem (hhd.mono fun b o h=>nZ b o (uo b o h)) (hfl.mono fun b o h=>nZ b o (uo b o h)) (hrw.mono fun b o h=>nZ b o (uo b o h)))) rfl ?_;clear H;rintro v46 KU a w ⟨bx,rfl,hit⟩ zq H;refine dD _ _ ?_;clear dD;refine oG ?_;skip;refine vS (ι:=OL) (κ:=OL) (Lc:=[(_,_),(_,_),(_,_)]) (fun (k:Nat) (gh:OL)=>[]) (fun (k:Nat) (gh:OL)=>(jO ds++gh)) (fun (k:Nat) (gh:OL) (g:GH)=>J (j1+1+k) g gh) (fun (gx:OL)=>Code.ret) (fun (gx:OL)=>[]) (fun (gx:OL)=>(jO ds++gx)) (fun (gx:OL) (g:GH)=>Jx g gx) (zZ) (by exact H) rfl Mq (hit) (fun _ _ h=>h) rfl (fun k args g h=>by obtain ⟨_,_,rfl,_⟩:=xU h;rfl) (fun k i G G' hm h=>jY _ _ _ _ hm h) (fun x G G' hm h=>hJx _ _ _ hm h) (jY _ _ _ _ zq vk.now) ?_ ?_ ?_
   ·clear H;intro l15 qG oF bk k args gh Bw w15 Xd WW a NP uw hI ND N7 Oi H;obtain ⟨oD,hgh⟩:∃ x,x=gh:=⟨_,rfl⟩;subst hgh;obtain ⟨NQ,IU,rfl,uD⟩:=xU NP;obtain ⟨aA,an,ac,bA,bn,bc,IV,IY,IW,IZ,Jb,I4,JK,JM,JL,rfl,-⟩:=uD.item;dsimp only [nT,List.cons_append,List.nil_append] at H;refine bK (fun _ dU=>?_);refine dx fM H wn rfl ?_;clear H;intro b10 a w Ny H;refine aX fM 0 (vs:=[_,_]) _ H wn rfl rfl rfl rfl rfl rfl rfl rfl ?_;clear H;intro w H;dsimp only [List.set,setRow] at H;refine dU _ _ ?_;clear dU;refine mh ?_;refine dx eX H wn rfl ?_;clear H;intro b11 a w Ce H;refine aX eX 0 (vs:=[_,_,_,_,_,_,_,_,_,_,_]) _ H wn rfl rfl rfl rfl rfl rfl rfl rfl ?_;clear H;intro w H;dsimp only [List.set,setRow] at H;refine aH ?_;refine ND _ _ _ _ _ _ (by exact H.bU (Pl:=[_,_,_,_,_,_]) (bN:=[_,_,_,_,_,_]) [2,0,1,3,4,5] (by decide) rfl) ?_;clear H;intro w H;refine kP H (SB (SR fun _ fP=>Ro EL 5 rfl ?_));clear H;intro a H;refine aW fM (cs:=[_,_]) H wn rfl rfl (H.hp.bT 2 rfl rfl) rfl ?_;clear H;intro a H;refine aW eX (cs:=[_,_,_,_,_,_,_,_,_,_,_]) H wn rfl rfl (H.hp.bT 1 rfl rfl) rfl ?_;clear H;intro a H;refine uJ (Li:=([_,_,_,_,_,_]++bk)++jO ds) (L:=oD) (St.un (A:=[_,_,_,_,_,_]++bk) (St.un (A:=[_,_,_,_,_,_]) H)) wn rfl rfl (hcb (j1+1+k) _ _ _ _ ⟨_,vk.part k _ (gy NQ),_,rfl,uD⟩ (fun b o h=>uw b o (zq b o (nZ b o (hgm b o h)))) hI (Hp.owns (Li:=([_,_,_,_,_,_]++bk)++jO ds) (St.un (A:=[_,_,_,_,_,_]++bk) (St.un (A:=[_,_,_,_,_,_]) H)).hp)) rfl ?_;clear H;rintro v52 Im FB a w ⟨XQ,rfl,hb3,hb4⟩ NT H
    simp only [mg,lN,ko] at H
    refine kH H (Rn rfl (Kz fP (Cd rfl ?_ ?_))) <;> clear H fP
    ·intro nD a H
     refine bF ?_;refine (Oi (FB) _ _ _ _ _ (by exact H.bU (Pl:=[_,_,_,_,_,_]) (bN:=[_,_,_,_]) [0,3,4,5] (by decide) rfl) ?_).1 rfl;exact hb4 (by simpa using nD)
    intro nD a H
    refine fQ ?_;refine N7 (FB) _ _ _ _ _ (by exact H.bU (Pl:=[_,_,_,_,_,_]) (bN:=[_,_,_,_]) [0,3,4,5] (by decide) rfl) ?_;exact hb3 (by simpa using nD)
   ·clear H;intro Fa gh Fj a w uw hI H;obtain ⟨oD,hgh⟩:∃ x,x=gh:=⟨_,rfl⟩;subst hgh;dsimp only [lca,aV] at H;refine K6 _ _ ?_;clear K6;refine kP H (SC (Rd rfl (Rm rfl ?_)));clear H;intro a H;refine aH ?_;refine Cz ((k+1,at_+pW l[k],j1+1+(jP (jd l[k])).length,oD,Fj,Fa :: ds)) (by exact (H.bU (Pl:=[_,_,_,_]) (bN:=[_,_]) [3,0] (by decide) rfl).sub ⟨rfl,rfl,rfl,rfl,rfl,rfl,aD⟩) ?_ ?_
    ·(try dsimp only);exact ⟨by omega,fun b o h=>uw b o (zq b o (nZ b o (hgm b o h))),vk.jump (by simpa using hI),by omega,by show at_+(pW l[k]:Int)+(dZ ((l.drop (k+1)).map aB.dat):Nat)≤n;omega⟩
    first|omega|(dsimp only;omega)
   clear H;intro Fa gx Fj a w uw hI H;obtain ⟨Lx,hgh⟩:∃ x,x=gx:=⟨_,rfl⟩;subst hgh;dsimp only [lca,aV] at H;refine bF ?_;refine (qy H 0 rfl ?_).1;clear H;intro a w H;dsimp only [List.eraseIdx_cons_succ,List.eraseIdx_cons_zero] at H;refine (vB (Lh:=[_,_,_]) _ H ?_).1;clear H;intro a w H;dsimp only [lca,aV] at H;refine (leave0 H results116 ?_).1
   first
    | exact H.hp.cu (L':=Lx) (by repeat (first|exact cZ _|apply List.Sublist.cons)) (.inr hI)
    | exact H.hp.cu (L':=zZ) (by repeat (first|exact cZ _|apply List.Sublist.cons)) (.inr (hb2 (by simpa using lH)))
    | exact H.hp.cu (L':=Lt) (by repeat (first|exact cZ _|apply List.Sublist.cons)) (.inl (by rw [gK (by omega),kM] at bQ;have:=bQ.len;simp only [List.length_nil,lZ] at this;(try rw [bW]);rw [← this];exact bQ.now))
  intro h37 a H
  try have p37:=dF h37
  first
   | (have hn6:¬ l[k].kind=6:=p37)
   | (have hn7:¬ l[k].kind=7:=p37)
  refine kP H (SC (Rc rfl (aU bY rfl (Cd rfl ?_ ?_)))) <;> clear H bY
  ·intro h37 a H
   try have p37:=dT h37
   have Ca:l[k].kind=6∨l[k].kind=7:=by first|exact .inl p37|exact .inr p37
   rw [EA,au Ca] at bQ;refine kP H (SQ fun _ eG=>SR fun _ fZ=>Ro EL 2 rfl ?_);clear H;intro a H;refine aW fM (cs:=[_,_]) H wn rfl rfl (H.hp.bT 0 rfl rfl) rfl ?_;clear H;intro a H;refine aW eX (cs:=[_,_,_,_,_,_,_,_,_,_,_]) H wn rfl rfl (H.hp.bT 1 rfl rfl) rfl ?_;clear H;intro a H;refine uJ (Li:=[_,_,_]++jO ds) (L:=Lt) (St.un (A:=[_,_,_]) H) wn rfl rfl (hcb j1 _ _ _ _ ⟨_,bQ.head,_,rfl,aS.mkItem (hhd.mono uo) (hfl.mono uo) (hrw.mono uo)⟩ hgm bQ.now (Hp.owns (Li:=[_,_,_]++jO ds) (St.un (A:=[_,_,_]) H).hp)) rfl ?_;clear H;rintro v43 Df zZ a w ⟨IB,rfl,hb1,hb2⟩ nZ H
   simp only [mg,lN,ko] at H
   refine kH H (Rn rfl (Kz fZ (Cd rfl ?_ ?_))) <;> clear H fZ
   ·intro lH a H
    try have p44:=dT lH
    refine bF ?_;refine (vB (Lh:=[_,_,_]) _ H ?_).1;clear H;intro a w H;dsimp only [lca,aV] at H;refine (leave0 H results116 ?_).1
    first
     | exact H.hp.cu (L':=Lx) (by repeat (first|exact cZ _|apply List.Sublist.cons)) (.inr hI)
     | exact H.hp.cu (L':=zZ) (by repeat (first|exact cZ _|apply List.Sublist.cons)) (.inr (hb2 (by simpa using lH)))
     | exact H.hp.cu (L':=Lt) (by repeat (first|exact cZ _|apply List.Sublist.cons)) (.inl (by rw [gK (by omega),kM] at bQ;have:=bQ.len;simp only [List.length_nil,lZ] at this;(try rw [bW]);rw [← this];exact bQ.now))
   intro lH a H
   try have p44:=dF lH
   have vk:=bQ.step (hb1 (by simpa using lH));refine fQ ?_;refine eG _ _ ?_;clear eG;refine bK (fun _ gN=>?_);refine aW eX (cs:=[_,_,_,_,_,_,_,_,_,_,_]) H wn rfl rfl (H.hp.bT 1 rfl rfl) rfl ?_;clear H;intro a H;refine s_call RX H wn rfl (Wx ih hn _ _ H.ro l[k] _ (by omega) (aS.mkItem (hhd.mono fun b o h=>nZ b o (uo b o h)) (hfl.mono fun b o h=>nZ b o (uo b o h)) (hrw.mono fun b o h=>nZ b o (uo b o h)))) rfl ?_;clear H;rintro v46 KU a w ⟨bx,rfl,hit⟩ zq H;refine gN _ _ ?_;clear gN;refine oG ?_;skip;refine vS (ι:=OL) (κ:=OL) (Lc:=[(_,_),(_,_),(_,_)]) (fun (k:Nat) (gh:OL)=>[]) (fun (k:Nat) (gh:OL)=>(jO ds++gh)) (fun (k:Nat) (gh:OL) (g:GH)=>J (j1+1+k) g gh) (fun (gx:OL)=>Code.ret) (fun (gx:OL)=>[]) (fun (gx:OL)=>(jO ds++gx)) (fun (gx:OL) (g:GH)=>Jx g gx) (zZ) (by exact H) rfl Mq (hit) (fun _ _ h=>h) rfl (fun k args g h=>by obtain ⟨_,_,rfl,_⟩:=xU h;rfl) (fun k i G G' hm h=>jY _ _ _ _ hm h) (fun x G G' hm h=>hJx _ _ _ hm h) (jY _ _ _ _ zq vk.now) ?_ ?_ ?_
   ·clear H;intro l15 qG oF bk k args gh Bw w15 Xd WW a NP uw hI ND N7 Oi H;obtain ⟨oD,hgh⟩:∃ x,x=gh:=⟨_,rfl⟩;subst hgh;obtain ⟨NQ,IU,rfl,uD⟩:=xU NP;obtain ⟨aA,an,ac,bA,bn,bc,IV,IY,IW,IZ,Jb,I4,JK,JM,JL,rfl,-⟩:=uD.item;dsimp only [nT,List.cons_append,List.nil_append] at H;refine bK (fun _ iW=>?_);refine dx fM H wn rfl ?_;clear H;intro b10 a w Ny H;refine aX fM 0 (vs:=[_,_]) _ H wn rfl rfl rfl rfl rfl rfl rfl rfl ?_;clear H;intro w H;dsimp only [List.set,setRow] at H;refine iW _ _ ?_;clear iW;refine mh ?_;refine dx eX H wn rfl ?_;clear H;intro b11 a w Ce H;refine aX eX 0 (vs:=[_,_,_,_,_,_,_,_,_,_,_]) _ H wn rfl rfl rfl rfl rfl rfl rfl rfl ?_;clear H;intro w H;dsimp only [List.set,setRow] at H;refine aH ?_;refine ND _ _ _ _ _ _ (by exact H.bU (Pl:=[_,_,_,_,_,_]) (bN:=[_,_,_,_,_,_]) [2,0,1,3,4,5] (by decide) rfl) ?_;clear H;intro w H;refine kP H (SB (SR fun _ iN=>Ro EL 5 rfl ?_));clear H;intro a H;refine aW fM (cs:=[_,_]) H wn rfl rfl (H.hp.bT 2 rfl rfl) rfl ?_;clear H;intro a H;refine aW eX (cs:=[_,_,_,_,_,_,_,_,_,_,_]) H wn rfl rfl (H.hp.bT 1 rfl rfl) rfl ?_;clear H;intro a H;refine uJ (Li:=([_,_,_,_,_,_]++bk)++jO ds) (L:=oD) (St.un (A:=[_,_,_,_,_,_]++bk) (St.un (A:=[_,_,_,_,_,_]) H)) wn rfl rfl (hcb (j1+1+k) _ _ _ _ ⟨_,vk.part k _ (gy NQ),_,rfl,uD⟩ (fun b o h=>uw b o (zq b o (nZ b o (hgm b o h)))) hI (Hp.owns (Li:=([_,_,_,_,_,_]++bk)++jO ds) (St.un (A:=[_,_,_,_,_,_]++bk) (St.un (A:=[_,_,_,_,_,_]) H)).hp)) rfl ?_;clear H;rintro v52 Im FB a w ⟨XQ,rfl,hb3,hb4⟩ NT H
    simp only [mg,lN,ko] at H
    refine kH H (Rn rfl (Kz iN (Cd rfl ?_ ?_))) <;> clear H iN
    ·intro nD a H
     refine bF ?_;refine (Oi (FB) _ _ _ _ _ (by exact H.bU (Pl:=[_,_,_,_,_,_]) (bN:=[_,_,_,_]) [0,3,4,5] (by decide) rfl) ?_).1 rfl;exact hb4 (by simpa using nD)
    intro nD a H
    refine fQ ?_;refine N7 (FB) _ _ _ _ _ (by exact H.bU (Pl:=[_,_,_,_,_,_]) (bN:=[_,_,_,_]) [0,3,4,5] (by decide) rfl) ?_;exact hb3 (by simpa using nD)
   ·clear H;intro Fa gh Fj a w uw hI H;obtain ⟨oD,hgh⟩:∃ x,x=gh:=⟨_,rfl⟩;subst hgh;dsimp only [lca,aV] at H;refine K6 _ _ ?_;clear K6;refine kP H (SC (Rd rfl (Rm rfl ?_)));clear H;intro a H;refine aH ?_;refine Cz ((k+1,at_+pW l[k],j1+1+(jP (jd l[k])).length,oD,Fj,Fa :: ds)) (by exact (H.bU (Pl:=[_,_,_,_]) (bN:=[_,_]) [3,0] (by decide) rfl).sub ⟨rfl,rfl,rfl,rfl,rfl,rfl,aD⟩) ?_ ?_
    ·(try dsimp only);exact ⟨by omega,fun b o h=>uw b o (zq b o (nZ b o (hgm b o h))),vk.jump (by simpa using hI),by omega,by show at_+(pW l[k]:Int)+(dZ ((l.drop (k+1)).map aB.dat):Nat)≤n;omega⟩
    first|omega|(dsimp only;omega)
   clear H;intro Fa gx Fj a w uw hI H;obtain ⟨Lx,hgh⟩:∃ x,x=gx:=⟨_,rfl⟩;subst hgh;dsimp only [lca,aV] at H;refine bF ?_;refine (qy H 0 rfl ?_).1;clear H;intro a w H;dsimp only [List.eraseIdx_cons_succ,List.eraseIdx_cons_zero] at H;refine (vB (Lh:=[_,_,_]) _ H ?_).1;clear H;intro a w H;dsimp only [lca,aV] at H;refine (leave0 H results116 ?_).1
   first
    | exact H.hp.cu (L':=Lx) (by repeat (first|exact cZ _|apply List.Sublist.cons)) (.inr hI)
    | exact H.hp.cu (L':=zZ) (by repeat (first|exact cZ _|apply List.Sublist.cons)) (.inr (hb2 (by simpa using lH)))
    | exact H.hp.cu (L':=Lt) (by repeat (first|exact cZ _|apply List.Sublist.cons)) (.inl (by rw [gK (by omega),kM] at bQ;have:=bQ.len;simp only [List.length_nil,lZ] at this;(try rw [bW]);rw [← this];exact bQ.now))
  intro h37 a H
  try have p37:=dF h37
  first
   | (have hn6:¬ l[k].kind=6:=p37)
   | (have hn7:¬ l[k].kind=7:=p37)
  refine kP H (Kc K6 (SC (Rd rfl (Rm rfl ?_))));clear H K6;intro a H;refine aH ?_;refine Cz ((k+1,at_+pW l[k],j1,Lt,g,ds)) (by exact (H.bU (Pl:=[_,_,_]) (bN:=[_]) [2] (by decide) rfl).sub ⟨rfl,rfl,rfl,rfl,rfl,rfl,aD⟩) ?_ ?_
  ·(try dsimp only);exact ⟨by omega,hgm,by rw [EA,ah (by omega),ko] at bQ;exact bQ,by omega,by show at_+(pW l[k]:Int)+(dZ ((l.drop (k+1)).map aB.dat):Nat)≤n;omega⟩
  first|omega|(dsimp only;omega)
 intro jX a H
 try have oP:=dF jX
 refine fI ?_;refine (vB (Lh:=[_]) _ H ?_).2;clear H;intro a w H;dsimp only [lca,aV] at H;refine (leave0 H results116 ?_).1
 first
  | exact H.hp.cu (L':=Lx) (by repeat (first|exact cZ _|apply List.Sublist.cons)) (.inr hI)
  | exact H.hp.cu (L':=zZ) (by repeat (first|exact cZ _|apply List.Sublist.cons)) (.inr (hb2 (by simpa using lH)))
  | exact H.hp.cu (L':=Lt) (by repeat (first|exact cZ _|apply List.Sublist.cons)) (.inl (by rw [gK (by omega),kM] at bQ;have:=bQ.len;simp only [List.length_nil,lZ] at this;(try rw [bW]);rw [← this];exact bQ.now))
theorem U3:∀ n:Nat,n≤4294967297→Dl n
 | 0,_=>fun _ _ _ _ _ _ h=>absurd h (by omega)
 | n+1,hn=>afH (U3 n (by omega)) (by omega)
theorem afG (G:GH) (w0:World) (hG:Hold G w0) (l:List aB) (id:Int) (v:aj) (hz:bG l≤4294967296) (hv:av G (.sl 11 (l.map aB.dat)) v) :
  Calls prog 60 #[vi id,v] w0 (aZ w0 G fun u G'=>∃ bl bi,u=.func (.func 116) #[] #[(aJ bl 0),(aJ bi 0)]∧Iter prog G' u ((kM id 0 l).map vD)) :=
 O1 (U3 4294967297 (by omega)) G w0 hG l id v (by omega) hv
end
section
open Go.RowKit
theorem ZV:∀ args w,(callFunc 118 args).run prog w=.ok (.enter 118 args) w:=enters func118 rfl (by kernel_rfl)
theorem ZW:∀ args w,(callFunc 119 args).run prog w=.ok (.enter 119 args) w:=enters func119 rfl (by kernel_rfl)
theorem abo:∀ args w,(callFunc 63 args).run prog w=.ok (.enter 63 args) w:=enters func63 rfl (by kernel_rfl)
theorem abm:∀ args w,(callFunc 61 args).run prog w=.ok (.enter 61 args) w:=enters func61 rfl (by kernel_rfl)
theorem abp:∀ args w,(callFunc 64 args).run prog w=.ok (.enter 64 args) w:=enters func64 rfl (by kernel_rfl)
theorem abn:∀ args w,(callFunc 62 args).run prog w=.ok (.enter 62 args) w:=enters func62 rfl (by kernel_rfl)
def rC (fv:aj) (G:GH) (d:List Dat) (b:Bool):Prop:=∀ (G1:GH) (w1:World) (cs:List aj),(∀ b o,G b=some o→G1 b=some o)→Hold G1 w1→aS G1 d cs →
 tT prog fv [.agg cs.toArray] w1 (aZ w1 G1 fun u G'=>u=.bool b)
def nH (o:Option Nat):Int:=match o with|some i=>i|none=>-1
theorem aeC (G:GH) (w0:World) (hG:Hold G w0) (l:List bC) (p:bC→Bool) (v fv:aj) (hv:av G (.sl 6 (l.map bC.dat)) v) (hf:∀ x∈l,rC fv G x.dat (p x)) :
  Calls prog 118 #[v,fv] w0 (aZ w0 G fun u G'=>u=vi (nH (l.findIdx? p))):=by
 obtain ⟨A,c,rfl,hc1,hc2,hg⟩:=hv.slice;have hml:maxLen=9223372036854775807:=rfl;rw [bW] at *;refine eN [(0,_),(1,_)] func118 rfl ntmps118 rfl rfl hG ?_;intro a H;refine kP H (SR fun _ K1=>ak K1 rfl (SQ fun _ K2=>SR fun _ K3=>Rm rfl (Rl pq rfl (Rm rfl (Kz K3 (SB ?_))))));clear H K1 K3;intro a H;skip;refine gq (ι:=Nat × GH) (Tc:=[(0,_),(1,_),(7,_)]) (Lc:=[]) (fun gh=>[(8,vi gh.1)]) (fun gh=>[]) (fun gh=>gh.2) (fun gh=>gh.1≤l.length∧(l.take gh.1).findIdx? p=none∧(∀ b o,G b=some o→gh.2 b=some o)) (fun gh=>l.length - gh.1) ((0,G)) (by exact (H).sub ⟨rfl,rfl,rfl,rfl,aD⟩) ?_ ?_
 ·exact ⟨by omega,rfl,fun _ _ h=>h⟩
 clear H;intro gh a w hI H;obtain ⟨k,g⟩:=gh;dsimp only at hI H;obtain ⟨hk,hno,hgm⟩:=hI;dsimp only [lca,aV] at H;refine kP H (SR fun _ K4=>Rc rfl (Kz K4 (SQ fun _ K5=>Cd rfl ?_ ?_))) <;> clear H K4
 ·intro h9 a H
  try have p9:=dT h9
  have hk2:k < l.length:=by omega
  obtain ⟨b,o,cs,rfl,hcl,hrow,hrep⟩:=hg k l[k].dat (by simp [hk2]);obtain ⟨pA,pn,pc,dA,dn,dc,yA,yn,yc,fA,fn,fc,rfl,-⟩:=hrep.row;replace hrow:=fun j u hj=>aL hgm (hrow j u hj);refine kP H (Kc K5 (SQ fun _ K6=>SB (SR fun _ K7=>Rm rfl (ak K7 rfl (SR fun _ K8=>Rm rfl (Rm rfl (Rm rfl (Ri pq jJ rfl rfl ?_))))))));clear H K5 K7;intro a H;refine aW jJ (cs:=[_,_,_,_,_,_]) H wn rfl rfl (fun j v hj=>H.hp.aI (hrow j v hj)) rfl ?_;clear H;intro a H;refine oU H wn rfl rfl (hf _ (jT hk2) _ _ _ hgm H.ro (hrep.mono hgm)) rfl ?_;clear H;rintro v16 sG a w rfl qw H;refine K8 _ _ ?_;clear K8;refine mV H rfl ?_ ?_
  ·intro h16
   try have p16:=dT h16
   refine kP H (SR fun _ K9=>Rm rfl (ak K9 rfl ?_));clear H K9;intro a H;refine lr H results118 rfl ?_
   first
    | exact H.rt (by rw [tC hk2 hno h16];rfl)
    | exact H.rt (by rw [show l.take k=l from jU (by omega)] at hno;rw [hno];rfl)
  intro h16
  try have p16:=dF h16
  refine kP H (Kc K6 (SC (Rd rfl (Rm rfl ?_))));clear H K6;intro a H;refine aH ?_;refine eO ((k+1,sG)) (by exact (H).sub ⟨rfl,rfl,rfl,rfl,aD⟩) ?_ ?_
  ·(try dsimp only);exact ⟨by omega,Bb hk2 hno h16,fun b o h=>qw b o (hgm b o h)⟩
  first|omega|(dsimp only;omega)
 intro h9 a H
 try have p9:=dF h9
 refine fI ?_;refine K2 _ _ ?_;clear K2;refine kP H (SR fun _ aQ=>ak aQ rfl ?_);clear H aQ;intro a H;refine lr H results118 rfl ?_
 first
  | exact H.rt (by rw [tC hk2 hno h16];rfl)
  | exact H.rt (by rw [show l.take k=l from jU (by omega)] at hno;rw [hno];rfl)
theorem Zf (G:GH) (w0:World) (hG:Hold G w0) (l:List bC) (p:bC→Bool) (v fv:aj) (hv:av G (.sl 6 (l.map bC.dat)) v) (hf:∀ x∈l,rC fv G x.dat (p x)) :
  Calls prog 61 #[v,fv] w0 (aZ w0 G fun u G'=>u=.bool (l.findIdx? p).isSome):=by
 refine eN [(0,_),(1,_)] func61 rfl ntmps61 rfl rfl hG ?_;intro a H;refine kP H (SR fun _ K1=>ak K1 rfl (SR fun _ K2=>Rm rfl (Rm rfl ?_)));clear H K1;intro a H;refine s_call ZV H wn rfl (aeC _ _ H.ro l p _ _ hv hf) rfl ?_;clear H;rintro v7 G7 a w rfl xO H;refine kH H (Rc rfl (ak K2 rfl ?_));clear H K2;intro a H;refine lr H results61 rfl ?_
 exact H.rt (by cases h:l.findIdx? p <;> simp [nH])
theorem aeB (G:GH) (w0:World) (hG:Hold G w0) (l:List aY) (p:aY→Bool) (v fv:aj) (hv:av G (.sl 7 (l.map aY.dat)) v) (hf:∀ x∈l,rC fv G x.dat (p x)) :
  Calls prog 119 #[v,fv] w0 (aZ w0 G fun u G'=>u=vi (nH (l.findIdx? p))):=by
 obtain ⟨A,c,rfl,hc1,hc2,hg⟩:=hv.slice;have hml:maxLen=9223372036854775807:=rfl;rw [bW] at *;refine eN [(0,_),(1,_)] func119 rfl ntmps119 rfl rfl hG ?_;intro a H;refine kP H (SR fun _ K1=>ak K1 rfl (SQ fun _ K2=>SR fun _ K3=>Rm rfl (Rl mY rfl (Rm rfl (Kz K3 (SB ?_))))));clear H K1 K3;intro a H;skip;refine gq (ι:=Nat × GH) (Tc:=[(0,_),(1,_),(7,_)]) (Lc:=[]) (fun gh=>[(8,vi gh.1)]) (fun gh=>[]) (fun gh=>gh.2) (fun gh=>gh.1≤l.length∧(l.take gh.1).findIdx? p=none∧(∀ b o,G b=some o→gh.2 b=some o)) (fun gh=>l.length - gh.1) ((0,G)) (by exact (H).sub ⟨rfl,rfl,rfl,rfl,aD⟩) ?_ ?_
 ·exact ⟨by omega,rfl,fun _ _ h=>h⟩
 clear H;intro gh a w hI H;obtain ⟨k,g⟩:=gh;dsimp only at hI H;obtain ⟨hk,hno,hgm⟩:=hI;dsimp only [lca,aV] at H;refine kP H (SR fun _ K4=>Rc rfl (Kz K4 (SQ fun _ K5=>Cd rfl ?_ ?_))) <;> clear H K4
 ·intro h9 a H
  try have p9:=dT h9
  have hk2:k < l.length:=by omega
  obtain ⟨b,o,cs,rfl,hcl,hrow,hrep⟩:=hg k l[k].dat (by simp [hk2]);obtain ⟨pA,pn,pc,dA,dn,dc,yA,yn,yc,fA,fn,fc,rfl,-⟩:=hrep.cell;replace hrow:=fun j u hj=>aL hgm (hrow j u hj);refine kP H (Kc K5 (SQ fun _ K6=>SB (SR fun _ K7=>Rm rfl (ak K7 rfl (SR fun _ K8=>Rm rfl (Rm rfl (Rm rfl (Ri mY iR rfl rfl ?_))))))));clear H K5 K7;intro a H;refine aW iR (cs:=[_,_,_,_,_,_,_]) H wn rfl rfl (fun j v hj=>H.hp.aI (hrow j v hj)) rfl ?_;clear H;intro a H;refine oU H wn rfl rfl (hf _ (jT hk2) _ _ _ hgm H.ro (hrep.mono hgm)) rfl ?_;clear H;rintro v16 sG a w rfl qw H;refine K8 _ _ ?_;clear K8;refine mV H rfl ?_ ?_
  ·intro h16
   try have p16:=dT h16
   refine kP H (SR fun _ K9=>Rm rfl (ak K9 rfl ?_));clear H K9;intro a H;refine lr H results119 rfl ?_
   first
    | exact H.rt (by rw [tC hk2 hno h16];rfl)
    | exact H.rt (by rw [show l.take k=l from jU (by omega)] at hno;rw [hno];rfl)
  intro h16
  try have p16:=dF h16
  refine kP H (Kc K6 (SC (Rd rfl (Rm rfl ?_))));clear H K6;intro a H;refine aH ?_;refine eO ((k+1,sG)) (by exact (H).sub ⟨rfl,rfl,rfl,rfl,aD⟩) ?_ ?_
  ·(try dsimp only);exact ⟨by omega,Bb hk2 hno h16,fun b o h=>qw b o (hgm b o h)⟩
  first|omega|(dsimp only;omega)
 intro h9 a H
 try have p9:=dF h9
 refine fI ?_;refine K2 _ _ ?_;clear K2;refine kP H (SR fun _ aQ=>ak aQ rfl ?_);clear H aQ;intro a H;refine lr H results119 rfl ?_
 first
  | exact H.rt (by rw [tC hk2 hno h16];rfl)
  | exact H.rt (by rw [show l.take k=l from jU (by omega)] at hno;rw [hno];rfl)
theorem Ze (G:GH) (w0:World) (hG:Hold G w0) (l:List aY) (p:aY→Bool) (v fv:aj) (hv:av G (.sl 7 (l.map aY.dat)) v) (hf:∀ x∈l,rC fv G x.dat (p x)) :
  Calls prog 63 #[v,fv] w0 (aZ w0 G fun u G'=>u=.bool (l.findIdx? p).isSome):=by
 refine eN [(0,_),(1,_)] func63 rfl ntmps63 rfl rfl hG ?_;intro a H;refine kP H (SR fun _ K1=>ak K1 rfl (SR fun _ K2=>Rm rfl (Rm rfl ?_)));clear H K1;intro a H;refine s_call ZW H wn rfl (aeB _ _ H.ro l p _ _ hv hf) rfl ?_;clear H;rintro v7 G7 a w rfl xO H;refine kH H (Rc rfl (ak K2 rfl ?_));clear H K2;intro a H;refine lr H results63 rfl ?_
 exact H.rt (by cases h:l.findIdx? p <;> simp [nH])
def Ow (id:Int) (r:bC):Bool:=(r.cells.findIdx? fun c=>decide (c.id=id)).isSome
def Ep (id:Int) (x:aB):Bool:=decide (x.id=id) || (x.rows.findIdx? (Ow id)).isSome
theorem afE {G:GH} {bi:Nat} {id:Int} (hb:aI G bi 0=some (vi id)) (c:aY):rC (.func (.func 64) #[] #[(aJ bi 0)]) G c.dat (decide (c.id=id)):=by
 intro G1 w0 cs hm hG hr;refine kG (caps:=[(aJ bi 0)]) abp ?_;obtain ⟨pA,pn,pc,dA,dn,dc,yA,yn,yc,fA,fn,fc,rfl,-⟩:=hr.cell;replace hb:=aL hm hb;refine eN [(0,_),(1,_)] func64 rfl ntmps64 rfl rfl hG ?_;intro a H;refine bK (fun _ K1=>?_);refine dz (cs:=[_,_,_,_,_,_,_]) H wn rfl rfl rfl ?_;clear H;intro b2 a w hb2 H;refine kH H (ak K1 rfl (SR fun _ K2=>aO Ao aC 0 rfl rfl (Rg aC rfl (by assumption) ?_)));clear H K1;intro a H;exact kH H (Rc rfl (ak K2 rfl (LR results64 rfl fun H=>H.rt rfl)))
theorem afD {G:GH} {bi:Nat} {id:Int} (hb:aI G bi 0=some (vi id)) (r:bC):rC (.func (.func 62) #[] #[(aJ bi 0)]) G r.dat (Ow id r):=by
 intro G1 w0 cs hm hG hr;refine kG (caps:=[(aJ bi 0)]) abn ?_;obtain ⟨pA,pn,pc,dA,dn,dc,yA,yn,yc,fA,fn,fc,rfl,-,hcl⟩:=hr.row;replace hb:=aL hm hb;refine eN [(0,_),(1,_)] func62 rfl ntmps62 rfl rfl hG ?_;intro a H;refine bK (fun _ K1=>?_);refine dz (cs:=[_,_,_,_,_,_]) H wn rfl rfl rfl ?_;clear H;intro b2 a w hb2 H;refine kH H (ak K1 rfl (SR fun _ K2=>aO yO zN 0 rfl rfl ?_));clear H K1;intro a H;refine nK H wn rfl rfl ?_;clear H;intro a H;refine s_call abo H wn rfl (Ze _ _ H.ro r.cells (fun c=>decide (c.id=id)) _ _ hcl (fun c _=>afE hb c)) rfl ?_;clear H;rintro v7 G7 a w rfl xO H;exact kH H (ak K2 rfl (LR results62 rfl fun H=>H.rt rfl))
def oQ (l:List aB) (id:Int):Option (Int × Int):=((kM 0 0 l).find? fun a=>Ep id a.2).map (·.1)
theorem afF (G:GH) (w0:World) (hG:Hold G w0) (D:jQ) (l:List aB) (id:Int) (hv:av G (.sl 11 (l.map aB.dat)) (fJ D.f)) (hz:bG l≤4294967296) :
  Calls prog 20 #[D.val,vi id] w0 (aZ w0 G fun u G'=>u=.tuple #[.agg #[vi ((oQ l id).getD (0,0)).1,vi ((oQ l id).getD (0,0)).2],.bool (oQ l id).isSome]):=by
 refine eN [(0,_),(1,_)] func20 rfl ntmps20 rfl rfl hG ?_;intro a H;refine bK (fun _ K1=>?_);refine dz (cs:=[_,_,_,_,_,_,_,_,_,_,_]) H wn rfl rfl rfl ?_;clear H;intro b2 a w hb2 H;refine dz (cs:=[_]) H wn rfl rfl rfl ?_;clear H;intro b3 a w hb3 H;refine dx fM H wn rfl ?_;clear H;intro b4 a w hb4 H;refine dx qJ H wn rfl ?_;clear H;intro b5 a w hb5 H;refine K1 _ _ ?_;clear K1;refine bg (fun _ K2=>?_);refine bg (fun _ K3=>?_);have H:=H.bU (Pl:=[_,_,_,_]) (bN:=[_,_,_,_]) [2,0,1,3] (by decide) rfl;obtain ⟨Ga,hma,hb3,H⟩:=H.dQ
 have hbi:aI Ga b3 0=some (vi id):=by unfold aI;rw [hb3];rfl
 refine kP H (SC (aO DW jL 2 rfl rfl ?_));clear H;intro a H;refine s_call MC H wn rfl (afG _ _ H.ro l 0 _ hz (hv.mono hma)) rfl ?_;clear H;rintro v11 sF a w ⟨bl,bi,rfl,hit⟩ zl H;refine aH ?_;refine K3 _ _ ?_;clear K3;refine oG ?_;skip;refine vS (ι:=Unit) (κ:=Int × Int) (Lc:=[(_,_)]) (fun (k:Nat) (gh:Unit)=>[(b4,.cells #[vi 0,vi 0] 64 (0,0)),(b5,.cells #[.bool false] 4 (0,0))]) (fun (k:Nat) (gh:Unit)=>[]) (fun (k:Nat) (gh:Unit) (g:GH)=>((kM 0 0 l).take k).find? (fun a=>Ep id a.2)=none) (fun (gx:Int × Int)=>Code.ret) (fun (gx:Int × Int)=>[(b4,.cells #[vi gx.1,vi gx.2] 64 (0,0)),(b5,.cells #[.bool true] 4 (0,0))]) (fun (gx:Int × Int)=>[]) (fun (gx:Int × Int) (g:GH)=>oQ l id=some gx) (()) (by exact H.bU (Pl:=[_,_,_]) (bN:=[_,_,_]) [2,1,0] (by decide) rfl) rfl I5 (hit) (fun _ _ h=>h) rfl (fun k args g h=>by obtain ⟨_,_,rfl,_⟩:=xU h;rfl) (fun _ _ _ _ _ h=>h) (fun _ _ _ _ h=>h) (rfl) ?_ ?_ ?_
 ·clear H;intro l2 qG oF bk k args gh G2 w2 F2 B2 a hk2 hm2 hI GA GR El H;obtain ⟨hk,IU,rfl,uD⟩:=xU hk2;obtain ⟨aA,an,ac,bA,bn,bc,IV,IY,IW,IZ,Jb,I4,JK,JM,JL,rfl,hh8,hf8,hr8⟩:=uD.item;dsimp only [nT,List.cons_append,List.nil_append] at H;replace hbi:=aL hm2 (aL zl hbi);refine bK (fun _ K4=>?_);refine dx fM H wn rfl ?_;clear H;intro b6 a w hb6 H;refine aX fM 0 (vs:=[_,_]) _ H wn rfl rfl rfl rfl rfl rfl rfl rfl ?_;clear H;intro w H;dsimp only [List.set,setRow] at H;refine K4 _ _ ?_;clear K4;refine mh ?_;refine dx eX H wn rfl ?_;clear H;intro b7 a w rW H;refine aX eX 0 (vs:=[_,_,_,_,_,_,_,_,_,_,_]) _ H wn rfl rfl rfl rfl rfl rfl rfl rfl ?_;clear H;intro w H;dsimp only [List.set,setRow] at H;refine aH ?_;refine GA _ _ _ _ _ _ (by exact H.bU (Pl:=[_,_,_,_,_,_]) (bN:=[_,_,_,_,_,_]) [2,0,1,3,4,5] (by decide) rfl) ?_;clear H;intro w H;refine kP H (SB (SR fun _ K5=>aO yQ zQ 1 rfl rfl ?_));clear H;intro a H;refine nK H wn rfl rfl ?_;clear H;intro a H;refine s_call abm H wn rfl (Zf _ _ H.ro _ (Ow id) _ _ hr8 (fun r _=>afD hbi r)) rfl ?_;clear H;rintro v17 zV a w rfl oM H;replace hbi:=aL oM hbi;refine kH H (ak K5 rfl (SR fun _ K6=>aO Ap aC 1 rfl rfl (Rg aC rfl (by assumption) ?_)));clear H K5;intro a H;refine kH H (Rc rfl (Rm rfl (Sp 22 rfl ?_ ?_))) <;> clear H
  ·intro h22 a H
   try have iL:=dT h22
   refine kH H (Ks h22 rfl (Pt h22 rfl (Kz K6 (Ct rfl rfl (SR fun _ K7=>?_)))));clear H K6;intro a H;refine aW fM (cs:=[_,_]) H wn rfl rfl (H.hp.bT 2 rfl rfl) rfl ?_;clear H;intro a H;refine aX fM 4 (vs:=[_,_]) _ H wn rfl rfl rfl rfl rfl rfl rfl rfl ?_;clear H;intro w H;dsimp only [List.set,setRow] at H;refine aX qJ 5 (vs:=[_]) _ H wn rfl rfl rfl rfl rfl rfl rfl rfl ?_;clear H;intro w H;dsimp only [List.set,setRow] at H;refine K7 _ _ ?_;clear K7;refine bF ?_;refine (El ((kM 0 0 l)[k].1) _ _ _ _ _ (by exact H.bU (Pl:=[_,_,_,_,_,_]) (bN:=[_,_,_,_]) [0,3,4,5] (by decide) rfl) ?_).1 rfl;exact (by unfold oQ;rw [Jk hk hI (by unfold Ep;simp_all)];rfl)
  intro h22 a H
  try have iL:=dF h22
  refine kH H (YM h22 rfl (Pf h22 rfl (Kz K6 (Cd rfl ?_ ?_)))) <;> clear H K6
  ·intro fu a H
   try have kL:=dT fu
   refine bK (fun _ K8=>?_);refine aW fM (cs:=[_,_]) H wn rfl rfl (H.hp.bT 2 rfl rfl) rfl ?_;clear H;intro a H;refine aX fM 4 (vs:=[_,_]) _ H wn rfl rfl rfl rfl rfl rfl rfl rfl ?_;clear H;intro w H;dsimp only [List.set,setRow] at H;refine aX qJ 5 (vs:=[_]) _ H wn rfl rfl rfl rfl rfl rfl rfl rfl ?_;clear H;intro w H;dsimp only [List.set,setRow] at H;refine K8 _ _ ?_;clear K8;refine bF ?_;refine (El ((kM 0 0 l)[k].1) _ _ _ _ _ (by exact H.bU (Pl:=[_,_,_,_,_,_]) (bN:=[_,_,_,_]) [0,3,4,5] (by decide) rfl) ?_).1 rfl;exact (by unfold oQ;rw [Jk hk hI (by unfold Ep;simp_all)];rfl)
  intro fu a H
  try have kL:=dF fu
  refine fQ ?_;refine GR (()) _ _ _ _ _ (by exact H.bU (Pl:=[_,_,_,_,_,_]) (bN:=[_,_,_,_]) [0,3,4,5] (by decide) rfl) ?_;exact MS hk hI (by unfold Ep;simp_all)
 ·clear H;intro Fb gh Fp a w hm2 hI H;dsimp only [lca,aV] at H;refine K2 _ _ ?_;clear K2;refine bK (fun _ K9=>?_);refine jw zI [_,_] H wn rfl rfl rfl rfl ?_;clear H;intro a H;refine aX fM 2 (vs:=[_,_]) _ H wn rfl rfl rfl rfl rfl rfl rfl rfl ?_;clear H;intro w H;dsimp only [List.set,setRow] at H;refine aX qJ 3 (vs:=[_]) _ H wn rfl rfl rfl rfl rfl rfl rfl rfl ?_;clear H;intro w H;dsimp only [List.set,setRow] at H;refine K9 _ _ ?_;clear K9;refine bF ?_;refine (qy H 0 rfl ?_).1;clear H;intro a w H;dsimp only [List.eraseIdx_cons_succ,List.eraseIdx_cons_zero] at H;refine (dL H results20 (.cons (wM fM (cs:=[_,_]) H rfl rfl (H.hp.bT 1 rfl rfl)) (.cons (mE qJ H rfl (H.hp.kr 2 rfl rfl)) .nil)) ?_).1
  have h:oQ l id=none:=by unfold oQ;rw [MR (by simpa using hI)];rfl
  exact H.rt (by rw [h];rfl)
 clear H;intro Fb gx Fp a w hm2 hI H;obtain ⟨x,hgh⟩:∃ x,x=gx:=⟨_,rfl⟩;subst hgh;dsimp only [lca,aV] at H;refine bF ?_;refine (qy H 0 rfl ?_).1;clear H;intro a w H;dsimp only [List.eraseIdx_cons_succ,List.eraseIdx_cons_zero] at H;refine (dL H results20 (.cons (wM fM (cs:=[_,_]) H rfl rfl (H.hp.bT 1 rfl rfl)) (.cons (mE qJ H rfl (H.hp.kr 2 rfl rfl)) .nil)) ?_).1;exact H.rt (by rw [hI];rfl)
end
end Go.Proofs.YtdacibabefnabaaGreat
