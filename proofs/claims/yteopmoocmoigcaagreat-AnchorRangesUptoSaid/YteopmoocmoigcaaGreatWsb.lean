/-
  What the claim stands on, part 2: Run Rg Pos Pq Doc Dq Eq Idx Bld Hv Ut Prk Prp Plc Plr Prq Prc Fst Nam Pn De Dj Mp Dk Dw Lsc Dm Dl.
-/
import Derived.Test.YteopmoocmoigcaaGreatWsa
import Derived.Laws.StructEq
import Derived.ChangeKeysEq
import Derived.Lib.OthersKept
import Derived.Laws.IdiomStrings
import Derived.Laws.Cover4
import Derived.Laws.Slices
import Derived.Laws.Strings2
import Derived.MapKept
namespace Go.Proofs.YteopmoocmoigcaaGreat
open Go.Proofs.Tryz
section
open Go.RowKit
theorem hmx:prog.follows .mixedOrders=true:=by kernel_rfl
theorem jA:bO prog 63 0 0:=⟨by kernel_rfl⟩
theorem aF:Ty prog 3 1 8 [.int .i64 0] false:=⟨by kernel_rfl,by kernel_rfl⟩
theorem uX:bO prog 63 3 3:=⟨by kernel_rfl⟩
theorem gF:Ty prog 9 1 16 [.string ⟨#[]⟩] false:=⟨by kernel_rfl,by kernel_rfl⟩
theorem RD:∀ args w,(callFunc 61 args).run prog w=.ok (.enter 61 args) w:=enters func61 rfl (by kernel_rfl)
theorem gD:prog.underlying 22=some (.slice 63):=by kernel_rfl
theorem dH:Ty prog 63 11 176 [.int .i64 0,.int .i64 0,.int .i64 0,.string ⟨#[]⟩,.slice none 0 0,.int .i64 0,.int .i64 0,.slice none 0 0,.slice none 0 0,.slice none 0 0,.slice none 0 0] true:=⟨by kernel_rfl,by kernel_rfl⟩
theorem Lm:∀ args w,(callFunc 41 args).run prog w=.ok (.enter 41 args) w:=enters func41 rfl (by kernel_rfl)
theorem nT:prog.underlying 23=some (.slice 187):=by kernel_rfl
theorem mD:Ty prog 187 2 16 [.int .i64 0,.int .i64 0] true:=⟨by kernel_rfl,by kernel_rfl⟩
theorem oZ:prog.underlying 24=some (.slice 190):=by kernel_rfl
theorem uI:Ty prog 190 2 16 [.int .i64 0,.int .i64 0] true:=⟨by kernel_rfl,by kernel_rfl⟩
theorem sW:prog.underlying 25=some (.slice 199):=by kernel_rfl
theorem uJ:Ty prog 199 4 32 [.int .i64 0,.int .i64 0,.int .i64 0,.bool false] true:=⟨by kernel_rfl,by kernel_rfl⟩
theorem oW:Ty prog 29 5 88 [.slice none 0 0,.int .i64 0,.int .i64 0,.slice none 0 0,.slice none 0 0] true:=⟨by kernel_rfl,by kernel_rfl⟩
theorem BO:bO prog 29 0 0:=⟨by kernel_rfl⟩
theorem zR:Ty prog 23 1 24 [.slice none 0 0] false:=⟨by kernel_rfl,by kernel_rfl⟩
theorem abE:∀ args w,(callFunc 98 args).run prog w=.ok (.enter 98 args) w:=enters func98 rfl (by kernel_rfl)
theorem sI:bO prog 29 1 1:=⟨by kernel_rfl⟩
theorem uW:bO prog 27 2 2:=⟨by kernel_rfl⟩
theorem vE:Ty prog 24 1 24 [.slice none 0 0] false:=⟨by kernel_rfl,by kernel_rfl⟩
theorem abF:∀ args w,(callFunc 99 args).run prog w=.ok (.enter 99 args) w:=enters func99 rfl (by kernel_rfl)
theorem BN:bO prog 27 3 3:=⟨by kernel_rfl⟩
theorem CY:Ty prog 25 1 24 [.slice none 0 0] false:=⟨by kernel_rfl,by kernel_rfl⟩
theorem Z5:∀ args w,(callFunc 100 args).run prog w=.ok (.enter 100 args) w:=enters func100 rfl (by kernel_rfl)
theorem nU:prog.underlying 61=some (.slice 96):=by kernel_rfl
theorem kR:Ty prog 96 6 112 [.slice none 0 0,.int .i64 0,.int .i64 0,.slice none 0 0,.slice none 0 0,.slice none 0 0] true:=⟨by kernel_rfl,by kernel_rfl⟩
theorem rQ:prog.underlying 94=some (.slice 98):=by kernel_rfl
theorem mE:Ty prog 98 7 120 [.int .i64 0,.slice none 0 0,.int .i64 0,.int .i64 0,.slice none 0 0,.slice none 0 0,.slice none 0 0] true:=⟨by kernel_rfl,by kernel_rfl⟩
theorem Ii:bO prog 98 0 0:=⟨by kernel_rfl⟩
theorem Sj:bO prog 98 1 1:=⟨by kernel_rfl⟩
theorem H8:∀ args w,(callFunc 65 args).run prog w=.ok (.enter 65 args) w:=enters func65 rfl (by kernel_rfl)
theorem Fq:bO prog 98 2 6:=⟨by kernel_rfl⟩
theorem iG:Ty prog 22 1 24 [.slice none 0 0] false:=⟨by kernel_rfl,by kernel_rfl⟩
theorem Lj:∀ args w,(callFunc 40 args).run prog w=.ok (.enter 40 args) w:=enters func40 rfl (by kernel_rfl)
theorem ahG:oK prog 98 [(0,1),(1,5),(6,1)] [.int .i64 0,.slice none 0 0,.int .i64 0,.int .i64 0,.slice none 0 0,.slice none 0 0,.slice none 0 0]:=⟨by kernel_rfl,by kernel_rfl⟩
theorem Si:bO prog 96 0 0:=⟨by kernel_rfl⟩
theorem yX:bO prog 96 1 5:=⟨by kernel_rfl⟩
theorem zS:Ty prog 94 1 24 [.slice none 0 0] false:=⟨by kernel_rfl,by kernel_rfl⟩
theorem Z6:∀ args w,(callFunc 101 args).run prog w=.ok (.enter 101 args) w:=enters func101 rfl (by kernel_rfl)
theorem ahF:oK prog 96 [(0,5),(5,1)] [.slice none 0 0,.int .i64 0,.int .i64 0,.slice none 0 0,.slice none 0 0,.slice none 0 0]:=⟨by kernel_rfl,by kernel_rfl⟩
theorem Al:bO prog 63 4 4:=⟨by kernel_rfl⟩
theorem yV:bO prog 63 5 9:=⟨by kernel_rfl⟩
theorem tY:bO prog 63 6 10:=⟨by kernel_rfl⟩
theorem uK:Ty prog 61 1 24 [.slice none 0 0] false:=⟨by kernel_rfl,by kernel_rfl⟩
theorem RF:∀ args w,(callFunc 66 args).run prog w=.ok (.enter 66 args) w:=enters func66 rfl (by kernel_rfl)
theorem abm:∀ args w,(callFunc 63 args).run prog w=.ok (.enter 63 args) w:=enters func63 rfl (by kernel_rfl)
theorem Z7:∀ args w,(callFunc 102 args).run prog w=.ok (.enter 102 args) w:=enters func102 rfl (by kernel_rfl)
theorem abo:∀ args w,(callFunc 67 args).run prog w=.ok (.enter 67 args) w:=enters func67 rfl (by kernel_rfl)
theorem abn:∀ args w,(callFunc 64 args).run prog w=.ok (.enter 64 args) w:=enters func64 rfl (by kernel_rfl)
def dK (x:ay):Nat:=if x.kind=1 then tK x.text else 1
def qg (x:ay):Int:=if x.kind=1 then EA x.text else 0
theorem OI (G:GH) (w0:World) (hG:Hold G w0) (x:ay) (i2 i3:Int) (p i5 i6 d l f r:aj) (hs:x.text.size < 4611686018427387904) :
  Calls prog 41 #[.agg #[vi x.kind,vi i2,vi i3,.string x.text,p,i5,i6,d,l,f,r]] w0 (bA w0 G fun v G'=>v=.tuple #[vi (dK x),vi (qg x)]∧G=G'):=by
 refine eN [(0,_)] func41 rfl ntmps41 rfl rfl hG ?_;intro a H;refine dw (fun _ K1=>?_);refine fu (cs:=[_,_,_,_,_,_,_,_,_,_,_]) H wn rfl rfl rfl ?_;clear H;intro b1 a w hb1 H;refine kH H (Ra rfl (ak K1 rfl (SQ fun _ K2=>SR fun _ K3=>aU jA aF 0 rfl rfl (Rc rfl (Kz K3 (Cd rfl ?_ ?_)))))) <;> clear H K1 K3
 ·intro h6 a H
  try have p6:=dT h6
  refine kP H (SR fun _ K4=>Ra rfl (ak K4 rfl ?_));clear H K4;intro a H;refine cB ?_;refine (eP H results41 (.cons (aR H rfl) (.cons (aR H rfl) .nil)) ?_).1;exact H.rt ⟨by simp only [dK,qg,ah p6];rfl,rfl⟩
 intro h6 a H
 try have p6:=dF h6
 refine kP H (Kc K2 (SR fun _ K5=>aU uX gF 0 rfl rfl ?_));clear H K2;intro a H;refine s_call RD H wn rfl (QM _ _ H.ro _ hs) rfl ?_;clear H;rintro v9 _ a w ⟨rfl,rfl⟩ - H;(iterate 2 refine jS H wn rfl rfl rfl ?_;clear H;intro a H);refine kH H (Ra rfl (ak K5 rfl ?_));clear H K5;intro a H;refine cB ?_;refine (eP H results41 (.cons (aR H rfl) (.cons (aR H rfl) .nil)) ?_).1;exact H.rt ⟨by rw [mY] at p6;simp only [dK,qg,au p6],rfl⟩
def tO (l:List ay):Bool:=l.all fun x=>decide (qg x=0)
def gq:List ay→Nat
 | []=>0
 | x :: l=>dK x+gq l
def wH (l:List ay):Int:=if tO l then gq l else 0
def uy (l:List ay):Int:=if tO l then 0 else 12
def qP:List ay→Nat
 | []=>0
 | x :: l=>x.text.size+1+qP l
theorem Ox:∀ l:List ay,gq l≤qP l
 | []=>bM _
 | x :: l=>by
  have:=Ox l;have h2:=EY x.text
  simp only [gq,qP,dK];split <;> omega
theorem Wp {x:ay}:∀ {l:List ay},x∈l→x.text.size < qP l
 | [],h=>by cases h
 | y :: l,h=>by
  simp only [qP]
  rcases lF.1 h with rfl|h
  ·omega
  have:=Wp h;omega
theorem ahL (l m:List ay):gq (l++m)=gq l+gq m:=by
 induction l with
 | nil=>simp [gq]
 | cons x l ih=>simp [gq,ih];omega
theorem ahM {l:List ay} {k:Nat} (h:k < l.length):gq (l.take (k+1))=gq (l.take k)+dK l[k]:=by
 rw [jF h,ahL];simp [gq]
theorem ahP (l m:List ay):qP (l++m)=qP l+qP m:=by
 induction l with
 | nil=>simp [qP]
 | cons x l ih=>simp [qP,ih];omega
theorem ahQ (l:List ay) (k:Nat):qP (l.take k)≤qP l:=by
 have:=ahP (l.take k) (l.drop k);rw [List.take_append_drop] at this;omega
theorem yZ {G:GH} {l:List ay} {A:Option Addr} {k:Nat} (hk:k < l.length) (hg:∀ k r,(l.map ay.dat)[k]?=some r→∃ b o cs,A=some ⟨b,o,none⟩∧cs.length=11∧(∀ j u,cs[j]?=some u→aJ G b (o+k*11+j)=some u)∧aW G r cs) :
  ∃ b o pA pn pc dA dn dc yA yn yc fA fn fc rA rn rc,A=some ⟨b,o,none⟩∧(∀ j u,[vi l[k].kind,vi l[k].code,vi l[k].id,.string l[k].text,.slice pA pn pc,vi l[k].head.marks.ins,vi l[k].head.marks.move,.slice dA dn dc,.slice yA yn yc,.slice fA fn fc,.slice rA rn rc][j]?=some u→aJ G b (o+k*11+j)=some u) ∧
   ji G l[k].head (.slice pA pn pc) (.slice dA dn dc) (.slice yA yn yc)∧av G (.sl 11 (l[k].flow.map ay.dat)) (.slice fA fn fc)∧av G (.sl 6 (l[k].rows.map bR.dat)) (.slice rA rn rc):=by
 obtain ⟨b,o,cs,h1,h2,h3,h4⟩:=hg k l[k].dat (by simp [hk]);obtain ⟨pA,pn,pc,dA,dn,dc,yA,yn,yc,fA,fn,fc,rA,rn,rc,rfl,h5,h6,h7⟩:=h4.item;exact ⟨b,o,pA,pn,pc,dA,dn,dc,yA,yn,yc,fA,fn,fc,rA,rn,rc,h1,h3,h5,h6,h7⟩
theorem ZU {l:List ay} {k:Nat} (h:k < l.length):tO (l.take (k+1))=(tO (l.take k) && decide (qg l[k]=0)):=by
 unfold tO
 rw [jF h,List.all_append];simp
theorem ZT {l:List ay} {k:Nat} (h:k < l.length) (hn:¬ qg l[k]=0):tO l=false:=by
 unfold tO
 rw [List.all_eq_false];exact ⟨l[k],jk h,by simpa using hn⟩
theorem NC:∀ l:List ay,l.length≤qP l
 | []=>bM _
 | x :: l=>by have:=NC l;simp only [nG,qP];omega
theorem JH:∀ l:List ay,qP l≤bg l
 | []=>bM _
 | x :: l=>by
  have:=JH l;have h2:=oH x
  simp only [qP,bg,eU,dZ] at *;omega
theorem NA (G:GH) (w0:World) (hG:Hold G w0) (l:List ay) (v:aj) (hv:av G (.sl 11 (l.map ay.dat)) v) (hz:bg l≤4294967296) :
  Calls prog 18 #[v] w0 (bA w0 G fun v G'=>v=.tuple #[vi (wH l),vi (uy l)]∧G=G'):=by
 obtain ⟨A,c,rfl,hc1,hc2,hg⟩:=hv.slice;rw [bX] at *;have hll:=NC l;have htz:=JH l;refine eN [(0,_)] func18 rfl ntmps18 rfl rfl hG ?_;intro a H;refine kP H (SR fun _ K1=>Ra rfl (ak K1 rfl (SR fun _ K2=>ak K2 rfl (SQ fun _ K3=>SR fun _ K4=>Rm rfl (Rl gD rfl (Rm rfl (Kz K4 (SB ?_))))))));clear H K1 K2 K4;intro a H;skip;refine fJ (ι:=Nat) (Tc:=[(9,_),(10,_)]) (Lc:=[]) (fun gh=>[(4,vi (gq (l.take gh))),(11,vi gh)]) (fun gh=>[]) (fun gh=>G) (fun gh=>gh≤l.length∧tO (l.take gh)=true) (fun gh=>l.length - gh) (0) (by exact (H).sub ⟨rfl,rfl,rfl,rfl,aC⟩) ?_ ?_
 ·exact ⟨by omega,by simp [tO]⟩
 clear H;intro gh a w hI H;obtain ⟨k,hgh⟩:∃ x,x=gh:=⟨_,rfl⟩;subst hgh;obtain ⟨hk,hd⟩:=hI;dsimp only [lca,bC] at H;refine kP H (SR fun _ K5=>Rc rfl (Kz K5 (SQ fun _ K6=>Cd rfl ?_ ?_))) <;> clear H K5
 ·intro h12 a H
  try have rJ:=dT h12
  have hk2:k < l.length:=by omega
  obtain ⟨b,o,pA,pn,pc,dA,dn,dc,yA,yn,yc,fA,fn,fc,rA,rn,rc,rfl,hrow,-⟩:=yZ hk2 hg;have hsm:=ahM hk2;have hle:=Ox (l.take (k+1));have hle2:=ahQ l (k+1);refine kP H (Kc K6 (SQ fun _ K7=>SB (SR fun _ K8=>Ri gD dH rfl rfl ?_)));clear H K6;intro a H;refine bE dH (cs:=[_,_,_,_,_,_,_,_,_,_,_]) H wn rfl rfl (fun j v hj=>H.hp.aJ (hrow j v hj)) rfl ?_;clear H;intro a H;refine fq dH H wn rfl ?_;clear H;intro b6 a w hb6 H;refine bF dH 0 (vs:=[_,_,_,_,_,_,_,_,_,_,_]) _ H wn rfl rfl rfl rfl rfl rfl rfl rfl ?_;clear H;intro w H;dsimp only [List.set,setRow] at H;refine K8 _ _ ?_;clear K8;refine dw (fun _ K9=>?_);refine bE dH (cs:=[_,_,_,_,_,_,_,_,_,_,_]) H wn rfl rfl (H.hp.eF 0 rfl rfl) rfl ?_;clear H;intro a H;refine s_call Lm H wn rfl (OI _ _ H.ro _ _ _ _ _ _ _ _ _ _ (by have:=Wp (jk hk2);omega)) rfl ?_;clear H;rintro v17 _ a w ⟨rfl,rfl⟩ - H;refine kH H (Rm rfl ?_);clear H;intro a H;(iterate 2 refine jS H wn rfl rfl rfl ?_;clear H;intro a H);refine kH H (Ra rfl (ak K9 rfl (SQ fun _ aT=>SR fun _ bD=>Rm rfl (Rc rfl (Kz bD (Cd rfl ?_ ?_)))))) <;> clear H K9 bD
  ·intro h21 a H
   try have pW:=dT h21
   refine kP H (SR fun _ bK=>Ra rfl (ak bK rfl ?_));clear H bK;intro a H;refine cB ?_;refine (eP H results18 (.cons (aR H rfl) (.cons (aR H rfl) .nil)) ?_).1;exact H.rt ⟨by simp [wH,uy,ZT hk2 pW],rfl⟩
  intro h21 a H
  try have pW:=dF h21
  refine kP H (Kc aT (SC (Rm rfl (Rm rfl (Rd rfl ?_)))));clear H aT;intro a H;rw [← Int.natCast_add,← hsm] at H;refine kH H (aS K7 rfl (SC (Rd rfl (Rm rfl ?_))));clear H K7;intro a H;refine aI ?_;refine dN ((k+1)) (by exact (H.dX (Pl:=[_]) (dz:=[]) [] (by decide) rfl).sub ⟨rfl,rfl,rfl,rfl,aC⟩) ?_ ?_
  ·exact ⟨by omega,by rw [ZU hk2,hd];simpa using pW⟩
  first|omega|(dsimp only;omega)
 intro h12 a H
 try have rJ:=dF h12
 refine eX ?_;refine K3 _ _ ?_;clear K3;refine kP H (SR fun _ bT=>Rm rfl (Ra rfl (ak bT rfl ?_)));clear H bT;intro a H;refine cB ?_;refine (eP H results18 (.cons (aR H rfl) (.cons (aR H rfl) .nil)) ?_).1;exact H.rt ⟨by rw [show l.take k=l from jG (by omega)] at hd ⊢;simp [wH,uy,hd],rfl⟩
theorem Zp (G:GH) (w0:World) (hG:Hold G w0) (rows:List (List Dat)) (A:Option Addr) (n c:Nat) (hv:av G (.sl 2 rows) (.slice A n c)) (hz:rows.length≤4294967296) :
  Calls prog 98 #[.slice A n c] w0 (bA w0 G fun v G'=>av G' (.sl 2 rows) v):=by
 obtain ⟨hn,hc1,hc2,hnil,hx⟩:=hv.cells;refine eN [(0,_)] func98 rfl ntmps98 rfl rfl hG ?_;intro a H;refine kP H (SR fun _ K1=>ak K1 rfl (SQ fun _ K2=>SR fun _ K3=>Rm rfl ?_));clear H K1;intro a H;refine Oh nT H wn rfl rfl ?_;clear H;intro a H;refine K3 _ _ ?_;clear K3;refine kZ H rfl ?_ ?_
 ·intro h4
  exact kP H (SR fun _ K4=>ak K4 rfl (LR results98 rfl fun H=>H.rt (by rw [hnil (by simpa using h4)];exact av.jc rfl (by simp [maxLen]))))
 intro h4
 try have p4:=dF h4
 refine gI ?_;refine K2 _ _ ?_;clear K2;refine aZ (fun _ K5=>?_)
 have hA:¬ A=none:=by intro e;rw [e] at h4;cases h4
 refine nJ ?_;refine Og nT mD H wn rfl ?_;clear H;intro b5 a w hb5 H;refine kH H (Rm rfl ?_);clear H;intro a H
 by_cases hr0:rows=[]
 ·have hn0:n=0:=by rw [hn,hr0];rfl
  subst hn0;refine Js nT mD H wn rfl rfl (bM _) rfl ?_;clear H;intro a H;exact kH H (aS K5 rfl (LR results98 rfl fun H=>H.rt (by rw [hr0];exact av.jc rfl (by simp [maxLen]))))
 obtain ⟨b,o,xs,rfl,hxl,hxc,hx1,jh⟩:=hx hr0;refine pX (Li:=[]) (Lo:=[_]) (news:=xs) nT mD rfl rfl H wn rfl rfl dx.empty hxl (fun j u hj=>H.hp.aJ (hxc j u hj)) hx1 (by omega) (by omega) rfl ?_;clear H;intro v7 Lo a w hrow H;obtain ⟨G',hm,hrep,H⟩:=H.vg hrow (rows:=rows) (by omega) (by simpa using jh)
 try clear hG
 obtain ⟨G2,hG2⟩:∃ g,g=G':=⟨_,rfl⟩;subst hG2;exact kH H (aS K5 rfl (LR results98 rfl fun H=>H.rt hrep))
theorem Zn (G:GH) (w0:World) (hG:Hold G w0) (rows:List (List Dat)) (A:Option Addr) (n c:Nat) (hv:av G (.sl 2 rows) (.slice A n c)) (hz:rows.length≤4294967296) :
  Calls prog 99 #[.slice A n c] w0 (bA w0 G fun v G'=>av G' (.sl 2 rows) v):=by
 obtain ⟨hn,hc1,hc2,hnil,hx⟩:=hv.cells;refine eN [(0,_)] func99 rfl ntmps99 rfl rfl hG ?_;intro a H;refine kP H (SR fun _ K1=>ak K1 rfl (SQ fun _ K2=>SR fun _ K3=>Rm rfl ?_));clear H K1;intro a H;refine Oh oZ H wn rfl rfl ?_;clear H;intro a H;refine K3 _ _ ?_;clear K3;refine kZ H rfl ?_ ?_
 ·intro h4
  exact kP H (SR fun _ K4=>ak K4 rfl (LR results99 rfl fun H=>H.rt (by rw [hnil (by simpa using h4)];exact av.jc rfl (by simp [maxLen]))))
 intro h4
 try have p4:=dF h4
 refine gI ?_;refine K2 _ _ ?_;clear K2;refine aZ (fun _ K5=>?_)
 have hA:¬ A=none:=by intro e;rw [e] at h4;cases h4
 refine nJ ?_;refine Og oZ uI H wn rfl ?_;clear H;intro b5 a w hb5 H;refine kH H (Rm rfl ?_);clear H;intro a H
 by_cases hr0:rows=[]
 ·have hn0:n=0:=by rw [hn,hr0];rfl
  subst hn0;refine Js oZ uI H wn rfl rfl (bM _) rfl ?_;clear H;intro a H;exact kH H (aS K5 rfl (LR results99 rfl fun H=>H.rt (by rw [hr0];exact av.jc rfl (by simp [maxLen]))))
 obtain ⟨b,o,xs,rfl,hxl,hxc,hx1,jh⟩:=hx hr0;refine pX (Li:=[]) (Lo:=[_]) (news:=xs) oZ uI rfl rfl H wn rfl rfl dx.empty hxl (fun j u hj=>H.hp.aJ (hxc j u hj)) hx1 (by omega) (by omega) rfl ?_;clear H;intro v7 Lo a w hrow H;obtain ⟨G',hm,hrep,H⟩:=H.vg hrow (rows:=rows) (by omega) (by simpa using jh)
 try clear hG
 obtain ⟨G2,hG2⟩:∃ g,g=G':=⟨_,rfl⟩;subst hG2;exact kH H (aS K5 rfl (LR results99 rfl fun H=>H.rt hrep))
theorem Zo (G:GH) (w0:World) (hG:Hold G w0) (rows:List (List Dat)) (A:Option Addr) (n c:Nat) (hv:av G (.sl 4 rows) (.slice A n c)) (hz:rows.length≤4294967296) :
  Calls prog 100 #[.slice A n c] w0 (bA w0 G fun v G'=>av G' (.sl 4 rows) v):=by
 obtain ⟨hn,hc1,hc2,hnil,hx⟩:=hv.cells;refine eN [(0,_)] func100 rfl ntmps100 rfl rfl hG ?_;intro a H;refine kP H (SR fun _ K1=>ak K1 rfl (SQ fun _ K2=>SR fun _ K3=>Rm rfl ?_));clear H K1;intro a H;refine Oh sW H wn rfl rfl ?_;clear H;intro a H;refine K3 _ _ ?_;clear K3;refine kZ H rfl ?_ ?_
 ·intro h4
  exact kP H (SR fun _ K4=>ak K4 rfl (LR results100 rfl fun H=>H.rt (by rw [hnil (by simpa using h4)];exact av.jc rfl (by simp [maxLen]))))
 intro h4
 try have p4:=dF h4
 refine gI ?_;refine K2 _ _ ?_;clear K2;refine aZ (fun _ K5=>?_)
 have hA:¬ A=none:=by intro e;rw [e] at h4;cases h4
 refine nJ ?_;refine Og sW uJ H wn rfl ?_;clear H;intro b5 a w hb5 H;refine kH H (Rm rfl ?_);clear H;intro a H
 by_cases hr0:rows=[]
 ·have hn0:n=0:=by rw [hn,hr0];rfl
  subst hn0;refine Js sW uJ H wn rfl rfl (bM _) rfl ?_;clear H;intro a H;exact kH H (aS K5 rfl (LR results100 rfl fun H=>H.rt (by rw [hr0];exact av.jc rfl (by simp [maxLen]))))
 obtain ⟨b,o,xs,rfl,hxl,hxc,hx1,jh⟩:=hx hr0;refine pX (Li:=[]) (Lo:=[_]) (news:=xs) sW uJ rfl rfl H wn rfl rfl dx.empty hxl (fun j u hj=>H.hp.aJ (hxc j u hj)) hx1 (by omega) (by omega) rfl ?_;clear H;intro v7 Lo a w hrow H;obtain ⟨G',hm,hrep,H⟩:=H.vg hrow (rows:=rows) (by omega) (by simpa using jh)
 try clear hG
 obtain ⟨G2,hG2⟩:∃ g,g=G':=⟨_,rfl⟩;subst hG2;exact kH H (aS K5 rfl (LR results100 rfl fun H=>H.rt hrep))
theorem HZ (G:GH) (w0:World) (hG:Hold G w0) (h:gW) (pA dA yA:Option Addr) (pn pc dn dc yn yc:Nat) (hv:ji G h (.slice pA pn pc) (.slice dA dn dc) (.slice yA yn yc)) (hz:oG h≤4294967296) :
  Calls prog 65 #[.agg #[.slice pA pn pc,vi h.marks.ins,vi h.marks.move,.slice dA dn dc,.slice yA yn yc]] w0 (bA w0 G fun v G'=>∃ p d l,v=.agg #[p,vi h.marks.ins,vi h.marks.move,d,l]∧ji G' h p d l):=by
 have he:=Gp h;have h1:=qO (h.props.map gY.dat);have h2:=qO (h.marks.cu.map jd.dat);have h3:=qO (h.marks.layers.map iO.dat);refine eN [(0,_)] func65 rfl ntmps65 rfl rfl hG ?_;intro a H;refine dw (fun _ K1=>?_);refine fu (cs:=[_,_,_,_,_]) H wn rfl rfl rfl ?_;clear H;intro b1 a w hb1 H;refine fq oW H wn rfl ?_;clear H;intro b2 a w hb2 H;refine K1 _ _ ?_;clear K1;refine kP H (SR fun _ K2=>aU BO zR 1 rfl rfl ?_);clear H;intro a H;refine s_call abE H wn rfl (Zp _ _ H.ro _ _ _ _ hv.props (by omega)) rfl ?_;clear H;rintro v5 G5 a w pU M8 H;obtain ⟨A5,n5,c5,rfl⟩:=pU.form;refine kH H (Rf BO rfl ?_);clear H;intro a H;refine bF zR 1 (vs:=[_]) _ H wn rfl rfl rfl rfl rfl rfl rfl rfl ?_;clear H;intro w H;dsimp only [List.set,setRow] at H;refine K2 _ _ ?_;clear K2;refine aZ (fun _ K3=>?_);obtain ⟨hvp,hvd,hvy⟩:=hv.mono M8;clear hv
 have nu:∀ (bN:Nat) (v:aj) (G G':GH),(∀ k o,G k=some o→G' k=some o)→(fun (bN:Nat) (v:aj) (G:GH)=>match bN with|0=>v=(aH b1 1)|1=>v=(aH b1 3)|2=>v=.slice dA dn dc|3=>av G (.sl 2 (h.marks.cu.map jd.dat)) v|4=>v=(aH b1 1)|5=>v=(aH b1 4)|6=>v=.slice yA yn yc|7=>av G (.sl 4 (h.marks.layers.map iO.dat)) v|8=>v=(aH b1 1)|9=>v=(aH b1 3)|_=>True) bN v G→(fun (bN:Nat) (v:aj) (G:GH)=>match bN with|0=>v=(aH b1 1)|1=>v=(aH b1 3)|2=>v=.slice dA dn dc|3=>av G (.sl 2 (h.marks.cu.map jd.dat)) v|4=>v=(aH b1 1)|5=>v=(aH b1 4)|6=>v=.slice yA yn yc|7=>av G (.sl 4 (h.marks.layers.map iO.dat)) v|8=>v=(aH b1 1)|9=>v=(aH b1 3)|_=>True) bN v G':=by
  intro bN v G G' hm h
  match bN,h with
  | 0,h=>exact h
  | 1,h=>exact h
  | 2,h=>exact h
  | 3,h=>exact av.mono hm h
  | 4,h=>exact h
  | 5,h=>exact h
  | 6,h=>exact h
  | 7,h=>exact av.mono hm h
  | 8,h=>exact h
  | 9,h=>exact h
  | 10,h=>exact trivial
  | 11,h=>exact trivial
  | 12,h=>exact trivial
  | 13,h=>exact trivial
  | _+14,h=>exact trivial
 refine Ai (hmx) [[],[0],[0,1],[0,1,2],[],[4],[4,5],(ra 0 7),(ra 0 7),(ra 0 7++[8]),(ra 0 10),(ra 0 11),(ra 0 12),(ra 0 13)] (ra 10 4) (by kernel_rfl) (by kernel_rfl) (fun (bN:Nat) (v:aj) (G:GH)=>match bN with|0=>v=(aH b1 1)|1=>v=(aH b1 3)|2=>v=.slice dA dn dc|3=>av G (.sl 2 (h.marks.cu.map jd.dat)) v|4=>v=(aH b1 1)|5=>v=(aH b1 4)|6=>v=.slice yA yn yc|7=>av G (.sl 4 (h.marks.layers.map iO.dat)) v|8=>v=(aH b1 1)|9=>v=(aH b1 3)|_=>True) nu H ?_ ?_
 ·clear H;refine aB ?_ ?_ ?_ ?_ (aB ?_ ?_ ?_ ?_ (aB ?_ ?_ (bH rfl) (bH rfl) (aX (bH rfl) (aX (bH rfl) cO))))
  ·refine dP [] rfl trivial (by kernel_rfl) nu rfl rfl ?_;intro bV a w G1 hG HT H fin;exact kH H (Rf sI rfl fun _ H=>fin H iJ rfl)
  ·refine dP [(0,7,_)] rfl ⟨fun _ _ h=>h,aC⟩ (by kernel_rfl) nu rfl rfl ?_;intro bV a w G1 hG HT H fin;exact kH H (Rf uW rfl fun _ H=>fin H iJ rfl)
  ·refine dP [(1,8,_)] rfl ⟨fun _ _ h=>h,aC⟩ (by kernel_rfl) nu rfl rfl ?_;intro bV a w G1 hG HT H fin;exact kH H (Ro vE 1 rfl fun _ H=>fin H iJ rfl)
  ·refine dP [(2,9,_)] rfl ⟨fun _ _ h=>h,aC⟩ (by kernel_rfl) nu rfl rfl ?_;intro bV a w G1 hG HT H fin;refine s_call abF H wn rfl (Zn _ _ H.ro _ _ _ _ (hvd.mono hG) (by omega)) rfl ?_;clear H;rintro v10 wT a w wz pO H;exact fin H pO (wz)
  ·refine dP [] rfl trivial (by kernel_rfl) nu rfl rfl ?_;intro bV a w G1 hG HT H fin;exact kH H (Rf sI rfl fun _ H=>fin H iJ rfl)
  ·refine dP [(4,11,_)] rfl ⟨fun _ _ h=>h,aC⟩ (by kernel_rfl) nu rfl rfl ?_;intro bV a w G1 hG HT H fin;exact kH H (Rf BN rfl fun _ H=>fin H iJ rfl)
  ·refine dP [(5,12,_)] rfl ⟨fun _ _ h=>h,aC⟩ (by kernel_rfl) nu rfl rfl ?_;intro bV a w G1 hG HT H fin;exact kH H (Ro CY 1 rfl fun _ H=>fin H iJ rfl)
  ·refine dP [(6,13,_)] rfl ⟨fun _ _ h=>h,aC⟩ (by kernel_rfl) nu rfl rfl ?_;intro bV a w G1 hG HT H fin;refine s_call Z5 H wn rfl (Zo _ _ H.ro _ _ _ _ (hvy.mono hG) (by omega)) rfl ?_;clear H;rintro v14 EF a w FL Fv H;exact fin H Fv (FL)
  ·refine dP [] rfl trivial (by kernel_rfl) nu rfl rfl ?_;intro bV a w G1 hG HT H fin;exact kH H (Rf sI rfl fun _ H=>fin H iJ rfl)
  refine dP [(8,15,_)] rfl ⟨fun _ _ h=>h,aC⟩ (by kernel_rfl) nu rfl rfl ?_;intro bV a w G1 hG HT H fin;exact kH H (Rf uW rfl fun _ H=>fin H iJ rfl)
 clear H;intro a w G zm H hv;obtain ⟨u10,Nl,wz⟩:=hv 3 10 (by decide) rfl;(try dsimp only at wz);obtain ⟨Xa,n10,c10,rfl⟩:=wz.form;have H:=H.iI Nl;obtain ⟨u14,aev,FL⟩:=hv 7 14 (by decide) rfl;(try dsimp only at FL);obtain ⟨OU,n14,c14,rfl⟩:=FL.form;have H:=H.iI aev;have H:=H.aV (hv 9 16 rfl rfl) rfl;clear hv;refine bF vE 1 (vs:=[_]) _ H wn rfl rfl rfl rfl rfl rfl rfl rfl ?_;clear H;intro w H;dsimp only [List.set,setRow] at H;refine kH H (Rf sI rfl (Rf BN rfl ?_));clear H;intro a H;refine bF CY 1 (vs:=[_]) _ H wn rfl rfl rfl rfl rfl rfl rfl rfl ?_;clear H;intro w H;dsimp only [List.set,setRow] at H;refine aI ⟨rfl,?_⟩;refine K3 _ _ ?_;clear K3;refine dw (fun _ K4=>?_);refine bE oW (cs:=[_,_,_,_,_]) H wn rfl rfl (H.hp.eF 1 rfl rfl) rfl ?_;clear H;intro a H;refine bF oW 0 (vs:=[_,_,_,_,_]) _ H wn rfl rfl rfl rfl rfl rfl rfl rfl ?_;clear H;intro w H;dsimp only [List.set,setRow] at H;refine K4 _ _ ?_;clear K4;refine cB ?_;refine (leave1 H results65 (.cons (zK oW (cs:=[_,_,_,_,_]) H rfl rfl (H.hp.eF 0 rfl rfl)) .nil) ?_).1;exact H.rt ⟨_,_,_,rfl,pU.mono zm,wz,FL⟩
def Dc (fv:aj) (w0:World) (G:GH) (d:List Dat):Prop:=∀ (G1:GH) (w1:World) (cs:List aj),(∀ b o,G b=some o→G1 b=some o)→Hold G1 w1→aW G1 d cs →
 rT prog fv [.agg cs.toArray] w1 (bA w1 G1 fun u G'=>∃ cs',u=.agg cs'.toArray∧aW G' d cs')
theorem ZY (G:GH) (w0:World) (hG:Hold G w0) (l:List ay) (v fv:aj) (hv:av G (.sl 11 (l.map ay.dat)) v) (hz:l.length≤4294967296) (hf:∀ x∈l,Dc fv w0 G x.dat) :
  Calls prog 63 #[v,fv] w0 (bA w0 G fun u G'=>av G' (.sl 11 (l.map ay.dat)) u):=by
 obtain ⟨A,c,rfl,hc1,hc2,hg⟩:=hv.slice
 have hml:4294967297≤maxLen:=by decide
 rw [bX] at *;refine eN [(0,_),(1,_)] func63 rfl ntmps63 rfl rfl hG ?_;intro a H;refine kP H (SR fun _ K1=>ak K1 rfl (SR fun _ K2=>ak K2 rfl (SQ fun _ K3=>SR fun _ K4=>Rm rfl (Rl gD rfl (Rm rfl (Kz K4 (SB ?_)))))));clear H K1 K2 K4;intro a H;skip;refine fJ (ι:=Nat × aj × List aj × OL × GH) (Tc:=[(1,_),(8,_),(9,_)]) (Lc:=[]) (fun gh=>[(5,gh.2.1),(10,vi gh.1)]) (fun gh=>[]++gh.2.2.2.1) (fun gh=>gh.2.2.2.2) (fun gh=>gh.1≤l.length∧dx 63 11 gh.2.1 gh.1 gh.2.2.1 gh.2.2.2.1∧fI gh.2.2.2.2 11 ((l.map ay.dat).take gh.1) gh.2.2.1∧(∀ b o,G b=some o→gh.2.2.2.2 b=some o)) (fun gh=>l.length - gh.1) ((0,.slice none 0 0,[],[],G)) (by exact (H).sub ⟨rfl,rfl,rfl,rfl,rfl,aC⟩) ?_ ?_
 ·exact ⟨by omega,dx.nil,by simpa using fI.nil,fun _ _ h=>h⟩
 clear H;intro gh a w hI H;obtain ⟨k,v,xs,Lo,g⟩:=gh;dsimp only at hI H;obtain ⟨hk,hrw,jh,hgm⟩:=hI;dsimp only [lca,bC] at H;refine kP H (SR fun _ K5=>Rc rfl (Kz K5 (SQ fun _ K6=>Cd rfl ?_ ?_))) <;> clear H K5
 ·intro h11 a H
  try have nQ:=dT h11
  have hk2:k < l.length:=by omega
  obtain ⟨b,o,cs,rfl,hcl,hrow,hrep⟩:=hg k l[k].dat (by simp [hk2]);obtain ⟨pA,pn,pc,dA,dn,dc,yA,yn,yc,fA,fn,fc,rA,rn,rc,rfl,-⟩:=hrep.item;replace hrow:=fun j u hj=>aL hgm (hrow j u hj);refine kP H (Kc K6 (SQ fun _ K7=>SB (SR fun _ K8=>Ri gD dH rfl rfl ?_)));clear H K6;intro a H;refine bE dH (cs:=[_,_,_,_,_,_,_,_,_,_,_]) H wn rfl rfl (fun j v hj=>H.hp.aJ (hrow j v hj)) rfl ?_;clear H;intro a H;refine fq dH H wn rfl ?_;clear H;intro b7 a w DZ H;refine bF dH 0 (vs:=[_,_,_,_,_,_,_,_,_,_,_]) _ H wn rfl rfl rfl rfl rfl rfl rfl rfl ?_;clear H;intro w H;dsimp only [List.set,setRow] at H;refine K8 _ _ ?_;clear K8;refine kP H (SC (Rm rfl (Rm rfl ?_)));clear H;intro a H;refine bE dH (cs:=[_,_,_,_,_,_,_,_,_,_,_]) H wn rfl rfl (H.hp.eF 0 rfl rfl) rfl ?_;clear H;intro a H;refine oF H wn rfl rfl (hf _ (jk hk2) _ _ _ hgm H.ro (hrep.mono hgm)) rfl ?_;clear H;rintro v17 yE a w ⟨vN,rfl,dB⟩ pR H;obtain ⟨cs,hcs⟩:∃ cs,cs=vN:=⟨_,rfl⟩;obtain ⟨pA,pn,pc,dA,dn,dc,yA,yn,yc,fA,fn,fc,rA,rn,rc,sO,-⟩:=dB.item;rw [sO] at H;refine gV gD dH [_,_,_,_,_,_,_,_,_,_,_] [_,_,_,_,_,_,_,_,_,_,_] H wn rfl rfl rfl rfl rfl (by intro i q h;match i,h with|0,h=>exact h|n+1,h=>simp at h) rfl rfl ?_;clear H;intro b18 a w Iy H;refine pX (Li:=[_,_]) (Lo:=Lo) (news:=vN) gD dH rfl rfl H wn rfl rfl hrw (by rw [sO];rfl) (by rw [sO];exact H.hp.eF 0 rfl rfl) dB.one (by omega) (by omega) rfl ?_;clear H;intro v19 BA a w vk H;refine kH H (aS K7 rfl (SC (Rd rfl (Rm rfl ?_))));clear H K7;intro a H;refine aI ?_;refine dN ((k+1,v19,xs++vN,BA,yE)) (by exact (H.dX (Pl:=[_,_]) (dz:=[]) [] (by decide) rfl).sub ⟨rfl,rfl,rfl,rfl,rfl,aC⟩) ?_ ?_
  ·(try dsimp only);refine ⟨by omega,vk,?_,fun b o h=>pR b o (hgm b o h)⟩;rw [jF (by simpa using hk2)];exact (jh.mono pR).snoc (by simpa using dB) (by rw [sO];rfl)
  first|omega|(dsimp only;omega)
 intro h11 a H
 try have nQ:=dF h11
 refine eX ?_;refine K3 _ _ ?_;clear K3;refine aZ (fun _ K9=>?_);obtain ⟨G',hm,hrep,H⟩:=H.vg (Li:=[]) hrw (rows:=l.map ay.dat) (by simp;omega) (by rw [jG (by simp;omega)] at jh;exact jh);exact kP H (SC (Rm rfl (aS K9 rfl (LR results63 rfl fun H=>H.rt hrep))))
theorem Q7 (G:GH) (w0:World) (hG:Hold G w0) (l:List bR) (v fv:aj) (hv:av G (.sl 6 (l.map bR.dat)) v) (hz:l.length≤4294967296) (hf:∀ x∈l,Dc fv w0 G x.dat) :
  Calls prog 66 #[v,fv] w0 (bA w0 G fun u G'=>av G' (.sl 6 (l.map bR.dat)) u):=by
 obtain ⟨A,c,rfl,hc1,hc2,hg⟩:=hv.slice
 have hml:4294967297≤maxLen:=by decide
 rw [bX] at *;refine eN [(0,_),(1,_)] func66 rfl ntmps66 rfl rfl hG ?_;intro a H;refine kP H (SR fun _ K1=>ak K1 rfl (SR fun _ K2=>ak K2 rfl (SQ fun _ K3=>SR fun _ K4=>Rm rfl (Rl nU rfl (Rm rfl (Kz K4 (SB ?_)))))));clear H K1 K2 K4;intro a H;skip;refine fJ (ι:=Nat × aj × List aj × OL × GH) (Tc:=[(1,_),(8,_),(9,_)]) (Lc:=[]) (fun gh=>[(5,gh.2.1),(10,vi gh.1)]) (fun gh=>[]++gh.2.2.2.1) (fun gh=>gh.2.2.2.2) (fun gh=>gh.1≤l.length∧dx 96 6 gh.2.1 gh.1 gh.2.2.1 gh.2.2.2.1∧fI gh.2.2.2.2 6 ((l.map bR.dat).take gh.1) gh.2.2.1∧(∀ b o,G b=some o→gh.2.2.2.2 b=some o)) (fun gh=>l.length - gh.1) ((0,.slice none 0 0,[],[],G)) (by exact (H).sub ⟨rfl,rfl,rfl,rfl,rfl,aC⟩) ?_ ?_
 ·exact ⟨by omega,dx.nil,by simpa using fI.nil,fun _ _ h=>h⟩
 clear H;intro gh a w hI H;obtain ⟨k,v,xs,Lo,g⟩:=gh;dsimp only at hI H;obtain ⟨hk,hrw,jh,hgm⟩:=hI;dsimp only [lca,bC] at H;refine kP H (SR fun _ K5=>Rc rfl (Kz K5 (SQ fun _ K6=>Cd rfl ?_ ?_))) <;> clear H K5
 ·intro h11 a H
  try have nQ:=dT h11
  have hk2:k < l.length:=by omega
  obtain ⟨b,o,cs,rfl,hcl,hrow,hrep⟩:=hg k l[k].dat (by simp [hk2]);obtain ⟨pA,pn,pc,dA,dn,dc,yA,yn,yc,fA,fn,fc,rfl,-⟩:=hrep.row;replace hrow:=fun j u hj=>aL hgm (hrow j u hj);refine kP H (Kc K6 (SQ fun _ K7=>SB (SR fun _ K8=>Ri nU kR rfl rfl ?_)));clear H K6;intro a H;refine bE kR (cs:=[_,_,_,_,_,_]) H wn rfl rfl (fun j v hj=>H.hp.aJ (hrow j v hj)) rfl ?_;clear H;intro a H;refine fq kR H wn rfl ?_;clear H;intro b7 a w DZ H;refine bF kR 0 (vs:=[_,_,_,_,_,_]) _ H wn rfl rfl rfl rfl rfl rfl rfl rfl ?_;clear H;intro w H;dsimp only [List.set,setRow] at H;refine K8 _ _ ?_;clear K8;refine kP H (SC (Rm rfl (Rm rfl ?_)));clear H;intro a H;refine bE kR (cs:=[_,_,_,_,_,_]) H wn rfl rfl (H.hp.eF 0 rfl rfl) rfl ?_;clear H;intro a H;refine oF H wn rfl rfl (hf _ (jk hk2) _ _ _ hgm H.ro (hrep.mono hgm)) rfl ?_;clear H;rintro v17 yE a w ⟨vN,rfl,dB⟩ pR H;obtain ⟨cs,hcs⟩:∃ cs,cs=vN:=⟨_,rfl⟩;obtain ⟨pA,pn,pc,dA,dn,dc,yA,yn,yc,fA,fn,fc,sO,-⟩:=dB.row;rw [sO] at H;refine gV nU kR [_,_,_,_,_,_] [_,_,_,_,_,_] H wn rfl rfl rfl rfl rfl (by intro i q h;match i,h with|0,h=>exact h|n+1,h=>simp at h) rfl rfl ?_;clear H;intro b18 a w Iy H;refine pX (Li:=[_,_]) (Lo:=Lo) (news:=vN) nU kR rfl rfl H wn rfl rfl hrw (by rw [sO];rfl) (by rw [sO];exact H.hp.eF 0 rfl rfl) dB.one (by omega) (by omega) rfl ?_;clear H;intro v19 BA a w vk H;refine kH H (aS K7 rfl (SC (Rd rfl (Rm rfl ?_))));clear H K7;intro a H;refine aI ?_;refine dN ((k+1,v19,xs++vN,BA,yE)) (by exact (H.dX (Pl:=[_,_]) (dz:=[]) [] (by decide) rfl).sub ⟨rfl,rfl,rfl,rfl,rfl,aC⟩) ?_ ?_
  ·(try dsimp only);refine ⟨by omega,vk,?_,fun b o h=>pR b o (hgm b o h)⟩;rw [jF (by simpa using hk2)];exact (jh.mono pR).snoc (by simpa using dB) (by rw [sO];rfl)
  first|omega|(dsimp only;omega)
 intro h11 a H
 try have nQ:=dF h11
 refine eX ?_;refine K3 _ _ ?_;clear K3;refine aZ (fun _ K9=>?_);obtain ⟨G',hm,hrep,H⟩:=H.vg (Li:=[]) hrw (rows:=l.map bR.dat) (by simp;omega) (by rw [jG (by simp;omega)] at jh;exact jh);exact kP H (SC (Rm rfl (aS K9 rfl (LR results66 rfl fun H=>H.rt hrep))))
theorem ZX (G:GH) (w0:World) (hG:Hold G w0) (l:List bQ) (v fv:aj) (hv:av G (.sl 7 (l.map bQ.dat)) v) (hz:l.length≤4294967296) (hf:∀ x∈l,Dc fv w0 G x.dat) :
  Calls prog 101 #[v,fv] w0 (bA w0 G fun u G'=>av G' (.sl 7 (l.map bQ.dat)) u):=by
 obtain ⟨A,c,rfl,hc1,hc2,hg⟩:=hv.slice
 have hml:4294967297≤maxLen:=by decide
 rw [bX] at *;refine eN [(0,_),(1,_)] func101 rfl ntmps101 rfl rfl hG ?_;intro a H;refine kP H (SR fun _ K1=>ak K1 rfl (SR fun _ K2=>ak K2 rfl (SQ fun _ K3=>SR fun _ K4=>Rm rfl (Rl rQ rfl (Rm rfl (Kz K4 (SB ?_)))))));clear H K1 K2 K4;intro a H;skip;refine fJ (ι:=Nat × aj × List aj × OL × GH) (Tc:=[(1,_),(8,_),(9,_)]) (Lc:=[]) (fun gh=>[(5,gh.2.1),(10,vi gh.1)]) (fun gh=>[]++gh.2.2.2.1) (fun gh=>gh.2.2.2.2) (fun gh=>gh.1≤l.length∧dx 98 7 gh.2.1 gh.1 gh.2.2.1 gh.2.2.2.1∧fI gh.2.2.2.2 7 ((l.map bQ.dat).take gh.1) gh.2.2.1∧(∀ b o,G b=some o→gh.2.2.2.2 b=some o)) (fun gh=>l.length - gh.1) ((0,.slice none 0 0,[],[],G)) (by exact (H).sub ⟨rfl,rfl,rfl,rfl,rfl,aC⟩) ?_ ?_
 ·exact ⟨by omega,dx.nil,by simpa using fI.nil,fun _ _ h=>h⟩
 clear H;intro gh a w hI H;obtain ⟨k,v,xs,Lo,g⟩:=gh;dsimp only at hI H;obtain ⟨hk,hrw,jh,hgm⟩:=hI;dsimp only [lca,bC] at H;refine kP H (SR fun _ K5=>Rc rfl (Kz K5 (SQ fun _ K6=>Cd rfl ?_ ?_))) <;> clear H K5
 ·intro h11 a H
  try have nQ:=dT h11
  have hk2:k < l.length:=by omega
  obtain ⟨b,o,cs,rfl,hcl,hrow,hrep⟩:=hg k l[k].dat (by simp [hk2]);obtain ⟨pA,pn,pc,dA,dn,dc,yA,yn,yc,fA,fn,fc,rfl,-⟩:=hrep.cell;replace hrow:=fun j u hj=>aL hgm (hrow j u hj);refine kP H (Kc K6 (SQ fun _ K7=>SB (SR fun _ K8=>Ri rQ mE rfl rfl ?_)));clear H K6;intro a H;refine bE mE (cs:=[_,_,_,_,_,_,_]) H wn rfl rfl (fun j v hj=>H.hp.aJ (hrow j v hj)) rfl ?_;clear H;intro a H;refine fq mE H wn rfl ?_;clear H;intro b7 a w DZ H;refine bF mE 0 (vs:=[_,_,_,_,_,_,_]) _ H wn rfl rfl rfl rfl rfl rfl rfl rfl ?_;clear H;intro w H;dsimp only [List.set,setRow] at H;refine K8 _ _ ?_;clear K8;refine kP H (SC (Rm rfl (Rm rfl ?_)));clear H;intro a H;refine bE mE (cs:=[_,_,_,_,_,_,_]) H wn rfl rfl (H.hp.eF 0 rfl rfl) rfl ?_;clear H;intro a H;refine oF H wn rfl rfl (hf _ (jk hk2) _ _ _ hgm H.ro (hrep.mono hgm)) rfl ?_;clear H;rintro v17 yE a w ⟨vN,rfl,dB⟩ pR H;obtain ⟨cs,hcs⟩:∃ cs,cs=vN:=⟨_,rfl⟩;obtain ⟨pA,pn,pc,dA,dn,dc,yA,yn,yc,fA,fn,fc,sO,-⟩:=dB.cell;rw [sO] at H;refine gV rQ mE [_,_,_,_,_,_,_] [_,_,_,_,_,_,_] H wn rfl rfl rfl rfl rfl (by intro i q h;match i,h with|0,h=>exact h|n+1,h=>simp at h) rfl rfl ?_;clear H;intro b18 a w Iy H;refine pX (Li:=[_,_]) (Lo:=Lo) (news:=vN) rQ mE rfl rfl H wn rfl rfl hrw (by rw [sO];rfl) (by rw [sO];exact H.hp.eF 0 rfl rfl) dB.one (by omega) (by omega) rfl ?_;clear H;intro v19 BA a w vk H;refine kH H (aS K7 rfl (SC (Rd rfl (Rm rfl ?_))));clear H K7;intro a H;refine aI ?_;refine dN ((k+1,v19,xs++vN,BA,yE)) (by exact (H.dX (Pl:=[_,_]) (dz:=[]) [] (by decide) rfl).sub ⟨rfl,rfl,rfl,rfl,rfl,aC⟩) ?_ ?_
  ·(try dsimp only);refine ⟨by omega,vk,?_,fun b o h=>pR b o (hgm b o h)⟩;rw [jF (by simpa using hk2)];exact (jh.mono pR).snoc (by simpa using dB) (by rw [sO];rfl)
  first|omega|(dsimp only;omega)
 intro h11 a H
 try have nQ:=dF h11
 refine eX ?_;refine K3 _ _ ?_;clear K3;refine aZ (fun _ K9=>?_);obtain ⟨G',hm,hrep,H⟩:=H.vg (Li:=[]) hrw (rows:=l.map bQ.dat) (by simp;omega) (by rw [jG (by simp;omega)] at jh;exact jh);exact kP H (SC (Rm rfl (aS K9 rfl (LR results101 rfl fun H=>H.rt hrep))))
def Bn (n:Nat):Prop:=∀ (G:GH) (w0:World),Hold G w0→∀ (l:List ay) (v:aj),av G (.sl 11 (l.map ay.dat)) v→bg l < n →
 Calls prog 40 #[v] w0 (bA w0 G fun u G'=>av G' (.sl 11 (l.map ay.dat)) u)
theorem Zm {n:Nat} (ih:Bn n) (hn:n≤4294967296) (G:GH) (w0:World) (hG:Hold G w0) (x:bQ) (cs:List aj) (hv:aW G x.dat cs) (hz:cK x.dat < n+1) :
  Calls prog 102 #[.agg cs.toArray] w0 (bA w0 G fun u G'=>∃ cs',u=.agg cs'.toArray∧aW G' x.dat cs'):=by
 have he:=zY x;obtain ⟨pA,pn,pc,dA,dn,dc,yA,yn,yc,fA,fn,fc,rfl,hh,hf⟩:=hv.cell;refine eN [(0,_)] func102 rfl ntmps102 rfl rfl hG ?_;intro a H;refine dw (fun _ K1=>?_);refine fu (cs:=[_,_,_,_,_,_,_]) H wn rfl rfl rfl ?_;clear H;intro b1 a w hb1 H;refine fq mE H wn rfl ?_;clear H;intro b2 a w hb2 H;refine K1 _ _ ?_;clear K1;refine aZ (fun _ K2=>?_)
 have iF:∀ (bN:Nat) (v:aj) (G G':GH),(∀ k o,G k=some o→G' k=some o)→(fun (bN:Nat) (v:aj) (G:GH)=>match bN with|0=>v=(aH b1 0)|1=>v=vi x.id|2=>v=(aH b1 1)|3=>v=.agg #[.slice pA pn pc,vi x.head.marks.ins,vi x.head.marks.move,.slice dA dn dc,.slice yA yn yc]|4=>∃ p d l,v=.agg #[p,vi x.head.marks.ins,vi x.head.marks.move,d,l]∧ji G x.head p d l|5=>v=(aH b1 6)|6=>v=.slice fA fn fc|7=>av G (.sl 11 (x.flow.map ay.dat)) v|_=>True) bN v G→(fun (bN:Nat) (v:aj) (G:GH)=>match bN with|0=>v=(aH b1 0)|1=>v=vi x.id|2=>v=(aH b1 1)|3=>v=.agg #[.slice pA pn pc,vi x.head.marks.ins,vi x.head.marks.move,.slice dA dn dc,.slice yA yn yc]|4=>∃ p d l,v=.agg #[p,vi x.head.marks.ins,vi x.head.marks.move,d,l]∧ji G x.head p d l|5=>v=(aH b1 6)|6=>v=.slice fA fn fc|7=>av G (.sl 11 (x.flow.map ay.dat)) v|_=>True) bN v G':=by
  intro bN v G G' hm h
  match bN,h with
  | 0,h=>exact h
  | 1,h=>exact h
  | 2,h=>exact h
  | 3,h=>exact h
  | 4,h=>exact let ⟨p,d,l,h1,h2⟩:=h;⟨p,d,l,h1,h2.mono hm⟩
  | 5,h=>exact h
  | 6,h=>exact h
  | 7,h=>exact av.mono hm h
  | 8,h=>exact trivial
  | 9,h=>exact trivial
  | _+10,h=>exact trivial
 refine Ai (hmx) [[],[0],[],[2],[2,3],[],[5],(ra 2 5),(ra 0 8),(ra 0 9)] [8,9] (by kernel_rfl) (by kernel_rfl) (fun (bN:Nat) (v:aj) (G:GH)=>match bN with|0=>v=(aH b1 0)|1=>v=vi x.id|2=>v=(aH b1 1)|3=>v=.agg #[.slice pA pn pc,vi x.head.marks.ins,vi x.head.marks.move,.slice dA dn dc,.slice yA yn yc]|4=>∃ p d l,v=.agg #[p,vi x.head.marks.ins,vi x.head.marks.move,d,l]∧ji G x.head p d l|5=>v=(aH b1 6)|6=>v=.slice fA fn fc|7=>av G (.sl 11 (x.flow.map ay.dat)) v|_=>True) iF H ?_ ?_
 ·clear H;refine aB ?_ ?_ ?_ ?_ (aB ?_ ?_ ?_ ?_ (aX (bH rfl) (aX (bH rfl) cO)))
  ·refine dP [] rfl trivial (by kernel_rfl) iF rfl rfl ?_;intro bV a w G1 hG HT H fin;exact kH H (Rf Ii rfl fun _ H=>fin H iJ rfl)
  ·refine dP [(0,3,_)] rfl ⟨fun _ _ h=>h,aC⟩ (by kernel_rfl) iF rfl rfl ?_;intro bV a w G1 hG HT H fin;exact kH H (Ro aF 1 rfl fun _ H=>fin H iJ rfl)
  ·refine dP [] rfl trivial (by kernel_rfl) iF rfl rfl ?_;intro bV a w G1 hG HT H fin;exact kH H (Rf Sj rfl fun _ H=>fin H iJ rfl)
  ·refine dP [(2,5,_)] rfl ⟨fun _ _ h=>h,aC⟩ (by kernel_rfl) iF rfl rfl ?_;intro bV a w G1 hG HT H fin;refine bE oW (cs:=[_,_,_,_,_]) H wn rfl rfl (H.hp.eF 1 rfl rfl) rfl ?_;clear H;intro a H;exact fin H iJ rfl
  ·refine dP [(3,6,_)] rfl ⟨fun _ _ h=>h,aC⟩ (by kernel_rfl) iF rfl rfl ?_;intro bV a w G1 hG HT H fin;refine s_call H8 H wn rfl (HZ _ _ H.ro x.head _ _ _ _ _ _ _ _ _ (hh.mono hG) (by omega)) rfl ?_;clear H;rintro v7 G7 a w IW sN H;exact fin H sN (IW)
  ·refine dP [] rfl trivial (by kernel_rfl) iF rfl rfl ?_;intro bV a w G1 hG HT H fin;exact kH H (Rf Fq rfl fun _ H=>fin H iJ rfl)
  ·refine dP [(5,8,_)] rfl ⟨fun _ _ h=>h,aC⟩ (by kernel_rfl) iF rfl rfl ?_;intro bV a w G1 hG HT H fin;exact kH H (Ro iG 1 rfl fun _ H=>fin H iJ rfl)
  refine dP [(6,9,_)] rfl ⟨fun _ _ h=>h,aC⟩ (by kernel_rfl) iF rfl rfl ?_;intro bV a w G1 hG HT H fin;refine s_call Lj H wn rfl (ih _ _ H.ro x.flow _ (hf.mono hG) (by omega)) rfl ?_;clear H;rintro v10 wT a w wz pO H;exact fin H pO (wz)
 clear H;intro a w G mg H hv;have H:=H.aV (hv 1 4 rfl rfl) rfl;obtain ⟨u7,hu7,IW⟩:=hv 4 7 (by decide) rfl;(try dsimp only at IW);obtain ⟨p7,d7,l7,rfl,II⟩:=IW;obtain ⟨a1,a2,a3,rfl⟩:=II.props.form;obtain ⟨a4,a5,a6,rfl⟩:=II.cu.form;obtain ⟨a7,a8,a9,rfl⟩:=II.layers.form;have H:=H.iI hu7;obtain ⟨u10,Nl,wz⟩:=hv 7 10 (by decide) rfl;(try dsimp only at wz);obtain ⟨Xa,n10,c10,rfl⟩:=wz.form;have H:=H.iI Nl;clear hv;refine kr ahG [_,_,_,_,_,_,_] H wn rfl rfl rfl rfl ?_;clear H;intro a H;refine bF mE 0 (vs:=[_,_,_,_,_,_,_]) _ H wn rfl rfl rfl rfl rfl rfl rfl rfl ?_;clear H;intro w H;dsimp only [List.set,setRow] at H;refine aI ⟨rfl,?_⟩;refine K2 _ _ ?_;clear K2;refine cB ?_;refine (leave1 H results102 (.cons (zK mE (cs:=[_,_,_,_,_,_,_]) H rfl rfl (H.hp.eF 0 rfl rfl)) .nil) ?_).1;exact H.rt ⟨_,rfl,aW.UU II wz⟩
theorem Zl {n:Nat} (ih:Bn n) (hn:n≤4294967296) {G:GH} {w0:World} (x:bQ) (hz:cK x.dat < n+1):Dc (.func (.func 102) #[] #[]) w0 G x.dat:=by
 intro G1 w1 cs hm1 hG1 hr;have h:=Zm ih hn _ _ hG1 x cs hr hz;have h2:=lH (P:=prog) (caps:=[]) (args:=[.agg cs.toArray]) Z7 h;exact h2
theorem Zr {n:Nat} (ih:Bn n) (hn:n≤4294967296) (G:GH) (w0:World) (hG:Hold G w0) (x:bR) (cs:List aj) (hv:aW G x.dat cs) (hz:cK x.dat < n+1) :
  Calls prog 67 #[.agg cs.toArray] w0 (bA w0 G fun u G'=>∃ cs',u=.agg cs'.toArray∧aW G' x.dat cs'):=by
 have he:=zZ x;have hl:=JZ x.cells;obtain ⟨pA,pn,pc,dA,dn,dc,yA,yn,yc,fA,fn,fc,rfl,hh,hf⟩:=hv.row;refine eN [(0,_)] func67 rfl ntmps67 rfl rfl hG ?_;intro a H;refine dw (fun _ K1=>?_);refine fu (cs:=[_,_,_,_,_,_]) H wn rfl rfl rfl ?_;clear H;intro b1 a w hb1 H;refine fq kR H wn rfl ?_;clear H;intro b2 a w hb2 H;refine K1 _ _ ?_;clear K1;refine aZ (fun _ K2=>?_)
 have iF:∀ (bN:Nat) (v:aj) (G G':GH),(∀ k o,G k=some o→G' k=some o)→(fun (bN:Nat) (v:aj) (G:GH)=>match bN with|0=>v=(aH b1 0)|1=>v=.agg #[.slice pA pn pc,vi x.head.marks.ins,vi x.head.marks.move,.slice dA dn dc,.slice yA yn yc]|2=>∃ p d l,v=.agg #[p,vi x.head.marks.ins,vi x.head.marks.move,d,l]∧ji G x.head p d l|3=>v=(aH b1 5)|4=>v=.slice fA fn fc|5=>av G (.sl 7 (x.cells.map bQ.dat)) v|_=>True) bN v G→(fun (bN:Nat) (v:aj) (G:GH)=>match bN with|0=>v=(aH b1 0)|1=>v=.agg #[.slice pA pn pc,vi x.head.marks.ins,vi x.head.marks.move,.slice dA dn dc,.slice yA yn yc]|2=>∃ p d l,v=.agg #[p,vi x.head.marks.ins,vi x.head.marks.move,d,l]∧ji G x.head p d l|3=>v=(aH b1 5)|4=>v=.slice fA fn fc|5=>av G (.sl 7 (x.cells.map bQ.dat)) v|_=>True) bN v G':=by
  intro bN v G G' hm h
  match bN,h with
  | 0,h=>exact h
  | 1,h=>exact h
  | 2,h=>exact let ⟨p,d,l,h1,h2⟩:=h;⟨p,d,l,h1,h2.mono hm⟩
  | 3,h=>exact h
  | 4,h=>exact h
  | 5,h=>exact av.mono hm h
  | 6,h=>exact trivial
  | 7,h=>exact trivial
  | _+8,h=>exact trivial
 refine Ai (hmx) [[],[0],[0,1],[],[3],(ra 0 5),(ra 0 6),(ra 0 7)] [6,7] (by kernel_rfl) (by kernel_rfl) (fun (bN:Nat) (v:aj) (G:GH)=>match bN with|0=>v=(aH b1 0)|1=>v=.agg #[.slice pA pn pc,vi x.head.marks.ins,vi x.head.marks.move,.slice dA dn dc,.slice yA yn yc]|2=>∃ p d l,v=.agg #[p,vi x.head.marks.ins,vi x.head.marks.move,d,l]∧ji G x.head p d l|3=>v=(aH b1 5)|4=>v=.slice fA fn fc|5=>av G (.sl 7 (x.cells.map bQ.dat)) v|_=>True) iF H ?_ ?_
 ·clear H;refine aB ?_ ?_ ?_ ?_ (aB ?_ ?_ (bH rfl) (bH rfl) cO)
  ·refine dP [] rfl trivial (by kernel_rfl) iF rfl rfl ?_;intro bV a w G1 hG HT H fin;exact kH H (Rf Si rfl fun _ H=>fin H iJ rfl)
  ·refine dP [(0,3,_)] rfl ⟨fun _ _ h=>h,aC⟩ (by kernel_rfl) iF rfl rfl ?_;intro bV a w G1 hG HT H fin;refine bE oW (cs:=[_,_,_,_,_]) H wn rfl rfl (H.hp.eF 1 rfl rfl) rfl ?_;clear H;intro a H;exact fin H iJ rfl
  ·refine dP [(1,4,_)] rfl ⟨fun _ _ h=>h,aC⟩ (by kernel_rfl) iF rfl rfl ?_;intro bV a w G1 hG HT H fin;refine s_call H8 H wn rfl (HZ _ _ H.ro x.head _ _ _ _ _ _ _ _ _ (hh.mono hG) (by omega)) rfl ?_;clear H;rintro v5 G5 a w pU Av H;exact fin H Av (pU)
  ·refine dP [] rfl trivial (by kernel_rfl) iF rfl rfl ?_;intro bV a w G1 hG HT H fin;exact kH H (Rf yX rfl fun _ H=>fin H iJ rfl)
  ·refine dP [(3,6,_)] rfl ⟨fun _ _ h=>h,aC⟩ (by kernel_rfl) iF rfl rfl ?_;intro bV a w G1 hG HT H fin;exact kH H (Ro zS 1 rfl fun _ H=>fin H iJ rfl)
  refine dP [(4,7,_)] rfl ⟨fun _ _ h=>h,aC⟩ (by kernel_rfl) iF rfl rfl ?_;intro bV a w G1 hG HT H fin;refine s_call Z6 H wn rfl (ZX _ _ H.ro x.cells _ _ (hf.mono hG) (by omega) (fun y hy=>Zl ih hn y (by have:=aix hy;omega))) rfl ?_;clear H;rintro v8 G8 a w wB qG H;exact fin H qG (wB)
 clear H;intro a w G mg H hv;obtain ⟨u5,FT,pU⟩:=hv 2 5 (by decide) rfl;(try dsimp only at pU);obtain ⟨p5,d5,l5,rfl,zB⟩:=pU;obtain ⟨a1,a2,a3,rfl⟩:=zB.props.form;obtain ⟨a4,a5,a6,rfl⟩:=zB.cu.form;obtain ⟨a7,a8,a9,rfl⟩:=zB.layers.form;have H:=H.iI FT;obtain ⟨u8,Nq,wB⟩:=hv 5 8 (by decide) rfl;(try dsimp only at wB);obtain ⟨A8,n8,c8,rfl⟩:=wB.form;have H:=H.iI Nq;clear hv;refine kr ahF [_,_,_,_,_,_] H wn rfl rfl rfl rfl ?_;clear H;intro a H;refine bF kR 0 (vs:=[_,_,_,_,_,_]) _ H wn rfl rfl rfl rfl rfl rfl rfl rfl ?_;clear H;intro w H;dsimp only [List.set,setRow] at H;refine aI ⟨rfl,?_⟩;refine K2 _ _ ?_;clear K2;refine cB ?_;refine (leave1 H results67 (.cons (zK kR (cs:=[_,_,_,_,_,_]) H rfl rfl (H.hp.eF 0 rfl rfl)) .nil) ?_).1;exact H.rt ⟨_,rfl,aW.UW zB wB⟩
theorem Zq {n:Nat} (ih:Bn n) (hn:n≤4294967296) {G:GH} {w0:World} (x:bR) (hz:cK x.dat < n+1):Dc (.func (.func 67) #[] #[]) w0 G x.dat:=by
 intro G1 w1 cs hm1 hG1 hr;have h:=Zr ih hn _ _ hG1 x cs hr hz;have h2:=lH (P:=prog) (caps:=[]) (args:=[.agg cs.toArray]) abo h;exact h2
theorem Zk {n:Nat} (ih:Bn n) (hn:n≤4294967296) (G:GH) (w0:World) (hG:Hold G w0) (x:ay) (cs:List aj) (hv:aW G x.dat cs) (hz:cK x.dat < n+1) :
  Calls prog 64 #[.agg cs.toArray] w0 (bA w0 G fun u G'=>∃ cs',u=.agg cs'.toArray∧aW G' x.dat cs'):=by
 have he:=oH x;have hl:=J3 x.rows;obtain ⟨pA,pn,pc,dA,dn,dc,yA,yn,yc,fA,fn,fc,rA,rn,rc,rfl,hh,hf,hr⟩:=hv.item;refine eN [(0,_)] func64 rfl ntmps64 rfl rfl hG ?_;intro a H;refine dw (fun _ K1=>?_);refine fu (cs:=[_,_,_,_,_,_,_,_,_,_,_]) H wn rfl rfl rfl ?_;clear H;intro b1 a w hb1 H;refine fq dH H wn rfl ?_;clear H;intro b2 a w hb2 H;refine K1 _ _ ?_;clear K1;refine aZ (fun _ K2=>?_)
 have iF:∀ (bN:Nat) (v:aj) (G G':GH),(∀ k o,G k=some o→G' k=some o)→(fun (bN:Nat) (v:aj) (G:GH)=>match bN with|0=>v=(aH b1 4)|1=>v=.agg #[.slice pA pn pc,vi x.head.marks.ins,vi x.head.marks.move,.slice dA dn dc,.slice yA yn yc]|2=>∃ p d l,v=.agg #[p,vi x.head.marks.ins,vi x.head.marks.move,d,l]∧ji G x.head p d l|3=>v=(aH b1 9)|4=>v=.slice fA fn fc|5=>av G (.sl 11 (x.flow.map ay.dat)) v|6=>v=(aH b1 10)|7=>v=.slice rA rn rc|8=>av G (.sl 6 (x.rows.map bR.dat)) v|9=>v=(aH b1 4)|_=>True) bN v G→(fun (bN:Nat) (v:aj) (G:GH)=>match bN with|0=>v=(aH b1 4)|1=>v=.agg #[.slice pA pn pc,vi x.head.marks.ins,vi x.head.marks.move,.slice dA dn dc,.slice yA yn yc]|2=>∃ p d l,v=.agg #[p,vi x.head.marks.ins,vi x.head.marks.move,d,l]∧ji G x.head p d l|3=>v=(aH b1 9)|4=>v=.slice fA fn fc|5=>av G (.sl 11 (x.flow.map ay.dat)) v|6=>v=(aH b1 10)|7=>v=.slice rA rn rc|8=>av G (.sl 6 (x.rows.map bR.dat)) v|9=>v=(aH b1 4)|_=>True) bN v G':=by
  intro bN v G G' hm h
  match bN,h with
  | 0,h=>exact h
  | 1,h=>exact h
  | 2,h=>exact let ⟨p,d,l,h1,h2⟩:=h;⟨p,d,l,h1,h2.mono hm⟩
  | 3,h=>exact h
  | 4,h=>exact h
  | 5,h=>exact av.mono hm h
  | 6,h=>exact h
  | 7,h=>exact h
  | 8,h=>exact av.mono hm h
  | 9,h=>exact h
  | 10,h=>exact trivial
  | 11,h=>exact trivial
  | 12,h=>exact trivial
  | 13,h=>exact trivial
  | 14,h=>exact trivial
  | _+15,h=>exact trivial
 refine Ai (hmx) [[],[0],[0,1],[],[3],(ra 0 5),[],[6],(ra 0 8),[0,1,2,3,4,6,7],(ra 0 10),(ra 0 11),(ra 0 12),(ra 0 13),(ra 0 14)] (ra 10 5) (by kernel_rfl) (by kernel_rfl) (fun (bN:Nat) (v:aj) (G:GH)=>match bN with|0=>v=(aH b1 4)|1=>v=.agg #[.slice pA pn pc,vi x.head.marks.ins,vi x.head.marks.move,.slice dA dn dc,.slice yA yn yc]|2=>∃ p d l,v=.agg #[p,vi x.head.marks.ins,vi x.head.marks.move,d,l]∧ji G x.head p d l|3=>v=(aH b1 9)|4=>v=.slice fA fn fc|5=>av G (.sl 11 (x.flow.map ay.dat)) v|6=>v=(aH b1 10)|7=>v=.slice rA rn rc|8=>av G (.sl 6 (x.rows.map bR.dat)) v|9=>v=(aH b1 4)|_=>True) iF H ?_ ?_
 ·clear H;refine aB ?_ ?_ ?_ ?_ (aB ?_ ?_ ?_ ?_ (aB ?_ ?_ (bH rfl) (bH rfl) (aX (bH rfl) (aX (bH rfl) (aX (bH rfl) cO)))))
  ·refine dP [] rfl trivial (by kernel_rfl) iF rfl rfl ?_;intro bV a w G1 hG HT H fin;exact kH H (Rf Al rfl fun _ H=>fin H iJ rfl)
  ·refine dP [(0,3,_)] rfl ⟨fun _ _ h=>h,aC⟩ (by kernel_rfl) iF rfl rfl ?_;intro bV a w G1 hG HT H fin;refine bE oW (cs:=[_,_,_,_,_]) H wn rfl rfl (H.hp.eF 1 rfl rfl) rfl ?_;clear H;intro a H;exact fin H iJ rfl
  ·refine dP [(1,4,_)] rfl ⟨fun _ _ h=>h,aC⟩ (by kernel_rfl) iF rfl rfl ?_;intro bV a w G1 hG HT H fin;refine s_call H8 H wn rfl (HZ _ _ H.ro x.head _ _ _ _ _ _ _ _ _ (hh.mono hG) (by omega)) rfl ?_;clear H;rintro v5 G5 a w pU Av H;exact fin H Av (pU)
  ·refine dP [] rfl trivial (by kernel_rfl) iF rfl rfl ?_;intro bV a w G1 hG HT H fin;exact kH H (Rf yV rfl fun _ H=>fin H iJ rfl)
  ·refine dP [(3,6,_)] rfl ⟨fun _ _ h=>h,aC⟩ (by kernel_rfl) iF rfl rfl ?_;intro bV a w G1 hG HT H fin;exact kH H (Ro iG 1 rfl fun _ H=>fin H iJ rfl)
  ·refine dP [(4,7,_)] rfl ⟨fun _ _ h=>h,aC⟩ (by kernel_rfl) iF rfl rfl ?_;intro bV a w G1 hG HT H fin;refine s_call Lj H wn rfl (ih _ _ H.ro x.flow _ (hf.mono hG) (by omega)) rfl ?_;clear H;rintro v8 G8 a w wB qG H;exact fin H qG (wB)
  ·refine dP [] rfl trivial (by kernel_rfl) iF rfl rfl ?_;intro bV a w G1 hG HT H fin;exact kH H (Rf tY rfl fun _ H=>fin H iJ rfl)
  ·refine dP [(6,9,_)] rfl ⟨fun _ _ h=>h,aC⟩ (by kernel_rfl) iF rfl rfl ?_;intro bV a w G1 hG HT H fin;exact kH H (Ro uK 1 rfl fun _ H=>fin H iJ rfl)
  ·refine dP [(7,10,_)] rfl ⟨fun _ _ h=>h,aC⟩ (by kernel_rfl) iF rfl rfl ?_;intro bV a w G1 hG HT H fin;refine s_call RF H wn rfl (Q7 _ _ H.ro x.rows _ _ (hr.mono hG) (by omega) (fun y hy=>Zq ih hn y (by have:=aiC hy;omega))) rfl ?_;clear H;rintro v11 uL a w FK jJ H;exact fin H jJ (FK)
  refine dP [] rfl trivial (by kernel_rfl) iF rfl rfl ?_;intro bV a w G1 hG HT H fin;exact kH H (Rf Al rfl fun _ H=>fin H iJ rfl)
 clear H;intro a w G mg H hv;obtain ⟨u5,FT,pU⟩:=hv 2 5 (by decide) rfl;(try dsimp only at pU);obtain ⟨p5,d5,l5,rfl,zB⟩:=pU;obtain ⟨a1,a2,a3,rfl⟩:=zB.props.form;obtain ⟨a4,a5,a6,rfl⟩:=zB.cu.form;obtain ⟨a7,a8,a9,rfl⟩:=zB.layers.form;have H:=H.iI FT;obtain ⟨u8,Nq,wB⟩:=hv 5 8 (by decide) rfl;(try dsimp only at wB);obtain ⟨A8,n8,c8,rfl⟩:=wB.form;have H:=H.iI Nq;obtain ⟨u11,aeu,FK⟩:=hv 8 11 (by decide) rfl;(try dsimp only at FK);obtain ⟨A11,n11,c11,rfl⟩:=FK.form;have H:=H.iI aeu;have H:=H.aV (hv 9 12 rfl rfl) rfl;clear hv;refine bF oW 1 (vs:=[_,_,_,_,_]) _ H wn rfl rfl rfl rfl rfl rfl rfl rfl ?_;clear H;intro w H;dsimp only [List.set,setRow] at H;refine kH H (Rf yV rfl ?_);clear H;intro a H;refine bF iG 1 (vs:=[_]) _ H wn rfl rfl rfl rfl rfl rfl rfl rfl ?_;clear H;intro w H;dsimp only [List.set,setRow] at H;refine kH H (Rf tY rfl ?_);clear H;intro a H;refine bF uK 1 (vs:=[_]) _ H wn rfl rfl rfl rfl rfl rfl rfl rfl ?_;clear H;intro w H;dsimp only [List.set,setRow] at H;refine aI ⟨rfl,?_⟩;refine K2 _ _ ?_;clear K2;refine dw (fun _ K3=>?_);refine bE dH (cs:=[_,_,_,_,_,_,_,_,_,_,_]) H wn rfl rfl (H.hp.eF 1 rfl rfl) rfl ?_;clear H;intro a H;refine bF dH 0 (vs:=[_,_,_,_,_,_,_,_,_,_,_]) _ H wn rfl rfl rfl rfl rfl rfl rfl rfl ?_;clear H;intro w H;dsimp only [List.set,setRow] at H;refine K3 _ _ ?_;clear K3;refine cB ?_;refine (leave1 H results64 (.cons (zK dH (cs:=[_,_,_,_,_,_,_,_,_,_,_]) H rfl rfl (H.hp.eF 0 rfl rfl)) .nil) ?_).1;exact H.rt ⟨_,rfl,aW.mkItem zB wB FK⟩
theorem Zj {n:Nat} (ih:Bn n) (hn:n≤4294967296) {G:GH} {w0:World} (x:ay) (hz:cK x.dat < n+1):Dc (.func (.func 64) #[] #[]) w0 G x.dat:=by
 intro G1 w1 cs hm1 hG1 hr;have h:=Zk ih hn _ _ hG1 x cs hr hz;have h2:=lH (P:=prog) (caps:=[]) (args:=[.agg cs.toArray]) abn h;exact h2
theorem QI:∀ n:Nat,n≤4294967297→Bn n
 | 0,_=>fun _ _ _ _ _ _ h=>absurd h (by omega)
 | n+1,hn=>by
  intro G w0 hG l v hv hz;have ih:=QI n (by omega);have hl:=Db l;refine eN [(0,_)] func40 rfl ntmps40 rfl rfl hG ?_;intro a H;refine kP H (SR fun _ K1=>ak K1 rfl (SR fun _ K2=>Rm rfl ?_));clear H K1;intro a H;refine s_call abm H wn rfl (ZY _ _ H.ro l _ _ hv (by omega) (fun y hy=>Zj ih (by omega) y (by have:=J2 hy;omega))) rfl ?_;clear H;rintro v4 G4 a w hp4 zo H;exact kH H (ak K2 rfl (LR results40 rfl fun H=>H.rt hp4))
theorem Zt (G:GH) (w0:World) (hG:Hold G w0) (l:List ay) (v:aj) (hv:av G (.sl 11 (l.map ay.dat)) v) (hz:bg l≤4294967296) :
  Calls prog 40 #[v] w0 (bA w0 G fun u G'=>av G' (.sl 11 (l.map ay.dat)) u):=QI 4294967297 (by omega) G w0 hG l v hv (by omega)
end
section
open Go.RowKit
section
variable {P:Program} {N:Nat} {D:List Deferred} {w0 w w':World} {F:Nat→Prop} {G0 G G':GH} {L L' Li Lo:OL} {T:List (Nat × aj)} {a a':Act} {Q:Exit→Act→World→Prop}
theorem St.cast (h:St N D w0 F G0 G L T a w) (e:L=L'):St N D w0 F G0 G L' T a w:=e ▸ h
theorem St.assoc {A B C:OL} (h:St N D w0 F G0 G ((A++B)++C) T a w):St N D w0 F G0 G (A++(B++C)) T a w:=h.cast (qx _ _ _)
theorem St.un {A B C:OL} (h:St N D w0 F G0 G (A++(B++C)) T a w):St N D w0 F G0 G ((A++B)++C) T a w:=h.cast (qx _ _ _).symm
theorem St.U3 {A B:OL} (h:St N D w0 F G0 G (A++B) T a w):St N D w0 F G0 G (A++(B++[])) T a w:=h.cast (by rw [tH])
theorem QB {ι κ:Type} {Lc:OL} {vT:Operand} {ps:List Nat} {assign body:Code} {gf:FuncId} {caps:List aj} {xs:List AP} {Gi:GH}
  (Lv:Nat→ι→OL) (Lt:Nat→ι→OL) (inv:Nat→ι→GH→Prop) (cx:κ→Code) (Lx BF:κ→OL) (wF:κ→GH→Prop) (i0:ι)
  (H:St N D w0 F G0 G (Lc++Lv 0 i0++Lt 0 i0) T a w) (hg:ev T vT=some (.func (.func gf) #[] caps.toArray)) (en:∀ args w,(callFunc gf args).run P w=.ok (.enter gf args) w) (hit:Iter P Gi (.func (.func gf) #[] caps.toArray) xs) (hGi:∀ b o,Gi b=some o→G b=some o)
  (hps:ps.all (Nat.blt · N)=true) (hlen:∀ k args g,tq xs k args g→args.length=ps.length) (hinv:∀ k i (G G':GH),(∀ b o,G b=some o→G' b=some o)→inv k i G→inv k i G') (M5:∀ x (G G':GH),(∀ b o,G b=some o→G' b=some o)→wF x G→wF x G') (h0:inv 0 i0 G)
  (round:∀ (l:Nat) (AV xk:Obj) (bk:OL) (k:Nat) (args:List aj) (i:ι) (G1:GH) (w1:World) (F1:Nat→Prop) (B1:Code→Exit→Act→World→Prop) (a1:Act),tq xs k args G1→(∀ b o,G b=some o→G1 b=some o)→inv k i G1 →
   (∀ T' G2 L2 a2 w2 c,St N [] w1 F1 G1 G2 ((l,AV) :: L2) T' a2 w2→(∀ w3,St N [] w1 F1 G1 G2 ((l,xk) :: L2) T' a2 w3→WP (some l) P c (B1 c) a2 w3)→Exit.then (fun a2 w2=>∃ w3,(Instr.beginRound l).run P w2=.ok () w3∧c.wpIn (FW (some l)) 0 P (B1 c) a2 w3) (fun _ _ _=>False) .normal a2 w2) →
   (∀ i' T' G2 a2 w2 c,St N [] w1 F1 G1 G2 ((l,xk) :: (Lc++Lv (k+1) i'++(bk++Lt (k+1) i'))) T' a2 w2→inv (k+1) i' G2→B1 c .normal a2 w2) →
   (∀ x T' G2 a2 w2 c,St N [] w1 F1 G1 G2 ((l,xk) :: (Lc++Lx x++(bk++BF x))) T' a2 w2→wF x G2→(cx x=.ret→B1 c .ret a2 w2)∧∀ n,cx x=.exit n→B1 c (.exit n) a2 w2) →
   St N [] w1 F1 G1 G1 ((l,AV) :: (Lc++Lv k i++(bk++Lt k i))) (vL ps args T) a1 w1 →
   WP (some l) P assign (Exit.then (fun a2 w2=>∃ w3,(Instr.beginRound l).run P w2=.ok () w3∧body.wpIn (FW (some l)) 0 P (B1 body) a2 w3) (fun _ _ _=>False)) a1 w1)
  (hdone:∀ Dk i G1 a1 w1,(∀ b o,G b=some o→G1 b=some o)→inv xs.length i G1→St N ({ target:=.collected Dk,args:=#[] } :: D) w0 F G0 G1 ((Dk,.deferred (some [])) :: (Lc++Lv xs.length i++Lt xs.length i)) T a1 w1→Q .normal a1 w1)
  (hstop:∀ Dk x G1 a1 w1,(∀ b o,G b=some o→G1 b=some o)→wF x G1→St N ({ target:=.collected Dk,args:=#[] } :: D) w0 F G0 G1 ((Dk,.deferred (some [])) :: (Lc++Lx x++BF x)) T a1 w1→WP none P (cx x) Q a1 w1) :
  WP none P (.rangeFunc vT ps.toArray assign body) Q a w:=by
 refine YJ (J:=fun k g L=>∃ i,L=Lc++Lv k i++Lt k i∧inv k i g) (Jx:=fun c g L=>∃ x,c=cx x∧L=Lc++Lx x++BF x∧wF x g) H hg en hit hGi hps hlen (fun k G G' L hm ⟨i,e,h⟩=>⟨i,e,hinv k i G G' hm h⟩) (fun c G G' L hm ⟨x,e1,e2,h⟩=>⟨x,e1,e2,M5 x G G' hm h⟩) ⟨i0,rfl,h0⟩ ?_ ?_ ?_
 ·rintro l q bk k args G1 L1 w1 a1 hk hm ⟨i,rfl,hi⟩ H1
  have pm:∀ A B:OL,(bk++(A++B)).Perm (A++(bk++B)):=fun A B=>by
   rw [← qx,← qx]
   exact List.Perm.append_right B yM
  refine round l (q.at .ready none) (q.at .busy none) bk k args i G1 w1 _ (fun _=>roundPost P l _) a1 hk hm hi ?_ ?_ ?_ (H1.perm (List.Perm.cons _ (pm _ _)))
  ·intro T' G2 L2 a2 w2 c H2 h
   exact Qy H2 h
  ·intro i' T' G2 a2 w2 c H2 h2
   exact El none (H2.perm (List.Perm.cons _ (pm _ _).symm)) ⟨_,rfl,i',rfl,h2⟩
  ·intro x T' G2 a2 w2 c H2 h2
   have H3:=H2.perm (List.Perm.cons _ (pm _ _).symm)
   refine ⟨fun e=>?_,fun n e=>?_⟩
   ·exact El (some .ret) H3 ⟨_,_,rfl,x,e.symm,rfl,h2⟩
   ·exact El (some (.exit n)) H3 ⟨_,_,rfl,x,e.symm,rfl,h2⟩
 ·rintro Dk G1 L1 a1 w1 hm ⟨i,rfl,hi⟩ H1
  exact hdone Dk i G1 a1 w1 hm hi H1
 ·rintro Dk c G1 L1 a1 w1 hm ⟨x,rfl,rfl,hx⟩ H1
  exact hstop Dk x G1 a1 w1 hm hx H1
def NH (ds:List Nat):List Deferred:=ds.map fun b=>{ target:=.collected b,args:=#[] }
def CG (ds:List Nat):OL:=ds.map fun b=>(b,.deferred (some []))
theorem YH {r:Option Nat} {ι:Type} {c:Code} {Tc:List (Nat × aj)} {Lc:List (Nat × Obj)} (Dv:ι→List Deferred) (Tv:ι→List (Nat × aj)) (Lv:ι→List (Nat × Obj)) (Gv:ι→GH) (Pr:ι→Prop) (m:ι→Nat) (i0:ι)
  (H:St N (Dv i0) w0 F G0 (Gv i0) (Lc++Lv i0) (Tv i0++Tc) a w) (hP:Pr i0)
  (round:∀ i a w,Pr i→St N (Dv i) w0 F G0 (Gv i) (Lc++Lv i) (Tv i++Tc) a w →
   WP r P c (Exit.then (fun a' w'=>∃ i',(St N (Dv i') w0 F G0 (Gv i') (Lc++Lv i') (Tv i'++Tc) a' w'∧Pr i')∧m i' < m i) Q) a w):WP r P (.loop c) Q a w :=
 QA (fun i a w=>St N (Dv i) w0 F G0 (Gv i) (Lc++Lv i) (Tv i++Tc) a w∧Pr i) m i0 ⟨H,hP⟩ fun i a w hI=>round i a w hI.2 hI.1
theorem afr {ι:Type} {Dv:ι→List Deferred} {Tc:List (Nat × aj)} {Lc:List (Nat × Obj)} {Tv:ι→List (Nat × aj)} {Lv:ι→List (Nat × Obj)} {Gv:ι→GH} {Pr:ι→Prop} {m:ι→Nat} {i:ι} (i':ι)
  (H:St N (Dv i') w0 F G0 (Gv i') (Lc++Lv i') (Tv i'++Tc) a w) (hP:Pr i') (hm:m i' < m i) :
  ∃ i',(St N (Dv i') w0 F G0 (Gv i') (Lc++Lv i') (Tv i'++Tc) a w∧Pr i')∧m i' < m i:=⟨i',⟨H,hP⟩,hm⟩
theorem Nz {fn:Func} {R:Ending→World→Prop} {Lh Lt:OL}:∀ (ds:List Nat) {a:Act} {w:World},St N (NH ds) w0 F G0 G (Lh++(CG ds++Lt)) T a w →
  (∀ a' w',St N [] w0 F G0 G (Lh++Lt) T a' w'→bodyPostM (FW none) 0 P fn R .ret a' w')→bodyPostM (FW none) 0 P fn R .ret a w∧bodyPostM (FW none) 0 P fn R .normal a w
 | [],a,w,H,k=>⟨k a w H,k a w H⟩
 | b :: ds,a,w,H,k=>by
  refine F3 (b:=b) (D:=NH ds) H Lh.length (by rw [vK (bM _),Nat.sub_self];rfl) fun a' w' H'=>?_
  refine (Nz ds (Lh:=Lh) (Lt:=Lt) (H'.cast ?_) k).1
  rw [List.eraseIdx_append_of_length_le (bM _),Nat.sub_self];rfl
end
end
section
open Go.RowKit
def n1 (x:ay):Nat:=if qg x=0 then dK x else 0
theorem afi (x:ay):wH [x]=n1 x:=by
 simp only [wH,tO,n1,gq,List.all_cons,List.all_nil,Bool.and_true,nY]
 split <;> simp_all
theorem av.len {G:GH} {sz:Nat} {rows:List (List Dat)} {A:Option Addr} {n c:Nat} (h:av G (.sl sz rows) (.slice A n c)):n=rows.length:=h.cells.1
theorem av.at_ {G:GH} {sz:Nat} {rows:List (List Dat)} {A:Option Addr} {n c:Nat} (h:av G (.sl sz rows) (.slice A n c)):∀ k r,rows[k]?=some r→∃ b o cs,A=some ⟨b,o,none⟩∧cs.length=sz∧(∀ j u,cs[j]?=some u→aJ G b (o+k*sz+j)=some u)∧aW G r cs:=by
 obtain ⟨A2,c2,e,_,_,hg⟩:=h.slice
 cases e;exact hg
theorem Jo {G:GH} {l:List bR} {A:Option Addr} {k:Nat} (hk:k < l.length) (hg:∀ k r,(l.map bR.dat)[k]?=some r→∃ b o cs,A=some ⟨b,o,none⟩∧cs.length=6∧(∀ j u,cs[j]?=some u→aJ G b (o+k*6+j)=some u)∧aW G r cs) :
  ∃ b o pA pn pc dA dn dc yA yn yc cA cn cc,A=some ⟨b,o,none⟩∧(∀ j u,[.slice pA pn pc,vi l[k].head.marks.ins,vi l[k].head.marks.move,.slice dA dn dc,.slice yA yn yc,.slice cA cn cc][j]?=some u→aJ G b (o+k*6+j)=some u) ∧
   ji G l[k].head (.slice pA pn pc) (.slice dA dn dc) (.slice yA yn yc)∧av G (.sl 7 (l[k].cells.map bQ.dat)) (.slice cA cn cc):=by
 obtain ⟨b,o,cs,h1,h2,h3,h4⟩:=hg k l[k].dat (by simp [hk]);obtain ⟨pA,pn,pc,dA,dn,dc,yA,yn,yc,cA,cn,cc,rfl,h5,h6⟩:=h4.row;exact ⟨b,o,pA,pn,pc,dA,dn,dc,yA,yn,yc,cA,cn,cc,h1,h3,h5,h6⟩
theorem Hw {G:GH} {l:List bQ} {A:Option Addr} {k:Nat} (hk:k < l.length) (hg:∀ k r,(l.map bQ.dat)[k]?=some r→∃ b o cs,A=some ⟨b,o,none⟩∧cs.length=7∧(∀ j u,cs[j]?=some u→aJ G b (o+k*7+j)=some u)∧aW G r cs) :
  ∃ b o pA pn pc dA dn dc yA yn yc fA fn fc,A=some ⟨b,o,none⟩∧(∀ j u,[vi l[k].id,.slice pA pn pc,vi l[k].head.marks.ins,vi l[k].head.marks.move,.slice dA dn dc,.slice yA yn yc,.slice fA fn fc][j]?=some u→aJ G b (o+k*7+j)=some u) ∧
   ji G l[k].head (.slice pA pn pc) (.slice dA dn dc) (.slice yA yn yc)∧av G (.sl 11 (l[k].flow.map ay.dat)) (.slice fA fn fc):=by
 obtain ⟨b,o,cs,h1,h2,h3,h4⟩:=hg k l[k].dat (by simp [hk]);obtain ⟨pA,pn,pc,dA,dn,dc,yA,yn,yc,fA,fn,fc,rfl,h5,h6⟩:=h4.cell;exact ⟨b,o,pA,pn,pc,dA,dn,dc,yA,yn,yc,fA,fn,fc,h1,h3,h5,h6⟩
end
section
open Go.RowKit
structure mH where
 (f p d y r s1 s2 s3 s4:Option Addr × Nat × Nat)
 (ins move:Int)
abbrev fD (x:Option Addr × Nat × Nat):aj:=.slice x.1 x.2.1 x.2.2
abbrev mH.cells (D:mH):List aj:=[fD D.f,fD D.p,vi D.ins,vi D.move,fD D.d,fD D.y,fD D.r,fD D.s1,fD D.s2,fD D.s3,fD D.s4]
abbrev mH.val (D:mH):aj:=.agg D.cells.toArray
end
section
open Go.RowKit
theorem LB:∀ args w,(callFunc 97 args).run prog w=.ok (.enter 97 args) w:=enters func97 rfl (by kernel_rfl)
theorem JI:Ty prog 106 3 16 [.bool false,.bool false,.int .i64 0] true:=⟨by kernel_rfl,by kernel_rfl⟩
theorem ahz:oK prog 108 [(0,1),(1,3)] [.slice none 0 0,.bool false,.bool false,.int .i64 0]:=⟨by kernel_rfl,by kernel_rfl⟩
theorem Ak:bO prog 63 2 2:=⟨by kernel_rfl⟩
theorem Fb:bO prog 106 2 2:=⟨by kernel_rfl⟩
theorem Ba:oK prog 106 [(0,1),(1,1),(2,1)] [.bool false,.bool false,.int .i64 0]:=⟨by kernel_rfl,by kernel_rfl⟩
theorem LD:bO prog 106 1 1:=⟨by kernel_rfl⟩
theorem wP:Ty prog 4 1 1 [.bool false] false:=⟨by kernel_rfl,by kernel_rfl⟩
theorem DL:bO prog 38 0 0:=⟨by kernel_rfl⟩
theorem abl:∀ args w,(callFunc 62 args).run prog w=.ok (.enter 62 args) w:=enters func62 rfl (by kernel_rfl)
theorem RJ:∀ args w,(callFunc 96 args).run prog w=.ok (.enter 96 args) w:=enters func96 rfl (by kernel_rfl)
structure jv where
 id:Int
 items:List ay
 body:Bool
 note:Bool
 tables:Int
mutual
def zV (note:Bool) (t:Int):ay→List jv
 | .mk k _ i _ _ f r=>if k=6 then ⟨i,f,false,true,t⟩ :: jr true t f else if k=7 then rR note t r else []
def jr (note:Bool) (t:Int):List ay→List jv
 | []=>[]
 | x :: l=>zV note t x++jr note t l
def rR (note:Bool) (t:Int):List bR→List jv
 | []=>[]
 | r :: l=>zW note t r++rR note t l
def zW (note:Bool) (t:Int):bR→List jv
 | .mk _ cs=>sZ note t cs
def sZ (note:Bool) (t:Int):List bQ→List jv
 | []=>[]
 | c :: l=>zU note t c++sZ note t l
def zU (note:Bool) (t:Int):bQ→List jv
 | .mk i _ f=>⟨i,f,false,note,t+1⟩ :: jr note (t+1) f
end
theorem ain (note:Bool) (t:Int) (x:ay):zV note t x=if x.kind=6 then ⟨x.id,x.flow,false,true,t⟩ :: jr true t x.flow else if x.kind=7 then rR note t x.rows else []:=by cases x;rw [zV];rfl
theorem aip (note:Bool) (t:Int) (x:bR):zW note t x=sZ note t x.cells:=by cases x;rw [zW];rfl
theorem aik (note:Bool) (t:Int) (x:bQ):zU note t x=⟨x.id,x.flow,false,note,t+1⟩ :: jr note (t+1) x.flow:=by cases x;rw [zU];rfl
def yY (a:jv):AP:=fun args g=>∃ v,args=[vi a.id,.agg #[v,.bool a.body,.bool a.note,vi a.tables]]∧av g (.sl 11 (a.items.map ay.dat)) v
def Kt (n:Nat):Prop:=∀ (fv:aj) (Gi:GH) (xs:List AP) (J:Nat→GH→OL→Prop) (Jx:GH→OL→Prop) (G:GH) (L:OL) (w0:World) (j:Nat) (l:List ay) (id:Int) (body note:Bool) (t:Int) (v:aj),
 (∀ b o,Gi b=some o→G b=some o)→EC prog fv Gi xs J Jx→Bv J→Dp Jx→J j G L→gH G L w0→av G (.sl 11 (l.map ay.dat)) v→bg l < n→0≤t→t+bg l≤4294967296→(∀ i a,(⟨id,l,body,note,t⟩ :: jr note t l)[i]?=some a→xs[j+i]?=some (yY a)) →
 Calls prog 97 #[vi id,v,.agg #[.bool body,.bool note,vi t],fv] w0 (fT w0 G L fun u G' L'=>∃ b,u=.bool b∧(b=true→J (j+((jr note t l).length+1)) G' L')∧(b=false→Jx G' L'))
set_option maxHeartbeats 1000000 in
theorem air {n:Nat} (ih:Kt n) (hn:n≤4294967296):Kt (n+1):=by
 intro fv Gi xs J Jx G L w0 j0 l id body note t v hGi hcb uj hJx hJ0 hO hv hz ht0 ht1 hx0;obtain ⟨A,c,rfl,hc1,hc2,hg⟩:=hv.slice;rw [bX] at *;have hll:=Db l;have Nb:Now xs yY J (j0+((jr note t l).length+1)) j0 (⟨id,l,body,note,t⟩ :: jr note t l) G L:=⟨hJ0,hx0,rfl⟩;refine jy (N:=74) (T:=[(0,_),(1,_),(2,_),(3,_)]) func97 rfl ntmps97 rfl rfl hO ?_;intro a H;refine dw (fun _ K1=>?_);refine fu (cs:=[_,_,_]) H wn rfl rfl rfl ?_;clear H;intro b6 a w hb6 H;refine kH H (ak K1 rfl (SQ fun _ K2=>SR fun _ K3=>Rm rfl (Rm rfl (Rm rfl ?_))));clear H K1;intro a H;refine bE JI (cs:=[_,_,_]) H wn rfl rfl (H.hp.eF 0 rfl rfl) rfl ?_;clear H;intro a H;refine kr ahz [_,_,_,_] H wn rfl rfl rfl rfl ?_;clear H;intro a H;refine Eo (Li:=[_]) (L:=L) H wn rfl rfl (hcb _ _ _ _ _ ⟨_,Nb.head,_,rfl,hv⟩ hGi Nb.now (Hp.owns (Li:=[_]) H.hp)) rfl ?_;clear H;rintro v20 Br EM a w ⟨b20,rfl,hb1,hb2⟩ AA H;refine kH H (Rn rfl (Kz K3 (Cd rfl ?_ ?_))) <;> clear H K3
 ·intro h21 a H
  try have pW:=dT h21
  refine kP H (SR fun _ K4=>ak K4 rfl ?_);clear H K4;intro a H;refine lr H results97 rfl ?_
  first
   | exact H.hp.gL (L':=EM) (by repeat (first|exact iy _|apply List.Sublist.cons)) ⟨_,rfl,fun e=>(by cases e),fun _=>hb2 (by simpa using h21)⟩
   | exact H.hp.gL (L':=EN) (by repeat (first|exact iy _|apply List.Sublist.cons)) ⟨_,rfl,fun e=>(by cases e),fun _=>hb4 (by simpa using Aq)⟩
   | exact H.hp.gL (L':=EO) (by repeat (first|exact iy _|apply List.Sublist.cons)) ⟨_,rfl,fun e=>(by cases e),fun _=>hb6 (by simpa using uh)⟩
   | exact H.hp.gL (L':=Lt) (by repeat (first|exact iy _|apply List.Sublist.cons)) ⟨_,rfl,fun _=>(by rw [iK (by omega),jr] at dR;have:=dR.len;simp only [List.length_nil,qX] at this;rw [← this];exact dR.now),fun e=>(by cases e)⟩
 intro h21 a H
 try have pW:=dF h21
 refine kP H (Kc K2 (SQ fun _ K5=>SR fun _ K6=>Rm rfl (Rl gD rfl (Rm rfl (Kz K6 (SB ?_))))));clear H K2 K6;intro a H;skip;refine fJ (ι:=Nat × Nat × OL × GH) (Tc:=[(3,_),(6,_),(22,_),(23,_)]) (Lc:=[(_,_)]) (fun gh=>[(24,vi gh.1)]) (fun gh=>[]++gh.2.2.1) (fun gh=>gh.2.2.2) (fun gh=>gh.1≤l.length∧(∀ b o,G b=some o→gh.2.2.2 b=some o)∧Now xs yY J (j0+((jr note t l).length+1)) gh.2.1 (jr note t (l.drop gh.1)) gh.2.2.2 gh.2.2.1) (fun gh=>l.length - gh.1) ((0,j0+1,EM,Br)) (by exact (H).sub ⟨rfl,rfl,rfl,rfl,rfl,aC⟩) ?_ ?_
 ·exact ⟨by omega,AA,Nb.step (hb1 (by simpa using h21))⟩
 clear H;intro gh a w hI H;obtain ⟨k,j1,Lt,g⟩:=gh;dsimp only at hI H;obtain ⟨hk,hgm,dR⟩:=hI;dsimp only [lca,bC] at H;refine kP H (SR fun _ K7=>Rc rfl (Kz K7 (SQ fun _ K8=>Cd rfl ?_ ?_))) <;> clear H K7
 ·intro kW a H
  try have p25:=dT kW
  have hk2:k < l.length:=by omega
  obtain ⟨b,o,pA,pn,pc,dA,dn,dc,yA,yn,yc,fA,fn,fc,rA,rn,rc,rfl,hrow,hhd,hfl,hrw⟩:=yZ hk2 hg;replace hrow:=fun j u hj=>aL hgm (hrow j u hj);have hrn:=hrw.len;rw [bX] at hrn;subst hrn;have hrs:=J3 l[k].rows;have hsz1:=WW hk2;rw [mK hk2] at dR
  simp only [jr,ain] at dR
  refine kP H (Kc K8 (SQ fun _ K9=>SB (SR fun _ aT=>Ri gD dH rfl rfl ?_)));clear H K8;intro a H;refine bE dH (cs:=[_,_,_,_,_,_,_,_,_,_,_]) H wn rfl rfl (fun j v hj=>H.hp.aJ (hrow j v hj)) rfl ?_;clear H;intro a H;refine fq dH H wn rfl ?_;clear H;intro b10 a w MN H;refine bF dH 0 (vs:=[_,_,_,_,_,_,_,_,_,_,_]) _ H wn rfl rfl rfl rfl rfl rfl rfl rfl ?_;clear H;intro w H;dsimp only [List.set,setRow] at H;refine aT _ _ ?_;clear aT;refine kP H (SR fun _ bD=>aU jA aF 0 rfl rfl (Kz bD (SB (SR fun _ bK=>Rc rfl (ak bK rfl (Cd rfl ?_ ?_)))))) <;> clear H bD bK
  ·intro pI a H
   try have p30:=dT pI
   rw [au p30] at dR;refine kP H (SR fun _ bT=>aU Ak aF 0 rfl rfl (aU yV iG 0 rfl rfl (aU Fb aF 1 rfl rfl ?_)));clear H;intro a H;refine kr Ba [_,_,_] H wn rfl rfl rfl rfl ?_;clear H;intro a H;refine kH H (Rm rfl ?_);clear H;intro a H;refine gB LB (Li:=[_,_]) (L:=Lt) H wn rfl (ih fv Gi xs J Jx _ _ _ j1 l[k].flow l[k].id false true t _ (fun b o h=>hgm b o (hGi b o h)) hcb uj hJx dR.now (Hp.owns (Li:=[_,_]) H.hp) (hfl.mono hgm) (by omega) ht0 (by omega) dR.part) rfl ?_;clear H;rintro v40 Pg EN a w ⟨b40,rfl,hb3,hb4⟩ IL H;refine kH H (Rn rfl (Kz bT (Cd rfl ?_ ?_))) <;> clear H bT
   ·intro Aq a H
    try have p41:=dT Aq
    refine kP H (SR fun _ bU=>ak bU rfl ?_);clear H bU;intro a H;refine lr H results97 rfl ?_
    first
     | exact H.hp.gL (L':=EM) (by repeat (first|exact iy _|apply List.Sublist.cons)) ⟨_,rfl,fun e=>(by cases e),fun _=>hb2 (by simpa using h21)⟩
     | exact H.hp.gL (L':=EN) (by repeat (first|exact iy _|apply List.Sublist.cons)) ⟨_,rfl,fun e=>(by cases e),fun _=>hb4 (by simpa using Aq)⟩
     | exact H.hp.gL (L':=EO) (by repeat (first|exact iy _|apply List.Sublist.cons)) ⟨_,rfl,fun e=>(by cases e),fun _=>hb6 (by simpa using uh)⟩
     | exact H.hp.gL (L':=Lt) (by repeat (first|exact iy _|apply List.Sublist.cons)) ⟨_,rfl,fun _=>(by rw [iK (by omega),jr] at dR;have:=dR.len;simp only [List.length_nil,qX] at this;rw [← this];exact dR.now),fun e=>(by cases e)⟩
   intro Aq a H
   try have p41:=dF Aq
   refine kP H (Kc K9 (SC (Rd rfl (Rm rfl ?_))));clear H K9;intro a H;refine aI ?_;refine dN ((k+1,j1+((jr true t l[k].flow).length+1),EN,Pg)) (by exact (H.dX (Pl:=[_,_]) (dz:=[_]) [1] (by decide) rfl).sub ⟨rfl,rfl,rfl,rfl,rfl,aC⟩) ?_ ?_
   ·(try dsimp only);exact ⟨by omega,fun b o h=>IL b o (hgm b o h),dR.jump (hb3 (by simpa using Aq))⟩
   first|omega|(dsimp only;omega)
  intro pI a H
  try have p30:=dF pI
  refine kP H (SR fun _ dM=>Rc rfl (ak dM rfl (Cd rfl ?_ ?_))) <;> clear H dM
  ·intro BS a H
   try have p42:=dT BS
   rw [ah p30,au p42] at dR;refine kP H (SR fun _ dO=>aU tY uK 0 rfl rfl (Rl nU rfl (Rm rfl (Kz dO (SB ?_)))));clear H dO;intro a H;skip;refine fJ (ι:=Nat × Nat × OL × GH) (Tc:=[(3,_),(6,_),(22,_),(23,_),(24,_),(45,_),(46,_)]) (Lc:=[(_,_),(_,_)]) (fun gh=>[(47,vi gh.1)]) (fun gh=>[]++gh.2.2.1) (fun gh=>gh.2.2.2) (fun gh=>gh.1≤l[k].rows.length∧(∀ b o,G b=some o→gh.2.2.2 b=some o)∧Now xs yY J (j0+((jr note t l).length+1)) gh.2.1 (rR note t (l[k].rows.drop gh.1)++jr note t (l.drop (k+1))) gh.2.2.2 gh.2.2.1) (fun gh=>l[k].rows.length - gh.1) ((0,j1,Lt,g)) (by exact (H).sub ⟨rfl,rfl,rfl,rfl,rfl,rfl,rfl,rfl,aC⟩) ?_ ?_
   ·exact ⟨by omega,hgm,dR⟩
   clear H;intro gh a w hI H;obtain ⟨rk,j3,Lt3,g3⟩:=gh;dsimp only at hI H;obtain ⟨Ni,zy,qJ⟩:=hI;dsimp only [lca,bC] at H;refine kP H (SR fun _ dD=>Rc rfl (Kz dD (SQ fun _ eG=>Cd rfl ?_ ?_))) <;> clear H dD
   ·intro h48 a H
    try have p48:=dT h48
    have hk3:rk < l[k].rows.length:=by omega
    obtain ⟨b2,o2,qA,qn,qc,eA,en,ec,zA,zn,zc,cA,cn,cc,rfl,hrow,Ck,hcl⟩:=Jo hk3 hrw.at_;replace hrow:=fun j u hj=>aL zy (hrow j u hj);have hcn:=hcl.len;rw [bX] at hcn;subst hcn;have hsz2:=OT hk3;have hcs:=JZ l[k].rows[rk].cells;rw [mK hk3] at qJ
    simp only [rR,aip,qx] at qJ
    refine kP H (Kc eG (SQ fun _ gM=>SB (SR fun _ fG=>Ri nU kR rfl rfl ?_)));clear H eG;intro a H;refine bE kR (cs:=[_,_,_,_,_,_]) H wn rfl rfl (fun j v hj=>H.hp.aJ (hrow j v hj)) rfl ?_;clear H;intro a H;refine fq kR H wn rfl ?_;clear H;intro b12 a w Ay H;refine bF kR 0 (vs:=[_,_,_,_,_,_]) _ H wn rfl rfl rfl rfl rfl rfl rfl rfl ?_;clear H;intro w H;dsimp only [List.set,setRow] at H;refine fG _ _ ?_;clear fG;refine kP H (SR fun _ gN=>aU yX zS 0 rfl rfl (Rl rQ rfl (Rm rfl (Kz gN (SB ?_)))));clear H gN;intro a H;skip;refine fJ (ι:=Nat × Nat × OL × GH) (Tc:=[(3,_),(6,_),(22,_),(23,_),(24,_),(45,_),(46,_),(47,_),(52,_),(53,_)]) (Lc:=[(_,_),(_,_),(_,_)]) (fun gh=>[(54,vi gh.1)]) (fun gh=>[]++gh.2.2.1) (fun gh=>gh.2.2.2) (fun gh=>gh.1≤l[k].rows[rk].cells.length∧(∀ b o,G b=some o→gh.2.2.2 b=some o)∧Now xs yY J (j0+((jr note t l).length+1)) gh.2.1 (sZ note t (l[k].rows[rk].cells.drop gh.1)++(rR note t (l[k].rows.drop (rk+1))++jr note t (l.drop (k+1)))) gh.2.2.2 gh.2.2.1) (fun gh=>l[k].rows[rk].cells.length - gh.1) ((0,j3,Lt3,g3)) (by exact (H).sub ⟨rfl,rfl,rfl,rfl,rfl,rfl,rfl,rfl,rfl,rfl,rfl,aC⟩) ?_ ?_
    ·exact ⟨by omega,zy,qJ⟩
    clear H;intro gh a w hI H;obtain ⟨ck,j4,Lt4,g4⟩:=gh;dsimp only at hI H;obtain ⟨hck,FE,rF⟩:=hI;dsimp only [lca,bC] at H;refine kP H (SR fun _ iY=>Rc rfl (Kz iY (SQ fun _ jX=>Cd rfl ?_ ?_))) <;> clear H iY
    ·intro kM a H
     try have p55:=dT kM
     have hk4:ck < l[k].rows[rk].cells.length:=by omega
     obtain ⟨b3,o3,sA,sn,sc,tA,tn,tc,uA,un,uc,gA,gn,gc,rfl,hrow,hch,hcf⟩:=Hw hk4 hcl.at_;replace hrow:=fun j u hj=>aL FE (hrow j u hj);have aer:=OQ hk4;rw [mK hk4] at rF
     simp only [sZ,aik,qx] at rF
     refine kP H (Kc jX (SQ fun _ jT=>SB (SR fun _ jw=>Ri rQ mE rfl rfl ?_)));clear H jX;intro a H;refine bE mE (cs:=[_,_,_,_,_,_,_]) H wn rfl rfl (fun j v hj=>H.hp.aJ (hrow j v hj)) rfl ?_;clear H;intro a H;refine fq mE H wn rfl ?_;clear H;intro b14 a w MP H;refine bF mE 0 (vs:=[_,_,_,_,_,_,_]) _ H wn rfl rfl rfl rfl rfl rfl rfl rfl ?_;clear H;intro w H;dsimp only [List.set,setRow] at H;refine jw _ _ ?_;clear jw;refine kP H (SR fun _ kC=>aU Ii aF 0 rfl rfl (aU Fq iG 0 rfl rfl (aU LD wP 3 rfl rfl (aU Fb aF 3 rfl rfl (Rd rfl ?_)))));clear H;intro a H;refine kr Ba [_,_,_] H wn rfl rfl rfl rfl ?_;clear H;intro a H;refine kH H (Rm rfl ?_);clear H;intro a H;refine gB LB (Li:=[_,_,_,_]) (L:=Lt4) H wn rfl (ih fv Gi xs J Jx _ _ _ j4 l[k].rows[rk].cells[ck].flow l[k].rows[rk].cells[ck].id false note (t+1) _ (fun b o h=>FE b o (hGi b o h)) hcb uj hJx rF.now (Hp.owns (Li:=[_,_,_,_]) H.hp) (hcf.mono FE) (by omega) (by omega) (by omega) rF.part) rfl ?_;clear H;rintro v69 XF EO a w ⟨b69,rfl,hb5,hb6⟩ adX H;refine kH H (Rn rfl (Kz kC (Cd rfl ?_ ?_))) <;> clear H kC
     ·intro uh a H
      try have p70:=dT uh
      refine kP H (SR fun _ kD=>ak kD rfl ?_);clear H kD;intro a H;refine lr H results97 rfl ?_
      first
       | exact H.hp.gL (L':=EM) (by repeat (first|exact iy _|apply List.Sublist.cons)) ⟨_,rfl,fun e=>(by cases e),fun _=>hb2 (by simpa using h21)⟩
       | exact H.hp.gL (L':=EN) (by repeat (first|exact iy _|apply List.Sublist.cons)) ⟨_,rfl,fun e=>(by cases e),fun _=>hb4 (by simpa using Aq)⟩
       | exact H.hp.gL (L':=EO) (by repeat (first|exact iy _|apply List.Sublist.cons)) ⟨_,rfl,fun e=>(by cases e),fun _=>hb6 (by simpa using uh)⟩
       | exact H.hp.gL (L':=Lt) (by repeat (first|exact iy _|apply List.Sublist.cons)) ⟨_,rfl,fun _=>(by rw [iK (by omega),jr] at dR;have:=dR.len;simp only [List.length_nil,qX] at this;rw [← this];exact dR.now),fun e=>(by cases e)⟩
     intro uh a H
     try have p70:=dF uh
     refine kP H (Kc jT (SC (Rd rfl (Rm rfl ?_))));clear H jT;intro a H;refine aI ?_;refine dN ((ck+1,j4+((jr note (t+1) l[k].rows[rk].cells[ck].flow).length+1),EO,XF)) (by exact (H.dX (Pl:=[_,_,_,_]) (dz:=[_,_,_]) [1,2,3] (by decide) rfl).sub ⟨rfl,rfl,rfl,rfl,rfl,rfl,rfl,rfl,rfl,rfl,rfl,aC⟩) ?_ ?_
     ·(try dsimp only);exact ⟨by omega,fun b o h=>adX b o (FE b o h),rF.jump (hb5 (by simpa using uh))⟩
     first|omega|(dsimp only;omega)
    intro kM a H
    try have p55:=dF kM
    refine eX ?_;refine gM _ _ ?_;clear gM;refine kP H (SC (Rd rfl (Rm rfl ?_)));clear H;intro a H;refine aI ?_;refine dN ((rk+1,j4,Lt4,g4)) (by exact (H.dX (Pl:=[_,_,_]) (dz:=[_,_]) [1,2] (by decide) rfl).sub ⟨rfl,rfl,rfl,rfl,rfl,rfl,rfl,rfl,aC⟩) ?_ ?_
    ·(try dsimp only);exact ⟨by omega,FE,by rw [iK (by omega),sZ,lG] at rF;exact rF⟩
    first|omega|(dsimp only;omega)
   intro h48 a H
   try have p48:=dF h48
   refine eX ?_;refine K9 _ _ ?_;clear K9;refine kP H (SC (Rd rfl (Rm rfl ?_)));clear H;intro a H;refine aI ?_;refine dN ((k+1,j3,Lt3,g3)) (by exact (H.dX (Pl:=[_,_]) (dz:=[_]) [1] (by decide) rfl).sub ⟨rfl,rfl,rfl,rfl,rfl,aC⟩) ?_ ?_
   ·(try dsimp only);exact ⟨by omega,zy,by rw [iK (by omega),rR,lG] at qJ;exact qJ⟩
   first|omega|(dsimp only;omega)
  intro BS a H
  try have p42:=dF BS
  refine kP H (Kc K9 (SC (Rd rfl (Rm rfl ?_))));clear H K9;intro a H;refine aI ?_;refine dN ((k+1,j1,Lt,g)) (by exact (H.dX (Pl:=[_,_]) (dz:=[_]) [1] (by decide) rfl).sub ⟨rfl,rfl,rfl,rfl,rfl,aC⟩) ?_ ?_
  ·(try dsimp only);exact ⟨by omega,hgm,by rw [ah p30,ah p42,lG] at dR;exact dR⟩
  first|omega|(dsimp only;omega)
 intro kW a H
 try have p25:=dF kW
 refine eX ?_;refine K5 _ _ ?_;clear K5;refine kP H (SR fun _ iZ=>ak iZ rfl ?_);clear H iZ;intro a H;refine lr H results97 rfl ?_
 first
  | exact H.hp.gL (L':=EM) (by repeat (first|exact iy _|apply List.Sublist.cons)) ⟨_,rfl,fun e=>(by cases e),fun _=>hb2 (by simpa using h21)⟩
  | exact H.hp.gL (L':=EN) (by repeat (first|exact iy _|apply List.Sublist.cons)) ⟨_,rfl,fun e=>(by cases e),fun _=>hb4 (by simpa using Aq)⟩
  | exact H.hp.gL (L':=EO) (by repeat (first|exact iy _|apply List.Sublist.cons)) ⟨_,rfl,fun e=>(by cases e),fun _=>hb6 (by simpa using uh)⟩
  | exact H.hp.gL (L':=Lt) (by repeat (first|exact iy _|apply List.Sublist.cons)) ⟨_,rfl,fun _=>(by rw [iK (by omega),jr] at dR;have:=dR.len;simp only [List.length_nil,qX] at this;rw [← this];exact dR.now),fun e=>(by cases e)⟩
theorem WJ:∀ n:Nat,n≤4294967297→Kt n
 | 0,_=>fun _ _ _ _ _ _ _ _ _ _ _ _ _ _ _ _ _ _ _ _ _ _ h=>absurd h (by omega)
 | n+1,hn=>air (WJ n (by omega)) (by omega)
def Ao (l:List ay):List jv:=⟨0,l,true,false,0⟩ :: jr false 0 l
theorem acN {G:GH} {ba bl bp:Nat} {l:List ay} {v:aj} {id t:Int} {body note:Bool} (h1:aJ G ba 0=some (vi id)) (h2:aJ G bl 0=some v) (h3:G bp=some (.cells #[.bool body,.bool note,vi t] 106 (0,0))) (hv:av G (.sl 11 (l.map ay.dat)) v) (hz:bg l≤4294967296) (ht0:0≤t) (ht1:t+bg l≤4294967296) :
  Iter prog G (.func (.func 96) #[] #[(aH ba 0),(aH bl 0),(aH bp 0)]) ((⟨id,l,body,note,t⟩ :: jr note t l).map yY):=by
 intro J Jx fv G1 L w0 Te hGi uj hJx hJ hO hcb;refine lH (caps:=[(aH ba 0),(aH bl 0),(aH bp 0)]) RJ ?_;replace h1:=aL hGi h1;replace h2:=aL hGi h2
 have hrow:∀ j u,[.bool body,.bool note,vi t][j]?=some u→aJ G1 bp (0+j)=some u:=by
  intro j u hj;refine aL hGi ?_
  unfold aJ;rw [h3];simpa using hj
 refine jy (N:=10) (T:=[(0,_),(1,_),(2,_),(3,_)]) func96 rfl ntmps96 rfl rfl hO ?_;intro a H;refine kP H (SC (Rg aF rfl (by assumption) ?_));clear H;intro a H;refine kH H (Rg iG rfl (by assumption) ?_);clear H;intro a H;refine bE JI (cs:=[_,_,_]) H wn rfl rfl (fun j v hj=>H.hp.aJ (hrow j v hj)) rfl ?_;clear H;intro a H;refine kH H (Rm rfl ?_);clear H;intro a H;refine gB LB (Li:=[]) (L:=L) H wn rfl (WJ 4294967297 (by omega) _ G1 _ J Jx G1 _ _ 0 l id body note t _ (fun _ _ h=>h) hcb uj hJx hJ (Hp.owns (Li:=[]) H.hp) (hv.mono hGi) (by omega) ht0 ht1 (fun i a h=>by rw [jN,qp,h];rfl)) rfl ?_;clear H;rintro v9 G9 L9 a w ⟨b9,rfl,h1,h2⟩ wo H;refine aI ?_;refine (leave0 H results96 ?_).2
 cases b9
 ·exact H.hp.dW (.inr (h2 rfl))
 exact H.hp.dW (.inl (by simpa using h1 rfl))
theorem acO (G:GH) (w0:World) (hG:Hold G w0) (l:List ay) (v:aj) (id t:Int) (body note:Bool) (hv:av G (.sl 11 (l.map ay.dat)) v) (hz:bg l≤4294967296) (ht0:0≤t) (ht1:t+bg l≤4294967296) :
  Calls prog 62 #[vi id,v,.agg #[.bool body,.bool note,vi t]] w0 (bA w0 G fun u G'=>∃ ba bl bp,u=.func (.func 96) #[] #[(aH ba 0),(aH bl 0),(aH bp 0)]∧Iter prog G' u ((⟨id,l,body,note,t⟩ :: jr note t l).map yY)):=by
 obtain ⟨A,c,rfl,hc1,hc2,hg⟩:=hv.slice;refine eN [(0,_),(1,_),(2,_)] func62 rfl ntmps62 rfl rfl hG ?_;intro a H;refine dw (fun _ K1=>?_);refine fu (cs:=[_]) H wn rfl rfl rfl ?_;clear H;intro b3 a w hb3 H;refine fu (cs:=[_]) H wn rfl rfl rfl ?_;clear H;intro b4 a w hb4 H;refine fu (cs:=[_,_,_]) H wn rfl rfl rfl ?_;clear H;intro b5 a w hb5 H;refine kH H (ak K1 rfl (SR fun _ K2=>?_));clear H K1;intro a H;refine oV H wn rfl rfl ?_;clear H;intro a H;refine kH H (ak K2 rfl ?_);clear H K2;intro a H;refine cB ?_;obtain ⟨G2,hm2,hb5,H⟩:=H.dJ;obtain ⟨G3,M7,hb4,H⟩:=H.dJ;obtain ⟨G4,Ci,hb3,H⟩:=H.dJ;refine lv H results62 rfl ?_;exact H.rt ⟨b3,b4,b5,rfl,acN (by unfold aJ;rw [hb3];rfl) (aL Ci (by unfold aJ;rw [hb4];rfl)) (Ci _ _ (M7 _ _ hb5)) (hv.mono fun b o h=>Ci _ _ (M7 _ _ (hm2 _ _ h))) hz ht0 ht1⟩
theorem afM (G:GH) (w0:World) (hG:Hold G w0) (D:mH) (l:List ay) (hv:av G (.sl 11 (l.map ay.dat)) (fD D.f)) (hz:bg l≤4294967296) :
  Calls prog 39 #[D.val] w0 (bA w0 G fun u G'=>∃ ba bl bp,u=.func (.func 96) #[] #[(aH ba 0),(aH bl 0),(aH bp 0)]∧Iter prog G' u ((Ao l).map yY)):=by
 refine eN [(0,_)] func39 rfl ntmps39 rfl rfl hG ?_;intro a H;refine dw (fun _ K1=>?_);refine fu (cs:=[_,_,_,_,_,_,_,_,_,_,_]) H wn rfl rfl rfl ?_;clear H;intro b1 a w hb1 H;refine kH H (ak K1 rfl (SR fun _ K2=>aU DL iG 0 rfl rfl ?_));clear H K1;intro a H;refine kr Ba [_,_,_] H wn rfl rfl rfl rfl ?_;clear H;intro a H;refine s_call abl H wn rfl (acO _ _ H.ro l _ 0 0 true false hv hz (by omega) (by omega)) rfl ?_;clear H;rintro v6 G6 a w ⟨ba,bl,bp,rfl,hit⟩ hm6 H;exact kH H (ak K2 rfl (LR results39 rfl fun H=>H.rt ⟨ba,bl,bp,rfl,hit⟩))
end
section
open Go.RowKit
theorem qb:Ty prog 38 11 232 [.slice none 0 0,.slice none 0 0,.int .i64 0,.int .i64 0,.slice none 0 0,.slice none 0 0,.slice none 0 0,.slice none 0 0,.slice none 0 0,.slice none 0 0,.slice none 0 0] true:=⟨by kernel_rfl,by kernel_rfl⟩
theorem aaZ:∀ args w,(callFunc 39 args).run prog w=.ok (.enter 39 args) w:=enters func39 rfl (by kernel_rfl)
theorem Ws:Ty prog 108 4 40 [.slice none 0 0,.bool false,.bool false,.int .i64 0] true:=⟨by kernel_rfl,by kernel_rfl⟩
theorem abX:bO prog 108 0 0:=⟨by kernel_rfl⟩
mutual
theorem aio {note:Bool} {t:Int} {f:jv}:∀ {x:ay},f∈zV note t x→bg f.items < cK x.dat
 | .mk k c i tx h fl r,hf=>by
  have h4:=oH (.mk k c i tx h fl r)
  simp only [ay.text,ay.head,ay.flow,ay.rows] at h4
  rw [zV] at hf
  split at hf
  ·rcases lF.1 hf with rfl|hf
   ·show bg fl < _;omega
   have:=JW hf;omega
  split at hf
  ·have:=WI hf;omega
  cases hf
theorem JW {note:Bool} {t:Int} {f:jv}:∀ {l:List ay},f∈jr note t l→bg f.items≤bg l
 | [],hf=>by simp [jr] at hf
 | x :: l,hf=>by
  rw [jr] at hf
  simp only [bg,eU,dZ]
  rcases lV.1 hf with hf|hf
  ·have:=aio hf;simp only [bg] at this;omega
  have:=JW hf;simp only [bg] at this;omega
theorem WI {note:Bool} {t:Int} {f:jv}:∀ {l:List bR},f∈rR note t l→bg f.items≤gT l
 | [],hf=>by simp [rR] at hf
 | x :: l,hf=>by
  rw [rR] at hf
  simp only [gT,eU,dZ]
  rcases lV.1 hf with hf|hf
  ·have:=aiq hf;simp only [bg] at *;omega
  have:=WI hf;simp only [bg,gT] at *;omega
theorem aiq {note:Bool} {t:Int} {f:jv}:∀ {x:bR},f∈zW note t x→bg f.items≤cK x.dat
 | .mk h cs,hf=>by
  have h4:=zZ (.mk h cs)
  simp only [bR.head,bR.cells] at h4
  rw [zW] at hf;have:=WH hf;omega
theorem WH {note:Bool} {t:Int} {f:jv}:∀ {l:List bQ},f∈sZ note t l→bg f.items≤iX l
 | [],hf=>by simp [sZ] at hf
 | x :: l,hf=>by
  rw [sZ] at hf
  simp only [iX,eU,dZ]
  rcases lV.1 hf with hf|hf
  ·have:=ail hf;simp only [bg] at *;omega
  have:=WH hf;simp only [bg,iX] at *;omega
theorem ail {note:Bool} {t:Int} {f:jv}:∀ {x:bQ},f∈zU note t x→bg f.items≤cK x.dat
 | .mk i h fl,hf=>by
  have h4:=zY (.mk i h fl)
  simp only [bQ.head,bQ.flow] at h4
  rw [zU] at hf
  rcases lF.1 hf with rfl|hf
  ·show bg fl≤_;omega
  have:=JW hf;omega
end
theorem Sw {f:jv} {l:List ay} (h:f∈Ao l):bg f.items≤bg l:=by
 rcases lF.1 h with rfl|h
 ·exact bM _
 exact JW h
def uf (l:List ay) (id:Int):Option (List ay):=((Ao l).find? fun f=>decide (f.id=id)).map jv.items
theorem acM {f:List ay} {l:List ay} {id:Int} (h:uf l id=some f):bg f≤bg l:=by
 obtain ⟨a,ha,rfl⟩:=kU.1 h;exact Sw (List.mem_of_find?_eq_some ha)
theorem acF {α:Type} {p:α→Bool} {A:List α} {k:Nat} (hk:k < A.length) (h:(A.take k).find? p=none) (hp:p A[k]=false):(A.take (k+1)).find? p=none:=by
 rw [jF hk,List.find?_append,h]
 simp [hp]
theorem acG {α:Type} {p:α→Bool} {A:List α} {k:Nat} (hk:k < A.length) (h:(A.take k).find? p=none) (hp:p A[k]=true):A.find? p=some A[k]:=by
 have e:A.find? p=(A.take k++A.drop k).find? p:=by rw [List.take_append_drop]
 rw [e,List.find?_append,h,mK hk,List.find?_cons,hp]
 rfl
theorem Sl {α:Type} {p:α→Bool} {A:List α} (h:(A.take A.length).find? p=none):A.find? p=none:=by rwa [Ah] at h
theorem Sq {A:List jv} {k:Nat} {args:List aj} {g:GH} (h:tq (A.map yY) k args g):∃ (hk:k < A.length) (a:Option Addr) (n c:Nat),args=[vi A[k].id,.agg #[.slice a n c,.bool A[k].body,.bool A[k].note,vi A[k].tables]]∧av g (.sl 11 (A[k].items.map ay.dat)) (.slice a n c):=by
 obtain ⟨p,hp,hargs⟩:=h;rw [qp] at hp;obtain ⟨q,hq,rfl⟩:=kU.1 hp;obtain ⟨hk,rfl⟩:=iW.1 hq;obtain ⟨v,h1,h2⟩:=hargs;obtain ⟨a,n,c,rfl⟩:=h2.form;exact ⟨hk,a,n,c,h1,h2⟩
theorem Sv (G:GH) (w0:World) (hG:Hold G w0) (D:mH) (l:List ay) (id:Int) (hv:av G (.sl 11 (l.map ay.dat)) (fD D.f)) (hz:bg l≤4294967296) :
  Calls prog 17 #[D.val,vi id] w0 (bA w0 G fun u G'=>∃ v,u=.tuple #[v,.bool (uf l id).isSome]∧av G' (.sl 11 (((uf l id).getD []).map ay.dat)) v):=by
 refine eN [(0,_),(1,_)] func17 rfl ntmps17 rfl rfl hG ?_;intro a H;refine dw (fun _ K1=>?_);refine fu (cs:=[_,_,_,_,_,_,_,_,_,_,_]) H wn rfl rfl rfl ?_;clear H;intro b2 a w hb2 H;refine fu (cs:=[_]) H wn rfl rfl rfl ?_;clear H;intro b3 a w hb3 H;refine fq iG H wn rfl ?_;clear H;intro b4 a w hb4 H;refine fq wP H wn rfl ?_;clear H;intro b5 a w hb5 H;refine K1 _ _ ?_;clear K1;refine aZ (fun _ K2=>?_);refine dw (fun _ K3=>?_);refine bE qb (cs:=[_,_,_,_,_,_,_,_,_,_,_]) H wn rfl rfl (H.hp.eF 3 rfl rfl) rfl ?_;clear H;intro a H;refine s_call aaZ H wn rfl (afM _ _ H.ro D l hv hz) rfl ?_;clear H;rintro v9 G9 a w ⟨ba,bl,bp,rfl,hit⟩ wo H;refine K3 _ _ ?_;clear K3;refine xq ?_;skip;refine QB (ι:=Unit) (κ:=aj) (Lc:=[(_,_),(_,_)]) (fun (k:Nat) (gh:Unit)=>[(b4,.cells #[.slice none 0 0] 22 (0,0)),(b5,.cells #[.bool false] 4 (0,0))]) (fun (k:Nat) (gh:Unit)=>[]) (fun (k:Nat) (gh:Unit) (g:GH)=>((Ao l).take k).find? (fun f=>decide (f.id=id))=none) (fun (gx:aj)=>Code.ret) (fun (gx:aj)=>[(b4,.cells #[gx] 22 (0,0)),(b5,.cells #[.bool true] 4 (0,0))]) (fun (gx:aj)=>[]) (fun (gx:aj) (g:GH)=>∃ f,uf l id=some f∧av g (.sl 11 (f.map ay.dat)) gx) (()) (by exact H.dX (Pl:=[_,_,_,_]) (dz:=[_,_,_,_]) [2,3,1,0] (by decide) rfl) rfl RJ (hit) (fun _ _ h=>h) rfl (fun k args g h=>by obtain ⟨_,_,_,_,rfl,_⟩:=Sq h;rfl) (fun _ _ _ _ _ h=>h) (fun x G G' hm h=>let ⟨f,h1,h2⟩:=h;⟨f,h1,h2.mono hm⟩) (rfl) ?_ ?_ ?_
 ·clear H;intro l2 AV xk bk k args gh G2 w2 F2 B2 a hk2 hm2 hI MV IV Ub H;obtain ⟨hk,vA,vn,vc,rfl,hrep⟩:=Sq hk2;dsimp only [vL,List.cons_append,List.nil_append] at H;refine kP H (SR fun _ K4=>ak K4 rfl (SC ?_));clear H K4;intro a H;refine fq Ws H wn rfl ?_;clear H;intro b7 a w DZ H;refine bF Ws 0 (vs:=[_,_,_,_]) _ H wn rfl rfl rfl rfl rfl rfl rfl rfl ?_;clear H;intro w H;dsimp only [List.set,setRow] at H;refine aI ?_;refine MV _ _ _ _ _ _ (by exact H.dX (Pl:=[_,_,_,_,_,_]) (dz:=[_,_,_,_,_,_]) [1,0,2,3,4,5] (by decide) rfl) ?_;clear H;intro w H;refine kP H (SB (SR fun _ K5=>Rm rfl (Ro aF 2 rfl (Rc rfl (Kz K5 (Cd rfl ?_ ?_)))))) <;> clear H K5
  ·intro dY a H
   try have mQ:=dT dY
   refine kP H (SR fun _ K6=>aU abX iG 1 rfl rfl ?_);clear H;intro a H;refine s_call Lj H wn rfl (Zt _ _ H.ro _ _ hrep (by have:=Sw (jk hk);omega)) rfl ?_;clear H;rintro v17 yE a w TG pR H;obtain ⟨Xc,n17,c17,rfl⟩:=TG.form;refine bF iG 4 (vs:=[_]) _ H wn rfl rfl rfl rfl rfl rfl rfl rfl ?_;clear H;intro w H;dsimp only [List.set,setRow] at H;refine bF wP 5 (vs:=[_]) _ H wn rfl rfl rfl rfl rfl rfl rfl rfl ?_;clear H;intro w H;dsimp only [List.set,setRow] at H;refine K6 _ _ ?_;clear K6;refine cB ?_;refine (Ub (.slice Xc n17 c17) _ _ _ _ _ (by exact H.dX (Pl:=[_,_,_,_,_,_]) (dz:=[_,_,_,_,_]) [0,2,3,4,5] (by decide) rfl) ?_).1 rfl;exact ⟨_,by unfold uf;rw [acG hk hI dY];rfl,TG⟩
  intro dY a H
  refine gI ?_;refine IV (()) _ _ _ _ _ (by exact H.dX (Pl:=[_,_,_,_,_,_]) (dz:=[_,_,_,_,_]) [0,2,3,4,5] (by decide) rfl) ?_;exact acF hk hI dY
 ·clear H;intro O1 gh Pj a w hm2 hI H;dsimp only [lca,bC] at H;refine K2 _ _ ?_;clear K2;refine dw (fun _ K7=>?_);refine bF iG 3 (vs:=[_]) _ H wn rfl rfl rfl rfl rfl rfl rfl rfl ?_;clear H;intro w H;dsimp only [List.set,setRow] at H;refine bF wP 4 (vs:=[_]) _ H wn rfl rfl rfl rfl rfl rfl rfl rfl ?_;clear H;intro w H;dsimp only [List.set,setRow] at H;refine K7 _ _ ?_;clear K7;refine cB ?_;refine (F3 H 0 rfl ?_).1;clear H;intro a w H;dsimp only [List.eraseIdx_cons_succ,List.eraseIdx_cons_zero] at H;refine (eP H results17 (.cons (rP iG H rfl (H.hp.mP 2 rfl rfl)) (.cons (rP wP H rfl (H.hp.mP 3 rfl rfl)) .nil)) ?_).1;exact H.rt ⟨_,by unfold uf;rw [Sl (by simpa using hI)];rfl,by unfold uf;rw [Sl (by simpa using hI)];exact av.jc rfl (by decide)⟩
 clear H;intro O1 gx Pj a w hm2 hI H;obtain ⟨x,hgh⟩:∃ x,x=gx:=⟨_,rfl⟩;subst hgh;dsimp only [lca,bC] at H;obtain ⟨f,hf,hrep⟩:=hI;obtain ⟨xA,xn,xc,rfl⟩:=hrep.form;refine cB ?_;refine (F3 H 0 rfl ?_).1;clear H;intro a w H;dsimp only [List.eraseIdx_cons_succ,List.eraseIdx_cons_zero] at H;refine (eP H results17 (.cons (rP iG H rfl (H.hp.mP 2 rfl rfl)) (.cons (rP wP H rfl (H.hp.mP 3 rfl rfl)) .nil)) ?_).1;exact H.rt ⟨_,by rw [hf];rfl,by rw [hf];exact hrep⟩
end
section
open Go.RowKit
def jB (xs:Array aj) (o:Nat):Option Int:=match xs[o]? with|some (.int .i64 n)=>some n|_=>none
def FZ (u:Option TypeDesc):Bool:=match u with|some (.int .i64)=>true|_=>false
structure yC (P:Program) (t:TypeId) (eZ:List Nat):Prop where
 und:P.underlying t=some (.struct (P.fieldsOf t))
 held:P.stoodInHeld t=false
 guard:P.eqGuardType P.depth t=false
 sK:(P.fieldsOf t).toList.map (·.offset)=eZ
 ok:(P.fieldsOf t).toList.all (fun f=>decide (f.name ≠ "_") && P.plainKey f.type && FZ (P.underlying f.type))=true
theorem N9 {P:Program} {w:World} {d:Nat} {xs ys:Array aj}:∀ fs:List Field,fs.all (fun f=>decide (f.name ≠ "_") && P.plainKey f.type && FZ (P.underlying f.type))=true →
  (fs.map (·.offset)).all (fun o=>(jB xs o).isSome && (jB ys o).isSome)=true→(Op.eqFields (d+1) xs ys fs).run P w=.ok ((fs.map (·.offset)).all fun o=>jB xs o == jB ys o) w
 | [],_,_=>by simp [Op.eqFields]
 | f :: fs,h1,h2=>by
  simp only [List.all_cons,kG,nY,eU] at h1 h2
  obtain ⟨⟨⟨hn,hp⟩,hi⟩,h1⟩:=h1
  obtain ⟨⟨hx,hy⟩,h2⟩:=h2
  have ih:=N9 (w:=w) (d:=d) fs (by simpa using h1) h2
  unfold FZ at hi
  split at hi
  ·rename_i hu
   unfold jB at hx hy
   split at hx
   ·rename_i m hxm
    split at hy
    ·rename_i m2 hym
     have e1:jB xs f.offset=some m:=by unfold jB;rw [hxm]
     have e2:jB ys f.offset=some m2:=by unfold jB;rw [hym]
     simp only [Op.eqFields,hn,ne_eq,not_false_eq_true,if_true,bW,run_part_plain w hp hxm,run_part_plain w hp hym,jE,run_equalIn_int w d f.type .i64 .i64 m m2 hu,eU,List.all_cons,e1,e2]
     by_cases e:m=m2
     ·subst e;simp [ih,List.all_map]
     ·simp [e]
    ·simp at hy
   ·simp at hx
  ·simp at hi
def jI (xs:Array aj) (o:Nat × Bool):Option (Int × Bool):=match xs[o.1]?,o.2 with|some (.int .i64 n),false=>some (n,false)|some (.bool b),true=>some (0,b)|_,_=>none
def xP (u:Option TypeDesc) (b:Bool):Bool:=match u,b with|some (.int .i64),false=>true|some .bool,true=>true|_,_=>false
structure GD (P:Program) (t:TypeId) (eZ:List (Nat × Bool)):Prop where
 und:P.underlying t=some (.struct (P.fieldsOf t))
 held:P.stoodInHeld t=false
 guard:P.eqGuardType P.depth t=false
 sK:(P.fieldsOf t).toList.map (fun f=>(f.offset,xP (P.underlying f.type) true))=eZ
 ok:(P.fieldsOf t).toList.all (fun f=>decide (f.name ≠ "_") && P.plainKey f.type && xP (P.underlying f.type) (xP (P.underlying f.type) true))=true
theorem Vt {P:Program} {w:World} {d:Nat} {xs ys:Array aj}:∀ fs:List Field,fs.all (fun f=>decide (f.name ≠ "_") && P.plainKey f.type && xP (P.underlying f.type) (xP (P.underlying f.type) true))=true →
  (fs.map (fun f=>(f.offset,xP (P.underlying f.type) true))).all (fun o=>(jI xs o).isSome && (jI ys o).isSome)=true→(Op.eqFields (d+1) xs ys fs).run P w=.ok ((fs.map (fun f=>(f.offset,xP (P.underlying f.type) true))).all fun o=>jI xs o == jI ys o) w
 | [],_,_=>by simp [Op.eqFields]
 | f :: fs,h1,h2=>by
  simp only [List.all_cons,kG,nY,eU] at h1 h2
  obtain ⟨⟨⟨hn,hp⟩,hi⟩,h1⟩:=h1
  obtain ⟨⟨hx,hy⟩,h2⟩:=h2
  have ih:=Vt (w:=w) (d:=d) fs (by simpa using h1) h2
  obtain ⟨kb,hkb⟩:∃ kb,kb=xP (P.underlying f.type) true:=⟨_,rfl⟩
  rw [← hkb] at hi hx hy
  cases kb with
  | false =>
   have hu:P.underlying f.type=some (.int .i64):=by clear hkb ih h1 h2 hx hy;unfold xP at hi;split at hi <;> simp_all
   obtain ⟨m,hxm⟩:∃ m,xs[f.offset]?=some (.int .i64 m):=by clear hkb ih h1 h2 hi hy;unfold jI at hx;split at hx <;> simp_all
   obtain ⟨m2,hym⟩:∃ m,ys[f.offset]?=some (.int .i64 m):=by clear hkb ih h1 h2 hi hx;unfold jI at hy;split at hy <;> simp_all
   have e1:jI xs (f.offset,false)=some (m,false):=by unfold jI;rw [hxm]
   have e2:jI ys (f.offset,false)=some (m2,false):=by unfold jI;rw [hym]
   simp only [Op.eqFields,hn,ne_eq,not_false_eq_true,if_true,bW,run_part_plain w hp hxm,run_part_plain w hp hym,jE,run_equalIn_int w d f.type .i64 .i64 m m2 hu,eU,List.all_cons,← hkb,e1,e2]
   by_cases e:m=m2
   ·subst e;simp [ih,List.all_map]
   ·simp [e]
  | true =>
   have hu:P.underlying f.type=some .bool:=by clear hkb ih h1 h2 hx hy;unfold xP at hi;split at hi <;> simp_all
   obtain ⟨m,hxm⟩:∃ m,xs[f.offset]?=some (.bool m):=by clear hkb ih h1 h2 hi hy;unfold jI at hx;split at hx <;> simp_all
   obtain ⟨m2,hym⟩:∃ m,ys[f.offset]?=some (.bool m):=by clear hkb ih h1 h2 hi hx;unfold jI at hy;split at hy <;> simp_all
   have e1:jI xs (f.offset,true)=some (0,m):=by unfold jI;rw [hxm]
   have e2:jI ys (f.offset,true)=some (0,m2):=by unfold jI;rw [hym]
   simp only [Op.eqFields,hn,ne_eq,not_false_eq_true,if_true,bW,run_part_plain w hp hxm,run_part_plain w hp hym,jE,run_equalIn_bool' w d f.type m m2 hu,eU,List.all_cons,← hkb,e1,e2]
   by_cases e:m=m2
   ·subst e;simp [ih,List.all_map]
   ·simp [e]
section
variable {N:Nat} {D:List Deferred} {w0:World} {F:Nat→Prop} {G0 G:GH} {L:List (Nat × Obj)} {T:List (Nat × aj)}
variable {r:Option Nat} {P:Program} {ops:Array Oper} {Q:Exit→Act→World→Prop} {rest:List Oper} {a:Act} {w:World}
variable {d:Nat} {ty:TypeId} {pos:String} {aK:Array Edge} {g:Option (Nat × Bool)}
theorem AY {t yt:TypeId} {x y:Operand} {p q:ByteArray} (H:St N D w0 F G0 G L T a w) (hw:Region.wanted ⟨some d,.binOp .eql t x y yt,ty,pos,aK,g⟩ (yielded ops a.tmps)=true) (hx:ev T x=some (.string p)) (hy:ev T y=some (.string q)) (hd:Nat.blt d N=true)
  (k:∀ a',St N D w0 F G0 G L ((d,.bool (p.toList == q.toList)) :: T) a' w→WL r P ops Q rest a' w):WL r P ops Q (⟨some d,.binOp .eql t x y yt,ty,pos,aK,g⟩ :: rest) a w:=by
 refine fE (v:=.bool (p.toList == q.toList)) (w':=w) hw rfl ?_ (k _ (H.put hd _ H.hp))
 simp [execOp,H.ev hx,H.ev hy,bW,eqGuard,binOp,Op.stringOp]
theorem Oi {op:BinOp} {t yt:TypeId} {eZ:List (Nat × Bool)} (ho:op=.eql∨op=.neq) (he:GD P t eZ) {x y:Operand} {xs ys:Array aj} (H:St N D w0 F G0 G L T a w) (hw:Region.wanted ⟨some d,.binOp op t x y yt,ty,pos,aK,g⟩ (yielded ops a.tmps)=true) (hx:ev T x=some (.agg xs)) (hy:ev T y=some (.agg ys))
  (hi:eZ.all (fun o=>(jI xs o).isSome && (jI ys o).isSome)=true) (hd:Nat.blt d N=true)
  (k:∀ a',St N D w0 F G0 G L ((d,.bool (if op=.eql then eZ.all fun o=>jI xs o == jI ys o else !(eZ.all fun o=>jI xs o == jI ys o))) :: T) a' w→WL r P ops Q rest a' w):WL r P ops Q (⟨some d,.binOp op t x y yt,ty,pos,aK,g⟩ :: rest) a w:=by
 have h1:=Vt (P:=P) (w:=w) (d:=9998) (xs:=xs) (ys:=ys) _ he.ok (by rw [he.sK];exact hi)
 rw [he.sK] at h1
 rcases ho with rfl|rfl
 ·refine fE (v:=_) (w':=w) hw rfl ?_ (k _ (H.put hd _ H.hp))
  simp only [execOp,H.ev hx,H.ev hy,bW,run_eqGuard_agg w .eql t x y xs ys he.guard,jE,run_eql_struct,run_equalIn_struct w 9999 t xs ys he.und he.held,h1]
  rfl
 ·refine fE (v:=_) (w':=w) hw rfl ?_ (k _ (H.put hd _ H.hp))
  simp only [execOp,H.ev hx,H.ev hy,bW,run_eqGuard_agg w .neq t x y xs ys he.guard,jE,run_neq_struct,run_equalIn_struct w 9999 t xs ys he.und he.held,h1]
  rfl
end
end
section
open Go.RowKit
theorem Cr {α:Type} {p:α→Bool} {A:List α} {k:Nat} (hk:k < A.length) (h:(A.take k).findIdx? p=none) (hp:p A[k]=false):(A.take (k+1)).findIdx? p=none:=by
 rw [List.findIdx?_eq_none_iff] at h ⊢;rw [jF hk];intro x hx
 rcases lV.1 hx with hx|hx
 ·exact h x hx
 rw [qw.1 hx];exact hp
theorem uq {α:Type} {p:α→Bool} {A:List α} {k:Nat} (hk:k < A.length) (h:(A.take k).findIdx? p=none) (hp:p A[k]=true):A.findIdx? p=some k:=by
 have e:A.findIdx? p=(A.take k++A.drop k).findIdx? p:=by rw [List.take_append_drop]
 rw [e,List.findIdx?_append,h,mK hk,List.findIdx?_cons,hp]
 simp;omega
end
section
open Go.RowKit
theorem Er:Dl prog 121:=⟨by kernel_rfl⟩
theorem u8B:U8 prog 5:=⟨by kernel_rfl⟩
theorem afl:liesAt prog prog.depth 121 (2 / prog.cellsOf 121) 0 121 1=true:=by kernel_rfl
theorem QF:prog.cellsOf 5=1:=by kernel_rfl
theorem U4 (v:aj) (w:World):(callFunc 109 #[v]).run prog w=.ok (.value v) w:=agF func109 (by kernel_rfl) (by kernel_rfl) (by kernel_rfl) (by kernel_rfl) v w
theorem yw:prog.underlying 118=some (.pointer 121):=by kernel_rfl
theorem JU:prog.underlying 207=some .unsafePointer:=by kernel_rfl
theorem yS:bO prog 121 0 0:=⟨by kernel_rfl⟩
theorem zQ:Ty prog 118 1 8 [.pointer none] false:=⟨by kernel_rfl,by kernel_rfl⟩
theorem RG:∀ args w,(callFunc 74 args).run prog w=.ok (.enter 74 args) w:=enters func74 rfl (by kernel_rfl)
theorem zT:prog.underlying 119=some (.slice 5):=by kernel_rfl
theorem xB:bO prog 121 1 1:=⟨by kernel_rfl⟩
theorem yh:Ty prog 119 1 24 [.slice none 0 0] false:=⟨by kernel_rfl,by kernel_rfl⟩
theorem Wu:prog.underlying 162=some (.pointer 5):=by kernel_rfl
abbrev bB (b:Nat) (p v:aj):Nat × Obj:=(b,.cells #[p,v] 121 (0,0))
theorem ZG (G:GH) (L:OL) (w0:World) (b:Nat) (A:Option Addr) (n c:Nat) (hO:gH G (bB b (.pointer none) (.slice A n c) :: L) w0) :
  Calls prog 74 #[(aH b 0)] w0 (fT w0 G (bB b (.pointer none) (.slice A n c) :: L) fun u G' L'=>L'=bB b (aH b 0) (.slice A n c) :: L∧G'=G):=by
 refine jy (N:=20) (T:=[(0,_)]) func74 rfl ntmps74 rfl rfl hO ?_;intro a H;refine kP H (SR fun _ K1=>Rm rfl (Rk rfl (aU yS zQ 0 rfl rfl ?_)));clear H;intro a H;refine Ju yw H wn rfl rfl ?_;clear H;intro a H;refine K1 _ _ ?_;clear K1;refine kZ H rfl ?_ ?_
 ·intro h6
  refine kP H (SC (Rm rfl (Rm rfl ?_)));clear H;intro a H;refine VL yw JU Er H wn rfl 0 rfl rfl rfl ?_;clear H;intro a H;refine VF (xs:=[.tmp 9]) (U4 _) H wn rfl rfl ?_;clear H;intro a H;refine VA JU yw Er H wn rfl 0 rfl afl rfl ?_;clear H;intro a H;refine kH H (Rk rfl (Rf yS rfl ?_));clear H;intro a H;refine bF zQ 0 (vs:=[_]) _ H wn rfl rfl rfl rfl rfl rfl rfl rfl ?_;clear H;intro w H;dsimp only [List.set,setRow] at H;refine aI ?_;refine (leave0 H results74 ?_).2;exact H.hp.dW ⟨rfl,rfl⟩
 intro h6
 exact absurd h6 (by decide)
theorem ZH (G:GH) (L:OL) (w0:World) (b:Nat) (A:Option Addr) (n c:Nat) (hO:gH G (bB b (aH b 0) (.slice A n c) :: L) w0) :
  Calls prog 74 #[(aH b 0)] w0 (fT w0 G (bB b (aH b 0) (.slice A n c) :: L) fun u G' L'=>L'=bB b (aH b 0) (.slice A n c) :: L∧G'=G):=by
 refine jy (N:=20) (T:=[(0,_)]) func74 rfl ntmps74 rfl rfl hO ?_;intro a H;refine kP H (SR fun _ K1=>Rm rfl (Rk rfl (aU yS zQ 0 rfl rfl ?_)));clear H;intro a H;refine Ju yw H wn rfl rfl ?_;clear H;intro a H;refine K1 _ _ ?_;clear K1;refine kZ H rfl ?_ ?_
 ·intro h6
  exact absurd h6 (by simp)
 intro h6
 refine kP H (SR fun _ K2=>Rm rfl (Rk rfl (aU yS zQ 0 rfl rfl (Rm rfl ?_))));clear H;intro a H;refine VE yw Er H wn rfl rfl rfl ?_;clear H;intro a H;refine K2 _ _ ?_;clear K2;refine kZ H rfl ?_ ?_
 ·intro h19
  exact absurd h19 (by decide)
 intro h19
 refine gI ?_;refine (leave0 H results74 ?_).2;exact H.hp.dW ⟨rfl,rfl⟩
theorem ZI (G:GH) (L:OL) (w0:World) (b:Nat) (p:aj) (A:Option Addr) (n c:Nat) (hp:p=.pointer none∨p=(aH b 0)) (hO:gH G (bB b p (.slice A n c) :: L) w0) :
  Calls prog 74 #[(aH b 0)] w0 (fT w0 G (bB b p (.slice A n c) :: L) fun u G' L'=>L'=bB b (aH b 0) (.slice A n c) :: L∧G'=G):=by
 rcases hp with rfl|rfl
 ·exact ZG G L w0 b A n c hO
 exact ZH G L w0 b A n c hO
theorem aiw (G:GH) (Lo:OL) (w0:World) (b:Nat) (p v:aj) (n:Nat) (xs:List aj) (s:ByteArray) (hp:p=.pointer none∨p=(aH b 0)) (hO:gH G (bB b p v :: Lo) w0) (hrow:dx 5 1 v n xs Lo) (hn:n+s.size≤140737488355328) :
  Calls prog 48 #[(aH b 0),.string s] w0 (fT w0 G (bB b p v :: Lo) fun u G' L'=>∃ v' eH,L'=bB b (aH b 0) v' :: eH∧dx 5 1 v' (n+s.size) (xs++Lib.strCells s) eH∧G'=G):=by
 obtain ⟨A,c,rfl,-,-⟩:=hrow.shape;refine jy (N:=19) (T:=[(0,_),(1,_)]) func48 rfl ntmps48 rfl rfl hO ?_;intro a H;refine kP H (SR fun _ K1=>Ra rfl (ak K1 rfl (SR fun _ K2=>Rm rfl ?_)));clear H K1;intro a H;refine gB RG (Li:=[]) (L:=bB b p _ :: Lo) H wn rfl (ZI _ _ _ b p A n c hp (Hp.owns (Li:=[]) H.hp)) rfl ?_;clear H;rintro v7 _ L7 a w ⟨rfl,rfl⟩ zC H;dsimp only [List.nil_append] at H;refine K2 _ _ ?_;clear K2;refine kP H (SR fun _ K3=>Rm rfl (Rm rfl (Rk rfl (aU xB yh 0 rfl rfl (Rm rfl ?_)))));clear H;intro a H;refine agL (Li:=[_]) (Lo:=Lo) zT fO u8B H wn rfl rfl hrow hn rfl ?_;clear H;intro v14 PY a w FQ H;obtain ⟨OU,c14,rfl,-,-⟩:=FQ.shape;refine kH H (Rk rfl (Rf xB rfl ?_));clear H;intro a H;refine bF yh 0 (vs:=[_]) _ H wn rfl rfl rfl rfl rfl rfl rfl rfl ?_;clear H;intro w H;dsimp only [List.set,setRow] at H;refine K3 _ _ ?_;clear K3;refine kP H (SR fun _ K4=>Rm rfl (Rv fO rfl (Ra rfl (ak K4 rfl ?_))));clear H K4;intro a H;refine cB ?_;refine (eP H results48 (.cons (aR H rfl) (.cons (aR H rfl) .nil)) ?_).1;exact H.hp.dW ⟨_,_,rfl,FQ,rfl⟩
theorem ahJ (G:GH) (Lo:OL) (w0:World) (b:Nat) (p v:aj) (l:List UInt8) (hO:gH G (bB b p v :: Lo) w0) (hrow:dx 5 1 v l.length (Lib.byteCells l) Lo) (h0:l≠[]) :
  Calls prog 49 #[(aH b 0)] w0 (fT w0 G (bB b p v :: Lo) fun u G' L'=>u=.string ⟨l.toArray⟩):=by
 rcases hrow.2 with ⟨-,h,-⟩|⟨b2,cap,cur,rfl,rfl,hc1,hc2,hc3,hc4⟩
 ·exact absurd (List.eq_nil_of_length_eq_zero h) h0
 have hl0:l.length≠0:=fun h=>h0 (List.eq_nil_of_length_eq_zero h);have hml:maxLen=9223372036854775807:=rfl;refine jy (N:=14) (T:=[(0,_)]) func49 rfl ntmps49 rfl rfl hO ?_;intro a H;refine kP H (SR fun _ K1=>ak K1 rfl (SQ fun _ K2=>?_));clear H K1;intro a H;have H:=H.sub (T':=[(0,_)]) ⟨rfl,aC⟩;refine dI hmx [[],[0],[0,1],[0,1,2],(ra 0 4),[],[5],[5,6],[5,6,7],(ra 5 4),(ra 0 10),(ra 0 11)] [10,11] (by kernel_rfl) [_,_,_,.slice (some ⟨b2,0,none⟩) l.length cap,(aH b2 0),_,_,_,.slice (some ⟨b2,0,none⟩) l.length cap,_] H (aB (Z0 rfl (Rm rfl)) (Z1 0 3 rfl (Rk rfl)) (Z1 1 4 rfl (Rf xB rfl)) (Z1 2 5 rfl (Ro yh 0 rfl)) (aB ?_ (Z0 rfl (Rm rfl)) (Z1 5 8 rfl (Rk rfl)) (Z1 6 9 rfl (Rf xB rfl)) (aB (Z1 7 10 rfl (Ro yh 0 rfl)) (Z1 8 11 rfl (Rl zT rfl)) (bH rfl) (bH rfl) cO))) ?_
 ·refine bY 3 6 rfl rfl fun _ a w G1 hG HT H fin=>?_;refine VJ H wn rfl (by omega) rfl ?_;clear H;intro a H;exact fin H iJ rfl
 clear H;intro a w G mg H hv;have H:=H.aV (hv 4 7 rfl rfl) rfl;have H:=H.aV (hv 9 12 rfl rfl) rfl;clear hv;refine VN (i:=1) l Wu QF h0 (by omega) H wn rfl rfl rfl (by rw [← hc4,Nat.mul_one]) rfl ?_;clear H;intro fz a w H;dsimp only [List.set] at H;refine kH H (Ra rfl ?_);clear H;intro a H;refine aI ⟨rfl,?_⟩;refine K2 _ _ ?_;clear K2;refine lr H results49 rfl ?_;exact H.hp.dW rfl
end
section
open Go.RowKit
def wD (p:Nat→Bool):Nat→Nat→Nat→Nat
 | 0,i,_=>i
 | f+1,i,j=>if i < j then (if p ((i+j) / 2) then wD p f i ((i+j) / 2) else wD p f ((i+j) / 2+1) j) else i
theorem aeH {p:Nat→Bool} {f i j:Nat} (hf:j - i≤f) (h:i < j):wD p f i j=if p ((i+j) / 2) then wD p (f - 1) i ((i+j) / 2) else wD p (f - 1) ((i+j) / 2+1) j:=by
 match f,hf with
 | 0,hf=>omega
 | f+1,_=>rw [wD,au h];rfl
theorem aeF {p:Nat→Bool} {f i j:Nat} (h:¬ i < j):wD p f i j=i:=by
 match f with
 | 0=>rfl
 | f+1=>rw [wD,ah h]
theorem aeI {z:Int} (h1:0≤z) (h2:z < 18446744073709551616):IntKind.u64.wrap z=z:=by
 simp only [IntKind.wrap,IntKind.bits,IntKind.signed,tJ,BH,if_false]
 omega
theorem aeG (n:Nat):((n:Nat):Int).fdiv (2 ^ 1)=((n / 2:Nat):Int):=by
 rw [Int.fdiv_eq_ediv_of_nonneg _ (by decide)];omega
def yQ (a b:Int):Int:=if a < b then -1 else if b < a then 1 else 0
theorem QK {a b:Int}:yQ a b < 0↔a < b:=by
 unfold yQ
 split
 ·simp [*]
 ·split <;> simp_all
theorem Zw {a b:Int}:yQ a b=0↔a=b:=by
 unfold yQ
 split
 ·omega
 ·split <;> omega
def xg (ks:List Int) (t:Int):Nat:=wD (fun h=>decide (¬ ks.getD h 0 < t)) ks.length 0 ks.length
def Aw (ks:List Int) (t:Int):Bool:=decide (ks[xg ks t]?=some t)
theorem adn {ks:List Int} {t:Int} (h:Aw ks t=true):xg ks t < ks.length:=by
 have:=rY h
 exact (iW.1 this).1
theorem adl {ks:List Int} {t:Int} {n:Nat} (e:xg ks t=n) (h:n < ks.length):Aw ks t=decide (yQ ks[n] t=0):=by
 unfold Aw
 rw [e,gZ h]
 simp [Zw]
theorem ado {ks:List Int} {t:Int} {n:Nat} (e:xg ks t=n) (h:¬ n < ks.length):Aw ks t=false:=by
 unfold Aw
 rw [e,List.getElem?_eq_none (by omega)]
 simp
theorem getD_map {α:Type} {f:α→Int} {l:List α} {n:Nat} (h:n < l.length):(l.map f).getD n 0=f l[n]:=by
 simp [List.getD,h]
end
section
open Go.RowKit
structure P9 (P:Program) (s n off:Nat):Prop where
 h:(match P.underlying s with|some (.struct fs)=>(fs[n]?).bind fun f=>((P.underlying f.type).map (fun|.struct _=>true|.array _ _=>true|_=>false)).map fun g=>(f.offset,g)|_=>none)=some (off,false)
theorem P9.parts {P:Program} {s n off:Nat} (h:P9 P s n off):∃ fs fl u,P.underlying s=some (.struct fs)∧fs[n]?=some fl∧P.underlying fl.type=some u∧(match u with|.struct _=>true|.array _ _=>true|_=>false)=false∧fl.offset=off:=by
 obtain ⟨h⟩:=h
 split at h
 ·rename_i fs hs
  obtain ⟨fl,hf,h2⟩:=Option.bind_eq_some_iff.1 h
  obtain ⟨b,hb,h3⟩:=kU.1 h2
  obtain ⟨u,hu,h4⟩:=kU.1 hb
  simp only [gu] at h3
  refine ⟨fs,fl,u,hs,hf,hu,?_,h3.1⟩
  rw [← h3.2,← h4]
  cases u <;> rfl
 ·cases h
section
variable {N:Nat} {D:List Deferred} {w0:World} {F:Nat→Prop} {G0 G:GH} {L Li Lo:OL} {T:List (Nat × aj)}
variable {r:Option Nat} {P:Program} {ops:Array Oper} {Q:Exit→Act→World→Prop} {rest:List Oper} {a:Act} {w:World}
variable {d:Nat} {ty:TypeId} {pos:String} {aK:Array Edge} {g:Option (Nat × Bool)}
theorem Ol {t:TypeId} {x y:Operand} {s:ByteArray} {ky:IntKind} {p:Int} (lo:Nat) (ht:P.underlying t=some .string) (H:St N D w0 F G0 G L T a w) (hw:Region.wanted ⟨some d,.slice t x (some y) none none,ty,pos,aK,g⟩ (yielded ops a.tmps)=true) (hx:ev T x=some (.string s)) (hy:ev T y=some (.int ky p)) (hp:p=(lo:Int)) (h1:lo≤s.size) (hd:Nat.blt d N=true)
  (k:∀ a',St N D w0 F G0 G L ((d,.string (s.extract lo s.size)) :: T) a' w→WL r P ops Q rest a' w):WL r P ops Q (⟨some d,.slice t x (some y) none none,ty,pos,aK,g⟩ :: rest) a w:=by
 subst hp
 have hr:=run_slice_string_l (P:=P) w t s ht ky (lo:Int) (by omega) (by omega)
 rw [Int.toNat_natCast] at hr
 refine fE (v:=.string (s.extract lo s.size)) (w':=w) hw rfl ?_ (k _ (H.put hd _ H.hp))
 simp only [execOp,H.ev hx,Option.map_some,Option.map_none,H.ev hy,bW,run_sliceAt_string w t _ _ _ _ ht,hr,jE,oL]
end
end
section
open Go.RowKit
theorem Gj:prog.underlying 249=some (.slice 233):=by kernel_rfl
theorem qQ:Ty prog 233 6 56 [.int .i64 0,.int .i64 0,.int .i64 0,.int .i64 0,.int .i64 0,.string ⟨#[]⟩] true:=⟨by kernel_rfl,by kernel_rfl⟩
theorem V9:oK prog 233 [(0,1),(1,1),(2,1),(3,1),(4,1),(5,1)] [.int .i64 0,.int .i64 0,.int .i64 0,.int .i64 0,.int .i64 0,.string ⟨#[]⟩]:=⟨by kernel_rfl,by kernel_rfl⟩
theorem Rp:∀ args w,(callFunc 156 args).run prog w=.ok (.enter 156 args) w:=enters func156 rfl (by kernel_rfl)
structure iU where
 num:Int
 xG:Int
 low:Int
 high:Int
 std:Int
 name:ByteArray
def iU.dat (x:iU):List Dat:=[li x.num,li x.xG,li x.low,li x.high,li x.std,.lf (.string x.name)]
def iU.cells (x:iU):List aj:=[vi x.num,vi x.xG,vi x.low,vi x.high,vi x.std,.string x.name]
def gY.cells (x:gY):List aj:=[vi x.key,vi x.value]
theorem aeY (G:GH) (x:iU):aW G x.dat x.cells:=by
 simp only [iU.dat,iU.cells,aW]
 exact ⟨_,_,rfl,by simp [av,Value.oneCell'],_,_,rfl,by simp [av,Value.oneCell'],_,_,rfl,by simp [av,Value.oneCell'],_,_,rfl,by simp [av,Value.oneCell'],_,_,rfl,by simp [av,Value.oneCell'],_,_,rfl,by simp [av,Value.oneCell'],rfl⟩
theorem aeX {G:GH} {x:iU} {cs:List aj} (h:aW G x.dat cs):cs=x.cells:=by
 simp only [iU.dat,aW,av] at h
 obtain ⟨v1,_,rfl,⟨rfl,-⟩,v2,_,rfl,⟨rfl,-⟩,v3,_,rfl,⟨rfl,-⟩,v4,_,rfl,⟨rfl,-⟩,v5,_,rfl,⟨rfl,-⟩,v6,_,rfl,⟨rfl,-⟩,rfl⟩:=h
 rfl
theorem NW {G:GH} {x:gY} {cs:List aj} (h:aW G x.dat cs):cs=x.cells:=by
 simp only [gY.dat,aW,av] at h
 obtain ⟨v1,_,rfl,⟨rfl,-⟩,v2,_,rfl,⟨rfl,-⟩,rfl⟩:=h
 rfl
theorem Uz (G:GH):∀ (B A:List iU),fI G 6 (A.map iU.dat) (A.map iU.cells).flatten→fI G 6 ((A++B).map iU.dat) ((A++B).map iU.cells).flatten
 | [],A,h=>by rw [tH];exact h
 | x :: B,A,h=>by
  have h2:=h.snoc (aeY G x) rfl;have h3:=Uz G B (A++[x]) (by simpa using h2)
  simpa using h3
theorem aeZ (G:GH) (A:List iU):fI G 6 (A.map iU.dat) (A.map iU.cells).flatten:=Uz G A [] fI.nil
theorem Nw {G:GH} {l:List iU} {A:Option Addr} {n c k:Nat} (hv:av G (.sl 6 (l.map iU.dat)) (.slice A n c)) (hk:k < l.length):∃ b o,A=some ⟨b,o,none⟩∧(∀ j u,[vi l[k].num,vi l[k].xG,vi l[k].low,vi l[k].high,vi l[k].std,.string l[k].name][j]?=some u→aJ G b (o+k*6+j)=some u):=by
 obtain ⟨A',c',he,_,_,hg⟩:=hv.slice
 injection he with e1 e2 e3
 subst e1;obtain ⟨b,o,cs,h1,h2,h3,h4⟩:=hg k l[k].dat (by simp [hk]);obtain rfl:=aeX h4;exact ⟨b,o,h1,h3⟩
theorem Jk {G:GH} {l:List gY} {A:Option Addr} {n c k:Nat} (hv:av G (.sl 2 (l.map gY.dat)) (.slice A n c)) (hk:k < l.length):∃ b o,A=some ⟨b,o,none⟩∧(∀ j u,[vi l[k].key,vi l[k].value][j]?=some u→aJ G b (o+k*2+j)=some u):=by
 obtain ⟨A',c',he,_,_,hg⟩:=hv.slice
 injection he with e1 e2 e3
 subst e1;obtain ⟨b,o,cs,h1,h2,h3,h4⟩:=hg k l[k].dat (by simp [hk]);obtain rfl:=NW h4;exact ⟨b,o,h1,h3⟩
def Cx:List iU:=[⟨1,1,0,1073741824,0,⟨#[99,104,97,114,97,99,116,101,114,45,115,116,121,108,101]⟩⟩,⟨2,1,0,1,0,⟨#[98,111,108,100]⟩⟩,⟨3,1,0,1,0,⟨#[105,116,97,108,105,99]⟩⟩,⟨4,1,0,3,0,⟨#[117,110,100,101,114,108,105,110,101]⟩⟩,⟨5,1,2,1638,22,⟨#[115,105,122,101]⟩⟩,⟨6,1,0,16777215,0,⟨#[99,111,108,111,114]⟩⟩,⟨7,1,0,63,0,⟨#[102,111,110,116]⟩⟩,⟨8,1,0,255,0,⟨#[108,97,110,103,117,97,103,101]⟩⟩,⟨9,1,-400,400,0,⟨#[114,97,105,115,101]⟩⟩,⟨10,1,0,1,0,⟨#[104,105,100,100,101,110]⟩⟩,⟨20,2,0,1073741824,0,⟨#[112,97,114,97,103,114,97,112,104,45,115,116,121,108,101]⟩⟩,⟨21,2,0,3,0,⟨#[97,108,105,103,110]⟩⟩,⟨22,2,-31680,31680,0,⟨#[108,101,102,116]⟩⟩,⟨23,2,-31680,31680,0,⟨#[114,105,103,104,116]⟩⟩,⟨24,2,-31680,31680,0,⟨#[102,105,114,115,116]⟩⟩,⟨25,2,0,31680,0,⟨#[98,101,102,111,114,101]⟩⟩,⟨26,2,0,31680,0,⟨#[97,102,116,101,114]⟩⟩,⟨27,2,0,31680,0,⟨#[108,101,97,100,105,110,103]⟩⟩,⟨28,2,0,1,0,⟨#[107,101,101,112,45,110,101,120,116]⟩⟩,⟨29,2,0,1,0,⟨#[107,101,101,112,45,108,105,110,101,115]⟩⟩,⟨30,2,0,1,1,⟨#[119,105,100,111,119]⟩⟩,⟨31,2,0,1,0,⟨#[112,97,103,101,45,98,101,102,111,114,101]⟩⟩,⟨32,2,0,9,0,⟨#[111,117,116,108,105,110,101]⟩⟩,⟨33,2,0,1073741824,0,⟨#[108,105,115,116]⟩⟩,⟨34,2,1,9,1,⟨#[108,101,118,101,108]⟩⟩,⟨35,2,0,32767,0,⟨#[114,101,115,116,97,114,116]⟩⟩,⟨36,2,1,31680,720,⟨#[116,97,98,45,115,116,111,112]⟩⟩,⟨37,2,0,1,0,⟨#[104,121,112,104,101,110,97,116,101]⟩⟩,⟨40,3,720,31680,12240,⟨#[112,97,103,101,45,119,105,100,116,104]⟩⟩,⟨41,3,720,31680,15840,⟨#[112,97,103,101,45,104,101,105,103,104,116]⟩⟩,⟨42,3,0,31680,1440,⟨#[116,111,112]⟩⟩,⟨43,3,0,31680,1440,⟨#[98,111,116,116,111,109]⟩⟩,⟨44,3,0,31680,1440,⟨#[105,110,110,101,114]⟩⟩,⟨45,3,0,31680,1440,⟨#[111,117,116,101,114]⟩⟩,⟨46,3,0,32767,0,⟨#[102,105,114,115,116,45,112,97,103,101]⟩⟩,⟨47,3,1,6,1,⟨#[112,97,103,101,45,102,111,114,109,97,116]⟩⟩,⟨50,4,0,1,0,⟨#[104,101,97,100,101,114]⟩⟩,⟨51,4,0,1,0,⟨#[99,97,110,116,45,115,112,108,105,116]⟩⟩,⟨52,4,0,31680,0,⟨#[114,111,119,45,104,101,105,103,104,116]⟩⟩,⟨60,5,1,32,1,⟨#[99,111,108,117,109,110,45,115,112,97,110]⟩⟩,⟨61,5,0,2,0,⟨#[118,101,114,116,105,99,97,108,45,109,101,114,103,101]⟩⟩,⟨62,5,0,31680,0,⟨#[99,101,108,108,45,119,105,100,116,104]⟩⟩,⟨63,5,0,16777215,16777215,⟨#[115,104,97,100,101]⟩⟩,⟨70,6,0,31680,0,⟨#[116,97,98,108,101,45,119,105,100,116,104]⟩⟩,⟨71,6,0,2,0,⟨#[116,97,98,108,101,45,97,108,105,103,110]⟩⟩]
set_option maxRecDepth 20000 in
theorem afa (G:GH) (w0:World) (hG:Hold G w0):Calls prog 147 #[] w0 (bA w0 G fun u G'=>av G' (.sl 6 (Cx.map iU.dat)) u):=by
 refine eN [] func147 rfl ntmps147 rfl rfl hG ?_;intro a H;refine kP H (SR fun _ K1=>ak K1 rfl (SR fun _ K2=>?_));clear H K1;intro a H;(iterate 45 refine kr V9 [_,_,_,_,_,_] H wn rfl rfl rfl rfl ?_;clear H;intro a H);refine agN Gj qQ (Cx.map iU.cells) H wn rfl rfl rfl rfl rfl rfl rfl ?_;clear H;intro b46 a w aiW H;refine kH H (ak K2 rfl ?_);clear H K2;intro a H;refine lr H results147 rfl ?_;obtain ⟨Gz,hmz,hbz,H⟩:=H.dJ;exact H.rt (av.dS (n:=45) (cap:=45) hbz rfl (bM _) (show 45≤maxLen by decide) (jG (bM _)) (aeZ _ _))
theorem Uv (G:GH) (w0:World) (hG:Hold G w0) (x:Int):Calls prog 156 #[vi x] w0 (bA w0 G fun u G'=>u=.bool false∧G=G'):=by
 refine eN [(0,_)] func156 rfl ntmps156 rfl rfl hG ?_;intro a H;exact kP H (SR fun _ K1=>ak K1 rfl (SR fun _ K2=>Rm rfl (Rm rfl (Rc rfl (ak K2 rfl (LR results156 rfl fun H=>H.rt ⟨by simp,rfl⟩))))))
theorem KN {x y z:Int} (h:(x < y∧z=-1)∨(y < x∧z=1)∨(x=y∧z=0)):z=yQ x y:=by
 unfold yQ;split
 ·omega
 split <;> omega
theorem Zz (G:GH) (w0:World) (hG:Hold G w0) (x y:Int):Calls prog 150 #[vi x,vi y] w0 (bA w0 G fun u G'=>u=vi (yQ x y)):=by
 refine eN [(0,_),(1,_)] func150 rfl ntmps150 rfl rfl hG ?_;intro a H;refine kP H (SR fun _ K1=>ak K1 rfl (SR fun _ K2=>Rm rfl ?_));clear H K1;intro a H;refine s_call Rp H wn rfl (Uv _ _ H.ro x) rfl ?_;clear H;rintro v8 G8 a w ⟨rfl,-⟩ xL H;refine kH H (ak K2 rfl (SR fun _ K3=>Rm rfl ?_));clear H K2;intro a H;refine s_call Rp H wn rfl (Uv _ _ H.ro y) rfl ?_;clear H;rintro v10 wT a w ⟨rfl,-⟩ xK H;refine kH H (ak K3 rfl (SQ fun _ K4=>SR fun _ K5=>Rm rfl (Kz K5 (Cd rfl ?_ ?_)))) <;> clear H K3 K5
 ·intro h11 a H
  cases h11
 intro h11 a H
 try have nQ:=dF h11
 refine kP H (Kc K4 (SQ fun _ K6=>SR fun _ K7=>Rm rfl (Kz K7 (Cd rfl ?_ ?_)))) <;> clear H K4 K7
 ·intro eu a H
  cases eu
 intro eu a H
 try have oD:=dF eu
 refine kP H (Kc K6 (SQ fun _ K8=>SR fun _ K9=>Rm rfl (Rm rfl (Rc rfl (Kz K9 (Cd rfl ?_ ?_)))))) <;> clear H K6 K9
 ·intro h16 a H
  try have p16:=dT h16
  exact kP H (SR fun _ aT=>ak aT rfl (LR results150 rfl fun H=>H.rt (aA vi (KN (by omega)))))
 intro h16 a H
 try have p16:=dF h16
 refine kP H (Kc K8 (SQ fun _ bD=>SR fun _ bK=>Rm rfl (Rm rfl (Rc rfl (Kz bK (Cd rfl ?_ ?_)))))) <;> clear H K8 bK
 ·intro h19 a H
  try have uE:=dT h19
  exact kP H (SR fun _ bT=>ak bT rfl (LR results150 rfl fun H=>H.rt (aA vi (KN (by omega)))))
 intro h19 a H
 try have uE:=dF h19
 exact kP H (Kc bD (SR fun _ bU=>ak bU rfl (LR results150 rfl fun H=>H.rt (aA vi (KN (by omega))))))
end
section
open Go.RowKit
theorem ach:bO prog 233 0 0:=⟨by kernel_rfl⟩
theorem aaJ:∀ args w,(callFunc 150 args).run prog w=.ok (.enter 150 args) w:=enters func150 rfl (by kernel_rfl)
theorem Wv:prog.underlying 240=some (.int .u64):=by kernel_rfl
theorem aaI:∀ args w,(callFunc 149 args).run prog w=.ok (.enter 149 args) w:=enters func149 rfl (by kernel_rfl)
theorem QD (G:GH) (w0:World) (hG:Hold G w0) (x:iU) (t:Int):rT prog (.func (.func 149) #[] #[]) [.agg x.cells.toArray,vi t] w0 (bA w0 G fun u G'=>u=vi (yQ x.num t)):=by
 refine lH (caps:=[]) aaI ?_;refine eN [(0,_),(1,_)] func149 rfl ntmps149 rfl rfl hG ?_;intro a H;refine dw (fun _ K1=>?_);refine fu (cs:=[_,_,_,_,_,_]) H wn rfl rfl rfl ?_;clear H;intro b2 a w hb2 H;refine kH H (ak K1 rfl (SR fun _ K2=>aU ach aF 0 rfl rfl (Rm rfl ?_)));clear H K1;intro a H;refine s_call aaJ H wn rfl (Zz _ _ H.ro x.num t) rfl ?_;clear H;rintro v8 G8 a w rfl xL H;exact kH H (ak K2 rfl (LR results149 rfl fun H=>H.rt rfl))
theorem Yw (G:GH) (w0:World) (hG:Hold G w0) (l:List iU) (t:Int) (v:aj) (hv:av G (.sl 6 (l.map iU.dat)) v) (hl:l.length≤4294967296) :
  Calls prog 148 #[v,vi t,.func (.func 149) #[] #[]] w0 (bA w0 G fun u G'=>u=.tuple #[vi (xg (l.map iU.num) t),.bool (Aw (l.map iU.num) t)]):=by
 obtain ⟨A,c,rfl,hc1,hc2,-⟩:=hv.slice;rw [bX] at *;obtain ⟨p,hp⟩:∃ p:Nat→Bool,p=fun h=>decide (¬ (l.map iU.num).getD h 0 < t):=⟨_,rfl⟩
 have hbs:xg (l.map iU.num) t=wD p l.length 0 l.length:=by rw [hp,xg,bX]
 refine eN [(0,_),(1,_),(2,_)] func148 rfl ntmps148 rfl rfl hG ?_;intro a H;refine kP H (SR fun _ K1=>Ra rfl (ak K1 rfl (SR fun _ K2=>Rm rfl (Rl Gj rfl (ak K2 rfl (SR fun _ K3=>Rm rfl (Ra rfl (ak K3 rfl (SQ fun _ K4=>SB ?_)))))))));clear H K1 K2 K3;intro a H;skip;refine fJ (ι:=Nat × Nat × Nat × GH) (Tc:=[(0,_),(1,_),(2,_),(8,_)]) (Lc:=[]) (fun gh=>[(9,vi gh.1),(10,vi gh.2.1)]) (fun gh=>[]) (fun gh=>gh.2.2.2) (fun gh=>gh.1≤gh.2.1∧gh.2.1≤l.length∧gh.2.1 - gh.1≤gh.2.2.1∧wD p gh.2.2.1 gh.1 gh.2.1=xg (l.map iU.num) t∧(∀ b o,G b=some o→gh.2.2.2 b=some o)) (fun gh=>gh.2.1 - gh.1) ((0,l.length,l.length,G)) (by exact (H).sub ⟨rfl,rfl,rfl,rfl,rfl,rfl,aC⟩) ?_ ?_
 ·exact ⟨jf _,bM _,Nat.sub_le _ _,hbs.symm,fun _ _ h=>h⟩
 clear H;intro gh a w hI H;obtain ⟨i,j,f,g⟩:=gh;dsimp only at hI H;obtain ⟨hij,hj,hf1,heq,hgm⟩:=hI;have Co:=hv.mono hgm;dsimp only [lca,bC] at H;refine kP H (SQ fun _ K5=>SR fun _ K6=>Rm rfl (Rm rfl (Rc rfl (Kz K6 (Cd rfl ?_ ?_))))) <;> clear H K6
 ·intro dB a H
  try have kN:=dT dB
  have hlt:i < j:=by omega
  rw [aeH hf1 hlt] at heq;obtain ⟨m,hm⟩:∃ m,m=(i+j) / 2:=⟨_,rfl⟩;rw [← hm] at heq
  have hml:m < l.length:=by omega
  obtain ⟨b,o,rfl,hrow⟩:=Nw Co hml
  have hpm:p m=decide (¬ l[m].num < t):=by rw [hp];dsimp only;rw [getD_map hml]
  rw [hpm] at heq;refine kP H (Kc K5 (SB (SR fun _ K7=>Rm rfl (Rm rfl (Rd rfl ?_)))));clear H K5;intro a H;rw [show ((i:Int)+(j:Int))=((i+j:Nat):Int) by push_cast;rfl] at H;refine Ep ((i+j:Nat):Int) Wv mG H wn rfl (aeI (by omega) (by omega)) rfl ?_;clear H;intro a H;refine VH _ H wn rfl rfl rfl (by decide) rfl ?_;clear H;intro a H;rw [aeG,← hm] at H;refine Ep (m:Int) mG Wv H wn rfl (FU (by omega) (by omega)) rfl ?_;clear H;intro a H;refine kH H (ak K7 rfl (SR fun _ K8=>Rm rfl (Rm rfl (Rm rfl (Ri Gj qQ rfl rfl ?_)))));clear H K7;intro a H;refine bE qQ (cs:=[_,_,_,_,_,_]) H wn rfl rfl (fun j v hj=>H.hp.aJ (hrow j v hj)) rfl ?_;clear H;intro a H;refine kH H (Rm rfl ?_);clear H;intro a H;refine oF H wn rfl rfl (QD _ _ H.ro l[m] t) rfl ?_;clear H;rintro v30 Bt a w rfl Ch H;refine kH H (Rc rfl (Kz K8 (Cd rfl ?_ ?_))) <;> clear H K8
  ·intro h31 a H
   try have p31:=dT h31
   rw [ah (by simpa using QK.1 p31)] at heq;refine kP H (SC (Rm rfl (Rd rfl (Ra rfl ?_))));clear H;intro a H;refine aI ?_;refine dN ((m+1,j,f - 1,Bt)) (by exact (H).sub ⟨rfl,rfl,rfl,rfl,rfl,rfl,aC⟩) ?_ ?_
   ·(try dsimp only);exact ⟨by omega,hj,by omega,heq,fun b o h=>Ch b o (hgm b o h)⟩
   first|omega|(dsimp only;omega)
  intro h31 a H
  try have p31:=dF h31
  rw [au (by simpa using fun h=>p31 (QK.2 h))] at heq;refine kP H (SC (Rm rfl (Ra rfl ?_)));clear H;intro a H;refine aI ?_;refine dN ((i,m,f - 1,Bt)) (by exact (H).sub ⟨rfl,rfl,rfl,rfl,rfl,rfl,aC⟩) ?_ ?_
  ·(try dsimp only);exact ⟨by omega,by omega,by omega,heq,fun b o h=>Ch b o (hgm b o h)⟩
  first|omega|(dsimp only;omega)
 intro dB a H
 try have kN:=dF dB
 refine eX ?_;refine K4 _ _ ?_;clear K4;refine aZ (fun _ K9=>?_);rw [aeF (by omega)] at heq;refine kP H (SC (Rm rfl (Rm rfl (Rm rfl (Rc rfl (Rm rfl (Sp 39 rfl ?_ ?_))))))) <;> clear H
 ·intro lK a H
  try have p39:=dT lK
  have hil:i < l.length:=by omega
  obtain ⟨b,o,rfl,hrow⟩:=Nw Co hil;refine kH H (YM lK rfl (YM lK rfl (YM lK rfl (YI Gj qQ lK rfl rfl ?_))));clear H;intro a H;refine bE qQ (cs:=[_,_,_,_,_,_]) H (wg H rfl rfl lK) rfl rfl (fun j v hj=>H.hp.aJ (hrow j v hj)) rfl ?_;clear H;intro a H;refine kH H (YM lK rfl ?_);clear H;intro a H;refine oF H (wg H rfl rfl lK) rfl rfl (QD _ _ H.ro l[i] t) rfl ?_;clear H;rintro v46 Xv a w rfl adR H;refine kH H (YC lK rfl (Pt lK rfl (Ra rfl (aS K9 rfl ?_))));clear H K9;intro a H;refine cB ?_;refine (eP H results148 (.cons (aR H rfl) (.cons (aR H rfl) .nil)) ?_).1;exact H.rt (by rw [adl heq.symm (by rw [bX];omega),← heq];simp)
 intro lK a H
 try have p39:=dF lK
 refine kH H (aY lK rfl (aY lK rfl (aP lK rfl (Pf lK rfl (Ra rfl (aS K9 rfl ?_))))));clear H K9;intro a H;refine cB ?_;refine (eP H results148 (.cons (aR H rfl) (.cons (aR H rfl) .nil)) ?_).1;exact H.rt (by rw [ado heq.symm (by rw [bX];omega),← heq])
end
section
open Go.RowKit
end
section
open Go.RowKit
def uN (fv:aj) (G:GH) (d:List Dat) (b:Bool):Prop:=∀ (G1:GH) (w1:World) (cs:List aj),(∀ b o,G b=some o→G1 b=some o)→Hold G1 w1→aW G1 d cs →
 rT prog fv [.agg cs.toArray] w1 (bA w1 G1 fun u G'=>u=.bool b)
def mO (o:Option Nat):Int:=match o with|some i=>i|none=>-1
theorem aeL (G:GH) (w0:World) (hG:Hold G w0) (l:List bR) (p:bR→Bool) (v fv:aj) (hv:av G (.sl 6 (l.map bR.dat)) v) (hf:∀ x∈l,uN fv G x.dat (p x)) :
  Calls prog 104 #[v,fv] w0 (bA w0 G fun u G'=>u=vi (mO (l.findIdx? p))):=by
 obtain ⟨A,c,rfl,hc1,hc2,hg⟩:=hv.slice;have hml:maxLen=9223372036854775807:=rfl;rw [bX] at *;refine eN [(0,_),(1,_)] func104 rfl ntmps104 rfl rfl hG ?_;intro a H;refine kP H (SR fun _ K1=>ak K1 rfl (SQ fun _ K2=>SR fun _ K3=>Rm rfl (Rl nU rfl (Rm rfl (Kz K3 (SB ?_))))));clear H K1 K3;intro a H;skip;refine fJ (ι:=Nat × GH) (Tc:=[(0,_),(1,_),(7,_)]) (Lc:=[]) (fun gh=>[(8,vi gh.1)]) (fun gh=>[]) (fun gh=>gh.2) (fun gh=>gh.1≤l.length∧(l.take gh.1).findIdx? p=none∧(∀ b o,G b=some o→gh.2 b=some o)) (fun gh=>l.length - gh.1) ((0,G)) (by exact (H).sub ⟨rfl,rfl,rfl,rfl,aC⟩) ?_ ?_
 ·exact ⟨by omega,rfl,fun _ _ h=>h⟩
 clear H;intro gh a w hI H;obtain ⟨k,g⟩:=gh;dsimp only at hI H;obtain ⟨hk,hno,hgm⟩:=hI;dsimp only [lca,bC] at H;refine kP H (SR fun _ K4=>Rc rfl (Kz K4 (SQ fun _ K5=>Cd rfl ?_ ?_))) <;> clear H K4
 ·intro h9 a H
  try have p9:=dT h9
  have hk2:k < l.length:=by omega
  obtain ⟨b,o,cs,rfl,hcl,hrow,hrep⟩:=hg k l[k].dat (by simp [hk2]);obtain ⟨pA,pn,pc,dA,dn,dc,yA,yn,yc,fA,fn,fc,rfl,-⟩:=hrep.row;replace hrow:=fun j u hj=>aL hgm (hrow j u hj);refine kP H (Kc K5 (SQ fun _ K6=>SB (SR fun _ K7=>Rm rfl (ak K7 rfl (SR fun _ K8=>Rm rfl (Rm rfl (Rm rfl (Ri nU kR rfl rfl ?_))))))));clear H K5 K7;intro a H;refine bE kR (cs:=[_,_,_,_,_,_]) H wn rfl rfl (fun j v hj=>H.hp.aJ (hrow j v hj)) rfl ?_;clear H;intro a H;refine oF H wn rfl rfl (hf _ (jk hk2) _ _ _ hgm H.ro (hrep.mono hgm)) rfl ?_;clear H;rintro v16 qj a w rfl qH H;refine K8 _ _ ?_;clear K8;refine kZ H rfl ?_ ?_
  ·intro h16
   try have p16:=dT h16
   refine kP H (SR fun _ K9=>Rm rfl (ak K9 rfl ?_));clear H K9;intro a H;refine lr H results104 rfl ?_
   first
    | exact H.rt (by rw [uq hk2 hno h16];rfl)
    | exact H.rt (by rw [show l.take k=l from jG (by omega)] at hno;rw [hno];rfl)
  intro h16
  try have p16:=dF h16
  refine kP H (Kc K6 (SC (Rd rfl (Rm rfl ?_))));clear H K6;intro a H;refine aI ?_;refine dN ((k+1,qj)) (by exact (H).sub ⟨rfl,rfl,rfl,rfl,aC⟩) ?_ ?_
  ·(try dsimp only);exact ⟨by omega,Cr hk2 hno h16,fun b o h=>qH b o (hgm b o h)⟩
  first|omega|(dsimp only;omega)
 intro h9 a H
 try have p9:=dF h9
 refine eX ?_;refine K2 _ _ ?_;clear K2;refine kP H (SR fun _ aT=>ak aT rfl ?_);clear H aT;intro a H;refine lr H results104 rfl ?_
 first
  | exact H.rt (by rw [uq hk2 hno h16];rfl)
  | exact H.rt (by rw [show l.take k=l from jG (by omega)] at hno;rw [hno];rfl)
end
section
open Go.RowKit
theorem aaG:∀ args w,(callFunc 147 args).run prog w=.ok (.enter 147 args) w:=enters func147 rfl (by kernel_rfl)
theorem aaH:∀ args w,(callFunc 148 args).run prog w=.ok (.enter 148 args) w:=enters func148 rfl (by kernel_rfl)
theorem wS:prog.underlying 68=some (.slice 3):=by kernel_rfl
theorem aaK:∀ args w,(callFunc 151 args).run prog w=.ok (.enter 151 args) w:=enters func151 rfl (by kernel_rfl)
theorem Rh:∀ args w,(callFunc 137 args).run prog w=.ok (.enter 137 args) w:=enters func137 rfl (by kernel_rfl)
theorem aaz:∀ args w,(callFunc 139 args).run prog w=.ok (.enter 139 args) w:=enters func139 rfl (by kernel_rfl)
theorem aci:bO prog 233 1 1:=⟨by kernel_rfl⟩
theorem aay:∀ args w,(callFunc 138 args).run prog w=.ok (.enter 138 args) w:=enters func138 rfl (by kernel_rfl)
theorem acj:bO prog 233 2 2:=⟨by kernel_rfl⟩
theorem acn:bO prog 233 3 3:=⟨by kernel_rfl⟩
def kz:iU:=⟨0,0,0,0,0,⟨#[]⟩⟩
def Cw:List Int:=Cx.map iU.num
def kV (k:Int):iU × Bool:=if Aw Cw k=true then (Cx.getD (xg Cw k) kz,true) else (kz,false)
theorem find_spec (G:GH) (w0:World) (hG:Hold G w0) (k:Int):Calls prog 137 #[vi k] w0 (bA w0 G fun u G'=>u=.tuple #[.agg (kV k).1.cells.toArray,.bool (kV k).2]):=by
 refine eN [(0,_)] func137 rfl ntmps137 rfl rfl hG ?_;intro a H;refine dw (fun _ K1=>?_);refine fq qQ H wn rfl ?_;clear H;intro b2 a w hb2 H;refine kH H (ak K1 rfl (SR fun _ K2=>?_));clear H K1;intro a H;refine s_call aaG H wn rfl (afa _ _ H.ro) rfl ?_;clear H;rintro v7 G7 a w hv7 zC H;obtain ⟨A,c,rfl,hc1,hc2,-⟩:=hv7.slice;rw [bX] at *;refine kH H (ak K2 rfl (SR fun _ K3=>Rm rfl (Rm rfl ?_)));clear H K2;intro a H;refine s_call aaH H wn rfl (Yw _ _ H.ro Cx k _ hv7 (by decide)) rfl ?_;clear H;rintro v11 uL a w rfl Cc H;have hv7:=hv7.mono Cc;have hkn:Cx.map iU.num=Cw:=rfl;rw [hkn] at H;obtain ⟨n,hn⟩:∃ n,n=xg Cw k:=⟨_,rfl⟩;obtain ⟨q,hq⟩:∃ q,q=Aw Cw k:=⟨_,rfl⟩;rw [← hn,← hq] at H;refine kH H (Rm rfl ?_);clear H;intro a H;(iterate 2 refine jS H wn rfl rfl rfl ?_;clear H;intro a H);refine kH H (Ra rfl (ak K3 rfl (SQ fun _ K4=>SR fun _ K5=>Rm rfl (Rn rfl (Kz K5 (Cd rfl ?_ ?_)))))) <;> clear H K3 K5
 ·intro ni a H
  refine dw (fun _ K6=>?_);refine kr V9 [_,_,_,_,_,_] H wn rfl rfl rfl rfl ?_;clear H;intro a H;refine bF qQ 0 (vs:=[_,_,_,_,_,_]) _ H wn rfl rfl rfl rfl rfl rfl rfl rfl ?_;clear H;intro w H;dsimp only [List.set,setRow] at H;refine kH H (ak K6 rfl ?_);clear H K6;intro a H;refine cB ?_;refine (eP H results137 (.cons (zK qQ (cs:=[_,_,_,_,_,_]) H rfl rfl (H.hp.eF 0 rfl rfl)) (.cons (aR H rfl) .nil)) ?_).1;exact H.rt (by rw [kV,ah (by rw [← hq];simpa using ni)];rfl)
 intro ni a H
 try have rM:=dF ni
 have hlt:n < Cx.length:=by have:=adn (ks:=Cw) (t:=k) (by rw [← hq];simpa using ni);rw [← hn] at this;simpa [Cw] using this
 obtain ⟨b,o,rfl,hrow⟩:=Nw hv7 hlt;refine kP H (Kc K4 (SR fun _ K7=>Rm rfl (Rm rfl (Ri Gj qQ rfl rfl ?_))));clear H K4;intro a H;refine bE qQ (cs:=[_,_,_,_,_,_]) H wn rfl rfl (fun j v hj=>H.hp.aJ (hrow j v hj)) rfl ?_;clear H;intro a H;refine bF qQ 0 (vs:=[_,_,_,_,_,_]) _ H wn rfl rfl rfl rfl rfl rfl rfl rfl ?_;clear H;intro w H;dsimp only [List.set,setRow] at H;refine kH H (ak K7 rfl ?_);clear H K7;intro a H;refine cB ?_;refine (eP H results137 (.cons (zK qQ (cs:=[_,_,_,_,_,_]) H rfl rfl (H.hp.eF 0 rfl rfl)) (.cons (aR H rfl) .nil)) ?_).1;exact H.rt (by rw [kV,au (by rw [← hq];simpa using ni),← hn,List.getD_eq_getElem?_getD,gZ hlt];rfl)
def dh (e:Int):List Int:=if e=1∨e=4∨e=5∨e=6 then [1] else if e=2 then [1,2] else if e=3 then [3] else if e=7 then [6] else if e=9 then [4] else if e=10 then [5] else []
theorem eB (G:GH) (A:List Int):fI G 1 (A.map fun k=>[li k]) (A.map vi):=by
 refine ⟨A.map fun k=>[vi k],?_,by simp,fun j r cs hr hc=>?_⟩
 ·induction A with
  | nil=>rfl
  | cons a A ih=>simpa using ih
 rw [qp] at hr hc
 cases h:A[j]? with
 | none=>rw [h] at hr;cases hr
 | some x =>
  rw [h] at hr hc
  cases hr;cases hc
  exact ⟨by simp only [aW];exact ⟨_,_,rfl,by simp [av,Value.oneCell'],rfl⟩,rfl⟩
theorem acT (G:GH) (w0:World) (hG:Hold G w0) (e:Int):Calls prog 139 #[vi e] w0 (bA w0 G fun u G'=>av G' (.sl 1 ((dh e).map fun k=>[li k])) u):=by
  refine eN [(0,_)] func139 rfl ntmps139 rfl rfl hG ?_;intro a H;refine kP H (SR fun _ K1=>ak K1 rfl (SQ fun _ K2=>SR fun _ K3=>Rm rfl (Kz K3 (SB (SQ fun _ K4=>SR fun _ K5=>Rc rfl (ak K5 rfl (Cd rfl ?_ ?_))))))) <;> clear H K1 K3 K5
  · intro h4 a H
    try have p4:=dT h4
    refine kP H (Kc K4 (Ct rfl h4 (SR fun _ K6=>?_)));clear H K4;intro a H;refine gV wS aF [_] [_] H wn rfl rfl rfl rfl rfl (by intro i q h;match i,h with|0,h=>exact h|n+1,h=>simp at h) rfl rfl ?_;clear H;intro b9 a w xI H;refine kH H (ak K6 rfl ?_);clear H K6;intro a H;refine lr H results139 rfl ?_
    first
      | exact H.rt (by rw [dh,ah (by omega),ah (by omega),ah (by omega),ah (by omega),ah (by omega),ah (by omega)];exact av.jc rfl (by decide))
      | (obtain ⟨Gz,hmz,hbz,H⟩:=H.dJ
         first
           | exact H.rt (by rw [dh,au (by omega)];exact av.dS (n:=1) (cap:=1) hbz rfl (bM _) (show 1≤maxLen by decide) rfl (eB _ [1]))
           | exact H.rt (by rw [dh,ah (by omega),au (by omega)];exact av.dS (n:=2) (cap:=2) hbz rfl (bM _) (show 2≤maxLen by decide) rfl (eB _ [1,2]))
           | exact H.rt (by rw [dh,ah (by omega),ah (by omega),au (by omega)];exact av.dS (n:=1) (cap:=1) hbz rfl (bM _) (show 1≤maxLen by decide) rfl (eB _ [3]))
           | exact H.rt (by rw [dh,ah (by omega),ah (by omega),ah (by omega),au (by omega)];exact av.dS (n:=1) (cap:=1) hbz rfl (bM _) (show 1≤maxLen by decide) rfl (eB _ [6]))
           | exact H.rt (by rw [dh,ah (by omega),ah (by omega),ah (by omega),ah (by omega),au (by omega)];exact av.dS (n:=1) (cap:=1) hbz rfl (bM _) (show 1≤maxLen by decide) rfl (eB _ [4]))
           | exact H.rt (by rw [dh,ah (by omega),ah (by omega),ah (by omega),ah (by omega),ah (by omega),au (by omega)];exact av.dS (n:=1) (cap:=1) hbz rfl (bM _) (show 1≤maxLen by decide) rfl (eB _ [5])))
  intro h4 a H
  try have p4:=dF h4
  refine kP H (SR fun _ K7=>Rc rfl (ak K7 rfl (Cd rfl ?_ ?_))) <;> clear H K7
  · intro h4 a H
    try have p4:=dT h4
    refine kP H (Kc K4 (Ct rfl h4 (SR fun _ K8=>?_)));clear H K4;intro a H;refine gV wS aF [_] [_] H wn rfl rfl rfl rfl rfl (by intro i q h;match i,h with|0,h=>exact h|n+1,h=>simp at h) rfl rfl ?_;clear H;intro b9 a w xI H;refine kH H (ak K8 rfl ?_);clear H K8;intro a H;refine lr H results139 rfl ?_
    first
      | exact H.rt (by rw [dh,ah (by omega),ah (by omega),ah (by omega),ah (by omega),ah (by omega),ah (by omega)];exact av.jc rfl (by decide))
      | (obtain ⟨Gz,hmz,hbz,H⟩:=H.dJ
         first
           | exact H.rt (by rw [dh,au (by omega)];exact av.dS (n:=1) (cap:=1) hbz rfl (bM _) (show 1≤maxLen by decide) rfl (eB _ [1]))
           | exact H.rt (by rw [dh,ah (by omega),au (by omega)];exact av.dS (n:=2) (cap:=2) hbz rfl (bM _) (show 2≤maxLen by decide) rfl (eB _ [1,2]))
           | exact H.rt (by rw [dh,ah (by omega),ah (by omega),au (by omega)];exact av.dS (n:=1) (cap:=1) hbz rfl (bM _) (show 1≤maxLen by decide) rfl (eB _ [3]))
           | exact H.rt (by rw [dh,ah (by omega),ah (by omega),ah (by omega),au (by omega)];exact av.dS (n:=1) (cap:=1) hbz rfl (bM _) (show 1≤maxLen by decide) rfl (eB _ [6]))
           | exact H.rt (by rw [dh,ah (by omega),ah (by omega),ah (by omega),ah (by omega),au (by omega)];exact av.dS (n:=1) (cap:=1) hbz rfl (bM _) (show 1≤maxLen by decide) rfl (eB _ [4]))
           | exact H.rt (by rw [dh,ah (by omega),ah (by omega),ah (by omega),ah (by omega),ah (by omega),au (by omega)];exact av.dS (n:=1) (cap:=1) hbz rfl (bM _) (show 1≤maxLen by decide) rfl (eB _ [5])))
  intro h4 a H
  try have p4:=dF h4
  refine kP H (SR fun _ K9=>Rc rfl (ak K9 rfl (Cd rfl ?_ ?_))) <;> clear H K9
  · intro h4 a H
    try have p4:=dT h4
    refine kP H (Kc K4 (Ct rfl h4 (SR fun _ aT=>?_)));clear H K4;intro a H;refine gV wS aF [_] [_] H wn rfl rfl rfl rfl rfl (by intro i q h;match i,h with|0,h=>exact h|n+1,h=>simp at h) rfl rfl ?_;clear H;intro b9 a w xI H;refine kH H (ak aT rfl ?_);clear H aT;intro a H;refine lr H results139 rfl ?_
    first
      | exact H.rt (by rw [dh,ah (by omega),ah (by omega),ah (by omega),ah (by omega),ah (by omega),ah (by omega)];exact av.jc rfl (by decide))
      | (obtain ⟨Gz,hmz,hbz,H⟩:=H.dJ
         first
           | exact H.rt (by rw [dh,au (by omega)];exact av.dS (n:=1) (cap:=1) hbz rfl (bM _) (show 1≤maxLen by decide) rfl (eB _ [1]))
           | exact H.rt (by rw [dh,ah (by omega),au (by omega)];exact av.dS (n:=2) (cap:=2) hbz rfl (bM _) (show 2≤maxLen by decide) rfl (eB _ [1,2]))
           | exact H.rt (by rw [dh,ah (by omega),ah (by omega),au (by omega)];exact av.dS (n:=1) (cap:=1) hbz rfl (bM _) (show 1≤maxLen by decide) rfl (eB _ [3]))
           | exact H.rt (by rw [dh,ah (by omega),ah (by omega),ah (by omega),au (by omega)];exact av.dS (n:=1) (cap:=1) hbz rfl (bM _) (show 1≤maxLen by decide) rfl (eB _ [6]))
           | exact H.rt (by rw [dh,ah (by omega),ah (by omega),ah (by omega),ah (by omega),au (by omega)];exact av.dS (n:=1) (cap:=1) hbz rfl (bM _) (show 1≤maxLen by decide) rfl (eB _ [4]))
           | exact H.rt (by rw [dh,ah (by omega),ah (by omega),ah (by omega),ah (by omega),ah (by omega),au (by omega)];exact av.dS (n:=1) (cap:=1) hbz rfl (bM _) (show 1≤maxLen by decide) rfl (eB _ [5])))
  intro h4 a H
  try have p4:=dF h4
  refine kP H (SC (Rc rfl (aS K4 rfl (Cd rfl ?_ ?_)))) <;> clear H K4
  · intro h4 a H
    try have p4:=dT h4
    refine dw (fun _ bD=>?_);refine gV wS aF [_] [_] H wn rfl rfl rfl rfl rfl (by intro i q h;match i,h with|0,h=>exact h|n+1,h=>simp at h) rfl rfl ?_;clear H;intro b9 a w xI H;refine kH H (ak bD rfl ?_);clear H bD;intro a H;refine lr H results139 rfl ?_
    first
      | exact H.rt (by rw [dh,ah (by omega),ah (by omega),ah (by omega),ah (by omega),ah (by omega),ah (by omega)];exact av.jc rfl (by decide))
      | (obtain ⟨Gz,hmz,hbz,H⟩:=H.dJ
         first
           | exact H.rt (by rw [dh,au (by omega)];exact av.dS (n:=1) (cap:=1) hbz rfl (bM _) (show 1≤maxLen by decide) rfl (eB _ [1]))
           | exact H.rt (by rw [dh,ah (by omega),au (by omega)];exact av.dS (n:=2) (cap:=2) hbz rfl (bM _) (show 2≤maxLen by decide) rfl (eB _ [1,2]))
           | exact H.rt (by rw [dh,ah (by omega),ah (by omega),au (by omega)];exact av.dS (n:=1) (cap:=1) hbz rfl (bM _) (show 1≤maxLen by decide) rfl (eB _ [3]))
           | exact H.rt (by rw [dh,ah (by omega),ah (by omega),ah (by omega),au (by omega)];exact av.dS (n:=1) (cap:=1) hbz rfl (bM _) (show 1≤maxLen by decide) rfl (eB _ [6]))
           | exact H.rt (by rw [dh,ah (by omega),ah (by omega),ah (by omega),ah (by omega),au (by omega)];exact av.dS (n:=1) (cap:=1) hbz rfl (bM _) (show 1≤maxLen by decide) rfl (eB _ [4]))
           | exact H.rt (by rw [dh,ah (by omega),ah (by omega),ah (by omega),ah (by omega),ah (by omega),au (by omega)];exact av.dS (n:=1) (cap:=1) hbz rfl (bM _) (show 1≤maxLen by decide) rfl (eB _ [5])))
  intro h4 a H
  try have p4:=dF h4
  refine kP H (SR fun _ bK=>Rc rfl (ak bK rfl (Cd rfl ?_ ?_))) <;> clear H bK
  · intro h10 a H
    try have lC:=dT h10
    refine dw (fun _ bT=>?_);refine gV wS aF [_,_] [_,_] H wn rfl rfl rfl rfl rfl (by intro i q h;match i,h with|0,h=>exact h|1,h=>exact h|n+2,h=>simp at h) rfl rfl ?_;clear H;intro b12 a w Ay H;refine kH H (ak bT rfl ?_);clear H bT;intro a H;refine lr H results139 rfl ?_
    first
      | exact H.rt (by rw [dh,ah (by omega),ah (by omega),ah (by omega),ah (by omega),ah (by omega),ah (by omega)];exact av.jc rfl (by decide))
      | (obtain ⟨Gz,hmz,hbz,H⟩:=H.dJ
         first
           | exact H.rt (by rw [dh,au (by omega)];exact av.dS (n:=1) (cap:=1) hbz rfl (bM _) (show 1≤maxLen by decide) rfl (eB _ [1]))
           | exact H.rt (by rw [dh,ah (by omega),au (by omega)];exact av.dS (n:=2) (cap:=2) hbz rfl (bM _) (show 2≤maxLen by decide) rfl (eB _ [1,2]))
           | exact H.rt (by rw [dh,ah (by omega),ah (by omega),au (by omega)];exact av.dS (n:=1) (cap:=1) hbz rfl (bM _) (show 1≤maxLen by decide) rfl (eB _ [3]))
           | exact H.rt (by rw [dh,ah (by omega),ah (by omega),ah (by omega),au (by omega)];exact av.dS (n:=1) (cap:=1) hbz rfl (bM _) (show 1≤maxLen by decide) rfl (eB _ [6]))
           | exact H.rt (by rw [dh,ah (by omega),ah (by omega),ah (by omega),ah (by omega),au (by omega)];exact av.dS (n:=1) (cap:=1) hbz rfl (bM _) (show 1≤maxLen by decide) rfl (eB _ [4]))
           | exact H.rt (by rw [dh,ah (by omega),ah (by omega),ah (by omega),ah (by omega),ah (by omega),au (by omega)];exact av.dS (n:=1) (cap:=1) hbz rfl (bM _) (show 1≤maxLen by decide) rfl (eB _ [5])))
  intro h10 a H
  try have lC:=dF h10
  refine kP H (SR fun _ bU=>Rc rfl (ak bU rfl (Cd rfl ?_ ?_))) <;> clear H bU
  · intro eu a H
    try have oD:=dT eu
    refine dw (fun _ dM=>?_);refine gV wS aF [_] [_] H wn rfl rfl rfl rfl rfl (by intro i q h;match i,h with|0,h=>exact h|n+1,h=>simp at h) rfl rfl ?_;clear H;intro b15 a w MQ H;refine kH H (ak dM rfl ?_);clear H dM;intro a H;refine lr H results139 rfl ?_
    first
      | exact H.rt (by rw [dh,ah (by omega),ah (by omega),ah (by omega),ah (by omega),ah (by omega),ah (by omega)];exact av.jc rfl (by decide))
      | (obtain ⟨Gz,hmz,hbz,H⟩:=H.dJ
         first
           | exact H.rt (by rw [dh,au (by omega)];exact av.dS (n:=1) (cap:=1) hbz rfl (bM _) (show 1≤maxLen by decide) rfl (eB _ [1]))
           | exact H.rt (by rw [dh,ah (by omega),au (by omega)];exact av.dS (n:=2) (cap:=2) hbz rfl (bM _) (show 2≤maxLen by decide) rfl (eB _ [1,2]))
           | exact H.rt (by rw [dh,ah (by omega),ah (by omega),au (by omega)];exact av.dS (n:=1) (cap:=1) hbz rfl (bM _) (show 1≤maxLen by decide) rfl (eB _ [3]))
           | exact H.rt (by rw [dh,ah (by omega),ah (by omega),ah (by omega),au (by omega)];exact av.dS (n:=1) (cap:=1) hbz rfl (bM _) (show 1≤maxLen by decide) rfl (eB _ [6]))
           | exact H.rt (by rw [dh,ah (by omega),ah (by omega),ah (by omega),ah (by omega),au (by omega)];exact av.dS (n:=1) (cap:=1) hbz rfl (bM _) (show 1≤maxLen by decide) rfl (eB _ [4]))
           | exact H.rt (by rw [dh,ah (by omega),ah (by omega),ah (by omega),ah (by omega),ah (by omega),au (by omega)];exact av.dS (n:=1) (cap:=1) hbz rfl (bM _) (show 1≤maxLen by decide) rfl (eB _ [5])))
  intro eu a H
  try have oD:=dF eu
  refine kP H (SR fun _ dO=>Rc rfl (ak dO rfl (Cd rfl ?_ ?_))) <;> clear H dO
  · intro h16 a H
    try have p16:=dT h16
    refine dw (fun _ dD=>?_);refine gV wS aF [_] [_] H wn rfl rfl rfl rfl rfl (by intro i q h;match i,h with|0,h=>exact h|n+1,h=>simp at h) rfl rfl ?_;clear H;intro b18 a w Iy H;refine kH H (ak dD rfl ?_);clear H dD;intro a H;refine lr H results139 rfl ?_
    first
      | exact H.rt (by rw [dh,ah (by omega),ah (by omega),ah (by omega),ah (by omega),ah (by omega),ah (by omega)];exact av.jc rfl (by decide))
      | (obtain ⟨Gz,hmz,hbz,H⟩:=H.dJ
         first
           | exact H.rt (by rw [dh,au (by omega)];exact av.dS (n:=1) (cap:=1) hbz rfl (bM _) (show 1≤maxLen by decide) rfl (eB _ [1]))
           | exact H.rt (by rw [dh,ah (by omega),au (by omega)];exact av.dS (n:=2) (cap:=2) hbz rfl (bM _) (show 2≤maxLen by decide) rfl (eB _ [1,2]))
           | exact H.rt (by rw [dh,ah (by omega),ah (by omega),au (by omega)];exact av.dS (n:=1) (cap:=1) hbz rfl (bM _) (show 1≤maxLen by decide) rfl (eB _ [3]))
           | exact H.rt (by rw [dh,ah (by omega),ah (by omega),ah (by omega),au (by omega)];exact av.dS (n:=1) (cap:=1) hbz rfl (bM _) (show 1≤maxLen by decide) rfl (eB _ [6]))
           | exact H.rt (by rw [dh,ah (by omega),ah (by omega),ah (by omega),ah (by omega),au (by omega)];exact av.dS (n:=1) (cap:=1) hbz rfl (bM _) (show 1≤maxLen by decide) rfl (eB _ [4]))
           | exact H.rt (by rw [dh,ah (by omega),ah (by omega),ah (by omega),ah (by omega),ah (by omega),au (by omega)];exact av.dS (n:=1) (cap:=1) hbz rfl (bM _) (show 1≤maxLen by decide) rfl (eB _ [5])))
  intro h16 a H
  try have p16:=dF h16
  refine kP H (SR fun _ eG=>Rc rfl (ak eG rfl (Cd rfl ?_ ?_))) <;> clear H eG
  · intro h19 a H
    try have uE:=dT h19
    refine dw (fun _ gM=>?_);refine gV wS aF [_] [_] H wn rfl rfl rfl rfl rfl (by intro i q h;match i,h with|0,h=>exact h|n+1,h=>simp at h) rfl rfl ?_;clear H;intro b21 a w aiR H;refine kH H (ak gM rfl ?_);clear H gM;intro a H;refine lr H results139 rfl ?_
    first
      | exact H.rt (by rw [dh,ah (by omega),ah (by omega),ah (by omega),ah (by omega),ah (by omega),ah (by omega)];exact av.jc rfl (by decide))
      | (obtain ⟨Gz,hmz,hbz,H⟩:=H.dJ
         first
           | exact H.rt (by rw [dh,au (by omega)];exact av.dS (n:=1) (cap:=1) hbz rfl (bM _) (show 1≤maxLen by decide) rfl (eB _ [1]))
           | exact H.rt (by rw [dh,ah (by omega),au (by omega)];exact av.dS (n:=2) (cap:=2) hbz rfl (bM _) (show 2≤maxLen by decide) rfl (eB _ [1,2]))
           | exact H.rt (by rw [dh,ah (by omega),ah (by omega),au (by omega)];exact av.dS (n:=1) (cap:=1) hbz rfl (bM _) (show 1≤maxLen by decide) rfl (eB _ [3]))
           | exact H.rt (by rw [dh,ah (by omega),ah (by omega),ah (by omega),au (by omega)];exact av.dS (n:=1) (cap:=1) hbz rfl (bM _) (show 1≤maxLen by decide) rfl (eB _ [6]))
           | exact H.rt (by rw [dh,ah (by omega),ah (by omega),ah (by omega),ah (by omega),au (by omega)];exact av.dS (n:=1) (cap:=1) hbz rfl (bM _) (show 1≤maxLen by decide) rfl (eB _ [4]))
           | exact H.rt (by rw [dh,ah (by omega),ah (by omega),ah (by omega),ah (by omega),ah (by omega),au (by omega)];exact av.dS (n:=1) (cap:=1) hbz rfl (bM _) (show 1≤maxLen by decide) rfl (eB _ [5])))
  intro h19 a H
  try have uE:=dF h19
  refine kP H (SR fun _ fG=>Rc rfl (ak fG rfl (Cd rfl ?_ ?_))) <;> clear H fG
  · intro h22 a H
    try have iT:=dT h22
    refine dw (fun _ gN=>?_);refine gV wS aF [_] [_] H wn rfl rfl rfl rfl rfl (by intro i q h;match i,h with|0,h=>exact h|n+1,h=>simp at h) rfl rfl ?_;clear H;intro b24 a w aiT H;refine kH H (ak gN rfl ?_);clear H gN;intro a H;refine lr H results139 rfl ?_
    first
      | exact H.rt (by rw [dh,ah (by omega),ah (by omega),ah (by omega),ah (by omega),ah (by omega),ah (by omega)];exact av.jc rfl (by decide))
      | (obtain ⟨Gz,hmz,hbz,H⟩:=H.dJ
         first
           | exact H.rt (by rw [dh,au (by omega)];exact av.dS (n:=1) (cap:=1) hbz rfl (bM _) (show 1≤maxLen by decide) rfl (eB _ [1]))
           | exact H.rt (by rw [dh,ah (by omega),au (by omega)];exact av.dS (n:=2) (cap:=2) hbz rfl (bM _) (show 2≤maxLen by decide) rfl (eB _ [1,2]))
           | exact H.rt (by rw [dh,ah (by omega),ah (by omega),au (by omega)];exact av.dS (n:=1) (cap:=1) hbz rfl (bM _) (show 1≤maxLen by decide) rfl (eB _ [3]))
           | exact H.rt (by rw [dh,ah (by omega),ah (by omega),ah (by omega),au (by omega)];exact av.dS (n:=1) (cap:=1) hbz rfl (bM _) (show 1≤maxLen by decide) rfl (eB _ [6]))
           | exact H.rt (by rw [dh,ah (by omega),ah (by omega),ah (by omega),ah (by omega),au (by omega)];exact av.dS (n:=1) (cap:=1) hbz rfl (bM _) (show 1≤maxLen by decide) rfl (eB _ [4]))
           | exact H.rt (by rw [dh,ah (by omega),ah (by omega),ah (by omega),ah (by omega),ah (by omega),au (by omega)];exact av.dS (n:=1) (cap:=1) hbz rfl (bM _) (show 1≤maxLen by decide) rfl (eB _ [5])))
  intro h22 a H
  try have iT:=dF h22
  refine kP H (Kc K2 (SR fun _ iY=>ak iY rfl ?_));clear H K2 iY;intro a H;refine lr H results139 rfl ?_
  first
    | exact H.rt (by rw [dh,ah (by omega),ah (by omega),ah (by omega),ah (by omega),ah (by omega),ah (by omega)];exact av.jc rfl (by decide))
    | (obtain ⟨Gz,hmz,hbz,H⟩:=H.dJ
       first
         | exact H.rt (by rw [dh,au (by omega)];exact av.dS (n:=1) (cap:=1) hbz rfl (bM _) (show 1≤maxLen by decide) rfl (eB _ [1]))
         | exact H.rt (by rw [dh,ah (by omega),au (by omega)];exact av.dS (n:=2) (cap:=2) hbz rfl (bM _) (show 2≤maxLen by decide) rfl (eB _ [1,2]))
         | exact H.rt (by rw [dh,ah (by omega),ah (by omega),au (by omega)];exact av.dS (n:=1) (cap:=1) hbz rfl (bM _) (show 1≤maxLen by decide) rfl (eB _ [3]))
         | exact H.rt (by rw [dh,ah (by omega),ah (by omega),ah (by omega),au (by omega)];exact av.dS (n:=1) (cap:=1) hbz rfl (bM _) (show 1≤maxLen by decide) rfl (eB _ [6]))
         | exact H.rt (by rw [dh,ah (by omega),ah (by omega),ah (by omega),ah (by omega),au (by omega)];exact av.dS (n:=1) (cap:=1) hbz rfl (bM _) (show 1≤maxLen by decide) rfl (eB _ [4]))
         | exact H.rt (by rw [dh,ah (by omega),ah (by omega),ah (by omega),ah (by omega),ah (by omega),au (by omega)];exact av.dS (n:=1) (cap:=1) hbz rfl (bM _) (show 1≤maxLen by decide) rfl (eB _ [5])))
theorem aeQ {G:GH} {l:List Int} {A:Option Addr} {n c k:Nat} (hv:av G (.sl 1 (l.map fun k=>[li k])) (.slice A n c)) (hk:k < l.length):∃ b o,A=some ⟨b,o,none⟩∧aJ G b (o+k*1)=some (vi l[k]):=by
 obtain ⟨A',c',he,_,_,hg⟩:=hv.slice
 injection he with e1 e2 e3
 subst e1;obtain ⟨b,o,cs,h1,h2,h3,h4⟩:=hg k [li l[k]] (by simp [hk])
 simp only [aW,av] at h4
 obtain ⟨v1,_,rfl,⟨rfl,-⟩,rfl⟩:=h4;exact ⟨b,o,h1,h3 0 _ rfl⟩
theorem aeM (G:GH) (w0:World) (hG:Hold G w0) (l:List Int) (t:Int) (v:aj) (hv:av G (.sl 1 (l.map fun k=>[li k])) v) :
  Calls prog 151 #[v,vi t] w0 (bA w0 G fun u G'=>u=vi (mO (l.findIdx? fun x=>decide (t=x)))):=by
 obtain ⟨A,c,rfl,hc1,hc2,-⟩:=hv.slice;have hml:maxLen=9223372036854775807:=rfl;rw [bX] at *;refine eN [(0,_),(1,_)] func151 rfl ntmps151 rfl rfl hG ?_;intro a H;refine kP H (SR fun _ K1=>ak K1 rfl (SQ fun _ K2=>SR fun _ K3=>Rm rfl (Rl wS rfl (Rm rfl (Kz K3 (SB ?_))))));clear H K1 K3;intro a H;skip;refine fJ (ι:=Nat) (Tc:=[(0,_),(1,_),(7,_)]) (Lc:=[]) (fun gh=>[(8,vi gh)]) (fun gh=>[]) (fun gh=>G) (fun gh=>gh≤l.length∧(l.take gh).findIdx? (fun x=>decide (t=x))=none) (fun gh=>l.length - gh) (0) (by exact (H).sub ⟨rfl,rfl,rfl,rfl,aC⟩) ?_ ?_
 ·exact ⟨jf _,rfl⟩
 clear H;intro gh a w hI H;obtain ⟨k,hgh⟩:∃ x,x=gh:=⟨_,rfl⟩;subst hgh;obtain ⟨hk,hno⟩:=hI;dsimp only [lca,bC] at H;refine kP H (SR fun _ K4=>Rc rfl (Kz K4 (SQ fun _ K5=>Cd rfl ?_ ?_))) <;> clear H K4
 ·intro h9 a H
  try have p9:=dT h9
  have hk2:k < l.length:=by omega
  obtain ⟨b,o,rfl,hrow⟩:=aeQ hv hk2;refine kP H (Kc K5 (SQ fun _ K6=>SB (SR fun _ K7=>Rm rfl (ak K7 rfl (SR fun _ K8=>Rm rfl (Rm rfl (Rm rfl (Ri wS aF rfl rfl (Rg aF rfl (by assumption) ?_)))))))));clear H K5 K7;intro a H;refine kH H (Rc rfl (Kz K8 (Cd rfl ?_ ?_))) <;> clear H K8
  ·intro h16 a H
   try have p16:=dT h16
   exact kP H (SR fun _ K9=>Rm rfl (ak K9 rfl (LR results151 rfl fun H=>H.rt (by rw [uq hk2 hno (by simpa using p16)];rfl))))
  intro h16 a H
  try have p16:=dF h16
  refine kP H (Kc K6 (SC (Rd rfl (Rm rfl ?_))));clear H K6;intro a H;refine aI ?_;refine dN ((k+1)) (by exact (H).sub ⟨rfl,rfl,rfl,rfl,aC⟩) ?_ ?_
  ·exact ⟨by omega,Cr hk2 hno (by simpa using p16)⟩
  first|omega|(dsimp only;omega)
 intro h9 a H
 try have p9:=dF h9
 refine eX ?_;refine K2 _ _ ?_;clear K2;exact kP H (SR fun _ aT=>ak aT rfl (LR results151 rfl fun H=>H.rt (by rw [show l.take k=l from jG (by omega)] at hno;rw [hno];rfl)))
theorem ZC (G:GH) (w0:World) (hG:Hold G w0) (l:List Int) (t:Int) (v:aj) (hv:av G (.sl 1 (l.map fun k=>[li k])) v) :
  Calls prog 138 #[v,vi t] w0 (bA w0 G fun u G'=>u=.bool (decide (t∈l))):=by
 obtain ⟨A,c,rfl,hc1,hc2,-⟩:=hv.slice;rw [bX] at *;refine eN [(0,_),(1,_)] func138 rfl ntmps138 rfl rfl hG ?_;intro a H;refine kP H (SR fun _ K1=>ak K1 rfl (SR fun _ K2=>Rm rfl (Rm rfl ?_)));clear H K1;intro a H;refine s_call aaK H wn rfl (aeM _ _ H.ro l t _ hv) rfl ?_;clear H;rintro v7 G7 a w rfl zC H;refine kH H (Rc rfl (ak K2 rfl ?_));clear H K2;intro a H;refine lr H results138 rfl ?_
 exact H.rt (by
  congr 1
  cases h:l.findIdx? (fun x=>decide (t=x)) with
  | none =>
   rw [List.findIdx?_eq_none_iff] at h;have:t∉l:=fun hm=>absurd (h t hm) (by simp)
   simp [mO,this]
  | some i =>
   obtain ⟨hi,he,-⟩:=List.findIdx?_eq_some_iff_getElem.1 h
   have:t∈l:=by rw [rY he];exact jk _
   simp [mO,this])
def xD (e k:Int):Bool:=(kV k).2 && decide ((kV k).1.xG∈dh e)
theorem Sn (G:GH) (w0:World) (hG:Hold G w0) (e k:Int):Calls prog 125 #[vi e,vi k] w0 (bA w0 G fun u G'=>u=.bool (xD e k)):=by
 refine eN [(0,_),(1,_)] func125 rfl ntmps125 rfl rfl hG ?_;intro a H;refine kP H (SR fun _ K1=>ak K1 rfl (SR fun _ K2=>Rm rfl ?_));clear H K1;intro a H;refine s_call Rh H wn rfl (find_spec _ _ H.ro k) rfl ?_;clear H;rintro v9 G9 a w rfl wo H;dsimp only [iU.cells] at H;refine kH H (Rm rfl ?_);clear H;intro a H;(iterate 2 refine jS H wn rfl rfl rfl ?_;clear H;intro a H);refine fq qQ H wn rfl ?_;clear H;intro b5 a w hb5 H;refine bF qQ 0 (vs:=[_,_,_,_,_,_]) _ H wn rfl rfl rfl rfl rfl rfl rfl rfl ?_;clear H;intro w H;dsimp only [List.set,setRow] at H;refine kH H (ak K2 rfl (SQ fun _ K3=>?_));clear H K2;intro a H
 by_cases c0:(kV k).2=true
 ·skip
  have nu:∀ (bN:Nat) (v:aj) (G G':GH),(∀ k o,G k=some o→G' k=some o)→(fun (bN:Nat) (v:aj) (G:GH)=>match bN with|0=>v=.bool (kV k).2|1=>v=.bool (decide ((kV k).2=true))|2=>v=vi e|3=>(kV k).2=true→av G (.sl 1 ((dh e).map fun k=>[li k])) v|4=>v=(aH b5 1)|5=>v=vi (kV k).1.xG|6=>v=.bool (decide ((kV k).1.xG∈dh e))|7=>v=.bool (xD e k)|_=>True) bN v G→(fun (bN:Nat) (v:aj) (G:GH)=>match bN with|0=>v=.bool (kV k).2|1=>v=.bool (decide ((kV k).2=true))|2=>v=vi e|3=>(kV k).2=true→av G (.sl 1 ((dh e).map fun k=>[li k])) v|4=>v=(aH b5 1)|5=>v=vi (kV k).1.xG|6=>v=.bool (decide ((kV k).1.xG∈dh e))|7=>v=.bool (xD e k)|_=>True) bN v G':=by
   intro bN v G G' hm h
   match bN,h with
   | 0,h=>exact h
   | 1,h=>exact h
   | 2,h=>exact h
   | 3,h=>exact fun hf=>(h hf).mono hm
   | 4,h=>exact h
   | 5,h=>exact h
   | 6,h=>exact h
   | 7,h=>exact h
   | 8,h=>exact trivial
   | _+9,h=>exact trivial
  refine Ai (hmx) [[],[0],[0,1],[0,1,2],[0,1],[0,1,4],(ra 0 6),(ra 0 7),(ra 0 8)] [8] (by kernel_rfl) (by kernel_rfl) (fun (bN:Nat) (v:aj) (G:GH)=>match bN with|0=>v=.bool (kV k).2|1=>v=.bool (decide ((kV k).2=true))|2=>v=vi e|3=>(kV k).2=true→av G (.sl 1 ((dh e).map fun k=>[li k])) v|4=>v=(aH b5 1)|5=>v=vi (kV k).1.xG|6=>v=.bool (decide ((kV k).1.xG∈dh e))|7=>v=.bool (xD e k)|_=>True) nu H ?_ ?_
  ·clear H;refine aB ?_ ?_ ?_ ?_ (aB ?_ ?_ ?_ ?_ (aX (bH rfl) cO))
   ·refine dP [] rfl trivial (by kernel_rfl) nu rfl rfl ?_;intro bV a w G1 hG HT H fin;exact kH H (Rm rfl fun _ H=>fin H iJ rfl)
   ·refine dP [(0,12,_)] rfl ⟨fun _ _ h=>h,aC⟩ (by kernel_rfl) nu rfl rfl ?_;intro bV a w G1 hG HT H fin;refine kH H (Rm rfl ?_);clear H;intro a H;exact fin H iJ (by simp)
   ·refine dP [(1,13,_)] rfl ⟨fun _ _ h=>h,aC⟩ (by kernel_rfl) nu rfl rfl ?_;intro bV a w G1 hG HT H fin;exact kH H (YM (aD c0) rfl fun _ H=>fin H iJ rfl)
   ·refine dP [(2,14,_),(1,13,_)] rfl ⟨fun _ _ h=>h,fun _ _ h=>h,aC⟩ (by kernel_rfl) nu rfl rfl ?_;intro bV a w G1 hG HT H fin;refine s_call aaz H (wg H rfl rfl (aD c0)) rfl (acT _ _ H.ro e) rfl ?_;clear H;rintro v15 Bq a w AO Ca H;exact fin H Ca (by first|exact fun _=>AO|rfl)
   ·refine dP [(1,13,_)] rfl ⟨fun _ _ h=>h,aC⟩ (by kernel_rfl) nu rfl rfl ?_;intro bV a w G1 hG HT H fin;exact kH H (YF aci (aD c0) rfl fun _ H=>fin H iJ rfl)
   ·refine dP [(4,16,_),(1,13,_)] rfl ⟨fun _ _ h=>h,fun _ _ h=>h,aC⟩ (by kernel_rfl) nu rfl rfl ?_;intro bV a w G1 hG HT H fin;exact kH H (YO aF 0 (aD c0) rfl fun _ H=>fin H iJ rfl)
   ·intro bV a w G1 _ bP hc hG HT hv;have H:=HT;clear bP;obtain ⟨u15,aew,AO⟩:=hv 3 15 (hc 3 (by decide)) rfl;(try dsimp only at AO);have H:=H.iI aew;have H:=H.aV (hv 5 17 (hc 5 (by decide)) rfl) rfl;have H:=H.aV (hv 1 13 (hc 1 (by decide)) rfl) rfl;have Hb:=H.full;have H:=Hb;clear hc;refine s_call aay H (wg H rfl rfl (aD c0)) rfl (ZC _ _ H.ro _ _ _ (AO c0)) rfl ?_;clear H;rintro v18 J8 a w rfl acU H;refine aI ⟨rfl,?_⟩;exact jZ (by kernel_rfl) nu rfl rfl HT Hb hG hv acU (rfl) H
   refine dP [(1,13,_),(6,18,_)] rfl ⟨fun _ _ h=>h,fun _ _ h=>h,aC⟩ (by kernel_rfl) nu rfl rfl ?_;intro bV a w G1 hG HT H fin;refine kH H (Pt (aD c0) rfl ?_);clear H;intro a H;exact fin H iJ (by unfold xD;simp_all)
  clear H;intro a w G zm H hv;have H:=H.aV (hv 7 19 rfl rfl) rfl;clear hv;refine kH H (Ra rfl ?_);clear H;intro a H;refine aI ⟨rfl,?_⟩;refine K3 _ _ ?_;clear K3;refine lr H results125 rfl ?_;exact H.rt rfl
 skip;refine dI hmx [[],[0],[0,1],[0,1,2],[0,1],[0,1,4],(ra 0 6),(ra 0 7),(ra 0 8)] [8] (by kernel_rfl) [_,.bool (decide ((kV k).2=true)),undef,undef,undef,undef,undef,.bool (xD e k)] H (aB (Z0 rfl (Rm rfl)) ?_ (aN (j:=1) (by kernel_rfl) (fun _ _ _ _ _ h=>h) rfl rfl rfl rfl rfl (fun _ _ h=>aO h (aG (aM c0))) rfl (fun _=>rfl)) ?_ (aB (aN (j:=1) (by kernel_rfl) (fun _ _ _ _ _ h=>h) rfl rfl rfl rfl rfl (fun _ _ h=>aO h (aG (aM c0))) rfl (fun _=>rfl)) (aN (j:=1) (by kernel_rfl) (fun _ _ _ _ _ h=>h) rfl rfl rfl rfl rfl (fun _ _ h=>aO h (aG (aM c0))) rfl (fun _=>rfl)) (aN (j:=1) (by kernel_rfl) (fun _ _ _ _ _ h=>h) rfl rfl rfl rfl rfl (fun _ _ h=>aO h (aG (aM c0))) rfl (fun _=>rfl)) ?_ (aX (bH rfl) cO))) ?_
 ·refine bY 0 12 rfl rfl fun _ a w G1 hG HT H fin=>?_;refine kH H (Rm rfl ?_);clear H;intro a H;exact fin H iJ (by show _=_;simp)
 ·intro bV a w G1 _ bP hc hG HT hv;have H:=HT;clear bP;have H:=H.aV (hv 2 14 (hc 2 (by decide)) rfl) rfl;have H:=H.aV (hv 1 13 (hc 1 (by decide)) rfl) rfl;have Hb:=H.full;have H:=Hb;clear hc;refine kH H (Ks (aM c0) rfl ?_);clear H;intro a H;refine aI ⟨rfl,?_⟩;exact jZ (by kernel_rfl) (fun _ _ _ _ _ h=>h) rfl rfl HT Hb hG hv (fun _ _ h=>h) (by first|exact fun _=>AO|rfl) H
 ·refine bL 1 13 6 18 rfl rfl fun _ a w G1 hG HT H fin=>?_;refine kH H (Pf (aM c0) rfl ?_);clear H;intro a H;exact fin H iJ (by show _=_;unfold xD;simp_all)
 clear H;intro a w G zm H hv;have H:=H.aV (hv 7 19 rfl rfl) rfl;clear hv;refine kH H (Ra rfl ?_);clear H;intro a H;refine aI ⟨rfl,?_⟩;refine K3 _ _ ?_;clear K3;refine lr H results125 rfl ?_;exact H.rt rfl
def sF (k v:Int):Int:=if (kV k).2=false then 4 else if v < (kV k).1.low∨(kV k).1.high < v then 5 else 0
theorem KH (G:GH) (w0:World) (hG:Hold G w0) (k x:Int):Calls prog 126 #[vi k,vi x] w0 (bA w0 G fun u G'=>u=vi (sF k x)):=by
 refine eN [(0,_),(1,_)] func126 rfl ntmps126 rfl rfl hG ?_;intro a H;refine kP H (SR fun _ K1=>ak K1 rfl (SR fun _ K2=>Rm rfl ?_));clear H K1;intro a H;refine s_call Rh H wn rfl (find_spec _ _ H.ro k) rfl ?_;clear H;rintro v9 G9 a w rfl wo H;dsimp only [iU.cells] at H;refine kH H (Rm rfl ?_);clear H;intro a H;(iterate 2 refine jS H wn rfl rfl rfl ?_;clear H;intro a H);refine fq qQ H wn rfl ?_;clear H;intro b5 a w hb5 H;refine bF qQ 0 (vs:=[_,_,_,_,_,_]) _ H wn rfl rfl rfl rfl rfl rfl rfl rfl ?_;clear H;intro w H;dsimp only [List.set,setRow] at H;refine kH H (ak K2 rfl (SQ fun _ K3=>SB (SR fun _ K4=>Rm rfl (Rn rfl (ak K4 rfl (Cd rfl ?_ ?_)))))) <;> clear H K2 K4
 ·intro h12 a H
  try have rJ:=dT h12
  exact kP H (SR fun _ K5=>ak K5 rfl (LR results126 rfl fun H=>H.rt (by unfold sF;simp_all)))
 intro h12 a H
 try have rJ:=dF h12
 refine kP H (SR fun _ K6=>Rm rfl (aU acj aF 0 rfl rfl (Rc rfl (Rm rfl (Sp 20 rfl ?_ ?_))))) <;> clear H
 ·intro h20 a H
  try have CP:=dT h20
  exact kH H (aP h20 rfl (aP h20 rfl (Pt h20 rfl (ak K6 rfl (Ct rfl rfl (SR fun _ K7=>ak K7 rfl (LR results126 rfl fun H=>H.rt (by unfold sF;simp_all))))))))
 intro h20 a H
 try have CP:=dF h20
 refine kH H (YM h20 rfl (YF acn h20 rfl (YO aF 0 h20 rfl (YC h20 rfl (Pf h20 rfl (ak K6 rfl (Cd rfl ?_ ?_))))))) <;> clear H K6
 ·intro ni a H
  try have rM:=dT ni
  exact kP H (SR fun _ K8=>ak K8 rfl (LR results126 rfl fun H=>H.rt (by unfold sF;simp_all)))
 intro ni a H
 try have rM:=dF ni
 exact kP H (Kc K3 (SR fun _ K9=>ak K9 rfl (LR results126 rfl fun H=>H.rt (by unfold sF;simp_all))))
end
section
open Go.RowKit
theorem tT:bO prog 187 0 0:=⟨by kernel_rfl⟩
theorem Q9:∀ args w,(callFunc 125 args).run prog w=.ok (.enter 125 args) w:=enters func125 rfl (by kernel_rfl)
theorem R3:bO prog 187 1 1:=⟨by kernel_rfl⟩
theorem KX:∀ args w,(callFunc 126 args).run prog w=.ok (.enter 126 args) w:=enters func126 rfl (by kernel_rfl)
def Eh (q:Option Int) (k:Int):Bool:=match q with|some j=>decide (k < j)|none=>false
def yP (e:Int):Option Int→List gY→Int
 | _,[]=>0
 | q,p :: r=>if xD e p.key=false then 4 else if q=some p.key then 7 else if Eh q p.key=true then 6 else if sF p.key p.value=0 then yP e (some p.key) r else sF p.key p.value
def wK (l:List gY) (k:Nat):Option Int:=if k=0 then none else l[k - 1]?.map gY.key
def fZ (e:Int) (l:List gY):Int:=if e < 1∨10 < e then 3 else yP e none l
theorem Zi {e:Int} {l:List gY} {k:Nat} (h:k < l.length):yP e (wK l k) (l.drop k)=if xD e l[k].key=false then 4 else if wK l k=some l[k].key then 7 else if Eh (wK l k) l[k].key=true then 6 else if sF l[k].key l[k].value=0 then yP e (wK l (k+1)) (l.drop (k+1)) else sF l[k].key l[k].value:=by
 rw [mK h,yP]
 have:wK l (k+1)=some l[k].key:=by rw [wK,ah (by omega),Nat.add_sub_cancel,gZ h];rfl
 rw [this]
theorem Ji {l:List gY} {k:Nat} (h:k=0):wK l k=none:=au h
theorem Vk (G:GH) (w0:World) (hG:Hold G w0) (e:Int) (l:List gY) (v:aj) (hv:av G (.sl 2 (l.map gY.dat)) v) :
  Calls prog 90 #[vi e,v] w0 (bA w0 G fun u G'=>u=vi (fZ e l)):=by
 obtain ⟨A,c,rfl,hc1,hc2,-⟩:=hv.slice;have hml:maxLen=9223372036854775807:=rfl;rw [bX] at *;refine eN [(0,_),(1,_)] func90 rfl ntmps90 rfl rfl hG ?_;intro a H;refine kP H (SR fun _ K1=>ak K1 rfl (SQ fun _ K2=>SR fun _ K3=>Rm rfl (Rc rfl (Rm rfl (Sp 10 rfl ?_ ?_))))) <;> clear H K1
 ·intro h10 a H
  try have lC:=dT h10
  refine kH H (aP h10 rfl (Pt h10 rfl (Kz K3 (Ct rfl rfl (SR fun _ K4=>ak K4 rfl ?_)))));clear H K3 K4;intro a H;refine lr H results90 rfl ?_
  first
   | exact H.rt (aA vi (by rw [ah (by simpa using p61)] at heq;rw [fZ,ah (by omega)];exact heq))
   | exact H.rt (aA vi (by rw [au (by simpa using h21)] at heq;rw [fZ,ah (by omega)];exact heq))
   | exact H.rt (aA vi (by rw [fZ,ah (by omega)];exact heq))
   | exact H.rt (aA vi (by rw [fZ,ah (by omega),← heq,show l.drop k=[] from iK (by omega)];rfl))
   | exact H.rt (aA vi (by rw [fZ,au (by omega)]))
 intro h10 a H
 try have lC:=dF h10
 refine kH H (YM h10 rfl (YC h10 rfl (Pf h10 rfl (Kz K3 (Cd rfl ?_ ?_))))) <;> clear H K3
 ·intro eu a H
  try have oD:=dT eu
  refine kP H (SR fun _ K5=>ak K5 rfl ?_);clear H K5;intro a H;refine lr H results90 rfl ?_
  first
   | exact H.rt (aA vi (by rw [ah (by simpa using p61)] at heq;rw [fZ,ah (by omega)];exact heq))
   | exact H.rt (aA vi (by rw [au (by simpa using h21)] at heq;rw [fZ,ah (by omega)];exact heq))
   | exact H.rt (aA vi (by rw [fZ,ah (by omega)];exact heq))
   | exact H.rt (aA vi (by rw [fZ,ah (by omega),← heq,show l.drop k=[] from iK (by omega)];rfl))
   | exact H.rt (aA vi (by rw [fZ,au (by omega)]))
 intro eu a H
 try have oD:=dF eu
 refine kP H (Kc K2 (SQ fun _ K6=>SR fun _ K7=>Rm rfl (Rl nT rfl (Rm rfl (Kz K7 (SB ?_))))));clear H K2 K7;intro a H;skip;refine fJ (ι:=Nat × GH) (Tc:=[(0,_),(1,_),(14,_),(15,_)]) (Lc:=[]) (fun gh=>[(16,vi gh.1)]) (fun gh=>[]) (fun gh=>gh.2) (fun gh=>gh.1≤l.length∧yP e (wK l gh.1) (l.drop gh.1)=yP e none l∧(∀ b o,G b=some o→gh.2 b=some o)) (fun gh=>l.length - gh.1) ((0,G)) (by exact (H).sub ⟨rfl,rfl,rfl,rfl,rfl,aC⟩) ?_ ?_
 ·exact ⟨jf _,rfl,fun _ _ h=>h⟩
 clear H;intro gh a w hI H;obtain ⟨k,g⟩:=gh;dsimp only at hI H;obtain ⟨hk,heq,hgm⟩:=hI;dsimp only [lca,bC] at H;refine kP H (SR fun _ K8=>Rc rfl (Kz K8 (SQ fun _ K9=>Cd rfl ?_ ?_))) <;> clear H K8
 ·intro dB a H
  try have kN:=dT dB
  have hk2:k < l.length:=by omega
  have Co:=hv.mono hgm;obtain ⟨b,o,rfl,hrow⟩:=Jk Co hk2
  obtain ⟨pk,hpk⟩:∃ pk,0 < k→aJ g b (o+(k - 1)*2+0)=some (vi pk)∧wK l k=some pk:=by
   by_cases h0:0 < k
   ·obtain ⟨b',o',he,hr'⟩:=Jk Co (show k - 1 < l.length by omega)
    injection he with he
    injection he with e1 e2 e3
    subst e1;subst e2;exact ⟨_,fun _=>⟨hr' 0 _ rfl,by rw [wK,ah (by omega),gZ (by omega)];rfl⟩⟩
   exact ⟨0,fun h=>absurd h h0⟩
  rw [Zi hk2] at heq;have ajb:=heq;refine kP H (Kc K9 (SQ fun _ aT=>SB (SR fun _ bD=>Rm rfl (Ri nT mD rfl rfl ?_))));clear H K9;intro a H;refine bE mD (cs:=[_,_]) H wn rfl rfl (fun j v hj=>H.hp.aJ (hrow j v hj)) rfl ?_;clear H;intro a H;refine fq mD H wn rfl ?_;clear H;intro b6 a w hb6 H;refine kH H (Ra rfl ?_);clear H;intro a H;refine bF mD 0 (vs:=[_,_]) _ H wn rfl rfl rfl rfl rfl rfl rfl rfl ?_;clear H;intro w H;dsimp only [List.set,setRow] at H;refine bD _ _ ?_;clear bD;refine sD (ι:=GH) (Tc:=[(0,_),(1,_),(6,_),(14,_),(15,_),(16,_)]) (Lc:=[(_,_)]) (fun gh=>[]) (fun gh=>[]) (fun gh=>gh) (fun gh=>(if sF l[k].key l[k].value=0 then yP e (wK l (k+1)) (l.drop (k+1)) else sF l[k].key l[k].value)=yP e none l∧(∀ b o,g b=some o→gh b=some o)) (by exact (H).sub ⟨rfl,rfl,rfl,rfl,rfl,rfl,aC⟩) ?_ ?_
  ·skip;refine kP H (SB (SR fun _ bK=>Rm rfl (aU tT aF 0 rfl rfl ?_)));clear H;intro a H;refine s_call Q9 H wn rfl (Sn _ _ H.ro e l[k].key) rfl ?_;clear H;rintro v25 Xo a w rfl Cg H;replace hrow:=fun j u hj=>aL Cg (hrow j u hj);refine kH H (Rn rfl (ak bK rfl (Cd rfl ?_ ?_))) <;> clear H bK
   ·intro h21 a H
    try have pW:=dT h21
    refine kP H (SR fun _ bT=>ak bT rfl ?_);clear H bT;intro a H;refine lr H results90 rfl ?_
    first
     | exact H.rt (aA vi (by rw [ah (by simpa using p61)] at heq;rw [fZ,ah (by omega)];exact heq))
     | exact H.rt (aA vi (by rw [au (by simpa using h21)] at heq;rw [fZ,ah (by omega)];exact heq))
     | exact H.rt (aA vi (by rw [fZ,ah (by omega)];exact heq))
     | exact H.rt (aA vi (by rw [fZ,ah (by omega),← heq,show l.drop k=[] from iK (by omega)];rfl))
     | exact H.rt (aA vi (by rw [fZ,au (by omega)]))
   intro h21 a H
   try have pW:=dF h21
   rw [ah (by simpa using h21)] at heq;refine aZ (fun _ bU=>?_)
   by_cases c0:0 < (k:Int)
   ·skip
    by_cases c1:l[k].key=pk
    ·skip;refine dI hmx [[],[0],[0,1],[0,1,2],(ra 0 4),[0,1,2],[0,1,2],[0,1,2,6],[0,1,2,5,6,7],[0,1,2,5,6,7,8],[0,1,2,5,6,7,8,9],(ra 0 11),(ra 0 12),(ra 0 13)] [13] (by kernel_rfl) [_,_,_,_,vi l[k].key,_,_,vi ((k - 1:Nat):Int),_,_,_,_,_] H (aB (Z0 rfl (Rm rfl)) (Z1 0 28 rfl (Rc rfl)) (Z1 1 29 rfl (Rm rfl)) (Z1 2 30 rfl (YF tT (aD c0) rfl)) (aB (Z2 3 31 2 30 rfl (YO aF 0 (aD c0) rfl)) (Z1 2 30 rfl (YM (aD c0) rfl)) (Z1 2 30 rfl (YM (aD c0) rfl)) ?_ (aB (Z3 5 33 7 35 2 30 rfl (YI nT mD (aD c0) rfl rfl)) (Z2 8 36 2 30 rfl (YF tT (aD c0) rfl)) (X2 9 37 2 30 rfl fun hG=>YR aF (aD c0) rfl (aL hG (aL Cg (hpk (by omega)).1))) (Z3 4 32 10 38 2 30 rfl (YC (aD c0) rfl)) (aX (Z2 2 30 11 39 rfl (Pt (aD c0) rfl)) (aX (bH rfl) cO))))) ?_
     ·refine bL 6 34 2 30 rfl rfl fun _ a w G1 hG HT H fin=>?_;refine lT _ H (wg H rfl rfl (aD c0)) rfl rfl rfl (by omega) (by omega) rfl ?_;clear H;intro a H;exact fin H iJ (by show _=_;first|rfl|exact aA vi (by omega))
     clear H;intro a w G qG H hv;have H:=H.aV (hv 12 40 rfl rfl) rfl;clear hv;refine kH H (Ra rfl ?_);clear H;intro a H;refine aI ⟨rfl,?_⟩;refine bU _ _ ?_;clear bU;refine vM H rfl (aD c1) ?_;refine aZ (fun _ dM=>?_);rw [au (by rw [(hpk (by omega)).2,c1])] at heq;refine kP H (SC (aS dM rfl ?_));clear H dM;intro a H;refine lr H results90 rfl ?_
     first
      | exact H.rt (aA vi (by rw [ah (by simpa using p61)] at heq;rw [fZ,ah (by omega)];exact heq))
      | exact H.rt (aA vi (by rw [au (by simpa using h21)] at heq;rw [fZ,ah (by omega)];exact heq))
      | exact H.rt (aA vi (by rw [fZ,ah (by omega)];exact heq))
      | exact H.rt (aA vi (by rw [fZ,ah (by omega),← heq,show l.drop k=[] from iK (by omega)];rfl))
      | exact H.rt (aA vi (by rw [fZ,au (by omega)]))
    skip;refine dI hmx [[],[0],[0,1],[0,1,2],(ra 0 4),[0,1,2],[0,1,2],[0,1,2,6],[0,1,2,5,6,7],[0,1,2,5,6,7,8],[0,1,2,5,6,7,8,9],(ra 0 11),(ra 0 12),(ra 0 13)] [13] (by kernel_rfl) [_,_,_,_,vi l[k].key,_,_,vi ((k - 1:Nat):Int),_,_,_,_,_] H (aB (Z0 rfl (Rm rfl)) (Z1 0 28 rfl (Rc rfl)) (Z1 1 29 rfl (Rm rfl)) (Z1 2 30 rfl (YF tT (aD c0) rfl)) (aB (Z2 3 31 2 30 rfl (YO aF 0 (aD c0) rfl)) (Z1 2 30 rfl (YM (aD c0) rfl)) (Z1 2 30 rfl (YM (aD c0) rfl)) ?_ (aB (Z3 5 33 7 35 2 30 rfl (YI nT mD (aD c0) rfl rfl)) (Z2 8 36 2 30 rfl (YF tT (aD c0) rfl)) (X2 9 37 2 30 rfl fun hG=>YR aF (aD c0) rfl (aL hG (aL Cg (hpk (by omega)).1))) (Z3 4 32 10 38 2 30 rfl (YC (aD c0) rfl)) (aX (Z2 2 30 11 39 rfl (Pt (aD c0) rfl)) (aX (bH rfl) cO))))) ?_
    ·refine bL 6 34 2 30 rfl rfl fun _ a w G1 hG HT H fin=>?_;refine lT _ H (wg H rfl rfl (aD c0)) rfl rfl rfl (by omega) (by omega) rfl ?_;clear H;intro a H;exact fin H iJ (by show _=_;first|rfl|exact aA vi (by omega))
    clear H;intro a w G qG H hv;have H:=H.aV (hv 12 40 rfl rfl) rfl;clear hv;refine kH H (Ra rfl ?_);clear H;intro a H;refine aI ⟨rfl,?_⟩;refine bU _ _ ?_;clear bU;refine lW H rfl (aM c1) ?_;refine aZ (fun _ dO=>?_)
    have q1:¬ (0 < (k:Int)∧l[k].key=pk):=by first|exact fun h=>c1 h.2|exact fun h=>c0 h.1
    rw [ah (fun h=>q1 (by
     by_cases h0:0 < k
     ·rw [(hpk h0).2] at h
      injection h with h
      exact ⟨by omega,h.symm⟩
     rw [Ji (by omega)] at h
     cases h))] at heq
    by_cases c3:l[k].key < pk
    ·skip;refine dI hmx [[],[0],[0,1],[0,1,2],(ra 0 4),[0,1,2],[0,1,2],[0,1,2,6],[0,1,2,5,6,7],[0,1,2,5,6,7,8],[0,1,2,5,6,7,8,9],(ra 0 11),(ra 0 12),(ra 0 13)] [13] (by kernel_rfl) [_,_,_,_,vi l[k].key,_,_,vi ((k - 1:Nat):Int),_,_,vi pk,_,_] H (aB (Z0 rfl (Rm rfl)) (Z1 0 42 rfl (Rc rfl)) (Z1 1 43 rfl (Rm rfl)) (Z1 2 44 rfl (YF tT (aD c0) rfl)) (aB (Z2 3 45 2 44 rfl (YO aF 0 (aD c0) rfl)) (Z1 2 44 rfl (YM (aD c0) rfl)) (Z1 2 44 rfl (YM (aD c0) rfl)) ?_ (aB (Z3 5 47 7 49 2 44 rfl (YI nT mD (aD c0) rfl rfl)) (Z2 8 50 2 44 rfl (YF tT (aD c0) rfl)) ?_ (Z3 4 46 10 52 2 44 rfl (YC (aD c0) rfl)) (aX (Z2 2 44 11 53 rfl (Pt (aD c0) rfl)) (aX (bH rfl) cO))))) ?_
     ·refine bL 6 48 2 44 rfl rfl fun _ a w G1 hG HT H fin=>?_;refine lT _ H (wg H rfl rfl (aD c0)) rfl rfl rfl (by omega) (by omega) rfl ?_;clear H;intro a H;exact fin H iJ (by show _=_;first|rfl|exact aA vi (by omega))
     ·refine bL 9 51 2 44 rfl rfl fun _ a w G1 hG HT H fin=>?_;refine ny aF H (wg H rfl rfl (aD c0)) rfl (H.hp.aJ (aL hG (aL qG (aL Cg (hpk (by omega)).1)))) rfl ?_;clear H;intro a H;exact fin H iJ rfl
     clear H;intro a w G pO H hv;have H:=H.aV (hv 12 54 rfl rfl) rfl;clear hv;refine kH H (Ra rfl ?_);clear H;intro a H;refine aI ⟨rfl,?_⟩;refine dO _ _ ?_;clear dO;refine vM H rfl (aD c3) ?_;refine aZ (fun _ dD=>?_);rw [au (by rw [(hpk (by omega)).2];exact aD c3)] at heq;refine kP H (SC (aS dD rfl ?_));clear H dD;intro a H;refine lr H results90 rfl ?_
     first
      | exact H.rt (aA vi (by rw [ah (by simpa using p61)] at heq;rw [fZ,ah (by omega)];exact heq))
      | exact H.rt (aA vi (by rw [au (by simpa using h21)] at heq;rw [fZ,ah (by omega)];exact heq))
      | exact H.rt (aA vi (by rw [fZ,ah (by omega)];exact heq))
      | exact H.rt (aA vi (by rw [fZ,ah (by omega),← heq,show l.drop k=[] from iK (by omega)];rfl))
      | exact H.rt (aA vi (by rw [fZ,au (by omega)]))
    skip;refine dI hmx [[],[0],[0,1],[0,1,2],(ra 0 4),[0,1,2],[0,1,2],[0,1,2,6],[0,1,2,5,6,7],[0,1,2,5,6,7,8],[0,1,2,5,6,7,8,9],(ra 0 11),(ra 0 12),(ra 0 13)] [13] (by kernel_rfl) [_,_,_,_,vi l[k].key,_,_,vi ((k - 1:Nat):Int),_,_,vi pk,_,_] H (aB (Z0 rfl (Rm rfl)) (Z1 0 42 rfl (Rc rfl)) (Z1 1 43 rfl (Rm rfl)) (Z1 2 44 rfl (YF tT (aD c0) rfl)) (aB (Z2 3 45 2 44 rfl (YO aF 0 (aD c0) rfl)) (Z1 2 44 rfl (YM (aD c0) rfl)) (Z1 2 44 rfl (YM (aD c0) rfl)) ?_ (aB (Z3 5 47 7 49 2 44 rfl (YI nT mD (aD c0) rfl rfl)) (Z2 8 50 2 44 rfl (YF tT (aD c0) rfl)) ?_ (Z3 4 46 10 52 2 44 rfl (YC (aD c0) rfl)) (aX (Z2 2 44 11 53 rfl (Pt (aD c0) rfl)) (aX (bH rfl) cO))))) ?_
    ·refine bL 6 48 2 44 rfl rfl fun _ a w G1 hG HT H fin=>?_;refine lT _ H (wg H rfl rfl (aD c0)) rfl rfl rfl (by omega) (by omega) rfl ?_;clear H;intro a H;exact fin H iJ (by show _=_;first|rfl|exact aA vi (by omega))
    ·refine bL 9 51 2 44 rfl rfl fun _ a w G1 hG HT H fin=>?_;refine ny aF H (wg H rfl rfl (aD c0)) rfl (H.hp.aJ (aL hG (aL qG (aL Cg (hpk (by omega)).1)))) rfl ?_;clear H;intro a H;exact fin H iJ rfl
    clear H;intro a w G pO H hv;have H:=H.aV (hv 12 54 rfl rfl) rfl;clear hv;refine kH H (Ra rfl ?_);clear H;intro a H;refine aI ⟨rfl,?_⟩;refine dO _ _ ?_;clear dO;refine lW H rfl (aM c3) ?_;refine gI ?_;refine ⟨_,by exact (H).sub ⟨rfl,rfl,rfl,rfl,rfl,rfl,aC⟩,?_⟩
    have q2:¬ (0 < (k:Int)∧l[k].key < pk):=by first|exact fun h=>c3 h.2|exact fun h=>c0 h.1
    rw [ah (fun h=>q2 (by
     by_cases h0:0 < k
     ·rw [(hpk h0).2] at h;exact ⟨by omega,rY h⟩
     rw [Ji (by omega)] at h
     cases h))] at heq
    exact ⟨heq,fun b o h=>pO b o (qG b o (Cg b o h))⟩
   skip;refine dI hmx [[],[0],[0,1],[0,1,2],(ra 0 4),[0,1,2],[0,1,2],[0,1,2,6],[0,1,2,5,6,7],[0,1,2,5,6,7,8],[0,1,2,5,6,7,8,9],(ra 0 11),(ra 0 12),(ra 0 13)] [13] (by kernel_rfl) [_,_,_,undef,undef,undef,undef,undef,undef,undef,undef,undef,_] H (aB (Z0 rfl (Rm rfl)) (Z1 0 28 rfl (Rc rfl)) (Z1 1 29 rfl (Rm rfl)) (aN (j:=2) (by kernel_rfl) (fun _ _ _ _ _ h=>h) rfl rfl rfl rfl rfl (fun _ _ h=>aO h (aG (aM c0))) rfl (fun _=>rfl)) (aB (aN (j:=2) (by kernel_rfl) (fun _ _ _ _ _ h=>h) rfl rfl rfl rfl rfl (fun _ _ h=>aO h (aG (aM c0))) rfl (fun _=>rfl)) (aN (j:=2) (by kernel_rfl) (fun _ _ _ _ _ h=>h) rfl rfl rfl rfl rfl (fun _ _ h=>aO h (aG (aM c0))) rfl (fun _=>rfl)) (aN (j:=2) (by kernel_rfl) (fun _ _ _ _ _ h=>h) rfl rfl rfl rfl rfl (fun _ _ h=>aO h (aG (aM c0))) rfl (fun _=>rfl)) (aN (j:=2) (by kernel_rfl) (fun _ _ _ _ _ h=>h) rfl rfl rfl rfl rfl (fun _ _ h=>aO h (aG (aM c0))) rfl (fun _=>rfl)) (aB (aN (j:=2) (by kernel_rfl) (fun _ _ _ _ _ h=>h) rfl rfl rfl rfl rfl (fun _ _ h=>aO h (aG (aM c0))) rfl (fun _=>rfl)) (aN (j:=2) (by kernel_rfl) (fun _ _ _ _ _ h=>h) rfl rfl rfl rfl rfl (fun _ _ h=>aO h (aG (aM c0))) rfl (fun _=>rfl)) (aN (j:=2) (by kernel_rfl) (fun _ _ _ _ _ h=>h) rfl rfl rfl rfl rfl (fun _ _ h=>aO h (aG (aM c0))) rfl (fun _=>rfl)) (aN (j:=2) (by kernel_rfl) (fun _ _ _ _ _ h=>h) rfl rfl rfl rfl rfl (fun _ _ h=>aO h (aG (aM c0))) rfl (fun _=>rfl)) (aX (Z2 2 30 11 39 rfl (Pf (aM c0) rfl)) (aX (bH rfl) cO))))) ?_
   clear H;intro a w G qG H hv;have H:=H.aV (hv 12 40 rfl rfl) rfl;clear hv;refine kH H (Ra rfl ?_);clear H;intro a H;refine aI ⟨rfl,?_⟩;refine bU _ _ ?_;clear bU;refine lW H rfl rfl ?_;refine aZ (fun _ eG=>?_)
   have q1:¬ (0 < (k:Int)∧l[k].key=pk):=by first|exact fun h=>c1 h.2|exact fun h=>c0 h.1
   rw [ah (fun h=>q1 (by
    by_cases h0:0 < k
    ·rw [(hpk h0).2] at h
     injection h with h
     exact ⟨by omega,h.symm⟩
    rw [Ji (by omega)] at h
    cases h))] at heq
   refine dI hmx [[],[0],[0,1],[0,1,2],(ra 0 4),[0,1,2],[0,1,2],[0,1,2,6],[0,1,2,5,6,7],[0,1,2,5,6,7,8],[0,1,2,5,6,7,8,9],(ra 0 11),(ra 0 12),(ra 0 13)] [13] (by kernel_rfl) [_,_,_,undef,undef,undef,undef,undef,undef,undef,undef,undef,_] H (aB (Z0 rfl (Rm rfl)) (Z1 0 42 rfl (Rc rfl)) (Z1 1 43 rfl (Rm rfl)) (aN (j:=2) (by kernel_rfl) (fun _ _ _ _ _ h=>h) rfl rfl rfl rfl rfl (fun _ _ h=>aO h (aG (aM c0))) rfl (fun _=>rfl)) (aB (aN (j:=2) (by kernel_rfl) (fun _ _ _ _ _ h=>h) rfl rfl rfl rfl rfl (fun _ _ h=>aO h (aG (aM c0))) rfl (fun _=>rfl)) (aN (j:=2) (by kernel_rfl) (fun _ _ _ _ _ h=>h) rfl rfl rfl rfl rfl (fun _ _ h=>aO h (aG (aM c0))) rfl (fun _=>rfl)) (aN (j:=2) (by kernel_rfl) (fun _ _ _ _ _ h=>h) rfl rfl rfl rfl rfl (fun _ _ h=>aO h (aG (aM c0))) rfl (fun _=>rfl)) (aN (j:=2) (by kernel_rfl) (fun _ _ _ _ _ h=>h) rfl rfl rfl rfl rfl (fun _ _ h=>aO h (aG (aM c0))) rfl (fun _=>rfl)) (aB (aN (j:=2) (by kernel_rfl) (fun _ _ _ _ _ h=>h) rfl rfl rfl rfl rfl (fun _ _ h=>aO h (aG (aM c0))) rfl (fun _=>rfl)) (aN (j:=2) (by kernel_rfl) (fun _ _ _ _ _ h=>h) rfl rfl rfl rfl rfl (fun _ _ h=>aO h (aG (aM c0))) rfl (fun _=>rfl)) (aN (j:=2) (by kernel_rfl) (fun _ _ _ _ _ h=>h) rfl rfl rfl rfl rfl (fun _ _ h=>aO h (aG (aM c0))) rfl (fun _=>rfl)) (aN (j:=2) (by kernel_rfl) (fun _ _ _ _ _ h=>h) rfl rfl rfl rfl rfl (fun _ _ h=>aO h (aG (aM c0))) rfl (fun _=>rfl)) (aX (Z2 2 44 11 53 rfl (Pf (aM c0) rfl)) (aX (bH rfl) cO))))) ?_
   clear H;intro a w G pO H hv;have H:=H.aV (hv 12 54 rfl rfl) rfl;clear hv;refine kH H (Ra rfl ?_);clear H;intro a H;refine aI ⟨rfl,?_⟩;refine eG _ _ ?_;clear eG;refine lW H rfl rfl ?_;refine gI ?_;refine ⟨_,by exact (H).sub ⟨rfl,rfl,rfl,rfl,rfl,rfl,aC⟩,?_⟩
   have q2:¬ (0 < (k:Int)∧l[k].key < pk):=by first|exact fun h=>c3 h.2|exact fun h=>c0 h.1
   rw [ah (fun h=>q2 (by
    by_cases h0:0 < k
    ·rw [(hpk h0).2] at h;exact ⟨by omega,rY h⟩
    rw [Ji (by omega)] at h
    cases h))] at heq
   exact ⟨heq,fun b o h=>pO b o (qG b o (Cg b o h))⟩
  clear H;intro gh a w hI H;obtain ⟨g2,hgh⟩:∃ x,x=gh:=⟨_,rfl⟩;subst hgh;obtain ⟨heq,nN⟩:=hI;replace hrow:=fun j u hj=>aL nN (hrow j u hj);dsimp only [lca,bC] at H;refine kP H (SR fun _ gM=>aU tT aF 0 rfl rfl (aU R3 aF 0 rfl rfl ?_));clear H;intro a H;refine s_call KX H wn rfl (KH _ _ H.ro l[k].key l[k].value) rfl ?_;clear H;rintro v59 XA a w rfl adU H;refine kH H (ak gM rfl (SR fun _ fG=>Rm rfl (Rc rfl (Kz fG (Cd rfl ?_ ?_))))) <;> clear H gM fG
  ·intro BU a H
   try have p61:=dT BU
   refine kP H (SR fun _ gN=>Rm rfl (ak gN rfl ?_));clear H gN;intro a H;refine lr H results90 rfl ?_
   first
    | exact H.rt (aA vi (by rw [ah (by simpa using p61)] at heq;rw [fZ,ah (by omega)];exact heq))
    | exact H.rt (aA vi (by rw [au (by simpa using h21)] at heq;rw [fZ,ah (by omega)];exact heq))
    | exact H.rt (aA vi (by rw [fZ,ah (by omega)];exact heq))
    | exact H.rt (aA vi (by rw [fZ,ah (by omega),← heq,show l.drop k=[] from iK (by omega)];rfl))
    | exact H.rt (aA vi (by rw [fZ,au (by omega)]))
  intro BU a H
  try have p61:=dF BU
  refine kP H (Kc aT (SC (Rd rfl (Rm rfl ?_))));clear H aT;intro a H;refine aI ?_;refine dN ((k+1,XA)) (by exact (H.dX (Pl:=[_]) (dz:=[]) [] (by decide) rfl).sub ⟨rfl,rfl,rfl,rfl,rfl,aC⟩) ?_ ?_
  ·(try dsimp only);exact ⟨by omega,by rw [au (by simpa using p61)] at heq;exact heq,fun b o h=>adU b o (nN b o (hgm b o h))⟩
  first|omega|(dsimp only;omega)
 intro dB a H
 try have kN:=dF dB
 refine eX ?_;refine K6 _ _ ?_;clear K6;refine kP H (SR fun _ iY=>ak iY rfl ?_);clear H iY;intro a H;refine lr H results90 rfl ?_
 first
  | exact H.rt (aA vi (by rw [ah (by simpa using p61)] at heq;rw [fZ,ah (by omega)];exact heq))
  | exact H.rt (aA vi (by rw [au (by simpa using h21)] at heq;rw [fZ,ah (by omega)];exact heq))
  | exact H.rt (aA vi (by rw [fZ,ah (by omega)];exact heq))
  | exact H.rt (aA vi (by rw [fZ,ah (by omega),← heq,show l.drop k=[] from iK (by omega)];rfl))
  | exact H.rt (aA vi (by rw [fZ,au (by omega)]))
end
section
open Go.RowKit
theorem fU:Ty prog 56 1 8 [.int .i64 0] false:=⟨by kernel_rfl,by kernel_rfl⟩
theorem nA:prog.underlying 168=some (.slice 56):=by kernel_rfl
theorem tQ:∀ args w,(callFunc 89 args).run prog w=.ok (.enter 89 args) w:=enters func89 rfl (by kernel_rfl)
theorem uw (G:GH) (w0:World) (hG:Hold G w0) (n l h:Int):Calls prog 89 #[vi n,vi l,vi h] w0 (bA w0 G fun u G'=>u=.bool (decide (l≤n∧n≤h))∧G=G'):=by
 refine eN [(0,_),(1,_),(2,_)] func89 rfl ntmps89 rfl rfl hG ?_;intro a H;refine kP H (SR fun _ K1=>ak K1 rfl (SR fun _ K2=>Rm rfl (Rm rfl (Rc rfl (Rm rfl (Sp 10 rfl ?_ ?_)))))) <;> clear H K1
 ·intro h10 a H
  try have lC:=dT h10
  exact kH H (YM h10 rfl (YM h10 rfl (YC h10 rfl (Pt h10 rfl (ak K2 rfl (LR results89 rfl fun H=>H.rt ⟨aG (by first|(simp_all;done)|(simp_all;omega)),rfl⟩))))))
 intro h10 a H
 try have lC:=dF h10
 exact kH H (aY h10 rfl (Pf h10 rfl (ak K2 rfl (LR results89 rfl fun H=>H.rt ⟨aG (by first|(simp_all;done)|(simp_all;omega)),rfl⟩))))
def bS (b:Bool) (e:Int):Int:=if b=true then e else 0
theorem iN (G:GH) (w0:World) (hG:Hold G w0) (b:Bool) (e:Int):Calls prog 59 #[.bool b,vi e] w0 (bA w0 G fun u G'=>u=vi (bS b e)∧G=G'):=by
 refine eN [(0,_),(1,_)] func59 rfl ntmps59 rfl rfl hG ?_;intro a H;refine kP H (SR fun _ K1=>ak K1 rfl (SQ fun _ K2=>SR fun _ K3=>Rm rfl (Kz K3 (Cd rfl ?_ ?_)))) <;> clear H K1 K3
 ·intro h5 a H
  try have p5:=dT h5
  exact kP H (SR fun _ K4=>Rm rfl (ak K4 rfl (LR results59 rfl fun H=>H.rt ⟨aA vi (by simp_all [bS]),rfl⟩)))
 intro h5 a H
 try have p5:=dF h5
 exact kP H (Kc K2 (SR fun _ K5=>ak K5 rfl (LR results59 rfl fun H=>H.rt ⟨aA vi (by simp_all [bS]),rfl⟩)))
def cZ:List Int→Int
 | []=>0
 | e :: r=>if e≠0 then e else cZ r
theorem Ik {l:List Int} {k:Nat} (h:k < l.length):cZ (l.drop k)=if l[k]≠0 then l[k] else cZ (l.drop (k+1)):=by
 rw [mK h,cZ]
theorem om (G:GH) (w0:World) (hG:Hold G w0) (l:List Int) (v:aj) (hv:av G (.sl 1 (l.map fun k=>[li k])) v) :
  Calls prog 54 #[v] w0 (bA w0 G fun u G'=>u=vi (cZ l)∧G=G'):=by
 obtain ⟨A,c,rfl,hc1,hc2,hg⟩:=hv.slice;have hml:maxLen=9223372036854775807:=rfl;rw [bX] at *;refine eN [(0,_)] func54 rfl ntmps54 rfl rfl hG ?_;intro a H;refine kP H (SR fun _ K1=>ak K1 rfl (SQ fun _ K2=>SR fun _ K3=>Rm rfl (Rl nA rfl (Rm rfl (Kz K3 (SB ?_))))));clear H K1 K3;intro a H;skip;refine fJ (ι:=Nat) (Tc:=[(5,_),(6,_)]) (Lc:=[]) (fun gh=>[(7,vi gh)]) (fun gh=>[]) (fun gh=>G) (fun gh=>gh≤l.length∧cZ (l.drop gh)=cZ l) (fun gh=>l.length - gh) (0) (by exact (H).sub ⟨rfl,rfl,rfl,aC⟩) ?_ ?_
 ·exact ⟨jf _,rfl⟩
 clear H;intro gh a w hI H;obtain ⟨k,hgh⟩:∃ x,x=gh:=⟨_,rfl⟩;subst hgh;obtain ⟨hk,he⟩:=hI;dsimp only [lca,bC] at H;refine kP H (SR fun _ K4=>Rc rfl (Kz K4 (SQ fun _ K5=>Cd rfl ?_ ?_))) <;> clear H K4
 ·intro h8 a H
  try have p8:=dT h8
  have hk2:k < l.length:=by omega
  obtain ⟨b,o,cs,rfl,hcl,hrow,hr⟩:=hg k [li l[k]] (by simp [hk2]);obtain ⟨v1,_,rfl,⟨rfl,-⟩,rfl⟩:∃ v vs,cs=v :: vs∧av G (li l[k]) v∧aW G [] vs:=hr
  have hcell:aJ G b (o+k*1)=some (vi l[k]):=by simpa using hrow 0 _ rfl
  refine kP H (Kc K5 (SQ fun _ K6=>SB (SR fun _ K7=>Ri nA fU rfl rfl (Rg fU rfl hcell (ak K7 rfl (SR fun _ K8=>Rm rfl (Rc rfl (Kz K8 (Cd rfl ?_ ?_))))))))) <;> clear H K5 K7 K8
  ·intro h12 a H
   try have rJ:=dT h12
   exact kP H (SR fun _ K9=>Rm rfl (ak K9 rfl (LR results54 rfl fun H=>H.rt ⟨aA vi (by rw [Ik hk2,au rJ] at he;exact he),rfl⟩)))
  intro h12 a H
  try have rJ:=dF h12
  refine kP H (Kc K6 (SC (Rd rfl (Rm rfl ?_))));clear H K6;intro a H;refine aI ?_;refine dN ((k+1)) (by exact (H).sub ⟨rfl,rfl,rfl,aC⟩) ?_ ?_
  ·exact ⟨by omega,by rw [Ik hk2,ah rJ] at he;exact he⟩
  first|omega|(dsimp only;omega)
 intro h8 a H
 try have p8:=dF h8
 refine eX ?_;refine K2 _ _ ?_;clear K2;exact kP H (SR fun _ aT=>ak aT rfl (LR results54 rfl fun H=>H.rt ⟨aA vi (by rw [iK (by omega)] at he;exact he),rfl⟩))
def ql (fv:aj) (Gi:GH) (n:Nat) (E:Nat→Int):Prop:=∀ i,i < n→∀ (G1:GH) (w1:World),(∀ b o,Gi b=some o→G1 b=some o)→Hold G1 w1→rT prog fv [vi i] w1 (bA w1 G1 fun u G'=>u=vi (E i))
theorem ql.mono {fv:aj} {G G':GH} {n:Nat} {E:Nat→Int} (h:ql fv G n E) (hm:∀ b o,G b=some o→G' b=some o):ql fv G' n E:=fun i hi G1 w1 hG1=>h i hi G1 w1 fun b o hb=>hG1 b o (hm b o hb)
def jP (E:Nat→Int) (n:Nat):Int:=cZ ((List.range n).map E)
theorem BI {E:Nat→Int} {n k:Nat} (h:k < n):cZ (((List.range n).map E).drop k)=if E k≠0 then E k else cZ (((List.range n).map E).drop (k+1)):=by
 rw [Ik (by simpa using h)];simp
theorem ER (G:GH) (w0:World) (hG:Hold G w0) (n:Nat) (E:Nat→Int) (fv:aj) (hn:n≤4611686018427387904) (hf:ql fv G n E) :
  Calls prog 84 #[vi n,fv] w0 (bA w0 G fun u G'=>u=vi (jP E n)):=by
 refine eN [(0,_),(1,_)] func84 rfl ntmps84 rfl rfl hG ?_;intro a H;refine kP H (SR fun _ K1=>ak K1 rfl (SQ fun _ K2=>SR fun _ K3=>Rm rfl (Rm rfl (Kz K3 (SB ?_)))));clear H K1 K3;intro a H;skip;refine fJ (ι:=Nat × GH) (Tc:=[(1,_),(7,_)]) (Lc:=[]) (fun gh=>[(8,vi gh.1)]) (fun gh=>[]) (fun gh=>gh.2) (fun gh=>gh.1≤n∧cZ (((List.range n).map E).drop gh.1)=jP E n∧(∀ b o,G b=some o→gh.2 b=some o)) (fun gh=>n - gh.1) ((0,G)) (by exact (H).sub ⟨rfl,rfl,rfl,aC⟩) ?_ ?_
 ·exact ⟨jf _,rfl,fun _ _ h=>h⟩
 clear H;intro gh a w hI H;obtain ⟨k,g⟩:=gh;dsimp only at hI H;obtain ⟨hk,he,hgm⟩:=hI;dsimp only [lca,bC] at H;refine kP H (SR fun _ K4=>Rc rfl (Kz K4 (SQ fun _ K5=>Cd rfl ?_ ?_))) <;> clear H K4
 ·intro h9 a H
  try have p9:=dT h9
  have hk2:k < n:=by omega
  refine kP H (Kc K5 (SQ fun _ K6=>SB (SR fun _ K7=>Rm rfl (ak K7 rfl (SR fun _ K8=>Rm rfl (Rm rfl ?_))))));clear H K5 K7;intro a H;refine oF H wn rfl rfl (hf k hk2 _ _ hgm H.ro) rfl ?_;clear H;rintro v13 ED a w rfl IJ H;refine kH H (ak K8 rfl (SR fun _ K9=>Rm rfl (Rc rfl (Kz K9 (Cd rfl ?_ ?_))))) <;> clear H K8 K9
  ·intro ni a H
   try have rM:=dT ni
   exact kP H (SR fun _ aT=>Rm rfl (ak aT rfl (LR results84 rfl fun H=>H.rt (aA vi (by rw [BI hk2,au rM] at he;exact he)))))
  intro ni a H
  try have rM:=dF ni
  refine kP H (Kc K6 (SC (Rd rfl (Rm rfl ?_))));clear H K6;intro a H;refine aI ?_;refine dN ((k+1,ED)) (by exact (H).sub ⟨rfl,rfl,rfl,aC⟩) ?_ ?_
  ·(try dsimp only);exact ⟨by omega,by rw [BI hk2,ah rM] at he;exact he,fun b o h=>IJ b o (hgm b o h)⟩
  first|omega|(dsimp only;omega)
 intro h9 a H
 try have p9:=dF h9
 refine eX ?_;refine K2 _ _ ?_;clear K2;exact kP H (SR fun _ bD=>ak bD rfl (LR results84 rfl fun H=>H.rt (aA vi (by rw [iK (by simp;omega)] at he;exact he))))
def nP (id:Nat→Int) (i:Nat):Int:=if ¬ (1≤id i∧id i≤1073741824) then 18 else if 0 < i∧id i=id (i - 1) then 7 else if 0 < i∧id i < id (i - 1) then 6 else 0
theorem Nt (G:GH) (w0:World) (hG:Hold G w0) (i:Nat) (id:Nat→Int) (fv:aj) (hn:i≤4611686018427387904) (hf:ql fv G (i+1) id) :
  Calls prog 86 #[vi i,fv] w0 (bA w0 G fun u G'=>u=vi (nP id i)):=by
 refine eN [(0,_),(1,_)] func86 rfl ntmps86 rfl rfl hG ?_;intro a H;refine kP H (SR fun _ K1=>ak K1 rfl (SQ fun _ K2=>SB (SR fun _ K3=>Rm rfl (Rm rfl ?_))));clear H K1;intro a H;refine oF H wn rfl rfl (hf i (Nat.lt_succ_self _) _ _ (fun _ _ h=>h) H.ro) rfl ?_;clear H;rintro v8 G8 a w rfl xL H;refine s_call tQ H wn rfl (uw _ _ H.ro (id i) 1 1073741824) rfl ?_;clear H;rintro v9 _ a w ⟨rfl,rfl⟩ - H;refine kH H (Rn rfl (ak K3 rfl (Cd rfl ?_ ?_))) <;> clear H K3
 ·intro h5 a H
  try have p5:=dT h5
  refine kP H (SR fun _ K4=>ak K4 rfl ?_);clear H K4;intro a H;refine lr H results86 rfl ?_
  exact H.rt (aA vi (by unfold nP;(repeat' split) <;> first|rfl|(exfalso;simp_all;done)|(exfalso;simp_all;omega)))
 intro h5 a H
 try have p5:=dF h5
 refine kP H (SR fun _ K5=>Rm rfl (Rc rfl (Rm rfl (Sp 14 rfl ?_ ?_)))) <;> clear H
 ·intro dY a H
  try have mQ:=dT dY
  refine kH H (YM dY rfl (YM dY rfl ?_));clear H;intro a H;refine oF H (wg H rfl rfl dY) rfl rfl (hf i (Nat.lt_succ_self _) _ _ xL H.ro) rfl ?_;clear H;rintro v17 yE a w rfl pR H;refine kH H (YM dY rfl (YM dY rfl ?_));clear H;intro a H;refine lT _ H (wg H rfl rfl dY) rfl rfl rfl (by omega) (by omega) rfl ?_;clear H;intro a H;rw [show ((i:Int) - 1)=((i - 1:Nat):Int) by omega] at H;refine oF H (wg H rfl rfl dY) rfl rfl (hf (i - 1) (by omega) _ _ (fun b o h=>pR b o (xL b o h)) H.ro) rfl ?_;clear H;rintro v21 J9 a w rfl wm H;refine kH H (YC dY rfl (Pt dY rfl (ak K5 rfl (Cd rfl ?_ ?_)))) <;> clear H K5
  ·intro h11 a H
   try have nQ:=dT h11
   refine kP H (SR fun _ K6=>ak K6 rfl ?_);clear H K6;intro a H;refine lr H results86 rfl ?_
   exact H.rt (aA vi (by unfold nP;(repeat' split) <;> first|rfl|(exfalso;simp_all;done)|(exfalso;simp_all;omega)))
  intro h11 a H
  try have nQ:=dF h11
  refine kP H (SR fun _ K7=>Rm rfl (Rc rfl (Rm rfl (Sp 27 rfl ?_ ?_)))) <;> clear H
  ·intro h27 a H
   try have p27:=dT h27
   refine kH H (YM h27 rfl (YM h27 rfl ?_));clear H;intro a H;refine oF H (wg H rfl rfl h27) rfl rfl (hf i (Nat.lt_succ_self _) _ _ (fun b o h=>by first|exact wm b o (pR b o (xL b o h))|(exfalso;omega)) H.ro) rfl ?_;clear H;rintro v30 Bt a w rfl Ch H;refine kH H (YM h27 rfl (YM h27 rfl ?_));clear H;intro a H;refine lT _ H (wg H rfl rfl h27) rfl rfl rfl (by omega) (by omega) rfl ?_;clear H;intro a H;rw [show ((i:Int) - 1)=((i - 1:Nat):Int) by omega] at H;refine oF H (wg H rfl rfl h27) rfl rfl (hf (i - 1) (by omega) _ _ (fun b o h=>by first|exact Ch b o (wm b o (pR b o (xL b o h)))|(exfalso;omega)) H.ro) rfl ?_;clear H;rintro v34 Xr a w rfl Tm H;refine kH H (YC h27 rfl (Pt h27 rfl (ak K7 rfl (Cd rfl ?_ ?_)))) <;> clear H K7
   ·intro dL a H
    try have jQ:=dT dL
    refine kP H (SR fun _ K8=>ak K8 rfl ?_);clear H K8;intro a H;refine lr H results86 rfl ?_
    exact H.rt (aA vi (by unfold nP;(repeat' split) <;> first|rfl|(exfalso;simp_all;done)|(exfalso;simp_all;omega)))
   intro dL a H
   try have jQ:=dF dL
   refine kP H (Kc K2 (SR fun _ K9=>ak K9 rfl ?_));clear H K2 K9;intro a H;refine lr H results86 rfl ?_
   exact H.rt (aA vi (by unfold nP;(repeat' split) <;> first|rfl|(exfalso;simp_all;done)|(exfalso;simp_all;omega)))
  intro h27 a H
  try have p27:=dF h27
  refine kH H (aY h27 rfl (aY h27 rfl (aP h27 rfl (Pf h27 rfl (ak K7 rfl (Cf rfl rfl (Kc K2 (SR fun _ aT=>ak aT rfl ?_))))))));clear H K7 K2 aT;intro a H;refine lr H results86 rfl ?_
  exact H.rt (aA vi (by unfold nP;(repeat' split) <;> first|rfl|(exfalso;simp_all;done)|(exfalso;simp_all;omega)))
 intro dY a H
 try have mQ:=dF dY
 refine kH H (aY dY rfl (aY dY rfl (aP dY rfl (Pf dY rfl (ak K5 rfl (Cf rfl rfl (SR fun _ bD=>Rm rfl (Rc rfl (Rm rfl (Sp 27 rfl ?_ ?_)))))))))) <;> clear H K5
 ·intro h27 a H
  try have p27:=dT h27
  refine kH H (YM h27 rfl (YM h27 rfl ?_));clear H;intro a H;refine oF H (wg H rfl rfl h27) rfl rfl (hf i (Nat.lt_succ_self _) _ _ (fun b o h=>by first|exact wm b o (pR b o (xL b o h))|(exfalso;omega)) H.ro) rfl ?_;clear H;rintro v30 Bt a w rfl Ch H;refine kH H (YM h27 rfl (YM h27 rfl ?_));clear H;intro a H;refine lT _ H (wg H rfl rfl h27) rfl rfl rfl (by omega) (by omega) rfl ?_;clear H;intro a H;rw [show ((i:Int) - 1)=((i - 1:Nat):Int) by omega] at H;refine oF H (wg H rfl rfl h27) rfl rfl (hf (i - 1) (by omega) _ _ (fun b o h=>by first|exact Ch b o (wm b o (pR b o (xL b o h)))|(exfalso;omega)) H.ro) rfl ?_;clear H;rintro v34 Xr a w rfl Tm H;refine kH H (YC h27 rfl (Pt h27 rfl (ak bD rfl (Cd rfl ?_ ?_)))) <;> clear H bD
  ·intro dL a H
   try have jQ:=dT dL
   refine kP H (SR fun _ bK=>ak bK rfl ?_);clear H bK;intro a H;refine lr H results86 rfl ?_
   exact H.rt (aA vi (by unfold nP;(repeat' split) <;> first|rfl|(exfalso;simp_all;done)|(exfalso;simp_all;omega)))
  intro dL a H
  try have jQ:=dF dL
  refine kP H (Kc K2 (SR fun _ bT=>ak bT rfl ?_));clear H K2 bT;intro a H;refine lr H results86 rfl ?_
  exact H.rt (aA vi (by unfold nP;(repeat' split) <;> first|rfl|(exfalso;simp_all;done)|(exfalso;simp_all;omega)))
 intro h27 a H
 try have p27:=dF h27
 refine kH H (aY h27 rfl (aY h27 rfl (aP h27 rfl (Pf h27 rfl (ak bD rfl (Cf rfl rfl (Kc K2 (SR fun _ bU=>ak bU rfl ?_))))))));clear H bD K2 bU;intro a H;refine lr H results86 rfl ?_
 exact H.rt (aA vi (by unfold nP;(repeat' split) <;> first|rfl|(exfalso;simp_all;done)|(exfalso;simp_all;omega)))
end
section
open Go.RowKit
theorem iL:∀ args w,(callFunc 59 args).run prog w=.ok (.enter 59 args) w:=enters func59 rfl (by kernel_rfl)
theorem oh:∀ args w,(callFunc 54 args).run prog w=.ok (.enter 54 args) w:=enters func54 rfl (by kernel_rfl)
def uR (s:ByteArray):Bool:=decide (1≤s.size∧s.size≤40) && nC s
theorem Ql (G:GH) (w0:World) (hG:Hold G w0) (s:ByteArray) (hs:s.size < 4611686018427387904):Calls prog 88 #[.string s] w0 (bA w0 G fun u G'=>u=.bool (uR s)∧G=G'):=by
 refine eN [(0,_)] func88 rfl ntmps88 rfl rfl hG ?_;intro a H;refine kP H (SR fun _ K1=>ak K1 rfl (SR fun _ K2=>Rm rfl (Rv fO rfl (Rc rfl (Rm rfl (Sp 6 rfl ?_ ?_)))))) <;> clear H K1
 ·intro h6 a H
  try have p6:=dT h6
  refine kH H (YM h6 rfl ?_);clear H;intro a H;refine AZ fO H (wg H rfl rfl h6) rfl rfl ?_;clear H;intro a H;refine kH H (YC h6 rfl (Pt h6 rfl (Rm rfl (Sp 11 rfl ?_ ?_)))) <;> clear H
  ·intro h11 a H
   try have nQ:=dT h11
   refine kH H (YM h11 rfl ?_);clear H;intro a H;refine s_call Fa H (wg H rfl rfl h11) rfl (Gn _ _ H.ro s hs) rfl ?_;clear H;rintro v13 _ a w ⟨rfl,rfl⟩ - H;exact kH H (Pt h11 rfl (ak K2 rfl (LR results88 rfl fun H=>H.rt ⟨aG (by unfold uR;first|(simp_all;done)|(simp_all;omega)),rfl⟩)))
  intro h11 a H
  try have nQ:=dF h11
  exact kH H (aP h11 rfl (Pf h11 rfl (ak K2 rfl (LR results88 rfl fun H=>H.rt ⟨aG (by unfold uR;first|(simp_all;done)|(simp_all;omega)),rfl⟩))))
 intro h6 a H
 try have p6:=dF h6
 exact kH H (aY h6 rfl (Pf h6 rfl (Rm rfl (aP rfl rfl (Pf rfl rfl (ak K2 rfl (LR results88 rfl fun H=>H.rt ⟨aG (by unfold uR;first|(simp_all;done)|(simp_all;omega)),rfl⟩)))))))
def zP (s:ByteArray):Int:=cZ [bS (!nC s) 12,bS (decide (1024 < (s.size:Int))) 10]
theorem vD {G:GH} {b:Nat} {x y:Int} (h:G b=some (.cells #[vi x,vi y] 56 (0,0))):av G (.sl 1 ([x,y].map fun k=>[li k])) (.slice (some ⟨b,0,none⟩) 2 2) :=
 av.dS (n:=2) (cap:=2) h rfl (bM _) (show 2≤maxLen by decide) (jG (bM _)) (eB G [x,y])
theorem OC (G:GH) (w0:World) (hG:Hold G w0) (s:ByteArray) (hs:s.size < 4611686018427387904):Calls prog 122 #[.string s] w0 (bA w0 G fun u G'=>u=vi (zP s)):=by
 refine eN [(0,_)] func122 rfl ntmps122 rfl rfl hG ?_;intro a H;refine kP H (SR fun _ K1=>ak K1 rfl (SR fun _ K2=>Rm rfl ?_));clear H K1;intro a H;refine s_call Fa H wn rfl (Gn _ _ H.ro s hs) rfl ?_;clear H;rintro v4 _ a w ⟨rfl,rfl⟩ - H;refine kH H (Rn rfl ?_);clear H;intro a H;refine s_call iL H wn rfl (iN _ _ H.ro _ 12) rfl ?_;clear H;rintro v6 _ a w ⟨rfl,rfl⟩ - H;refine kH H (Rm rfl (Rv fO rfl (Rc rfl ?_)));clear H;intro a H;refine s_call iL H wn rfl (iN _ _ H.ro _ 10) rfl ?_;clear H;rintro v10 _ a w ⟨rfl,rfl⟩ - H;refine gV nA fU [_,_] [_,_] H wn rfl rfl rfl rfl rfl (by intro i q h;match i,h with|0,h=>exact h|1,h=>exact h|n+2,h=>simp at h) rfl rfl ?_;clear H;intro b11 a w Iw H;obtain ⟨uL,Cc,DY,H⟩:=H.dJ;refine s_call oh H wn rfl (om _ _ H.ro _ _ (vD DY)) rfl ?_;clear H;rintro v12 _ a w ⟨rfl,rfl⟩ - H;exact kH H (ak K2 rfl (LR results122 rfl fun H=>H.rt rfl))
def Jb (c:Int):Bool:=decide (97≤qC .or .u8 c 32) && decide (qC .or .u8 c 32≤122)
def CO (c:Int):Bool:=(decide (48≤c) && decide (c≤57)) || decide (c=45) || decide (c=95)
def xU (s:ByteArray) (k:Nat):Bool:=Jb (gy s k) || (decide (k≠0) && CO (gy s k))
def og (s:ByteArray):Bool:=decide (1≤s.size∧s.size≤40) && (List.range s.size).all (xU s)
theorem KO (G:GH) (w0:World) (hG:Hold G w0) (s:ByteArray) (hs:s.size < 4611686018427387904):Calls prog 124 #[.string s] w0 (bA w0 G fun u G'=>u=.bool (og s)∧G=G'):=by
 refine eN [(0,_)] func124 rfl ntmps124 rfl rfl hG ?_;intro a H;refine kP H (SR fun _ K1=>ak K1 rfl (SQ fun _ K2=>SR fun _ K3=>Rm rfl (Rv fO rfl (Rc rfl (Rm rfl (Sp 10 rfl ?_ ?_)))))) <;> clear H K1
 ·intro h10 a H
  try have lC:=dT h10
  exact kH H (aY h10 rfl (Pt h10 rfl (Kz K3 (Ct rfl rfl (SR fun _ K4=>ak K4 rfl (LR results124 rfl fun H=>H.rt ⟨aG (by unfold og;rw [iE (by omega)];rfl),rfl⟩))))))
 intro h10 a H
 try have lC:=dF h10
 refine kH H (YM h10 rfl ?_);clear H;intro a H;refine AZ fO H (wg H rfl rfl h10) rfl rfl ?_;clear H;intro a H;refine kH H (YC h10 rfl (Pf h10 rfl (Kz K3 (Cd rfl ?_ ?_)))) <;> clear H K3
 ·intro dY a H
  try have mQ:=dT dY
  exact kP H (SR fun _ K5=>ak K5 rfl (LR results124 rfl fun H=>H.rt ⟨aG (by unfold og;rw [iE (by omega)];rfl),rfl⟩))
 intro dY a H
 try have mQ:=dF dY
 refine kP H (Kc K2 (SQ fun _ K6=>SR fun _ K7=>Rm rfl (Rv fO rfl (Rm rfl (Kz K7 (SB ?_))))));clear H K2 K7;intro a H;skip;refine fJ (ι:=Nat) (Tc:=[(0,_),(16,_)]) (Lc:=[]) (fun gh=>[(17,vi gh)]) (fun gh=>[]) (fun gh=>G) (fun gh=>gh≤s.size∧(List.range gh).all (xU s)=true) (fun gh=>s.size - gh) (0) (by exact (H).sub ⟨rfl,rfl,rfl,aC⟩) ?_ ?_
 ·exact ⟨jf _,rfl⟩
 clear H;intro gh a w hI H;obtain ⟨k,hgh⟩:∃ x,x=gh:=⟨_,rfl⟩;subst hgh;obtain ⟨hk,hall⟩:=hI;dsimp only [lca,bC] at H;refine kP H (SR fun _ K8=>Rc rfl (Kz K8 (SQ fun _ K9=>Cd rfl ?_ ?_))) <;> clear H K8
 ·intro h18 a H
  try have vo:=dT h18
  have hk2:k < s.size:=by omega
  refine kP H (Kc K9 (SQ fun _ aT=>SB (SR fun _ bD=>Rm rfl (ak bD rfl (SR fun _ bK=>Rm rfl (Rm rfl ?_))))));clear H K9 bD;intro a H;refine mV k fO H wn rfl rfl rfl (by omega) rfl ?_;clear H;intro a H;rw [← jY] at H;refine Jt rfl H wn rfl rfl rfl ?_;clear H;intro a H;refine kH H (ak bK rfl ?_);clear H bK;intro a H;refine sD (ι:=Bool) (Tc:=[(0,_),(3,_),(16,_),(17,_)]) (Lc:=[]) (fun gh=>[(5,.bool gh)]) (fun gh=>[]) (fun gh=>G) (fun gh=>gh=Jb (gy s k)) (by exact (H).sub ⟨rfl,rfl,rfl,rfl,aC⟩) ?_ ?_
  ·skip;refine kP H (SC (Rm rfl (Rc rfl (Rm rfl (Sp 26 rfl ?_ ?_))))) <;> clear H
   ·intro gJ a H
    try have p26:=dT gJ
    refine kH H (YM gJ rfl (YC gJ rfl (Pt gJ rfl (Ra rfl ?_))));clear H;intro a H;refine aI ?_;refine ⟨_,by exact (H).sub ⟨rfl,rfl,rfl,rfl,rfl,aC⟩,?_⟩
    unfold Jb;first|(simp_all;done)|(simp_all;omega)
   intro gJ a H
   try have p26:=dF gJ
   refine kH H (aP gJ rfl (Pf gJ rfl (Ra rfl ?_)));clear H;intro a H;refine aI ?_;refine ⟨_,by exact (H).sub ⟨rfl,rfl,rfl,rfl,rfl,aC⟩,?_⟩
   unfold Jb;first|(simp_all;done)|(simp_all;omega)
  clear H;intro gh a w hI H;obtain ⟨lt,hgh⟩:∃ x,x=gh:=⟨_,rfl⟩;subst hgh;have hlt:=hI;dsimp only [lca,bC] at H;refine sD (ι:=Bool) (Tc:=[(0,_),(3,_),(5,_),(16,_),(17,_)]) (Lc:=[]) (fun gh=>[(6,.bool gh)]) (fun gh=>[]) (fun gh=>G) (fun gh=>gh=CO (gy s k)) (by exact (H).sub ⟨rfl,rfl,rfl,rfl,rfl,aC⟩) ?_ ?_
  ·skip;refine kP H (SC (Rm rfl (Rm rfl ?_)));clear H;intro a H;refine mV k fO H wn rfl rfl rfl (by omega) rfl ?_;clear H;intro a H;rw [← jY] at H;refine kH H (Rc rfl (Rm rfl (Sp 34 rfl ?_ ?_))) <;> clear H
   ·intro fM a H
    try have p34:=dT fM
    refine kH H (YM fM rfl (YM fM rfl ?_));clear H;intro a H;refine mV k fO H (wg H rfl rfl fM) rfl rfl rfl (by omega) rfl ?_;clear H;intro a H;rw [← jY] at H;refine kH H (YC fM rfl (Pt fM rfl (Rm rfl (Sp 40 rfl ?_ ?_)))) <;> clear H
    ·intro kL a H
     try have p40:=dT kL
     refine kH H (aP kL rfl (aP kL rfl (Pt kL rfl (Rm rfl (aP rfl rfl (aP rfl rfl (Pt rfl rfl (Ra rfl ?_))))))));clear H;intro a H;refine aI ?_;refine ⟨_,by exact (H).sub ⟨rfl,rfl,rfl,rfl,rfl,rfl,aC⟩,?_⟩
     unfold CO;first|(simp_all;done)|(simp_all;omega)
    intro kL a H
    try have p40:=dF kL
    refine kH H (YM kL rfl (YM kL rfl ?_));clear H;intro a H;refine mV k fO H (wg H rfl rfl kL) rfl rfl rfl (by omega) rfl ?_;clear H;intro a H;rw [← jY] at H;refine kH H (YC kL rfl (Pf kL rfl (Rm rfl (Sp 46 rfl ?_ ?_)))) <;> clear H
    ·intro h46 a H
     try have p46:=dT h46
     refine kH H (aP h46 rfl (aP h46 rfl (Pt h46 rfl (Ra rfl ?_))));clear H;intro a H;refine aI ?_;refine ⟨_,by exact (H).sub ⟨rfl,rfl,rfl,rfl,rfl,rfl,aC⟩,?_⟩
     unfold CO;first|(simp_all;done)|(simp_all;omega)
    intro h46 a H
    try have p46:=dF h46
    refine kH H (YM h46 rfl (YM h46 rfl ?_));clear H;intro a H;refine mV k fO H (wg H rfl rfl h46) rfl rfl rfl (by omega) rfl ?_;clear H;intro a H;rw [← jY] at H;refine kH H (YC h46 rfl (Pf h46 rfl (Ra rfl ?_)));clear H;intro a H;refine aI ?_;refine ⟨_,by exact (H).sub ⟨rfl,rfl,rfl,rfl,rfl,rfl,aC⟩,?_⟩
    unfold CO;first|(simp_all;done)|(simp_all;omega)
   intro fM a H
   try have p34:=dF fM
   refine kH H (aP fM rfl (aP fM rfl (Pf fM rfl (Rm rfl ?_))));clear H;intro a H;(iterate 2 refine mh H (wg H rfl rfl rfl) rfl rfl ?_;clear H;intro a H);refine mV k fO H (wg H rfl rfl rfl) rfl rfl rfl (by omega) rfl ?_;clear H;intro a H;rw [← jY] at H;refine uG H (wg H rfl rfl rfl) rfl rfl rfl rfl ?_;clear H;intro a H;refine kH H (Pf rfl rfl (Rm rfl (Sp 46 rfl ?_ ?_))) <;> clear H
   ·intro h46 a H
    try have p46:=dT h46
    refine kH H (aP h46 rfl (aP h46 rfl (Pt h46 rfl (Ra rfl ?_))));clear H;intro a H;refine aI ?_;refine ⟨_,by exact (H).sub ⟨rfl,rfl,rfl,rfl,rfl,rfl,aC⟩,?_⟩
    unfold CO;first|(simp_all;done)|(simp_all;omega)
   intro h46 a H
   try have p46:=dF h46
   refine kH H (YM h46 rfl (YM h46 rfl ?_));clear H;intro a H;refine mV k fO H (wg H rfl rfl h46) rfl rfl rfl (by omega) rfl ?_;clear H;intro a H;rw [← jY] at H;refine kH H (YC h46 rfl (Pf h46 rfl (Ra rfl ?_)));clear H;intro a H;refine aI ?_;refine ⟨_,by exact (H).sub ⟨rfl,rfl,rfl,rfl,rfl,rfl,aC⟩,?_⟩
   unfold CO;first|(simp_all;done)|(simp_all;omega)
  clear H;intro gh a w hI H;obtain ⟨ot,hgh⟩:∃ x,x=gh:=⟨_,rfl⟩;subst hgh;have hot:=hI;dsimp only [lca,bC] at H;refine kP H (SR fun _ bT=>Rm rfl (Rn rfl (Rm rfl (Sp 54 rfl ?_ ?_)))) <;> clear H
  ·intro gP a H
   try have p54:=dT gP
   refine kH H (YM gP rfl (YC gP rfl (YM gP rfl (Sp 57 rfl ?_ ?_)))) <;> clear H
   ·intro h57 a H
    try have p57:=dT h57
    refine kH H (aP h57 rfl (PT gP h57 rfl (Pt gP rfl (Kz bT (Ct rfl rfl (SR fun _ bU=>ak bU rfl ?_))))));clear H bT bU;intro a H;refine lr H results124 rfl ?_
    first
     | exact H.rt ⟨aG (by
       unfold og
       rw [show k=s.size by omega] at hall
       rw [hall,jO (by omega)];rfl),rfl⟩
     | exact H.rt ⟨aG (by
       unfold og
       rw [show (List.range s.size).all (xU s)=false from List.all_eq_false.2 ⟨k,by simpa using hk2,by unfold xU;simp_all⟩,Bool.and_false]),rfl⟩
   intro h57 a H
   try have p57:=dF h57
   refine kH H (YM h57 rfl (YN h57 rfl (PF gP h57 rfl (Pt gP rfl (Kz bT (Cd rfl ?_ ?_)))))) <;> clear H bT
   ·intro BU a H
    try have p61:=dT BU
    refine kP H (SR fun _ dM=>ak dM rfl ?_);clear H dM;intro a H;refine lr H results124 rfl ?_
    first
     | exact H.rt ⟨aG (by
       unfold og
       rw [show k=s.size by omega] at hall
       rw [hall,jO (by omega)];rfl),rfl⟩
     | exact H.rt ⟨aG (by
       unfold og
       rw [show (List.range s.size).all (xU s)=false from List.all_eq_false.2 ⟨k,by simpa using hk2,by unfold xU;simp_all⟩,Bool.and_false]),rfl⟩
   intro BU a H
   try have p61:=dF BU
   refine kP H (Kc aT (SC (Rd rfl (Rm rfl ?_))));clear H aT;intro a H;refine aI ?_;refine dN ((k+1)) (by exact (H).sub ⟨rfl,rfl,rfl,aC⟩) ?_ ?_
   ·exact ⟨by omega,by rw [List.range_succ,List.all_append,hall];simp [xU];simp_all⟩
   first|omega|(dsimp only;omega)
  intro gP a H
  try have p54:=dF gP
  refine kH H (aY gP rfl (Ku rfl (Ku rfl (Ks gP rfl (Pf gP rfl (Kz bT (Cf rfl rfl (Kc aT (SC (Rd rfl (Rm rfl ?_)))))))))));clear H bT aT;intro a H;refine aI ?_;refine dN ((k+1)) (by exact (H).sub ⟨rfl,rfl,rfl,aC⟩) ?_ ?_
  ·exact ⟨by omega,by rw [List.range_succ,List.all_append,hall];simp [xU];simp_all⟩
  first|omega|(dsimp only;omega)
 intro h18 a H
 try have vo:=dF h18
 refine eX ?_;refine K6 _ _ ?_;clear K6;refine kP H (SR fun _ dO=>ak dO rfl ?_);clear H dO;intro a H;refine lr H results124 rfl ?_
 first
  | exact H.rt ⟨aG (by
    unfold og
    rw [show k=s.size by omega] at hall
    rw [hall,jO (by omega)];rfl),rfl⟩
  | exact H.rt ⟨aG (by
    unfold og
    rw [show (List.range s.size).all (xU s)=false from List.all_eq_false.2 ⟨k,by simpa using hk2,by unfold xU;simp_all⟩,Bool.and_false]),rfl⟩
end
section
open Go.RowKit
section
variable {N:Nat} {D:List Deferred} {w0:World} {F:Nat→Prop} {G0 G:GH} {L:OL} {T:List (Nat × aj)}
variable {r:Option Nat} {P:Program} {ops:Array Oper} {Q:Exit→Act→World→Prop} {rest:List Oper} {a:Act} {w:World}
variable {d:Nat} {ty:TypeId} {pos:String} {aK:Array Edge} {g:Option (Nat × Bool)}
end
end
section
open Go.RowKit
section
variable {N:Nat} {D:List Deferred} {w0:World} {F:Nat→Prop} {G0 G:GH} {L:OL} {T T':List (Nat × aj)}
variable {r:Option Nat} {P:Program} {Q:Exit→Act→World→Prop} {l:List Oper} {a a':Act} {w w':World} {ε:Type}
def Dn (l:List Oper) (pr:ε→Nat→aj→Prop) (T:List (Nat × aj)) (S:Nat→Bool) (E:ε) (T':List (Nat × aj)):Prop :=
 (∀ t v,lk T t=some v→lk T' t=some v)∧∀ i d,S i=true→dU l i=some d→∃ v,lk T' d=some v∧pr E i v
theorem Dn.put {pr:ε→Nat→aj→Prop} {S:Nat→Bool} {E E':ε} {i d:Nat} {v:aj} (h:Dn l pr T S E T') (hok:KS l T=true) (hi:dU l i=some d) (hv:pr E' i v) (hE:∀ j u,j≠i→pr E j u→pr E' j u):Dn l pr T (dQ S i) E' ((d,v) :: T'):=by
 have hil:=vS hi
 have hok1:=kF.1 hok i (pG.2 hil)
 rw [lJ,hi] at hok1
 simp only [kG,Option.isNone_iff_eq_none,kF,pG] at hok1
 refine ⟨fun t u ht=>?_,fun j e hj he=>?_⟩
 ·rw [eD (fun e=>by subst e;rw [hok1.1] at ht;cases ht)];exact h.1 t u ht
 ·by_cases hji:j=i
  ·subst hji;rw [hi] at he;cases he;exact ⟨v,jK _ _ _,hv⟩
  ·have hSj:S j=true:=by unfold dQ at hj;rwa [ah hji] at hj
   obtain ⟨u,hu1,hu2⟩:=h.2 j e hSj he
   have hne:d≠e:=by
    intro e';subst e'
    have h2:=hok1.2 j (vS he)
    have hb:Nat.beq i j=false:=wZ (fun h=>hji h.symm)
    rw [hb,he] at h2
    simp at h2
   exact ⟨u,by rw [eD hne];exact hu1,hE j u hji hu2⟩
theorem Dn.add {pr:ε→Nat→aj→Prop} {S:Nat→Bool} {E:ε} (h:Dn l pr T S E T') {t:Nat} {u:aj} (hu:lk T' t=some u):Dn l pr T S E ((t,u) :: T'):=by
 have e:∀ s v,lk T' s=some v→lk ((t,u) :: T') s=some v:=fun s v hs=>by
  by_cases hst:t=s
  ·subst hst;rw [hu] at hs;cases hs;exact jK _ _ _
  ·rw [eD hst];exact hs
 exact ⟨fun s v hs=>e s v (h.1 s v hs),fun i d hi hd=>by
  obtain ⟨v,h1,h2⟩:=h.2 i d hi hd
  exact ⟨v,e d v h1,h2⟩⟩
end
end
section
open Go.RowKit
section
variable {N:Nat} {D:List Deferred} {w0:World} {F:Nat→Prop} {G0 G G1 G2:GH} {L L1:OL} {T Xs:List (Nat × aj)}
variable {r:Option Nat} {P:Program} {Q:Exit→Act→World→Prop} {l:List Oper} {a a':Act} {w w':World}
theorem Qz {id:Nat} (hm:P.follows .mixedOrders=true) (bJ:List (List Nat)) (B:List Nat) (hk:xw l bJ=true) (hB:yg l bJ B=true) (X:(Nat→Bool)→Act→World→Prop) (h0:X (fun _=>false) a w.drew)
  (hstep:∀ i o S a w,l[i]?=some o→B.contains i=false→S i=false→(∀ j∈bJ.getD i [],S j=true)→(∀ j,j < l.length→i∈bJ.getD j []→S j=false)→X S a w→WL r P l.toArray (fun e a' w'=>e=.normal∧X (dQ S i) a' w') [o] a w)
  (hend:∀ S a w,(∀ i,i < l.length→B.contains i=false→S i=true)→(∀ i,B.contains i=true→S i=false)→X S a w→WL r P l.toArray (fun e a w=>e=.normal∧Q .normal a w) (oQ l B) a w):WP r P (.region id l.toArray true) Q a w:=by
 have hB1:∀ p b,B[p]?=some b→b < l.length∧∀ i,i < l.length→(B.contains i=false∨(B.take p).contains i=true)→i∈bJ.getD b []:=by
  intro p b hp
  simp only [yg,kG] at hB
  have h1:=kF.1 hB.1 p (pG.2 (iW.1 hp).1)
  rw [hp] at h1
  simp only [kG,kF,pG] at h1
  refine ⟨Eq.mp Nat.blt_eq h1.1,fun i hi hor=>?_⟩
  have h2:=h1.2 i hi
  rcases hor with h3|h3
  ·have h4:i∉B:=by simpa using h3
   simpa [h4] using h2
  ·have h4:i∈B.take p:=by simpa using h3
   simpa [h4] using h2
 have hB2:∀ i,i < l.length→B.contains i=false→∀ j∈bJ.getD i [],B.contains j=false:=by
  intro i hi hb j hj
  simp only [yg,kG] at hB
  have h1:=kF.1 hB.2 i (pG.2 hi)
  rw [hb] at h1
  simp only [Bool.false_or,kF] at h1
  simpa using h1 j hj
 refine KE hm bJ hk (fun S a w=>((∀ i,B.contains i=true→S i=false)∧X S a w) ∨
   ∃ p,(∀ i,i < l.length→B.contains i=false→S i=true)∧(∀ i,(B.take p).contains i=true→S i=true)∧(∀ q b,B[q]?=some b→p≤q→S b=false)∧WL r P l.toArray (fun e a w=>e=.normal∧Q .normal a w) (oQ l (B.drop p)) a w)
  (.inl ⟨fun _ _=>rfl,h0⟩) ?_ ?_
 ·intro i o S a w ho hX bP lN hdesc
  have hil:i < l.length:=(iW.1 ho).1
  by_cases hbi:B.contains i=true
  ·-- an operation of the tail: all that stands ahead of it is done
   obtain ⟨p0,hp0⟩:=List.getElem?_of_mem (by simpa using hbi:i∈B)
   have hall:∀ j,j < l.length→B.contains j=false→S j=true:=fun j hj hb=>lN j ((hB1 p0 i hp0).2 j hj (.inl hb))
   have Ng:∃ p,(∀ i,(B.take p).contains i=true→S i=true)∧(∀ q b,B[q]?=some b→p≤q→S b=false)∧WL r P l.toArray (fun e a w=>e=.normal∧Q .normal a w) (oQ l (B.drop p)) a w:=by
    rcases hX with ⟨h1,hD⟩|⟨p,_,h2,h3,h4⟩
    ·exact ⟨0,by simp,fun q b hq _=>h1 b (by simpa using kT hq),hend S a w hall h1 hD⟩
    ·exact ⟨p,h2,h3,h4⟩
   obtain ⟨p,h2,h3,h4⟩:=Ng
   -- i is the next one
   have hpp:p≤p0:=by
    rcases Nat.lt_or_ge p0 p with hlt|hge
    ·have:(B.take p).contains i=true:=by
      simp only [uO]
      exact kT (i:=p0) (by rw [rX,au hlt];exact hp0)
     rw [h2 i this] at bP;cases bP
    ·exact hge
   have Cj:p < B.length:=by have:=(iW.1 hp0).1;omega
   have hbp:B[p]?=some B[p]:=gZ Cj
   have heq:B[p]=i:=by
    rcases Nat.lt_or_ge p p0 with hlt|hge
    ·exfalso
     have hin:B[p]∈bJ.getD i []:=(hB1 p0 i hp0).2 _ (hB1 p _ hbp).1 (.inr (by
      simp only [uO]
      exact kT (i:=p) (by rw [rX,au hlt];exact hbp)))
     have:=lN _ hin
     rw [h3 p _ hbp (bM _)] at this;cases this
    ·have:p=p0:=by omega
     subst this
     rw [hbp] at hp0;simpa using hp0
   have hdrop:B.drop p=i :: B.drop (p+1):=by rw [mK Cj,heq]
   have hops:oQ l (B.drop p)=o :: oQ l (B.drop (p+1)):=by rw [hdrop];simp [oQ,ho]
   rw [hops] at h4
   refine WR (fun a' w' h5=>.inr ⟨p+1,fun j hj hb=>?_,fun j hj=>?_,fun q b hq hpq=>?_,h5⟩) h4
   ·unfold dQ;split
    ·rfl
    ·exact hall j hj hb
   ·unfold dQ;split
    ·rfl
    ·rename_i hne
     refine h2 j ?_
     simp only [uO] at hj ⊢
     rw [jF Cj,lV] at hj
     rcases hj with hj|hj
     ·exact hj
     ·simp only [qw] at hj;exact absurd (hj.trans heq) hne
   ·unfold dQ
    rw [ah ?_]
    ·exact h3 q b hq (by omega)
    ·rintro rfl
     -- i would stand twice in B: it would come ahead of itself
     have h6:=(hB1 q b hq).2 b (hB1 q b hq).1 (.inr (by
      simp only [uO]
      exact kT (i:=p) (by rw [rX,au (by omega)];rw [hbp,heq])))
     rw [lN _ h6] at bP;cases bP
  ·have wh:B.contains i=false:=by cases h:B.contains i with|false=>rfl|true=>exact absurd h hbi
   rcases hX with ⟨h1,hX⟩|⟨p,h0,_,_,_⟩
   ·refine qh (fun e a' w' ⟨he,hD⟩=>⟨he,.inl ⟨fun j hj=>?_,hD⟩⟩) (hstep i o S a w ho wh bP lN hdesc hX)
    unfold dQ
    rw [ah (by rintro rfl;rw [wh] at hj;cases hj)]
    exact h1 j hj
   ·rw [h0 i hil wh] at bP;cases bP
 ·intro S a w hall hX
  rcases hX with ⟨h1,hD⟩|⟨p,_,_,h3,h4⟩
  ·have hnil:B=[]:=by
    cases B with
    | nil=>rfl
    | cons b B=>have h5:=h1 b (by simp);rw [hall b (hB1 0 b rfl).1] at h5;cases h5
   subst hnil
   exact (hend S a w (fun j hj _=>hall j hj) h1 hD).2
  ·have hnil:B.drop p=[]:=by
    cases hd:B.drop p with
    | nil=>rfl
    | cons b B' =>
     have hb:B[p]?=some b:=by
      have:=aA (fun x:List Nat=>x[0]?) hd
      simpa using this
     have h5:=h3 p b hb (bM _)
     rw [hall b (hB1 p b hb).1] at h5;cases h5
   rw [hnil] at h4
   exact h4.2
theorem Q0 {pr:Nat→aj→GH→Prop} {S:Nat→Bool} {i d:Nat} {v:aj} (hok:lJ l T i=true) (hi:dU l i=some d) 
  (HT:St N D w0 F G0 G1 L T a w) (Hb:St N D w0 F G0 G1 L (Xs++full N a) a w) (hG:∀ k o,G k=some o→G1 k=some o) (hv:∀ j d,j≠i→S j=true→dU l j=some d→∃ v,a.tmps[d]?=some v∧pr j v G1)
  (hp:pr i v G1) (H:St N D w0 F G0 G1 L1 ((d,v) :: (Xs++full N a)) a' w'):DX N D w0 F G0 G L1 T l pr (dQ S i) a' w':=by
 have hil:i < l.length:=vS hi
 have hok1:=hok
 rw [lJ,hi] at hok1
 simp only [kG,Option.isNone_iff_eq_none,kF,pG] at hok1
 have hsame:∀ t,t≠d→a'.tmps[t]?=a.tmps[t]?:=by
  intro t ht
  by_cases hlt:t < N
  ·have h1:∃ u,lk (Xs++full N a) t=some u:=by
    rw [CB]
    cases lk Xs t with
    | some u=>exact ⟨u,rfl⟩
    | none=>exact ⟨_,Ja a hlt⟩
   obtain ⟨u,hu⟩:=h1
   rw [Hb.get t u hu,H.get t u (by rw [eD (Ne.symm ht)];exact hu)]
  ·rw [Array.getElem?_eq_none (by rw [H.kI];omega),Array.getElem?_eq_none (by rw [Hb.kI];omega)]
 refine ⟨G1,hG,⟨H.kI,fun t u ht=>?_,H.oM,H.hp⟩,fun j e hj he=>?_⟩
 ·rw [hsame t (fun e=>by rw [e,hok1.1] at ht;cases ht)]
  exact HT.get t u ht
 ·by_cases hji:j=i
  ·subst hji
   rw [hi] at he
   simp only [mI] at he
   subst he
   exact ⟨v,H.get d v (jK _ _ _),hp⟩
  ·have hSj:S j=true:=by unfold dQ at hj;rwa [ah hji] at hj
   obtain ⟨u,hu1,hu2⟩:=hv j e hji hSj he
   have hne:e≠d:=by
    intro e'
    subst e'
    have h2:=hok1.2 j (vS he)
    rw [wZ (fun h=>hji h.symm),he] at h2
    simp at h2
   exact ⟨u,by rw [hsame e hne];exact hu1,hu2⟩
end
end
section
open Go.RowKit
section
variable {N:Nat} {D:List Deferred} {w0:World} {F:Nat→Prop} {G0 G:GH} {L:OL} {T:List (Nat × aj)}
variable {r:Option Nat} {P:Program} {ops:Array Oper} {Q:Exit→Act→World→Prop} {rest:List Oper} {a:Act} {w:World}
variable {d:Nat} {ty:TypeId} {pos:String} {aK:Array Edge} {g:Option (Nat × Bool)}
theorem CV {t:TypeId} (H:St N D w0 F G0 G L T a w) (hw:Region.wanted ⟨some d,.makeMap t none,ty,pos,aK,g⟩ (yielded ops a.tmps)=true) (hd:Nat.blt d N=true)
  (k:∀ b a' w',w0.heap.size≤b→St N D w0 F G0 G ((b,.map #[] 0) :: L) ((d,.map (some b)) :: T) a' w'→WL r P ops Q rest a' w'):WL r P ops Q (⟨some d,.makeMap t none,ty,pos,aK,g⟩ :: rest) a w:=by
 refine fE (v:=.map (some w.heap.size)) (w':=w.alloc (.map #[] 0)) hw rfl ?_ (k _ _ _ H.hp.size (H.put hd _ (H.hp.alloc _)))
 simp [execOp,Instr.makeMap,newObj,Sem.run,bW]
def zH (an:Option (Nat × aj)) (zv:aj):aj × Bool:=match an with|some (_,v)=>(v,true)|none=>(zv,false)
theorem agQ {t kt et:TypeId} {kd:TypeDesc} {x y:Operand} {b i clock:Nat} {es:Array MapEntry} {ky zv:aj} (an:Option (Nat × aj)) (hm:P.underlying t=some (.map kt et)) (hk:P.underlying kt=some kd) (hz:(P.info? et).map (fun i=>i.zero)=some (some zv)) (H:St N D w0 F G0 G L T a w)
  (hw:Region.wanted ⟨some d,.lookup t x y true,ty,pos,aK,g⟩ (yielded ops a.tmps)=true) (hx:ev T x=some (.map (some b))) (hy:ev T y=some ky) (hi:L[i]?=some (b,.map es clock)) (hky:MapKept.IsKey kd ky) (hf:Instr.findNow kd ky es.toList 0=some an) (hd:Nat.blt d N=true)
  (k:∀ a',St N D w0 F G0 G L ((d,.tuple #[(zH an zv).1,.bool (zH an zv).2]) :: T) a' w→WL r P ops Q rest a' w):WL r P ops Q (⟨some d,.lookup t x y true,ty,pos,aK,g⟩ :: rest) a w:=by
 have hb:w.heap[b]?=some (.map es clock):=H.hp.own _ (kT hi)
 obtain ⟨inf,hi1,hi2⟩:=kU.1 hz
 refine fE (v:=.tuple #[(zH an zv).1,.bool (zH an zv).2]) (w':=w) hw rfl ?_ (k _ (H.put hd _ H.hp))
 have h1:=MapKept.run_checkKey (w:=w) hk hky es.isEmpty 9999
 have h2:=MapKept.run_findKey (w:=w) hk hf
 cases an with
 | none=>simp [execOp,Instr.lookup,H.ev hx,H.ev hy,bW,kX hm,MapKept.run_getObj_map hb,h1,h2,Result.andThen,zeroValue,zI hi1,hi2,zH]
 | some q=>simp [execOp,Instr.lookup,H.ev hx,H.ev hy,bW,kX hm,MapKept.run_getObj_map hb,h1,h2,Result.andThen,zH]
theorem WB {w:World} {b clock:Nat} {es:Array MapEntry} {o:Obj} (h:w.heap[b]?=some (.map es clock)):rW b o w { w with heap:=w.heap.setIfInBounds b o }:=by
 have hlt:b < w.heap.size:=(Array.getElem?_eq_some_iff.1 h).1
 refine ⟨rfl,rfl,rfl,by simp,by simp [hlt],fun k hk=>?_⟩
 simp only
 rw [Array.getElem?_setIfInBounds_ne (Ne.symm hk)]
theorem VD {t kt et:TypeId} {kd:TypeDesc} {x y z:Operand} {b i clock:Nat} {es:Array MapEntry} {ky v:aj} (hm:P.underlying t=some (.map kt et)) (hk:P.underlying kt=some kd) (H:St N D w0 F G0 G L T a w)
  (hw:Region.wanted ⟨none,.mapUpdate t x y z,ty,pos,aK,g⟩ (yielded ops a.tmps)=true) (hx:ev T x=some (.map (some b))) (hy:ev T y=some ky) (hzv:ev T z=some v) (hi:L[i]?=some (b,.map es clock)) (hky:MapKept.IsKey kd ky) (hf:Instr.findNow kd ky es.toList 0=some none)
  (k:∀ w',St N D w0 F G0 G (L.set i (b,.map (es.push ⟨ky,v,clock⟩) (clock+1))) T a w'→WL r P ops Q rest a w'):WL r P ops Q (⟨none,.mapUpdate t x y z,ty,pos,aK,g⟩ :: rest) a w:=by
 have hb:w.heap[b]?=some (.map es clock):=H.hp.own _ (kT hi)
 have h1:=MapKept.run_checkKey (w:=w) hk hky false 9999
 have h2:=MapKept.run_findKey (w:=w) hk hf
 refine OO (w':={ w with heap:=w.heap.setIfInBounds b (.map (es.push ⟨ky,v,clock⟩) (clock+1)) }) hw rfl ?_ (k _ (H.move (H.hp.upd hi (WB hb))))
 simp [execOp,Instr.mapUpdate,H.ev hx,H.ev hy,H.ev hzv,bW,kX hm,MapKept.run_getObj_map hb,h1,h2,MapKept.run_setObj_map _ hb,Result.andThen]
theorem agU {t yt:TypeId} {x y:Operand} {p q:ByteArray} (H:St N D w0 F G0 G L T a w) (hw:Region.wanted ⟨some d,.binOp .neq t x y yt,ty,pos,aK,g⟩ (yielded ops a.tmps)=true) (hx:ev T x=some (.string p)) (hy:ev T y=some (.string q)) (hd:Nat.blt d N=true)
  (k:∀ a',St N D w0 F G0 G L ((d,.bool (!(p.toList == q.toList))) :: T) a' w→WL r P ops Q rest a' w):WL r P ops Q (⟨some d,.binOp .neq t x y yt,ty,pos,aK,g⟩ :: rest) a w:=by
 refine fE (v:=.bool (!(p.toList == q.toList))) (w':=w) hw rfl ?_ (k _ (H.put hd _ H.hp))
 simp [execOp,H.ev hx,H.ev hy,bW,eqGuard,binOp,Op.stringOp]
theorem Hp.UR (h:Hp w0 F G0 G L w) {b o:Nat} {c:Array aj} {e:TypeId} {fz:Nat × Nat} {v:aj} (hm:(b,Obj.cells c e fz)∈L) (hv:c[o]?=some v):w.cell? ⟨b,o,none⟩=some v:=by
 have:=h.own _ hm
 simp only [World.cell?,this]
 exact hv
end
end
section
open Go.RowKit
section
variable {N:Nat} {D:List Deferred} {w0:World} {F:Nat→Prop} {G0 G G1 G2:GH} {L L1:OL} {T Xs:List (Nat × aj)}
variable {r:Option Nat} {P:Program} {Q:Exit→Act→World→Prop} {l:List Oper} {a a':Act} {w w':World}
end
end
section
open Go.RowKit
section
variable {N:Nat} {D:List Deferred} {w0:World} {F:Nat→Prop} {G0 G G1 G2:GH} {L L1 L2:OL} {T Xs:List (Nat × aj)}
variable {r:Option Nat} {P:Program} {Q:Exit→Act→World→Prop} {l:List Oper} {a a':Act} {w w':World}
end
end
section
open Go.RowKit
theorem afm:liesAt prog prog.depth 259 (7 / prog.cellsOf 259) 2 121 1=true:=by kernel_rfl
theorem JO:Ty prog 5 1 1 [.int .u8 0] false:=⟨by kernel_rfl,by kernel_rfl⟩
abbrev fQ (b:Nat) (s:ByteArray) (i:Int) (p v q:aj) (pl e:Int):Nat × Obj:=(b,.cells #[.string s,vi i,p,v,q,vi pl,vi e] 259 (0,0))
theorem ahc (G:GH) (L:OL) (w0:World) (b:Nat) (s:ByteArray) (i:Int) (A:Option Addr) (n c:Nat) (B:Option Addr) (m d:Nat) (pl e:Int) (hO:gH G (fQ b s i (.pointer none) (.slice A n c) (.slice B m d) pl e :: L) w0) :
  Calls prog 74 #[(aH b 2)] w0 (fT w0 G (fQ b s i (.pointer none) (.slice A n c) (.slice B m d) pl e :: L) fun u G' L'=>L'=fQ b s i (aH b 2) (.slice A n c) (.slice B m d) pl e :: L∧G'=G):=by
 refine jy (N:=20) (T:=[(0,_)]) func74 rfl ntmps74 rfl rfl hO ?_;intro a H;refine kP H (SR fun _ K1=>Rm rfl (Rk rfl (aU yS zQ 0 rfl rfl ?_)));clear H;intro a H;refine Ju yw H wn rfl rfl ?_;clear H;intro a H;refine K1 _ _ ?_;clear K1;refine kZ H rfl ?_ ?_
 ·intro h6
  refine kP H (SC (Rm rfl (Rm rfl ?_)));clear H;intro a H;refine VL yw JU Er H wn rfl 0 rfl rfl rfl ?_;clear H;intro a H;refine VF (xs:=[.tmp 9]) (U4 _) H wn rfl rfl ?_;clear H;intro a H;refine VA JU yw Er H wn rfl 0 rfl afm rfl ?_;clear H;intro a H;refine kH H (Rk rfl (Rf yS rfl ?_));clear H;intro a H;refine bF zQ 0 (vs:=[_]) _ H wn rfl rfl rfl rfl rfl rfl rfl rfl ?_;clear H;intro w H;dsimp only [List.set,setRow] at H;refine aI ?_;refine (leave0 H results74 ?_).2;exact H.hp.dW ⟨rfl,rfl⟩
 intro h6
 exact absurd h6 (by decide)
theorem ahd (G:GH) (L:OL) (w0:World) (b:Nat) (s:ByteArray) (i:Int) (A:Option Addr) (n c:Nat) (B:Option Addr) (m d:Nat) (pl e:Int) (hO:gH G (fQ b s i (aH b 2) (.slice A n c) (.slice B m d) pl e :: L) w0) :
  Calls prog 74 #[(aH b 2)] w0 (fT w0 G (fQ b s i (aH b 2) (.slice A n c) (.slice B m d) pl e :: L) fun u G' L'=>L'=fQ b s i (aH b 2) (.slice A n c) (.slice B m d) pl e :: L∧G'=G):=by
 refine jy (N:=20) (T:=[(0,_)]) func74 rfl ntmps74 rfl rfl hO ?_;intro a H;refine kP H (SR fun _ K1=>Rm rfl (Rk rfl (aU yS zQ 0 rfl rfl ?_)));clear H;intro a H;refine Ju yw H wn rfl rfl ?_;clear H;intro a H;refine K1 _ _ ?_;clear K1;refine kZ H rfl ?_ ?_
 ·intro h6
  exact absurd h6 (by simp)
 intro h6
 refine kP H (SR fun _ K2=>Rm rfl (Rk rfl (aU yS zQ 0 rfl rfl (Rm rfl ?_))));clear H;intro a H;refine VE yw Er H wn rfl rfl rfl ?_;clear H;intro a H;refine K2 _ _ ?_;clear K2;refine kZ H rfl ?_ ?_
 ·intro h19
  exact absurd h19 (by decide)
 intro h19
 refine gI ?_;refine (leave0 H results74 ?_).2;exact H.hp.dW ⟨rfl,rfl⟩
theorem ahe (G:GH) (L:OL) (w0:World) (b:Nat) (s:ByteArray) (i:Int) (p:aj) (A:Option Addr) (n c:Nat) (B:Option Addr) (m d:Nat) (pl e:Int) (hp:p=.pointer none∨p=(aH b 2)) (hO:gH G (fQ b s i p (.slice A n c) (.slice B m d) pl e :: L) w0) :
  Calls prog 74 #[(aH b 2)] w0 (fT w0 G (fQ b s i p (.slice A n c) (.slice B m d) pl e :: L) fun u G' L'=>L'=fQ b s i (aH b 2) (.slice A n c) (.slice B m d) pl e :: L∧G'=G):=by
 rcases hp with rfl|rfl
 ·exact ahc G L w0 b s i A n c B m d pl e hO
 exact ahd G L w0 b s i A n c B m d pl e hO
theorem WK (G:GH) (Lp Lo:OL) (w0:World) (b:Nat) (s:ByteArray) (i:Int) (p v:aj) (B:Option Addr) (m d:Nat) (pl e:Int) (n:Nat) (xs:List aj) (c:Int) (hp:p=.pointer none∨p=(aH b 2)) (hO:gH G (fQ b s i p v (.slice B m d) pl e :: (Lp++Lo)) w0) (hrow:dx 5 1 v n xs Lo) (hn:n≤4294967296) :
  Calls prog 159 #[(aH b 2),.int .u8 c] w0 (fT w0 G (fQ b s i p v (.slice B m d) pl e :: (Lp++Lo)) fun u G' L'=>∃ v' eH,L'=fQ b s i (aH b 2) v' (.slice B m d) pl e :: (Lp++eH)∧dx 5 1 v' (n+1) (xs++[.int .u8 c]) eH∧G'=G):=by
 have hml:maxLen=9223372036854775807:=rfl;obtain ⟨A,c0,rfl,-,-⟩:=hrow.shape;obtain ⟨Lt,nk⟩:∃ x,x=Lp++Lo:=⟨_,rfl⟩;rw [← nk] at hO ⊢;refine jy (N:=17) (T:=[(0,_),(1,_)]) func159 rfl ntmps159 rfl rfl hO ?_;intro a H;refine kP H (SR fun _ K1=>ak K1 rfl (SR fun _ K2=>Rm rfl ?_));clear H K1;intro a H;refine gB RG (Li:=[]) (L:=fQ b s i p _ (.slice B m d) pl e :: Lt) H wn rfl (ahe _ _ _ b s i p A n c0 B m d pl e hp (Hp.owns (Li:=[]) H.hp)) rfl ?_;clear H;rintro v6 _ L6 a w ⟨rfl,rfl⟩ hm6 H;dsimp only [List.nil_append] at H;refine K2 _ _ ?_;clear K2;refine kP H (SR fun _ K3=>Rm rfl (Rm rfl (Rk rfl (aU xB yh 0 rfl rfl (Rm rfl ?_)))));clear H;intro a H;refine gV zT JO [_] [_] H wn rfl rfl rfl rfl rfl (by intro i q h;match i,h with|0,h=>exact h|n+1,h=>simp at h) rfl rfl ?_;clear H;intro b13 a w MO H;subst nk;have H:=St.un (A:=[_,_]) (B:=Lp) (C:=Lo) H;refine pX (Li:=[_,_]++Lp) (Lo:=Lo) (news:=[.int .u8 c]) zT JO rfl rfl H wn rfl rfl hrow rfl (H.hp.eF 0 rfl rfl) rfl (by omega) (by omega) rfl ?_;clear H;intro v14 PY a w FQ H;obtain ⟨OU,c14,rfl,-,-⟩:=FQ.shape;have H:=H.assoc;dsimp only [lca,bC] at H;refine kH H (Rk rfl (Rf xB rfl ?_));clear H;intro a H;refine bF yh 1 (vs:=[_]) _ H wn rfl rfl rfl rfl rfl rfl rfl rfl ?_;clear H;intro w H;dsimp only [List.set,setRow] at H;refine K3 _ _ ?_;clear K3;exact kP H (SR fun _ K4=>ak K4 rfl (LR results159 rfl fun H=>H.hp.gL (L':=fQ b s i _ _ _ pl e :: (Lp++PY)) (yL _ _) ⟨_,_,rfl,FQ,rfl⟩))
theorem ahu (G:GH) (L:OL) (w0:World) (b:Nat) (s:ByteArray) (i:Int) (p:aj) (A:Option Addr) (n c:Nat) (B:Option Addr) (m d:Nat) (pl e:Int) (hO:gH G (fQ b s i p (.slice A n c) (.slice B m d) pl e :: L) w0) :
  Calls prog 164 #[(aH b 2)] w0 (fT w0 G (fQ b s i p (.slice A n c) (.slice B m d) pl e :: L) fun u G' L'=>u=vi n∧L'=fQ b s i p (.slice A n c) (.slice B m d) pl e :: L∧G'=G):=by
 refine jy (N:=8) (T:=[(0,_)]) func164 rfl ntmps164 rfl rfl hO ?_;intro a H;exact kP H (SR fun _ K1=>ak K1 rfl (SR fun _ K2=>Rm rfl (Rk rfl (aU xB yh 0 rfl rfl (Rl zT rfl (ak K2 rfl (LR results164 rfl fun H=>H.hp.dW ⟨rfl,rfl,rfl⟩)))))))
theorem ahH (G:GH) (L:OL) (w0:World) (b:Nat) (s:ByteArray) (i:Int) (p:aj) (A:Option Addr) (n c:Nat) (B:Option Addr) (m d:Nat) (pl e:Int) (hO:gH G (fQ b s i p (.slice A n c) (.slice B m d) pl e :: L) w0) :
  Calls prog 165 #[(aH b 2)] w0 (fT w0 G (fQ b s i p (.slice A n c) (.slice B m d) pl e :: L) fun u G' L'=>L'=fQ b s i (.pointer none) (.slice none 0 0) (.slice B m d) pl e :: L∧G'=G):=by
 refine jy (N:=8) (T:=[(0,_)]) func165 rfl ntmps165 rfl rfl hO ?_;intro a H;refine kP H (SR fun _ K1=>Rm rfl (Rk rfl (Rf yS rfl ?_)));clear H;intro a H;refine bF zQ 0 (vs:=[_]) _ H wn rfl rfl rfl rfl rfl rfl rfl rfl ?_;clear H;intro w H;dsimp only [List.set,setRow] at H;refine K1 _ _ ?_;clear K1;refine kP H (SC (Rm rfl (Rk rfl (Rf xB rfl ?_))));clear H;intro a H;refine bF yh 0 (vs:=[_]) _ H wn rfl rfl rfl rfl rfl rfl rfl rfl ?_;clear H;intro w H;dsimp only [List.set,setRow] at H;refine aI ?_;refine (leave0 H results165 ?_).2;exact H.hp.dW ⟨rfl,rfl⟩
theorem ahI (G:GH) (Lp Lo:OL) (w0:World) (b:Nat) (s:ByteArray) (i:Int) (p v:aj) (B:Option Addr) (m d:Nat) (pl e:Int) (l:List UInt8) (hO:gH G (fQ b s i p v (.slice B m d) pl e :: (Lp++Lo)) w0) (hrow:dx 5 1 v l.length (Lib.byteCells l) Lo) (h0:l≠[]) :
  Calls prog 49 #[(aH b 2)] w0 (fT w0 G (fQ b s i p v (.slice B m d) pl e :: (Lp++Lo)) fun u G' L'=>u=.string ⟨l.toArray⟩∧L'=fQ b s i p v (.slice B m d) pl e :: Lp):=by
 rcases hrow.2 with ⟨-,h,-⟩|⟨b2,cap,cur,rfl,rfl,hc1,hc2,hc3,hc4⟩
 ·exact absurd (List.eq_nil_of_length_eq_zero h) h0
 have hl0:l.length≠0:=fun h=>h0 (List.eq_nil_of_length_eq_zero h);have hml:maxLen=9223372036854775807:=rfl;obtain ⟨Lt,nk⟩:∃ x,x=Lp++[(b2,Obj.cells cur 5 (0,0))]:=⟨_,rfl⟩;rw [← nk] at hO ⊢;refine jy (N:=14) (T:=[(0,_)]) func49 rfl ntmps49 rfl rfl hO ?_;intro a H;refine kP H (SR fun _ K1=>ak K1 rfl (SQ fun _ K2=>?_));clear H K1;intro a H;have H:=H.sub (T':=[(0,_)]) ⟨rfl,aC⟩;refine dI hmx [[],[0],[0,1],[0,1,2],(ra 0 4),[],[5],[5,6],[5,6,7],(ra 5 4),(ra 0 10),(ra 0 11)] [10,11] (by kernel_rfl) [_,_,_,.slice (some ⟨b2,0,none⟩) l.length cap,(aH b2 0),_,_,_,.slice (some ⟨b2,0,none⟩) l.length cap,_] H (aB (Z0 rfl (Rm rfl)) (Z1 0 3 rfl (Rk rfl)) (Z1 1 4 rfl (Rf xB rfl)) (Z1 2 5 rfl (Ro yh 0 rfl)) (aB ?_ (Z0 rfl (Rm rfl)) (Z1 5 8 rfl (Rk rfl)) (Z1 6 9 rfl (Rf xB rfl)) (aB (Z1 7 10 rfl (Ro yh 0 rfl)) (Z1 8 11 rfl (Rl zT rfl)) (bH rfl) (bH rfl) cO))) ?_
 ·refine bY 3 6 rfl rfl fun _ a w G1 hG HT H fin=>?_;refine VJ H wn rfl (by omega) rfl ?_;clear H;intro a H;exact fin H iJ rfl
 clear H;intro a w G mg H hv;have H:=H.aV (hv 4 7 rfl rfl) rfl;have H:=H.aV (hv 9 12 rfl rfl) rfl;clear hv;subst nk;have H:=H.perm (List.Perm.cons _ yM);dsimp only [lca,bC] at H;refine VN (i:=1) l Wu QF h0 (by omega) H wn rfl rfl rfl (by rw [← hc4,Nat.mul_one]) rfl ?_;clear H;intro fz a w H;dsimp only [List.set] at H;refine kH H (Ra rfl ?_);clear H;intro a H;refine aI ⟨rfl,?_⟩;refine K2 _ _ ?_;clear K2;refine lr H results49 rfl ?_;exact H.hp.gL (L':=fQ b s i _ _ _ pl e :: Lp) (List.Sublist.cons_cons _ (yL _ _)) ⟨rfl,rfl⟩
end
section
open Go.RowKit
section
variable {N:Nat} {D:List Deferred} {w0:World} {F:Nat→Prop} {G0 G G1 G2:GH} {L L1 L2:OL} {T Xs:List (Nat × aj)}
variable {r:Option Nat} {P:Program} {Q:Exit→Act→World→Prop} {l:List Oper} {a a':Act} {w w':World}
end
end
section
open Go.RowKit
section
variable {N:Nat} {D:List Deferred} {w0:World} {F:Nat→Prop} {G0 G G1 G2:GH} {L L1 L2:OL} {T Xs:List (Nat × aj)}
variable {r:Option Nat} {P:Program} {Q:Exit→Act→World→Prop} {l:List Oper} {a a':Act} {w w':World}
theorem Q6 {pr:Nat→aj→GH→Prop} {S:Nat→Bool} {i d:Nat} {v:aj} (hok:lJ l T i=true) (iB:∀ i v (G G':GH),(∀ k o,G k=some o→G' k=some o)→pr i v G→pr i v G') (hi:dU l i=some d)
  (HT:St N D w0 F G0 G1 L T a w) (Hb:St N D w0 F G0 G1 L (Xs++full N a) a w) (hG:∀ k o,G k=some o→G1 k=some o) (hv:∀ j d,j≠i→S j=true→dU l j=some d→∃ v,a.tmps[d]?=some v∧pr j v G1)
  (hG2:∀ k o,G1 k=some o→G2 k=some o) (hp:pr i v G2) (H:St N D w0 F G0 G2 L1 ((d,v) :: (Xs++full N a)) a' w'):DX N D w0 F G0 G L1 T l pr (dQ S i) a' w':=by
 have hok1:=hok
 rw [lJ,hi] at hok1
 simp only [kG,Option.isNone_iff_eq_none,kF,pG] at hok1
 have hsame:∀ t,t≠d→a'.tmps[t]?=a.tmps[t]?:=by
  intro t ht
  by_cases hlt:t < N
  ·have h1:∃ u,lk (Xs++full N a) t=some u:=by
    rw [CB]
    cases lk Xs t with
    | some u=>exact ⟨u,rfl⟩
    | none=>exact ⟨_,Ja a hlt⟩
   obtain ⟨u,hu⟩:=h1
   rw [Hb.get t u hu,H.get t u (by rw [eD (Ne.symm ht)];exact hu)]
  ·rw [Array.getElem?_eq_none (by rw [H.kI];omega),Array.getElem?_eq_none (by rw [Hb.kI];omega)]
 refine ⟨G2,fun k o hk=>hG2 k o (hG k o hk),⟨H.kI,fun t u ht=>?_,H.oM,H.hp⟩,fun j e hj he=>?_⟩
 ·rw [hsame t (fun e=>by rw [e,hok1.1] at ht;cases ht)]
  exact HT.get t u ht
 ·by_cases hji:j=i
  ·subst hji
   rw [hi] at he
   simp only [mI] at he
   subst he
   exact ⟨v,H.get d v (jK _ _ _),hp⟩
  ·have hSj:S j=true:=by unfold dQ at hj;rwa [ah hji] at hj
   obtain ⟨u,hu1,hu2⟩:=hv j e hji hSj he
   have hne:e≠d:=by
    intro e'
    subst e'
    have h2:=hok1.2 j (vS he)
    rw [wZ (fun h=>hji h.symm),he] at h2
    simp at h2
   exact ⟨u,by rw [hsame e hne];exact hu1,iB j u _ _ hG2 hu2⟩
theorem YB {id:Nat} {κ:Type} (k0:κ) (hm:P.follows .mixedOrders=true) (bJ:List (List Nat)) (B:List Nat) (hk:xw l bJ=true) (hB:yg l bJ B=true) (m1 m2 m3:Nat) (ajo:B.contains m1=false) (ajp:B.contains m2=false) (adY:B.contains m3=false) (hne:Nat.beq m1 m2=false) (TD:Nat.beq m2 m3=false) (hne1:Nat.beq m1 m3=false) (h12:(bJ.getD m2 []).contains m1=true) (eu:(bJ.getD m3 []).contains m1=true) (h23:(bJ.getD m3 []).contains m2=true)
  (C L2:OL) (ob:Obj) (L3:Nat→κ→OL) (hC:∀ x,x∈C→x∈L) (hC2:∀ x,x∈C→x∈L2) (hC3:∀ b k x,x∈C→x∈L3 b k) (pr:Nat→κ→Nat→aj→GH→Prop)
  (Nh:∀ b b' k i v G,Nat.beq i m2=false→(bJ.getD i []).contains m2=false→pr b k i v G→pr b' k i v G)
  (aem:∀ b k k' i v G,Nat.beq i m3=false→(bJ.getD i []).contains m3=false→pr b k i v G→pr b k' i v G)
  (H:St N D w0 F G0 G L T a w)
  (hstep:allI (fun i o=>∀ b k L' S a w G1,(∀ x,x∈C→x∈L')→B.contains i=false→Nat.beq i m1=false→Nat.beq i m2=false→Nat.beq i m3=false→S i=false→(∀ j∈bJ.getD i [],S j=true)→(∀ k o,G k=some o→G1 k=some o)→St N D w0 F G0 G1 L' T a w→(∀ i d,S i=true→dU l i=some d→∃ v,a.tmps[d]?=some v∧pr b k i v G1) →
   WL r P l.toArray (fun e a' w'=>e=.normal∧DX N D w0 F G0 G L' T l (pr b k) (dQ S i) a' w') [o] a w) 0 l)
  (adZ:∀ o b k S a w G1,l[m1]?=some o→S m1=false→(∀ j∈bJ.getD m1 [],S j=true)→(∀ k o,G k=some o→G1 k=some o)→St N D w0 F G0 G1 L T a w→(∀ i d,i≠m1→S i=true→dU l i=some d→∃ v,a.tmps[d]?=some v∧pr b k i v G1) →
   WL r P l.toArray (fun e a' w'=>e=.normal∧DX N D w0 F G0 G L2 T l (pr b k) (dQ S m1) a' w') [o] a w)
  (aea:∀ o k S a w G1,l[m2]?=some o→S m2=false→(∀ j∈bJ.getD m2 [],S j=true)→(∀ k o,G k=some o→G1 k=some o)→St N D w0 F G0 G1 L2 T a w→(∀ b i d,i≠m2→S i=true→dU l i=some d→∃ v,a.tmps[d]?=some v∧pr b k i v G1) →
   WL r P l.toArray (fun e a' w'=>e=.normal∧∃ b,DX N D w0 F G0 G ((b,ob) :: L2) T l (pr b k) (dQ S m2) a' w') [o] a w)
  (aeb:∀ o b S a w G1,l[m3]?=some o→S m3=false→(∀ j∈bJ.getD m3 [],S j=true)→(∀ k o,G k=some o→G1 k=some o)→St N D w0 F G0 G1 ((b,ob) :: L2) T a w→(∀ k i d,i≠m3→S i=true→dU l i=some d→∃ v,a.tmps[d]?=some v∧pr b k i v G1) →
   WL r P l.toArray (fun e a' w'=>e=.normal∧∃ k,DX N D w0 F G0 G (L3 b k) T l (pr b k) (dQ S m3) a' w') [o] a w)
  (hend:∀ b k a w G1,(∀ k o,G k=some o→G1 k=some o)→St N D w0 F G0 G1 (L3 b k) T a w→(∀ i d,B.contains i=false→dU l i=some d→∃ v,a.tmps[d]?=some v∧pr b k i v G1)→WL r P l.toArray (fun e a w=>e=.normal∧Q .normal a w) (oQ l B) a w)
  (M9:Nat.blt m2 l.length=true) (Na:Nat.blt m3 l.length=true):WP r P (.region id l.toArray true) Q a w:=by
 have U0:m1≠m2:=fun e=>by subst e;rw [Nat.beq_refl] at hne;cases hne
 have U2:m2≠m3:=fun e=>by subst e;rw [Nat.beq_refl] at TD;cases TD
 have U1:m1≠m3:=fun e=>by subst e;rw [Nat.beq_refl] at hne1;cases hne1
 refine Qz hm bJ B hk hB (fun S a w=>(S m2=true→S m1=true)∧(S m3=true→S m2=true)∧∃ b k L',L'=(bif S m3 then L3 b k else bif S m2 then (b,ob) :: L2 else bif S m1 then L2 else L)∧DX N D w0 F G0 G L' T l (pr b k) S a w)
  ⟨fun h=>h,fun h=>h,0,k0,L,rfl,G,fun _ _ h=>h,H.move H.hp.drew,fun _ _ h=>absurd (show false=true from h) (by decide)⟩ ?_ ?_
 ·rintro i o S a w ho hb bP lN hdesc ⟨aeg,aeh,b,k,L',hL,G1,hG,HS,hv⟩
  have hsub:∀ x,x∈C→x∈L':=fun x hx=>by
   rw [hL]
   cases S m3 with
   | true=>exact hC3 b k x hx
   | false=>cases S m2 with
    | true=>exact mM _ (hC2 x hx)
    | false=>cases S m1 with
     | true=>exact hC2 x hx
     | false=>exact hC x hx
  have hno:∀ j,j < l.length→S j=true→(bJ.getD j []).contains i=false:=fun j hjl hj=>by
   cases hc:(bJ.getD j []).contains i with
   | false=>rfl
   | true =>
    have:=hdesc j hjl (by simpa using hc)
    rw [this] at hj;cases hj
  by_cases h1:i=m1
  ·subst h1
   have hS2:S m2=false:=hdesc m2 (Eq.mp Nat.blt_eq M9) (by simpa using h12)
   have DW:S m3=false:=hdesc m3 (Eq.mp Nat.blt_eq Na) (by simpa using eu)
   rw [DW,hS2,bP] at hL
   subst hL
   have h:=adZ o b k S a w G1 ho bP lN hG HS fun j d hj hSj hd=>hv j d hSj hd
   have e2:dQ S i m2=S m2:=ah (fun e=>U0 e.symm)
   have e3:dQ S i m3=S m3:=ah (fun e=>U1 e.symm)
   refine qh (fun e a' w' ⟨he,hD⟩=>⟨he,fun _=>au rfl,fun h=>(by rw [e3,DW] at h;cases h),b,k,_,?_,hD⟩) h
   rw [show dQ S i i=true from au rfl,e2,e3,hS2,DW]
   rfl
  ·by_cases h2:i=m2
   ·subst h2
    have hS1:S m1=true:=lN m1 (by simpa using h12)
    have DW:S m3=false:=hdesc m3 (Eq.mp Nat.blt_eq Na) (by simpa using h23)
    rw [DW,bP,hS1] at hL
    subst hL
    have e1:dQ S i m1=S m1:=ah U0
    have e3:dQ S i m3=S m3:=ah (fun e=>U2 e.symm)
    have h:=aea o k S a w G1 ho bP lN hG HS fun b' j d hj hSj hd=>by
     obtain ⟨v,hv1,hv2⟩:=hv j d hSj hd
     exact ⟨v,hv1,Nh b b' k j v _ (wZ hj) (hno j (vS hd) hSj) hv2⟩
    refine qh (fun e a' w' ⟨he,b',hD⟩=>⟨he,fun _=>by rw [e1];exact hS1,fun _=>au rfl,b',k,_,?_,hD⟩) h
    rw [show dQ S i i=true from au rfl,e3,DW];rfl
   ·by_cases h3:i=m3
    ·subst h3
     have hS1:S m1=true:=lN m1 (by simpa using eu)
     have hS2:S m2=true:=lN m2 (by simpa using h23)
     rw [bP,hS2] at hL
     subst hL
     have e1:dQ S i m1=S m1:=ah U1
     have e2:dQ S i m2=S m2:=ah U2
     have h:=aeb o b S a w G1 ho bP lN hG HS fun k' j d hj hSj hd=>by
      obtain ⟨v,hv1,hv2⟩:=hv j d hSj hd
      exact ⟨v,hv1,aem b k k' j v _ (wZ hj) (hno j (vS hd) hSj) hv2⟩
     refine qh (fun e a' w' ⟨he,k',hD⟩=>⟨he,fun _=>by rw [e1];exact hS1,fun _=>by rw [e2];exact hS2,b,k',_,?_,hD⟩) h
     rw [show dQ S i i=true from au rfl];rfl
    ·have h:=Dr hstep i o ho
     rw [jN] at h
     have e1:dQ S i m1=S m1:=ah (fun e=>h1 e.symm)
     have e2:dQ S i m2=S m2:=ah (fun e=>h2 e.symm)
     have e3:dQ S i m3=S m3:=ah (fun e=>h3 e.symm)
     refine qh (fun e a' w' ⟨he,hD⟩=>⟨he,by rw [e1,e2];exact aeg,by rw [e2,e3];exact aeh,b,k,L',?_,hD⟩) (h b k L' S a w G1 hsub hb (wZ h1) (wZ h2) (wZ h3) bP lN hG HS hv)
     rw [e1,e2,e3];exact hL
 ·rintro S a w hall hnB ⟨_,_,b,k,L',hL,G1,hG,HS,hv⟩
  have hs3:S m3=true:=hall m3 (Eq.mp Nat.blt_eq Na) adY
  rw [hs3] at hL
  subst hL
  exact hend b k a w G1 hG HS fun j d hb hd=>hv j d (hall j (vS hd) hb) hd
end
theorem ahU {z:Int} (h1:0≤z) (h2:z < 256):IntKind.u8.wrap z=z:=by
 simp only [IntKind.wrap,IntKind.bits,IntKind.signed,tJ,BH,if_false]
 omega
section
variable {N:Nat} {D:List Deferred} {w0:World} {F:Nat→Prop} {G0 G:GH} {L:OL} {T:List (Nat × aj)}
variable {r:Option Nat} {P:Program} {ops:Array Oper} {Q:Exit→Act→World→Prop} {rest:List Oper} {a:Act} {w:World}
variable {d:Nat} {ty:TypeId} {pos:String} {aK:Array Edge} {g:Option (Nat × Bool)}
theorem aha {x y:Operand} {t yt:TypeId} {p q:Int} (H:St N D w0 F G0 G L T a w) (hw:Region.wanted ⟨some d,.binOp .sub t x y yt,ty,pos,aK,g⟩ (yielded ops a.tmps)=true) (hx:ev T x=some (.int .u8 p)) (hy:ev T y=some (.int .u8 q)) (h1:0≤p - q) (h2:p - q < 256) (hd:Nat.blt d N=true)
  (k:∀ a',St N D w0 F G0 G L ((d,.int .u8 (p - q)) :: T) a' w→WL r P ops Q rest a' w):WL r P ops Q (⟨some d,.binOp .sub t x y yt,ty,pos,aK,g⟩ :: rest) a w :=
 fE (v:=.int .u8 (p - q)) (w':=w) hw rfl (by simp [execOp,eqGuard,binOp,Op.intArith,H.ev hx,H.ev hy,bW,ahU h1 h2]) (k _ (H.put hd _ H.hp))
end
end
end Go.Proofs.YteopmoocmoigcaaGreat
