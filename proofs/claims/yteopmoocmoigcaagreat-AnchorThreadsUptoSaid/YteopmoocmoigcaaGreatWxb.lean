/-
  What the claim stands on, part 2: Run Rg Pos Pq Doc Dq Eq Idx Bld Hv Ut Prk Prp Plc Plr Prq Prc Fst Nam Pn De Dj Mp Dk Dw Lsc Dm Dl.
-/
import Derived.Test.YteopmoocmoigcaaGreatWxa
import Derived.Laws.StructEq
import Derived.ChangeKeysEq
import Derived.Lib.OthersKept
import Derived.Laws.IdiomStrings
import Derived.Laws.Cover4
import Derived.Laws.Slices
import Derived.Laws.Strings2
import Derived.MapKept
namespace Go.Proofs.YteopmoocmoigcaaGreat
open Go.Proofs.Tryz
section
open Go.RowKit
theorem hmx:prog.follows .mixedOrders=true:=by kernel_rfl
theorem jJ:bM prog 63 0 0:=⟨by kernel_rfl⟩
theorem aD:Ty prog 3 1 8 [.int .i64 0] false:=⟨by kernel_rfl,by kernel_rfl⟩
theorem vv:bM prog 63 3 3:=⟨by kernel_rfl⟩
theorem gG:Ty prog 9 1 16 [.string ⟨#[]⟩] false:=⟨by kernel_rfl,by kernel_rfl⟩
theorem Si:∀ args w,(callFunc 61 args).run prog w=.ok (.enter 61 args) w:=enters func61 rfl (by kernel_rfl)
theorem gQ:prog.underlying 22=some (.slice 63):=by kernel_rfl
theorem dL:Ty prog 63 11 176 [.int .i64 0,.int .i64 0,.int .i64 0,.string ⟨#[]⟩,.slice none 0 0,.int .i64 0,.int .i64 0,.slice none 0 0,.slice none 0 0,.slice none 0 0,.slice none 0 0] true:=⟨by kernel_rfl,by kernel_rfl⟩
theorem LP:∀ args w,(callFunc 41 args).run prog w=.ok (.enter 41 args) w:=enters func41 rfl (by kernel_rfl)
theorem og:prog.underlying 23=some (.slice 187):=by kernel_rfl
theorem mJ:Ty prog 187 2 16 [.int .i64 0,.int .i64 0] true:=⟨by kernel_rfl,by kernel_rfl⟩
theorem pX:prog.underlying 24=some (.slice 190):=by kernel_rfl
theorem uN:Ty prog 190 2 16 [.int .i64 0,.int .i64 0] true:=⟨by kernel_rfl,by kernel_rfl⟩
theorem tO:prog.underlying 25=some (.slice 199):=by kernel_rfl
theorem uO:Ty prog 199 4 32 [.int .i64 0,.int .i64 0,.int .i64 0,.bool false] true:=⟨by kernel_rfl,by kernel_rfl⟩
theorem pV:Ty prog 29 5 88 [.slice none 0 0,.int .i64 0,.int .i64 0,.slice none 0 0,.slice none 0 0] true:=⟨by kernel_rfl,by kernel_rfl⟩
theorem Ce:bM prog 29 0 0:=⟨by kernel_rfl⟩
theorem Ab:Ty prog 23 1 24 [.slice none 0 0] false:=⟨by kernel_rfl,by kernel_rfl⟩
theorem abX:∀ args w,(callFunc 98 args).run prog w=.ok (.enter 98 args) w:=enters func98 rfl (by kernel_rfl)
theorem sV:bM prog 29 1 1:=⟨by kernel_rfl⟩
theorem vo:bM prog 27 2 2:=⟨by kernel_rfl⟩
theorem vP:Ty prog 24 1 24 [.slice none 0 0] false:=⟨by kernel_rfl,by kernel_rfl⟩
theorem abY:∀ args w,(callFunc 99 args).run prog w=.ok (.enter 99 args) w:=enters func99 rfl (by kernel_rfl)
theorem Cc:bM prog 27 3 3:=⟨by kernel_rfl⟩
theorem Di:Ty prog 25 1 24 [.slice none 0 0] false:=⟨by kernel_rfl,by kernel_rfl⟩
theorem aan:∀ args w,(callFunc 100 args).run prog w=.ok (.enter 100 args) w:=enters func100 rfl (by kernel_rfl)
theorem oh:prog.underlying 61=some (.slice 96):=by kernel_rfl
theorem kS:Ty prog 96 6 112 [.slice none 0 0,.int .i64 0,.int .i64 0,.slice none 0 0,.slice none 0 0,.slice none 0 0] true:=⟨by kernel_rfl,by kernel_rfl⟩
theorem rZ:prog.underlying 94=some (.slice 98):=by kernel_rfl
theorem mM:Ty prog 98 7 120 [.int .i64 0,.slice none 0 0,.int .i64 0,.int .i64 0,.slice none 0 0,.slice none 0 0,.slice none 0 0] true:=⟨by kernel_rfl,by kernel_rfl⟩
theorem IU:bM prog 98 0 0:=⟨by kernel_rfl⟩
theorem S9:bM prog 98 1 1:=⟨by kernel_rfl⟩
theorem Iz:∀ args w,(callFunc 65 args).run prog w=.ok (.enter 65 args) w:=enters func65 rfl (by kernel_rfl)
theorem FP:bM prog 98 2 6:=⟨by kernel_rfl⟩
theorem iH:Ty prog 22 1 24 [.slice none 0 0] false:=⟨by kernel_rfl,by kernel_rfl⟩
theorem LM:∀ args w,(callFunc 40 args).run prog w=.ok (.enter 40 args) w:=enters func40 rfl (by kernel_rfl)
theorem aiq:ou prog 98 [(0,1),(1,5),(6,1)] [.int .i64 0,.slice none 0 0,.int .i64 0,.int .i64 0,.slice none 0 0,.slice none 0 0,.slice none 0 0]:=⟨by kernel_rfl,by kernel_rfl⟩
theorem SY:bM prog 96 0 0:=⟨by kernel_rfl⟩
theorem zk:bM prog 96 1 5:=⟨by kernel_rfl⟩
theorem Ad:Ty prog 94 1 24 [.slice none 0 0] false:=⟨by kernel_rfl,by kernel_rfl⟩
theorem aao:∀ args w,(callFunc 101 args).run prog w=.ok (.enter 101 args) w:=enters func101 rfl (by kernel_rfl)
theorem aip:ou prog 96 [(0,5),(5,1)] [.slice none 0 0,.int .i64 0,.int .i64 0,.slice none 0 0,.slice none 0 0,.slice none 0 0]:=⟨by kernel_rfl,by kernel_rfl⟩
theorem Aw:bM prog 63 4 4:=⟨by kernel_rfl⟩
theorem ze:bM prog 63 5 9:=⟨by kernel_rfl⟩
theorem uw:bM prog 63 6 10:=⟨by kernel_rfl⟩
theorem uQ:Ty prog 61 1 24 [.slice none 0 0] false:=⟨by kernel_rfl,by kernel_rfl⟩
theorem Sj:∀ args w,(callFunc 66 args).run prog w=.ok (.enter 66 args) w:=enters func66 rfl (by kernel_rfl)
theorem abG:∀ args w,(callFunc 63 args).run prog w=.ok (.enter 63 args) w:=enters func63 rfl (by kernel_rfl)
theorem aap:∀ args w,(callFunc 102 args).run prog w=.ok (.enter 102 args) w:=enters func102 rfl (by kernel_rfl)
theorem abI:∀ args w,(callFunc 67 args).run prog w=.ok (.enter 67 args) w:=enters func67 rfl (by kernel_rfl)
theorem abH:∀ args w,(callFunc 64 args).run prog w=.ok (.enter 64 args) w:=enters func64 rfl (by kernel_rfl)
def fD (x:aA):Nat:=if x.kind=1 then uZ x.text else 1
def qz (x:aA):Int:=if x.kind=1 then EO x.text else 0
theorem Pp (G:GH) (w0:World) (hG:Hold G w0) (x:aA) (i2 i3:Int) (p i5 i6 d l f r:aj) (hs:x.text.size < 4611686018427387904) :
  Calls prog 41 #[.agg #[vi x.kind,vi i2,vi i3,.string x.text,p,i5,i6,d,l,f,r]] w0 (bD w0 G fun v G'=>v=.tuple #[vi (fD x),vi (qz x)]∧G=G'):=by
 refine eN [(0,_)] func41 rfl ntmps41 rfl rfl hG ?_;intro a H;refine dz (fun _ K1=>?_);refine fC (cs:=[_,_,_,_,_,_,_,_,_,_,_]) H wn rfl rfl rfl ?_;clear H;intro b1 a w hb1 H;refine kH H (Ra rfl (ak K1 rfl (SQ fun _ K2=>SR fun _ K3=>aV jJ aD 0 rfl rfl (Rc rfl (Kz K3 (Cd rfl ?_ ?_)))))) <;> clear H K1 K3
 ·intro h6 a H
  try have p6:=dT h6
  refine kP H (SR fun _ K4=>Ra rfl (ak K4 rfl ?_));clear H K4;intro a H;refine bZ ?_;refine (eT H results41 (.cons (aR H rfl) (.cons (aR H rfl) .nil)) ?_).1;exact H.rt ⟨by simp only [fD,qz,ah p6];rfl,rfl⟩
 intro h6 a H
 try have p6:=dF h6
 refine kP H (Kc K2 (SR fun _ K5=>aV vv gG 0 rfl rfl ?_));clear H K2;intro a H;refine s_call Si H wn rfl (RD _ _ H.ro _ hs) rfl ?_;clear H;rintro v9 _ a w ⟨rfl,rfl⟩ - H;(iterate 2 refine lQ H wn rfl rfl rfl ?_;clear H;intro a H);refine kH H (Ra rfl (ak K5 rfl ?_));clear H K5;intro a H;refine bZ ?_;refine (eT H results41 (.cons (aR H rfl) (.cons (aR H rfl) .nil)) ?_).1;exact H.rt ⟨by rw [mW] at p6;simp only [fD,qz,au p6],rfl⟩
def uj (l:List aA):Bool:=l.all fun x=>decide (qz x=0)
def qV:List aA→Nat
 | []=>0
 | x :: l=>fD x+qV l
def xX (l:List aA):Int:=if uj l then qV l else 0
def wS (l:List aA):Int:=if uj l then 0 else 12
def qX:List aA→Nat
 | []=>0
 | x :: l=>x.text.size+1+qX l
theorem WO:∀ l:List aA,qV l≤qX l
 | []=>bK _
 | x :: l=>by
  have:=WO l;have h2:=Fy x.text
  simp only [qV,qX,fD];split <;> omega
theorem WV {x:aA}:∀ {l:List aA},x∈l→x.text.size < qX l
 | [],h=>by cases h
 | y :: l,h=>by
  simp only [qX]
  rcases nC.1 h with rfl|h
  ·omega
  have:=WV h;omega
theorem aiv (l m:List aA):qV (l++m)=qV l+qV m:=by
 induction l with
 | nil=>simp [qV]
 | cons x l ih=>simp [qV,ih];omega
theorem aiw {l:List aA} {k:Nat} (h:k < l.length):qV (l.take (k+1))=qV (l.take k)+fD l[k]:=by
 rw [jB h,aiv];simp [qV]
theorem aiH (l m:List aA):qX (l++m)=qX l+qX m:=by
 induction l with
 | nil=>simp [qX]
 | cons x l ih=>simp [qX,ih];omega
theorem aiI (l:List aA) (k:Nat):qX (l.take k)≤qX l:=by
 have:=aiH (l.take k) (l.drop k);rw [List.take_append_drop] at this;omega
theorem AA {G:GH} {l:List aA} {A:Option Addr} {k:Nat} (hk:k < l.length) (hg:∀ k r,(l.map aA.dat)[k]?=some r→∃ b o cs,A=some ⟨b,o,none⟩∧cs.length=11∧(∀ j u,cs[j]?=some u→aI G b (o+k*11+j)=some u)∧aX G r cs) :
  ∃ b o pA pn pc dA dn dc yA yn yc fA fn fc rA rn rc,A=some ⟨b,o,none⟩∧(∀ j u,[vi l[k].kind,vi l[k].code,vi l[k].id,.string l[k].text,.slice pA pn pc,vi l[k].head.marks.ins,vi l[k].head.marks.move,.slice dA dn dc,.slice yA yn yc,.slice fA fn fc,.slice rA rn rc][j]?=some u→aI G b (o+k*11+j)=some u) ∧
   jm G l[k].head (.slice pA pn pc) (.slice dA dn dc) (.slice yA yn yc)∧av G (.sl 11 (l[k].flow.map aA.dat)) (.slice fA fn fc)∧av G (.sl 6 (l[k].rows.map bS.dat)) (.slice rA rn rc):=by
 obtain ⟨b,o,cs,h1,h2,h3,h4⟩:=hg k l[k].dat (by simp [hk]);obtain ⟨pA,pn,pc,dA,dn,dc,yA,yn,yc,fA,fn,fc,rA,rn,rc,rfl,h5,h6,h7⟩:=h4.item;exact ⟨b,o,pA,pn,pc,dA,dn,dc,yA,yn,yc,fA,fn,fc,rA,rn,rc,h1,h3,h5,h6,h7⟩
theorem aaj {l:List aA} {k:Nat} (h:k < l.length):uj (l.take (k+1))=(uj (l.take k) && decide (qz l[k]=0)):=by
 unfold uj
 rw [jB h,List.all_append];simp
theorem aai {l:List aA} {k:Nat} (h:k < l.length) (hn:¬ qz l[k]=0):uj l=false:=by
 unfold uj
 rw [List.all_eq_false];exact ⟨l[k],jo h,by simpa using hn⟩
theorem NV:∀ l:List aA,l.length≤qX l
 | []=>bK _
 | x :: l=>by have:=NV l;simp only [nM,qX];omega
theorem Ph:∀ l:List aA,qX l≤bA l
 | []=>bK _
 | x :: l=>by
  have:=Ph l;have h2:=oU x
  simp only [qX,bA,dY,eB] at *;omega
theorem U4 (G:GH) (w0:World) (hG:Hold G w0) (l:List aA) (v:aj) (hv:av G (.sl 11 (l.map aA.dat)) v) (hz:bA l≤4294967296) :
  Calls prog 18 #[v] w0 (bD w0 G fun v G'=>v=.tuple #[vi (xX l),vi (wS l)]∧G=G'):=by
 obtain ⟨A,c,rfl,hc1,hc2,hg⟩:=hv.slice;rw [bT] at *;have hll:=NV l;have htz:=Ph l;refine eN [(0,_)] func18 rfl ntmps18 rfl rfl hG ?_;intro a H;refine kP H (SR fun _ K1=>Ra rfl (ak K1 rfl (SR fun _ K2=>ak K2 rfl (SQ fun _ K3=>SR fun _ K4=>Rm rfl (Rl gQ rfl (Rm rfl (Kz K4 (SB ?_))))))));clear H K1 K2 K4;intro a H;skip;refine fH (ι:=Nat) (Tc:=[(9,_),(10,_)]) (Lc:=[]) (fun gh=>[(4,vi (qV (l.take gh))),(11,vi gh)]) (fun gh=>[]) (fun gh=>G) (fun gh=>gh≤l.length∧uj (l.take gh)=true) (fun gh=>l.length - gh) (0) (by exact (H).sub ⟨rfl,rfl,rfl,rfl,aF⟩) ?_ ?_
 ·exact ⟨by omega,by simp [uj]⟩
 clear H;intro gh a w hI H;obtain ⟨k,hgh⟩:∃ x,x=gh:=⟨_,rfl⟩;subst hgh;obtain ⟨hk,hd⟩:=hI;dsimp only [lca,bq] at H;refine kP H (SR fun _ K5=>Rc rfl (Kz K5 (SQ fun _ K6=>Cd rfl ?_ ?_))) <;> clear H K5
 ·intro h12 a H
  try have qO:=dT h12
  have hk2:k < l.length:=by omega
  obtain ⟨b,o,pA,pn,pc,dA,dn,dc,yA,yn,yc,fA,fn,fc,rA,rn,rc,rfl,hrow,-⟩:=AA hk2 hg;have hsm:=aiw hk2;have hle:=WO (l.take (k+1));have hle2:=aiI l (k+1);refine kP H (Kc K6 (SQ fun _ K7=>SB (SR fun _ K8=>Ri gQ dL rfl rfl ?_)));clear H K6;intro a H;refine bJ dL (cs:=[_,_,_,_,_,_,_,_,_,_,_]) H wn rfl rfl (fun j v hj=>H.hp.aI (hrow j v hj)) rfl ?_;clear H;intro a H;refine eX dL H wn rfl ?_;clear H;intro b6 a w hb6 H;refine bE dL 0 (vs:=[_,_,_,_,_,_,_,_,_,_,_]) _ H wn rfl rfl rfl rfl rfl rfl rfl rfl ?_;clear H;intro w H;dsimp only [List.set,setRow] at H;refine K8 _ _ ?_;clear K8;refine dz (fun _ K9=>?_);refine bJ dL (cs:=[_,_,_,_,_,_,_,_,_,_,_]) H wn rfl rfl (H.hp.dZ 0 rfl rfl) rfl ?_;clear H;intro a H;refine s_call LP H wn rfl (Pp _ _ H.ro _ _ _ _ _ _ _ _ _ _ (by have:=WV (jo hk2);omega)) rfl ?_;clear H;rintro v17 _ a w ⟨rfl,rfl⟩ - H;refine kH H (Rm rfl ?_);clear H;intro a H;(iterate 2 refine lQ H wn rfl rfl rfl ?_;clear H;intro a H);refine kH H (Ra rfl (ak K9 rfl (SQ fun _ aT=>SR fun _ bC=>Rm rfl (Rc rfl (Kz bC (Cd rfl ?_ ?_)))))) <;> clear H K9 bC
  ·intro h21 a H
   try have qw:=dT h21
   refine kP H (SR fun _ bF=>Ra rfl (ak bF rfl ?_));clear H bF;intro a H;refine bZ ?_;refine (eT H results18 (.cons (aR H rfl) (.cons (aR H rfl) .nil)) ?_).1;exact H.rt ⟨by simp [xX,wS,aai hk2 qw],rfl⟩
  intro h21 a H
  try have qw:=dF h21
  refine kP H (Kc aT (SC (Rm rfl (Rm rfl (Rd rfl ?_)))));clear H aT;intro a H;rw [← Int.natCast_add,← hsm] at H;refine kH H (aU K7 rfl (SC (Rd rfl (Rm rfl ?_))));clear H K7;intro a H;refine aH ?_;refine dD ((k+1)) (by exact (H.dU (Pl:=[_]) (dx:=[]) [] (by decide) rfl).sub ⟨rfl,rfl,rfl,rfl,aF⟩) ?_ ?_
  ·exact ⟨by omega,by rw [aaj hk2,hd];simpa using qw⟩
  first|omega|(dsimp only;omega)
 intro h12 a H
 try have qO:=dF h12
 refine dV ?_;refine K3 _ _ ?_;clear K3;refine kP H (SR fun _ bN=>Rm rfl (Ra rfl (ak bN rfl ?_)));clear H bN;intro a H;refine bZ ?_;refine (eT H results18 (.cons (aR H rfl) (.cons (aR H rfl) .nil)) ?_).1;exact H.rt ⟨by rw [show l.take k=l from jH (by omega)] at hd ⊢;simp [xX,wS,hd],rfl⟩
theorem ZM (G:GH) (w0:World) (hG:Hold G w0) (rows:List (List Dat)) (A:Option Addr) (n c:Nat) (hv:av G (.sl 2 rows) (.slice A n c)) (hz:rows.length≤4294967296) :
  Calls prog 98 #[.slice A n c] w0 (bD w0 G fun v G'=>av G' (.sl 2 rows) v):=by
 obtain ⟨hn,hc1,hc2,hnil,hx⟩:=hv.cells;refine eN [(0,_)] func98 rfl ntmps98 rfl rfl hG ?_;intro a H;refine kP H (SR fun _ K1=>ak K1 rfl (SQ fun _ K2=>SR fun _ K3=>Rm rfl ?_));clear H K1;intro a H;refine OO og H wn rfl rfl ?_;clear H;intro a H;refine K3 _ _ ?_;clear K3;refine kW H rfl ?_ ?_
 ·intro h4
  exact kP H (SR fun _ K4=>ak K4 rfl (LR results98 rfl fun H=>H.rt (by rw [hnil (by simpa using h4)];exact av.jf rfl (by simp [maxLen]))))
 intro h4
 try have p4:=dF h4
 refine gI ?_;refine K2 _ _ ?_;clear K2;refine bg (fun _ K5=>?_)
 have hA:¬ A=none:=by intro e;rw [e] at h4;cases h4
 refine oF ?_;refine OM og mJ H wn rfl ?_;clear H;intro b5 a w hb5 H;refine kH H (Rm rfl ?_);clear H;intro a H
 by_cases hr0:rows=[]
 ·have hn0:n=0:=by rw [hn,hr0];rfl
  subst hn0;refine OJ og mJ H wn rfl rfl (bK _) rfl ?_;clear H;intro a H;exact kH H (aU K5 rfl (LR results98 rfl fun H=>H.rt (by rw [hr0];exact av.jf rfl (by simp [maxLen]))))
 obtain ⟨b,o,xs,rfl,hxl,hxc,hx1,jl⟩:=hx hr0;refine pR (Li:=[]) (Lo:=[_]) (news:=xs) og mJ rfl rfl H wn rfl rfl cK.empty hxl (fun j u hj=>H.hp.aI (hxc j u hj)) hx1 (by omega) (by omega) rfl ?_;clear H;intro v7 Lo a w hrow H;obtain ⟨G',hm,hrep,H⟩:=H.uy hrow (rows:=rows) (by omega) (by simpa using jl)
 try clear hG
 obtain ⟨G2,hG2⟩:∃ g,g=G':=⟨_,rfl⟩;subst hG2;exact kH H (aU K5 rfl (LR results98 rfl fun H=>H.rt hrep))
theorem ZK (G:GH) (w0:World) (hG:Hold G w0) (rows:List (List Dat)) (A:Option Addr) (n c:Nat) (hv:av G (.sl 2 rows) (.slice A n c)) (hz:rows.length≤4294967296) :
  Calls prog 99 #[.slice A n c] w0 (bD w0 G fun v G'=>av G' (.sl 2 rows) v):=by
 obtain ⟨hn,hc1,hc2,hnil,hx⟩:=hv.cells;refine eN [(0,_)] func99 rfl ntmps99 rfl rfl hG ?_;intro a H;refine kP H (SR fun _ K1=>ak K1 rfl (SQ fun _ K2=>SR fun _ K3=>Rm rfl ?_));clear H K1;intro a H;refine OO pX H wn rfl rfl ?_;clear H;intro a H;refine K3 _ _ ?_;clear K3;refine kW H rfl ?_ ?_
 ·intro h4
  exact kP H (SR fun _ K4=>ak K4 rfl (LR results99 rfl fun H=>H.rt (by rw [hnil (by simpa using h4)];exact av.jf rfl (by simp [maxLen]))))
 intro h4
 try have p4:=dF h4
 refine gI ?_;refine K2 _ _ ?_;clear K2;refine bg (fun _ K5=>?_)
 have hA:¬ A=none:=by intro e;rw [e] at h4;cases h4
 refine oF ?_;refine OM pX uN H wn rfl ?_;clear H;intro b5 a w hb5 H;refine kH H (Rm rfl ?_);clear H;intro a H
 by_cases hr0:rows=[]
 ·have hn0:n=0:=by rw [hn,hr0];rfl
  subst hn0;refine OJ pX uN H wn rfl rfl (bK _) rfl ?_;clear H;intro a H;exact kH H (aU K5 rfl (LR results99 rfl fun H=>H.rt (by rw [hr0];exact av.jf rfl (by simp [maxLen]))))
 obtain ⟨b,o,xs,rfl,hxl,hxc,hx1,jl⟩:=hx hr0;refine pR (Li:=[]) (Lo:=[_]) (news:=xs) pX uN rfl rfl H wn rfl rfl cK.empty hxl (fun j u hj=>H.hp.aI (hxc j u hj)) hx1 (by omega) (by omega) rfl ?_;clear H;intro v7 Lo a w hrow H;obtain ⟨G',hm,hrep,H⟩:=H.uy hrow (rows:=rows) (by omega) (by simpa using jl)
 try clear hG
 obtain ⟨G2,hG2⟩:∃ g,g=G':=⟨_,rfl⟩;subst hG2;exact kH H (aU K5 rfl (LR results99 rfl fun H=>H.rt hrep))
theorem ZL (G:GH) (w0:World) (hG:Hold G w0) (rows:List (List Dat)) (A:Option Addr) (n c:Nat) (hv:av G (.sl 4 rows) (.slice A n c)) (hz:rows.length≤4294967296) :
  Calls prog 100 #[.slice A n c] w0 (bD w0 G fun v G'=>av G' (.sl 4 rows) v):=by
 obtain ⟨hn,hc1,hc2,hnil,hx⟩:=hv.cells;refine eN [(0,_)] func100 rfl ntmps100 rfl rfl hG ?_;intro a H;refine kP H (SR fun _ K1=>ak K1 rfl (SQ fun _ K2=>SR fun _ K3=>Rm rfl ?_));clear H K1;intro a H;refine OO tO H wn rfl rfl ?_;clear H;intro a H;refine K3 _ _ ?_;clear K3;refine kW H rfl ?_ ?_
 ·intro h4
  exact kP H (SR fun _ K4=>ak K4 rfl (LR results100 rfl fun H=>H.rt (by rw [hnil (by simpa using h4)];exact av.jf rfl (by simp [maxLen]))))
 intro h4
 try have p4:=dF h4
 refine gI ?_;refine K2 _ _ ?_;clear K2;refine bg (fun _ K5=>?_)
 have hA:¬ A=none:=by intro e;rw [e] at h4;cases h4
 refine oF ?_;refine OM tO uO H wn rfl ?_;clear H;intro b5 a w hb5 H;refine kH H (Rm rfl ?_);clear H;intro a H
 by_cases hr0:rows=[]
 ·have hn0:n=0:=by rw [hn,hr0];rfl
  subst hn0;refine OJ tO uO H wn rfl rfl (bK _) rfl ?_;clear H;intro a H;exact kH H (aU K5 rfl (LR results100 rfl fun H=>H.rt (by rw [hr0];exact av.jf rfl (by simp [maxLen]))))
 obtain ⟨b,o,xs,rfl,hxl,hxc,hx1,jl⟩:=hx hr0;refine pR (Li:=[]) (Lo:=[_]) (news:=xs) tO uO rfl rfl H wn rfl rfl cK.empty hxl (fun j u hj=>H.hp.aI (hxc j u hj)) hx1 (by omega) (by omega) rfl ?_;clear H;intro v7 Lo a w hrow H;obtain ⟨G',hm,hrep,H⟩:=H.uy hrow (rows:=rows) (by omega) (by simpa using jl)
 try clear hG
 obtain ⟨G2,hG2⟩:∃ g,g=G':=⟨_,rfl⟩;subst hG2;exact kH H (aU K5 rfl (LR results100 rfl fun H=>H.rt hrep))
theorem Iq (G:GH) (w0:World) (hG:Hold G w0) (h:gZ) (pA dA yA:Option Addr) (pn pc dn dc yn yc:Nat) (hv:jm G h (.slice pA pn pc) (.slice dA dn dc) (.slice yA yn yc)) (hz:oQ h≤4294967296) :
  Calls prog 65 #[.agg #[.slice pA pn pc,vi h.marks.ins,vi h.marks.move,.slice dA dn dc,.slice yA yn yc]] w0 (bD w0 G fun v G'=>∃ p d l,v=.agg #[p,vi h.marks.ins,vi h.marks.move,d,l]∧jm G' h p d l):=by
 have he:=GZ h;have h1:=qW (h.props.map iq.dat);have h2:=qW (h.marks.bX.map jh.dat);have h3:=qW (h.marks.layers.map iT.dat);refine eN [(0,_)] func65 rfl ntmps65 rfl rfl hG ?_;intro a H;refine dz (fun _ K1=>?_);refine fC (cs:=[_,_,_,_,_]) H wn rfl rfl rfl ?_;clear H;intro b1 a w hb1 H;refine eX pV H wn rfl ?_;clear H;intro b2 a w hb2 H;refine K1 _ _ ?_;clear K1;refine kP H (SR fun _ K2=>aV Ce Ab 1 rfl rfl ?_);clear H;intro a H;refine s_call abX H wn rfl (ZM _ _ H.ro _ _ _ _ hv.props (by omega)) rfl ?_;clear H;rintro v5 G5 a w vF Nn H;obtain ⟨A5,n5,c5,rfl⟩:=vF.form;refine kH H (Rf Ce rfl ?_);clear H;intro a H;refine bE Ab 1 (vs:=[_]) _ H wn rfl rfl rfl rfl rfl rfl rfl rfl ?_;clear H;intro w H;dsimp only [List.set,setRow] at H;refine K2 _ _ ?_;clear K2;refine bg (fun _ K3=>?_);obtain ⟨hvp,hvd,hvy⟩:=hv.mono Nn;clear hv
 have nI:∀ (dB:Nat) (v:aj) (G G':GH),(∀ k o,G k=some o→G' k=some o)→(fun (dB:Nat) (v:aj) (G:GH)=>match dB with|0=>v=(aJ b1 1)|1=>v=(aJ b1 3)|2=>v=.slice dA dn dc|3=>av G (.sl 2 (h.marks.bX.map jh.dat)) v|4=>v=(aJ b1 1)|5=>v=(aJ b1 4)|6=>v=.slice yA yn yc|7=>av G (.sl 4 (h.marks.layers.map iT.dat)) v|8=>v=(aJ b1 1)|9=>v=(aJ b1 3)|_=>True) dB v G→(fun (dB:Nat) (v:aj) (G:GH)=>match dB with|0=>v=(aJ b1 1)|1=>v=(aJ b1 3)|2=>v=.slice dA dn dc|3=>av G (.sl 2 (h.marks.bX.map jh.dat)) v|4=>v=(aJ b1 1)|5=>v=(aJ b1 4)|6=>v=.slice yA yn yc|7=>av G (.sl 4 (h.marks.layers.map iT.dat)) v|8=>v=(aJ b1 1)|9=>v=(aJ b1 3)|_=>True) dB v G':=by
  intro dB v G G' hm h
  match dB,h with
  | 0,h=>exact h
  | 1,h=>exact h
  | 2,h=>exact h
  | 3,h=>exact av.mono hm h
  | 4,h=>exact h
  | 5,h=>exact h
  | 6,h=>exact h
  | 7,h=>exact av.mono hm h
  | 8,h=>exact h
  | 9,h=>exact h
  | 10,h=>exact trivial
  | 11,h=>exact trivial
  | 12,h=>exact trivial
  | 13,h=>exact trivial
  | _+14,h=>exact trivial
 refine DT (hmx) [[],[0],[0,1],[0,1,2],[],[4],[4,5],(ra 0 7),(ra 0 7),(ra 0 7++[8]),(ra 0 10),(ra 0 11),(ra 0 12),(ra 0 13)] (ra 10 4) (by kernel_rfl) (by kernel_rfl) (fun (dB:Nat) (v:aj) (G:GH)=>match dB with|0=>v=(aJ b1 1)|1=>v=(aJ b1 3)|2=>v=.slice dA dn dc|3=>av G (.sl 2 (h.marks.bX.map jh.dat)) v|4=>v=(aJ b1 1)|5=>v=(aJ b1 4)|6=>v=.slice yA yn yc|7=>av G (.sl 4 (h.marks.layers.map iT.dat)) v|8=>v=(aJ b1 1)|9=>v=(aJ b1 3)|_=>True) nI H ?_ ?_
 ·clear H;refine aB ?_ ?_ ?_ ?_ (aB ?_ ?_ ?_ ?_ (aB ?_ ?_ (bH rfl) (bH rfl) (aW (bH rfl) (aW (bH rfl) bW))))
  ·refine gN [] rfl trivial (by kernel_rfl) nI rfl rfl ?_;intro dQ a w G1 hG HT H fin;exact kH H (Rf sV rfl fun _ H=>fin H iJ rfl)
  ·refine gN [(0,7,_)] rfl ⟨fun _ _ h=>h,aF⟩ (by kernel_rfl) nI rfl rfl ?_;intro dQ a w G1 hG HT H fin;exact kH H (Rf vo rfl fun _ H=>fin H iJ rfl)
  ·refine gN [(1,8,_)] rfl ⟨fun _ _ h=>h,aF⟩ (by kernel_rfl) nI rfl rfl ?_;intro dQ a w G1 hG HT H fin;exact kH H (Ro vP 1 rfl fun _ H=>fin H iJ rfl)
  ·refine gN [(2,9,_)] rfl ⟨fun _ _ h=>h,aF⟩ (by kernel_rfl) nI rfl rfl ?_;intro dQ a w G1 hG HT H fin;refine s_call abY H wn rfl (ZK _ _ H.ro _ _ _ _ (hvd.mono hG) (by omega)) rfl ?_;clear H;rintro v10 vT a w wL lZ H;exact fin H lZ (wL)
  ·refine gN [] rfl trivial (by kernel_rfl) nI rfl rfl ?_;intro dQ a w G1 hG HT H fin;exact kH H (Rf sV rfl fun _ H=>fin H iJ rfl)
  ·refine gN [(4,11,_)] rfl ⟨fun _ _ h=>h,aF⟩ (by kernel_rfl) nI rfl rfl ?_;intro dQ a w G1 hG HT H fin;exact kH H (Rf Cc rfl fun _ H=>fin H iJ rfl)
  ·refine gN [(5,12,_)] rfl ⟨fun _ _ h=>h,aF⟩ (by kernel_rfl) nI rfl rfl ?_;intro dQ a w G1 hG HT H fin;exact kH H (Ro Di 1 rfl fun _ H=>fin H iJ rfl)
  ·refine gN [(6,13,_)] rfl ⟨fun _ _ h=>h,aF⟩ (by kernel_rfl) nI rfl rfl ?_;intro dQ a w G1 hG HT H fin;refine s_call aan H wn rfl (ZL _ _ H.ro _ _ _ _ (hvy.mono hG) (by omega)) rfl ?_;clear H;rintro v14 Du a w Gd FR H;exact fin H FR (Gd)
  ·refine gN [] rfl trivial (by kernel_rfl) nI rfl rfl ?_;intro dQ a w G1 hG HT H fin;exact kH H (Rf sV rfl fun _ H=>fin H iJ rfl)
  refine gN [(8,15,_)] rfl ⟨fun _ _ h=>h,aF⟩ (by kernel_rfl) nI rfl rfl ?_;intro dQ a w G1 hG HT H fin;exact kH H (Rf vo rfl fun _ H=>fin H iJ rfl)
 clear H;intro a w G zy H hv;obtain ⟨u10,NC,wL⟩:=hv 3 10 (by decide) rfl;(try dsimp only at wL);obtain ⟨XB,n10,c10,rfl⟩:=wL.form;have H:=H.kG NC;obtain ⟨u14,aeX,Gd⟩:=hv 7 14 (by decide) rfl;(try dsimp only at Gd);obtain ⟨PG,n14,c14,rfl⟩:=Gd.form;have H:=H.kG aeX;have H:=H.aS (hv 9 16 rfl rfl) rfl;clear hv;refine bE vP 1 (vs:=[_]) _ H wn rfl rfl rfl rfl rfl rfl rfl rfl ?_;clear H;intro w H;dsimp only [List.set,setRow] at H;refine kH H (Rf sV rfl (Rf Cc rfl ?_));clear H;intro a H;refine bE Di 1 (vs:=[_]) _ H wn rfl rfl rfl rfl rfl rfl rfl rfl ?_;clear H;intro w H;dsimp only [List.set,setRow] at H;refine aH ⟨rfl,?_⟩;refine K3 _ _ ?_;clear K3;refine dz (fun _ K4=>?_);refine bJ pV (cs:=[_,_,_,_,_]) H wn rfl rfl (H.hp.dZ 1 rfl rfl) rfl ?_;clear H;intro a H;refine bE pV 0 (vs:=[_,_,_,_,_]) _ H wn rfl rfl rfl rfl rfl rfl rfl rfl ?_;clear H;intro w H;dsimp only [List.set,setRow] at H;refine K4 _ _ ?_;clear K4;refine bZ ?_;refine (leave1 H results65 (.cons (zR pV (cs:=[_,_,_,_,_]) H rfl rfl (H.hp.dZ 0 rfl rfl)) .nil) ?_).1;exact H.rt ⟨_,_,_,rfl,vF.mono zy,wL,Gd⟩
def Dt (fv:aj) (w0:World) (G:GH) (d:List Dat):Prop:=∀ (G1:GH) (w1:World) (cs:List aj),(∀ b o,G b=some o→G1 b=some o)→Hold G1 w1→aX G1 d cs →
 sw prog fv [.agg cs.toArray] w1 (bD w1 G1 fun u G'=>∃ cs',u=.agg cs'.toArray∧aX G' d cs')
theorem aal (G:GH) (w0:World) (hG:Hold G w0) (l:List aA) (v fv:aj) (hv:av G (.sl 11 (l.map aA.dat)) v) (hz:l.length≤4294967296) (hf:∀ x∈l,Dt fv w0 G x.dat) :
  Calls prog 63 #[v,fv] w0 (bD w0 G fun u G'=>av G' (.sl 11 (l.map aA.dat)) u):=by
 obtain ⟨A,c,rfl,hc1,hc2,hg⟩:=hv.slice
 have hml:4294967297≤maxLen:=by decide
 rw [bT] at *;refine eN [(0,_),(1,_)] func63 rfl ntmps63 rfl rfl hG ?_;intro a H;refine kP H (SR fun _ K1=>ak K1 rfl (SR fun _ K2=>ak K2 rfl (SQ fun _ K3=>SR fun _ K4=>Rm rfl (Rl gQ rfl (Rm rfl (Kz K4 (SB ?_)))))));clear H K1 K2 K4;intro a H;skip;refine fH (ι:=Nat × aj × List aj × OL × GH) (Tc:=[(1,_),(8,_),(9,_)]) (Lc:=[]) (fun gh=>[(5,gh.2.1),(10,vi gh.1)]) (fun gh=>[]++gh.2.2.2.1) (fun gh=>gh.2.2.2.2) (fun gh=>gh.1≤l.length∧cK 63 11 gh.2.1 gh.1 gh.2.2.1 gh.2.2.2.1∧fF gh.2.2.2.2 11 ((l.map aA.dat).take gh.1) gh.2.2.1∧(∀ b o,G b=some o→gh.2.2.2.2 b=some o)) (fun gh=>l.length - gh.1) ((0,.slice none 0 0,[],[],G)) (by exact (H).sub ⟨rfl,rfl,rfl,rfl,rfl,aF⟩) ?_ ?_
 ·exact ⟨by omega,cK.nil,by simpa using fF.nil,fun _ _ h=>h⟩
 clear H;intro gh a w hI H;obtain ⟨k,v,xs,Lo,g⟩:=gh;dsimp only at hI H;obtain ⟨hk,hrw,jl,hgm⟩:=hI;dsimp only [lca,bq] at H;refine kP H (SR fun _ K5=>Rc rfl (Kz K5 (SQ fun _ K6=>Cd rfl ?_ ?_))) <;> clear H K5
 ·intro h11 a H
  try have nW:=dT h11
  have hk2:k < l.length:=by omega
  obtain ⟨b,o,cs,rfl,hcl,hrow,hrep⟩:=hg k l[k].dat (by simp [hk2]);obtain ⟨pA,pn,pc,dA,dn,dc,yA,yn,yc,fA,fn,fc,rA,rn,rc,rfl,-⟩:=hrep.item;replace hrow:=fun j u hj=>aK hgm (hrow j u hj);refine kP H (Kc K6 (SQ fun _ K7=>SB (SR fun _ K8=>Ri gQ dL rfl rfl ?_)));clear H K6;intro a H;refine bJ dL (cs:=[_,_,_,_,_,_,_,_,_,_,_]) H wn rfl rfl (fun j v hj=>H.hp.aI (hrow j v hj)) rfl ?_;clear H;intro a H;refine eX dL H wn rfl ?_;clear H;intro b7 a w Ef H;refine bE dL 0 (vs:=[_,_,_,_,_,_,_,_,_,_,_]) _ H wn rfl rfl rfl rfl rfl rfl rfl rfl ?_;clear H;intro w H;dsimp only [List.set,setRow] at H;refine K8 _ _ ?_;clear K8;refine kP H (SC (Rm rfl (Rm rfl ?_)));clear H;intro a H;refine bJ dL (cs:=[_,_,_,_,_,_,_,_,_,_,_]) H wn rfl rfl (H.hp.dZ 0 rfl rfl) rfl ?_;clear H;intro a H;refine oO H wn rfl rfl (hf _ (jo hk2) _ _ _ hgm H.ro (hrep.mono hgm)) rfl ?_;clear H;rintro v17 xq a w ⟨vY,rfl,dO⟩ pJ H;obtain ⟨cs,hcs⟩:∃ cs,cs=vY:=⟨_,rfl⟩;obtain ⟨pA,pn,pc,dA,dn,dc,yA,yn,yc,fA,fn,fc,rA,rn,rc,tq,-⟩:=dO.item;rw [tq] at H;refine gP gQ dL [_,_,_,_,_,_,_,_,_,_,_] [_,_,_,_,_,_,_,_,_,_,_] H wn rfl rfl rfl rfl rfl (by intro i q h;match i,h with|0,h=>exact h|n+1,h=>simp at h) rfl rfl ?_;clear H;intro b18 a w I8 H;refine pR (Li:=[_,_]) (Lo:=Lo) (news:=vY) gQ dL rfl rfl H wn rfl rfl hrw (by rw [tq];rfl) (by rw [tq];exact H.hp.dZ 0 rfl rfl) dO.one (by omega) (by omega) rfl ?_;clear H;intro v19 BK a w vG H;refine kH H (aU K7 rfl (SC (Rd rfl (Rm rfl ?_))));clear H K7;intro a H;refine aH ?_;refine dD ((k+1,v19,xs++vY,BK,xq)) (by exact (H.dU (Pl:=[_,_]) (dx:=[]) [] (by decide) rfl).sub ⟨rfl,rfl,rfl,rfl,rfl,aF⟩) ?_ ?_
  ·(try dsimp only);refine ⟨by omega,vG,?_,fun b o h=>pJ b o (hgm b o h)⟩;rw [jB (by simpa using hk2)];exact (jl.mono pJ).snoc (by simpa using dO) (by rw [tq];rfl)
  first|omega|(dsimp only;omega)
 intro h11 a H
 try have nW:=dF h11
 refine dV ?_;refine K3 _ _ ?_;clear K3;refine bg (fun _ K9=>?_);obtain ⟨G',hm,hrep,H⟩:=H.uy (Li:=[]) hrw (rows:=l.map aA.dat) (by simp;omega) (by rw [jH (by simp;omega)] at jl;exact jl);exact kP H (SC (Rm rfl (aU K9 rfl (LR results63 rfl fun H=>H.rt hrep))))
theorem RS (G:GH) (w0:World) (hG:Hold G w0) (l:List bS) (v fv:aj) (hv:av G (.sl 6 (l.map bS.dat)) v) (hz:l.length≤4294967296) (hf:∀ x∈l,Dt fv w0 G x.dat) :
  Calls prog 66 #[v,fv] w0 (bD w0 G fun u G'=>av G' (.sl 6 (l.map bS.dat)) u):=by
 obtain ⟨A,c,rfl,hc1,hc2,hg⟩:=hv.slice
 have hml:4294967297≤maxLen:=by decide
 rw [bT] at *;refine eN [(0,_),(1,_)] func66 rfl ntmps66 rfl rfl hG ?_;intro a H;refine kP H (SR fun _ K1=>ak K1 rfl (SR fun _ K2=>ak K2 rfl (SQ fun _ K3=>SR fun _ K4=>Rm rfl (Rl oh rfl (Rm rfl (Kz K4 (SB ?_)))))));clear H K1 K2 K4;intro a H;skip;refine fH (ι:=Nat × aj × List aj × OL × GH) (Tc:=[(1,_),(8,_),(9,_)]) (Lc:=[]) (fun gh=>[(5,gh.2.1),(10,vi gh.1)]) (fun gh=>[]++gh.2.2.2.1) (fun gh=>gh.2.2.2.2) (fun gh=>gh.1≤l.length∧cK 96 6 gh.2.1 gh.1 gh.2.2.1 gh.2.2.2.1∧fF gh.2.2.2.2 6 ((l.map bS.dat).take gh.1) gh.2.2.1∧(∀ b o,G b=some o→gh.2.2.2.2 b=some o)) (fun gh=>l.length - gh.1) ((0,.slice none 0 0,[],[],G)) (by exact (H).sub ⟨rfl,rfl,rfl,rfl,rfl,aF⟩) ?_ ?_
 ·exact ⟨by omega,cK.nil,by simpa using fF.nil,fun _ _ h=>h⟩
 clear H;intro gh a w hI H;obtain ⟨k,v,xs,Lo,g⟩:=gh;dsimp only at hI H;obtain ⟨hk,hrw,jl,hgm⟩:=hI;dsimp only [lca,bq] at H;refine kP H (SR fun _ K5=>Rc rfl (Kz K5 (SQ fun _ K6=>Cd rfl ?_ ?_))) <;> clear H K5
 ·intro h11 a H
  try have nW:=dT h11
  have hk2:k < l.length:=by omega
  obtain ⟨b,o,cs,rfl,hcl,hrow,hrep⟩:=hg k l[k].dat (by simp [hk2]);obtain ⟨pA,pn,pc,dA,dn,dc,yA,yn,yc,fA,fn,fc,rfl,-⟩:=hrep.row;replace hrow:=fun j u hj=>aK hgm (hrow j u hj);refine kP H (Kc K6 (SQ fun _ K7=>SB (SR fun _ K8=>Ri oh kS rfl rfl ?_)));clear H K6;intro a H;refine bJ kS (cs:=[_,_,_,_,_,_]) H wn rfl rfl (fun j v hj=>H.hp.aI (hrow j v hj)) rfl ?_;clear H;intro a H;refine eX kS H wn rfl ?_;clear H;intro b7 a w Ef H;refine bE kS 0 (vs:=[_,_,_,_,_,_]) _ H wn rfl rfl rfl rfl rfl rfl rfl rfl ?_;clear H;intro w H;dsimp only [List.set,setRow] at H;refine K8 _ _ ?_;clear K8;refine kP H (SC (Rm rfl (Rm rfl ?_)));clear H;intro a H;refine bJ kS (cs:=[_,_,_,_,_,_]) H wn rfl rfl (H.hp.dZ 0 rfl rfl) rfl ?_;clear H;intro a H;refine oO H wn rfl rfl (hf _ (jo hk2) _ _ _ hgm H.ro (hrep.mono hgm)) rfl ?_;clear H;rintro v17 xq a w ⟨vY,rfl,dO⟩ pJ H;obtain ⟨cs,hcs⟩:∃ cs,cs=vY:=⟨_,rfl⟩;obtain ⟨pA,pn,pc,dA,dn,dc,yA,yn,yc,fA,fn,fc,tq,-⟩:=dO.row;rw [tq] at H;refine gP oh kS [_,_,_,_,_,_] [_,_,_,_,_,_] H wn rfl rfl rfl rfl rfl (by intro i q h;match i,h with|0,h=>exact h|n+1,h=>simp at h) rfl rfl ?_;clear H;intro b18 a w I8 H;refine pR (Li:=[_,_]) (Lo:=Lo) (news:=vY) oh kS rfl rfl H wn rfl rfl hrw (by rw [tq];rfl) (by rw [tq];exact H.hp.dZ 0 rfl rfl) dO.one (by omega) (by omega) rfl ?_;clear H;intro v19 BK a w vG H;refine kH H (aU K7 rfl (SC (Rd rfl (Rm rfl ?_))));clear H K7;intro a H;refine aH ?_;refine dD ((k+1,v19,xs++vY,BK,xq)) (by exact (H.dU (Pl:=[_,_]) (dx:=[]) [] (by decide) rfl).sub ⟨rfl,rfl,rfl,rfl,rfl,aF⟩) ?_ ?_
  ·(try dsimp only);refine ⟨by omega,vG,?_,fun b o h=>pJ b o (hgm b o h)⟩;rw [jB (by simpa using hk2)];exact (jl.mono pJ).snoc (by simpa using dO) (by rw [tq];rfl)
  first|omega|(dsimp only;omega)
 intro h11 a H
 try have nW:=dF h11
 refine dV ?_;refine K3 _ _ ?_;clear K3;refine bg (fun _ K9=>?_);obtain ⟨G',hm,hrep,H⟩:=H.uy (Li:=[]) hrw (rows:=l.map bS.dat) (by simp;omega) (by rw [jH (by simp;omega)] at jl;exact jl);exact kP H (SC (Rm rfl (aU K9 rfl (LR results66 rfl fun H=>H.rt hrep))))
theorem aak (G:GH) (w0:World) (hG:Hold G w0) (l:List bR) (v fv:aj) (hv:av G (.sl 7 (l.map bR.dat)) v) (hz:l.length≤4294967296) (hf:∀ x∈l,Dt fv w0 G x.dat) :
  Calls prog 101 #[v,fv] w0 (bD w0 G fun u G'=>av G' (.sl 7 (l.map bR.dat)) u):=by
 obtain ⟨A,c,rfl,hc1,hc2,hg⟩:=hv.slice
 have hml:4294967297≤maxLen:=by decide
 rw [bT] at *;refine eN [(0,_),(1,_)] func101 rfl ntmps101 rfl rfl hG ?_;intro a H;refine kP H (SR fun _ K1=>ak K1 rfl (SR fun _ K2=>ak K2 rfl (SQ fun _ K3=>SR fun _ K4=>Rm rfl (Rl rZ rfl (Rm rfl (Kz K4 (SB ?_)))))));clear H K1 K2 K4;intro a H;skip;refine fH (ι:=Nat × aj × List aj × OL × GH) (Tc:=[(1,_),(8,_),(9,_)]) (Lc:=[]) (fun gh=>[(5,gh.2.1),(10,vi gh.1)]) (fun gh=>[]++gh.2.2.2.1) (fun gh=>gh.2.2.2.2) (fun gh=>gh.1≤l.length∧cK 98 7 gh.2.1 gh.1 gh.2.2.1 gh.2.2.2.1∧fF gh.2.2.2.2 7 ((l.map bR.dat).take gh.1) gh.2.2.1∧(∀ b o,G b=some o→gh.2.2.2.2 b=some o)) (fun gh=>l.length - gh.1) ((0,.slice none 0 0,[],[],G)) (by exact (H).sub ⟨rfl,rfl,rfl,rfl,rfl,aF⟩) ?_ ?_
 ·exact ⟨by omega,cK.nil,by simpa using fF.nil,fun _ _ h=>h⟩
 clear H;intro gh a w hI H;obtain ⟨k,v,xs,Lo,g⟩:=gh;dsimp only at hI H;obtain ⟨hk,hrw,jl,hgm⟩:=hI;dsimp only [lca,bq] at H;refine kP H (SR fun _ K5=>Rc rfl (Kz K5 (SQ fun _ K6=>Cd rfl ?_ ?_))) <;> clear H K5
 ·intro h11 a H
  try have nW:=dT h11
  have hk2:k < l.length:=by omega
  obtain ⟨b,o,cs,rfl,hcl,hrow,hrep⟩:=hg k l[k].dat (by simp [hk2]);obtain ⟨pA,pn,pc,dA,dn,dc,yA,yn,yc,fA,fn,fc,rfl,-⟩:=hrep.cell;replace hrow:=fun j u hj=>aK hgm (hrow j u hj);refine kP H (Kc K6 (SQ fun _ K7=>SB (SR fun _ K8=>Ri rZ mM rfl rfl ?_)));clear H K6;intro a H;refine bJ mM (cs:=[_,_,_,_,_,_,_]) H wn rfl rfl (fun j v hj=>H.hp.aI (hrow j v hj)) rfl ?_;clear H;intro a H;refine eX mM H wn rfl ?_;clear H;intro b7 a w Ef H;refine bE mM 0 (vs:=[_,_,_,_,_,_,_]) _ H wn rfl rfl rfl rfl rfl rfl rfl rfl ?_;clear H;intro w H;dsimp only [List.set,setRow] at H;refine K8 _ _ ?_;clear K8;refine kP H (SC (Rm rfl (Rm rfl ?_)));clear H;intro a H;refine bJ mM (cs:=[_,_,_,_,_,_,_]) H wn rfl rfl (H.hp.dZ 0 rfl rfl) rfl ?_;clear H;intro a H;refine oO H wn rfl rfl (hf _ (jo hk2) _ _ _ hgm H.ro (hrep.mono hgm)) rfl ?_;clear H;rintro v17 xq a w ⟨vY,rfl,dO⟩ pJ H;obtain ⟨cs,hcs⟩:∃ cs,cs=vY:=⟨_,rfl⟩;obtain ⟨pA,pn,pc,dA,dn,dc,yA,yn,yc,fA,fn,fc,tq,-⟩:=dO.cell;rw [tq] at H;refine gP rZ mM [_,_,_,_,_,_,_] [_,_,_,_,_,_,_] H wn rfl rfl rfl rfl rfl (by intro i q h;match i,h with|0,h=>exact h|n+1,h=>simp at h) rfl rfl ?_;clear H;intro b18 a w I8 H;refine pR (Li:=[_,_]) (Lo:=Lo) (news:=vY) rZ mM rfl rfl H wn rfl rfl hrw (by rw [tq];rfl) (by rw [tq];exact H.hp.dZ 0 rfl rfl) dO.one (by omega) (by omega) rfl ?_;clear H;intro v19 BK a w vG H;refine kH H (aU K7 rfl (SC (Rd rfl (Rm rfl ?_))));clear H K7;intro a H;refine aH ?_;refine dD ((k+1,v19,xs++vY,BK,xq)) (by exact (H.dU (Pl:=[_,_]) (dx:=[]) [] (by decide) rfl).sub ⟨rfl,rfl,rfl,rfl,rfl,aF⟩) ?_ ?_
  ·(try dsimp only);refine ⟨by omega,vG,?_,fun b o h=>pJ b o (hgm b o h)⟩;rw [jB (by simpa using hk2)];exact (jl.mono pJ).snoc (by simpa using dO) (by rw [tq];rfl)
  first|omega|(dsimp only;omega)
 intro h11 a H
 try have nW:=dF h11
 refine dV ?_;refine K3 _ _ ?_;clear K3;refine bg (fun _ K9=>?_);obtain ⟨G',hm,hrep,H⟩:=H.uy (Li:=[]) hrw (rows:=l.map bR.dat) (by simp;omega) (by rw [jH (by simp;omega)] at jl;exact jl);exact kP H (SC (Rm rfl (aU K9 rfl (LR results101 rfl fun H=>H.rt hrep))))
def BD (n:Nat):Prop:=∀ (G:GH) (w0:World),Hold G w0→∀ (l:List aA) (v:aj),av G (.sl 11 (l.map aA.dat)) v→bA l < n →
 Calls prog 40 #[v] w0 (bD w0 G fun u G'=>av G' (.sl 11 (l.map aA.dat)) u)
theorem ZJ {n:Nat} (ih:BD n) (hn:n≤4294967296) (G:GH) (w0:World) (hG:Hold G w0) (x:bR) (cs:List aj) (hv:aX G x.dat cs) (hz:cu x.dat < n+1) :
  Calls prog 102 #[.agg cs.toArray] w0 (bD w0 G fun u G'=>∃ cs',u=.agg cs'.toArray∧aX G' x.dat cs'):=by
 have he:=Ag x;obtain ⟨pA,pn,pc,dA,dn,dc,yA,yn,yc,fA,fn,fc,rfl,hh,hf⟩:=hv.cell;refine eN [(0,_)] func102 rfl ntmps102 rfl rfl hG ?_;intro a H;refine dz (fun _ K1=>?_);refine fC (cs:=[_,_,_,_,_,_,_]) H wn rfl rfl rfl ?_;clear H;intro b1 a w hb1 H;refine eX mM H wn rfl ?_;clear H;intro b2 a w hb2 H;refine K1 _ _ ?_;clear K1;refine bg (fun _ K2=>?_)
 have iG:∀ (dB:Nat) (v:aj) (G G':GH),(∀ k o,G k=some o→G' k=some o)→(fun (dB:Nat) (v:aj) (G:GH)=>match dB with|0=>v=(aJ b1 0)|1=>v=vi x.id|2=>v=(aJ b1 1)|3=>v=.agg #[.slice pA pn pc,vi x.head.marks.ins,vi x.head.marks.move,.slice dA dn dc,.slice yA yn yc]|4=>∃ p d l,v=.agg #[p,vi x.head.marks.ins,vi x.head.marks.move,d,l]∧jm G x.head p d l|5=>v=(aJ b1 6)|6=>v=.slice fA fn fc|7=>av G (.sl 11 (x.flow.map aA.dat)) v|_=>True) dB v G→(fun (dB:Nat) (v:aj) (G:GH)=>match dB with|0=>v=(aJ b1 0)|1=>v=vi x.id|2=>v=(aJ b1 1)|3=>v=.agg #[.slice pA pn pc,vi x.head.marks.ins,vi x.head.marks.move,.slice dA dn dc,.slice yA yn yc]|4=>∃ p d l,v=.agg #[p,vi x.head.marks.ins,vi x.head.marks.move,d,l]∧jm G x.head p d l|5=>v=(aJ b1 6)|6=>v=.slice fA fn fc|7=>av G (.sl 11 (x.flow.map aA.dat)) v|_=>True) dB v G':=by
  intro dB v G G' hm h
  match dB,h with
  | 0,h=>exact h
  | 1,h=>exact h
  | 2,h=>exact h
  | 3,h=>exact h
  | 4,h=>exact let ⟨p,d,l,h1,h2⟩:=h;⟨p,d,l,h1,h2.mono hm⟩
  | 5,h=>exact h
  | 6,h=>exact h
  | 7,h=>exact av.mono hm h
  | 8,h=>exact trivial
  | 9,h=>exact trivial
  | _+10,h=>exact trivial
 refine DT (hmx) [[],[0],[],[2],[2,3],[],[5],(ra 2 5),(ra 0 8),(ra 0 9)] [8,9] (by kernel_rfl) (by kernel_rfl) (fun (dB:Nat) (v:aj) (G:GH)=>match dB with|0=>v=(aJ b1 0)|1=>v=vi x.id|2=>v=(aJ b1 1)|3=>v=.agg #[.slice pA pn pc,vi x.head.marks.ins,vi x.head.marks.move,.slice dA dn dc,.slice yA yn yc]|4=>∃ p d l,v=.agg #[p,vi x.head.marks.ins,vi x.head.marks.move,d,l]∧jm G x.head p d l|5=>v=(aJ b1 6)|6=>v=.slice fA fn fc|7=>av G (.sl 11 (x.flow.map aA.dat)) v|_=>True) iG H ?_ ?_
 ·clear H;refine aB ?_ ?_ ?_ ?_ (aB ?_ ?_ ?_ ?_ (aW (bH rfl) (aW (bH rfl) bW)))
  ·refine gN [] rfl trivial (by kernel_rfl) iG rfl rfl ?_;intro dQ a w G1 hG HT H fin;exact kH H (Rf IU rfl fun _ H=>fin H iJ rfl)
  ·refine gN [(0,3,_)] rfl ⟨fun _ _ h=>h,aF⟩ (by kernel_rfl) iG rfl rfl ?_;intro dQ a w G1 hG HT H fin;exact kH H (Ro aD 1 rfl fun _ H=>fin H iJ rfl)
  ·refine gN [] rfl trivial (by kernel_rfl) iG rfl rfl ?_;intro dQ a w G1 hG HT H fin;exact kH H (Rf S9 rfl fun _ H=>fin H iJ rfl)
  ·refine gN [(2,5,_)] rfl ⟨fun _ _ h=>h,aF⟩ (by kernel_rfl) iG rfl rfl ?_;intro dQ a w G1 hG HT H fin;refine bJ pV (cs:=[_,_,_,_,_]) H wn rfl rfl (H.hp.dZ 1 rfl rfl) rfl ?_;clear H;intro a H;exact fin H iJ rfl
  ·refine gN [(3,6,_)] rfl ⟨fun _ _ h=>h,aF⟩ (by kernel_rfl) iG rfl rfl ?_;intro dQ a w G1 hG HT H fin;refine s_call Iz H wn rfl (Iq _ _ H.ro x.head _ _ _ _ _ _ _ _ _ (hh.mono hG) (by omega)) rfl ?_;clear H;rintro v7 G7 a w Jo zB H;exact fin H zB (Jo)
  ·refine gN [] rfl trivial (by kernel_rfl) iG rfl rfl ?_;intro dQ a w G1 hG HT H fin;exact kH H (Rf FP rfl fun _ H=>fin H iJ rfl)
  ·refine gN [(5,8,_)] rfl ⟨fun _ _ h=>h,aF⟩ (by kernel_rfl) iG rfl rfl ?_;intro dQ a w G1 hG HT H fin;exact kH H (Ro iH 1 rfl fun _ H=>fin H iJ rfl)
  refine gN [(6,9,_)] rfl ⟨fun _ _ h=>h,aF⟩ (by kernel_rfl) iG rfl rfl ?_;intro dQ a w G1 hG HT H fin;refine s_call LM H wn rfl (ih _ _ H.ro x.flow _ (hf.mono hG) (by omega)) rfl ?_;clear H;rintro v10 vT a w wL lZ H;exact fin H lZ (wL)
 clear H;intro a w G mH H hv;have H:=H.aS (hv 1 4 rfl rfl) rfl;obtain ⟨u7,hu7,Jo⟩:=hv 4 7 (by decide) rfl;(try dsimp only at Jo);obtain ⟨p7,d7,l7,rfl,Jd⟩:=Jo;obtain ⟨a1,a2,a3,rfl⟩:=Jd.props.form;obtain ⟨a4,a5,a6,rfl⟩:=Jd.bX.form;obtain ⟨a7,a8,a9,rfl⟩:=Jd.layers.form;have H:=H.kG hu7;obtain ⟨u10,NC,wL⟩:=hv 7 10 (by decide) rfl;(try dsimp only at wL);obtain ⟨XB,n10,c10,rfl⟩:=wL.form;have H:=H.kG NC;clear hv;refine jZ aiq [_,_,_,_,_,_,_] H wn rfl rfl rfl rfl ?_;clear H;intro a H;refine bE mM 0 (vs:=[_,_,_,_,_,_,_]) _ H wn rfl rfl rfl rfl rfl rfl rfl rfl ?_;clear H;intro w H;dsimp only [List.set,setRow] at H;refine aH ⟨rfl,?_⟩;refine K2 _ _ ?_;clear K2;refine bZ ?_;refine (leave1 H results102 (.cons (zR mM (cs:=[_,_,_,_,_,_,_]) H rfl rfl (H.hp.dZ 0 rfl rfl)) .nil) ?_).1;exact H.rt ⟨_,rfl,aX.Vj Jd wL⟩
theorem ZI {n:Nat} (ih:BD n) (hn:n≤4294967296) {G:GH} {w0:World} (x:bR) (hz:cu x.dat < n+1):Dt (.func (.func 102) #[] #[]) w0 G x.dat:=by
 intro G1 w1 cs hm1 hG1 hr;have h:=ZJ ih hn _ _ hG1 x cs hr hz;have h2:=lV (P:=prog) (caps:=[]) (args:=[.agg cs.toArray]) aap h;exact h2
theorem ZO {n:Nat} (ih:BD n) (hn:n≤4294967296) (G:GH) (w0:World) (hG:Hold G w0) (x:bS) (cs:List aj) (hv:aX G x.dat cs) (hz:cu x.dat < n+1) :
  Calls prog 67 #[.agg cs.toArray] w0 (bD w0 G fun u G'=>∃ cs',u=.agg cs'.toArray∧aX G' x.dat cs'):=by
 have he:=Ah x;have hl:=Kl x.cells;obtain ⟨pA,pn,pc,dA,dn,dc,yA,yn,yc,fA,fn,fc,rfl,hh,hf⟩:=hv.row;refine eN [(0,_)] func67 rfl ntmps67 rfl rfl hG ?_;intro a H;refine dz (fun _ K1=>?_);refine fC (cs:=[_,_,_,_,_,_]) H wn rfl rfl rfl ?_;clear H;intro b1 a w hb1 H;refine eX kS H wn rfl ?_;clear H;intro b2 a w hb2 H;refine K1 _ _ ?_;clear K1;refine bg (fun _ K2=>?_)
 have iG:∀ (dB:Nat) (v:aj) (G G':GH),(∀ k o,G k=some o→G' k=some o)→(fun (dB:Nat) (v:aj) (G:GH)=>match dB with|0=>v=(aJ b1 0)|1=>v=.agg #[.slice pA pn pc,vi x.head.marks.ins,vi x.head.marks.move,.slice dA dn dc,.slice yA yn yc]|2=>∃ p d l,v=.agg #[p,vi x.head.marks.ins,vi x.head.marks.move,d,l]∧jm G x.head p d l|3=>v=(aJ b1 5)|4=>v=.slice fA fn fc|5=>av G (.sl 7 (x.cells.map bR.dat)) v|_=>True) dB v G→(fun (dB:Nat) (v:aj) (G:GH)=>match dB with|0=>v=(aJ b1 0)|1=>v=.agg #[.slice pA pn pc,vi x.head.marks.ins,vi x.head.marks.move,.slice dA dn dc,.slice yA yn yc]|2=>∃ p d l,v=.agg #[p,vi x.head.marks.ins,vi x.head.marks.move,d,l]∧jm G x.head p d l|3=>v=(aJ b1 5)|4=>v=.slice fA fn fc|5=>av G (.sl 7 (x.cells.map bR.dat)) v|_=>True) dB v G':=by
  intro dB v G G' hm h
  match dB,h with
  | 0,h=>exact h
  | 1,h=>exact h
  | 2,h=>exact let ⟨p,d,l,h1,h2⟩:=h;⟨p,d,l,h1,h2.mono hm⟩
  | 3,h=>exact h
  | 4,h=>exact h
  | 5,h=>exact av.mono hm h
  | 6,h=>exact trivial
  | 7,h=>exact trivial
  | _+8,h=>exact trivial
 refine DT (hmx) [[],[0],[0,1],[],[3],(ra 0 5),(ra 0 6),(ra 0 7)] [6,7] (by kernel_rfl) (by kernel_rfl) (fun (dB:Nat) (v:aj) (G:GH)=>match dB with|0=>v=(aJ b1 0)|1=>v=.agg #[.slice pA pn pc,vi x.head.marks.ins,vi x.head.marks.move,.slice dA dn dc,.slice yA yn yc]|2=>∃ p d l,v=.agg #[p,vi x.head.marks.ins,vi x.head.marks.move,d,l]∧jm G x.head p d l|3=>v=(aJ b1 5)|4=>v=.slice fA fn fc|5=>av G (.sl 7 (x.cells.map bR.dat)) v|_=>True) iG H ?_ ?_
 ·clear H;refine aB ?_ ?_ ?_ ?_ (aB ?_ ?_ (bH rfl) (bH rfl) bW)
  ·refine gN [] rfl trivial (by kernel_rfl) iG rfl rfl ?_;intro dQ a w G1 hG HT H fin;exact kH H (Rf SY rfl fun _ H=>fin H iJ rfl)
  ·refine gN [(0,3,_)] rfl ⟨fun _ _ h=>h,aF⟩ (by kernel_rfl) iG rfl rfl ?_;intro dQ a w G1 hG HT H fin;refine bJ pV (cs:=[_,_,_,_,_]) H wn rfl rfl (H.hp.dZ 1 rfl rfl) rfl ?_;clear H;intro a H;exact fin H iJ rfl
  ·refine gN [(1,4,_)] rfl ⟨fun _ _ h=>h,aF⟩ (by kernel_rfl) iG rfl rfl ?_;intro dQ a w G1 hG HT H fin;refine s_call Iz H wn rfl (Iq _ _ H.ro x.head _ _ _ _ _ _ _ _ _ (hh.mono hG) (by omega)) rfl ?_;clear H;rintro v5 G5 a w vF AQ H;exact fin H AQ (vF)
  ·refine gN [] rfl trivial (by kernel_rfl) iG rfl rfl ?_;intro dQ a w G1 hG HT H fin;exact kH H (Rf zk rfl fun _ H=>fin H iJ rfl)
  ·refine gN [(3,6,_)] rfl ⟨fun _ _ h=>h,aF⟩ (by kernel_rfl) iG rfl rfl ?_;intro dQ a w G1 hG HT H fin;exact kH H (Ro Ad 1 rfl fun _ H=>fin H iJ rfl)
  refine gN [(4,7,_)] rfl ⟨fun _ _ h=>h,aF⟩ (by kernel_rfl) iG rfl rfl ?_;intro dQ a w G1 hG HT H fin;refine s_call aao H wn rfl (aak _ _ H.ro x.cells _ _ (hf.mono hG) (by omega) (fun y hy=>ZI ih hn y (by have:=ajk hy;omega))) rfl ?_;clear H;rintro v8 G8 a w wM qJ H;exact fin H qJ (wM)
 clear H;intro a w G mH H hv;obtain ⟨u5,ND,vF⟩:=hv 2 5 (by decide) rfl;(try dsimp only at vF);obtain ⟨p5,d5,l5,rfl,zH⟩:=vF;obtain ⟨a1,a2,a3,rfl⟩:=zH.props.form;obtain ⟨a4,a5,a6,rfl⟩:=zH.bX.form;obtain ⟨a7,a8,a9,rfl⟩:=zH.layers.form;have H:=H.kG ND;obtain ⟨u8,NG,wM⟩:=hv 5 8 (by decide) rfl;(try dsimp only at wM);obtain ⟨A8,n8,c8,rfl⟩:=wM.form;have H:=H.kG NG;clear hv;refine jZ aip [_,_,_,_,_,_] H wn rfl rfl rfl rfl ?_;clear H;intro a H;refine bE kS 0 (vs:=[_,_,_,_,_,_]) _ H wn rfl rfl rfl rfl rfl rfl rfl rfl ?_;clear H;intro w H;dsimp only [List.set,setRow] at H;refine aH ⟨rfl,?_⟩;refine K2 _ _ ?_;clear K2;refine bZ ?_;refine (leave1 H results67 (.cons (zR kS (cs:=[_,_,_,_,_,_]) H rfl rfl (H.hp.dZ 0 rfl rfl)) .nil) ?_).1;exact H.rt ⟨_,rfl,aX.Vk zH wM⟩
theorem ZN {n:Nat} (ih:BD n) (hn:n≤4294967296) {G:GH} {w0:World} (x:bS) (hz:cu x.dat < n+1):Dt (.func (.func 67) #[] #[]) w0 G x.dat:=by
 intro G1 w1 cs hm1 hG1 hr;have h:=ZO ih hn _ _ hG1 x cs hr hz;have h2:=lV (P:=prog) (caps:=[]) (args:=[.agg cs.toArray]) abI h;exact h2
theorem ZH {n:Nat} (ih:BD n) (hn:n≤4294967296) (G:GH) (w0:World) (hG:Hold G w0) (x:aA) (cs:List aj) (hv:aX G x.dat cs) (hz:cu x.dat < n+1) :
  Calls prog 64 #[.agg cs.toArray] w0 (bD w0 G fun u G'=>∃ cs',u=.agg cs'.toArray∧aX G' x.dat cs'):=by
 have he:=oU x;have hl:=Ko x.rows;obtain ⟨pA,pn,pc,dA,dn,dc,yA,yn,yc,fA,fn,fc,rA,rn,rc,rfl,hh,hf,hr⟩:=hv.item;refine eN [(0,_)] func64 rfl ntmps64 rfl rfl hG ?_;intro a H;refine dz (fun _ K1=>?_);refine fC (cs:=[_,_,_,_,_,_,_,_,_,_,_]) H wn rfl rfl rfl ?_;clear H;intro b1 a w hb1 H;refine eX dL H wn rfl ?_;clear H;intro b2 a w hb2 H;refine K1 _ _ ?_;clear K1;refine bg (fun _ K2=>?_)
 have iG:∀ (dB:Nat) (v:aj) (G G':GH),(∀ k o,G k=some o→G' k=some o)→(fun (dB:Nat) (v:aj) (G:GH)=>match dB with|0=>v=(aJ b1 4)|1=>v=.agg #[.slice pA pn pc,vi x.head.marks.ins,vi x.head.marks.move,.slice dA dn dc,.slice yA yn yc]|2=>∃ p d l,v=.agg #[p,vi x.head.marks.ins,vi x.head.marks.move,d,l]∧jm G x.head p d l|3=>v=(aJ b1 9)|4=>v=.slice fA fn fc|5=>av G (.sl 11 (x.flow.map aA.dat)) v|6=>v=(aJ b1 10)|7=>v=.slice rA rn rc|8=>av G (.sl 6 (x.rows.map bS.dat)) v|9=>v=(aJ b1 4)|_=>True) dB v G→(fun (dB:Nat) (v:aj) (G:GH)=>match dB with|0=>v=(aJ b1 4)|1=>v=.agg #[.slice pA pn pc,vi x.head.marks.ins,vi x.head.marks.move,.slice dA dn dc,.slice yA yn yc]|2=>∃ p d l,v=.agg #[p,vi x.head.marks.ins,vi x.head.marks.move,d,l]∧jm G x.head p d l|3=>v=(aJ b1 9)|4=>v=.slice fA fn fc|5=>av G (.sl 11 (x.flow.map aA.dat)) v|6=>v=(aJ b1 10)|7=>v=.slice rA rn rc|8=>av G (.sl 6 (x.rows.map bS.dat)) v|9=>v=(aJ b1 4)|_=>True) dB v G':=by
  intro dB v G G' hm h
  match dB,h with
  | 0,h=>exact h
  | 1,h=>exact h
  | 2,h=>exact let ⟨p,d,l,h1,h2⟩:=h;⟨p,d,l,h1,h2.mono hm⟩
  | 3,h=>exact h
  | 4,h=>exact h
  | 5,h=>exact av.mono hm h
  | 6,h=>exact h
  | 7,h=>exact h
  | 8,h=>exact av.mono hm h
  | 9,h=>exact h
  | 10,h=>exact trivial
  | 11,h=>exact trivial
  | 12,h=>exact trivial
  | 13,h=>exact trivial
  | 14,h=>exact trivial
  | _+15,h=>exact trivial
 refine DT (hmx) [[],[0],[0,1],[],[3],(ra 0 5),[],[6],(ra 0 8),[0,1,2,3,4,6,7],(ra 0 10),(ra 0 11),(ra 0 12),(ra 0 13),(ra 0 14)] (ra 10 5) (by kernel_rfl) (by kernel_rfl) (fun (dB:Nat) (v:aj) (G:GH)=>match dB with|0=>v=(aJ b1 4)|1=>v=.agg #[.slice pA pn pc,vi x.head.marks.ins,vi x.head.marks.move,.slice dA dn dc,.slice yA yn yc]|2=>∃ p d l,v=.agg #[p,vi x.head.marks.ins,vi x.head.marks.move,d,l]∧jm G x.head p d l|3=>v=(aJ b1 9)|4=>v=.slice fA fn fc|5=>av G (.sl 11 (x.flow.map aA.dat)) v|6=>v=(aJ b1 10)|7=>v=.slice rA rn rc|8=>av G (.sl 6 (x.rows.map bS.dat)) v|9=>v=(aJ b1 4)|_=>True) iG H ?_ ?_
 ·clear H;refine aB ?_ ?_ ?_ ?_ (aB ?_ ?_ ?_ ?_ (aB ?_ ?_ (bH rfl) (bH rfl) (aW (bH rfl) (aW (bH rfl) (aW (bH rfl) bW)))))
  ·refine gN [] rfl trivial (by kernel_rfl) iG rfl rfl ?_;intro dQ a w G1 hG HT H fin;exact kH H (Rf Aw rfl fun _ H=>fin H iJ rfl)
  ·refine gN [(0,3,_)] rfl ⟨fun _ _ h=>h,aF⟩ (by kernel_rfl) iG rfl rfl ?_;intro dQ a w G1 hG HT H fin;refine bJ pV (cs:=[_,_,_,_,_]) H wn rfl rfl (H.hp.dZ 1 rfl rfl) rfl ?_;clear H;intro a H;exact fin H iJ rfl
  ·refine gN [(1,4,_)] rfl ⟨fun _ _ h=>h,aF⟩ (by kernel_rfl) iG rfl rfl ?_;intro dQ a w G1 hG HT H fin;refine s_call Iz H wn rfl (Iq _ _ H.ro x.head _ _ _ _ _ _ _ _ _ (hh.mono hG) (by omega)) rfl ?_;clear H;rintro v5 G5 a w vF AQ H;exact fin H AQ (vF)
  ·refine gN [] rfl trivial (by kernel_rfl) iG rfl rfl ?_;intro dQ a w G1 hG HT H fin;exact kH H (Rf ze rfl fun _ H=>fin H iJ rfl)
  ·refine gN [(3,6,_)] rfl ⟨fun _ _ h=>h,aF⟩ (by kernel_rfl) iG rfl rfl ?_;intro dQ a w G1 hG HT H fin;exact kH H (Ro iH 1 rfl fun _ H=>fin H iJ rfl)
  ·refine gN [(4,7,_)] rfl ⟨fun _ _ h=>h,aF⟩ (by kernel_rfl) iG rfl rfl ?_;intro dQ a w G1 hG HT H fin;refine s_call LM H wn rfl (ih _ _ H.ro x.flow _ (hf.mono hG) (by omega)) rfl ?_;clear H;rintro v8 G8 a w wM qJ H;exact fin H qJ (wM)
  ·refine gN [] rfl trivial (by kernel_rfl) iG rfl rfl ?_;intro dQ a w G1 hG HT H fin;exact kH H (Rf uw rfl fun _ H=>fin H iJ rfl)
  ·refine gN [(6,9,_)] rfl ⟨fun _ _ h=>h,aF⟩ (by kernel_rfl) iG rfl rfl ?_;intro dQ a w G1 hG HT H fin;exact kH H (Ro uQ 1 rfl fun _ H=>fin H iJ rfl)
  ·refine gN [(7,10,_)] rfl ⟨fun _ _ h=>h,aF⟩ (by kernel_rfl) iG rfl rfl ?_;intro dQ a w G1 hG HT H fin;refine s_call Sj H wn rfl (RS _ _ H.ro x.rows _ _ (hr.mono hG) (by omega) (fun y hy=>ZN ih hn y (by have:=ajp hy;omega))) rfl ?_;clear H;rintro v11 vU a w Gc jv H;exact fin H jv (Gc)
  refine gN [] rfl trivial (by kernel_rfl) iG rfl rfl ?_;intro dQ a w G1 hG HT H fin;exact kH H (Rf Aw rfl fun _ H=>fin H iJ rfl)
 clear H;intro a w G mH H hv;obtain ⟨u5,ND,vF⟩:=hv 2 5 (by decide) rfl;(try dsimp only at vF);obtain ⟨p5,d5,l5,rfl,zH⟩:=vF;obtain ⟨a1,a2,a3,rfl⟩:=zH.props.form;obtain ⟨a4,a5,a6,rfl⟩:=zH.bX.form;obtain ⟨a7,a8,a9,rfl⟩:=zH.layers.form;have H:=H.kG ND;obtain ⟨u8,NG,wM⟩:=hv 5 8 (by decide) rfl;(try dsimp only at wM);obtain ⟨A8,n8,c8,rfl⟩:=wM.form;have H:=H.kG NG;obtain ⟨u11,aeW,Gc⟩:=hv 8 11 (by decide) rfl;(try dsimp only at Gc);obtain ⟨A11,n11,c11,rfl⟩:=Gc.form;have H:=H.kG aeW;have H:=H.aS (hv 9 12 rfl rfl) rfl;clear hv;refine bE pV 1 (vs:=[_,_,_,_,_]) _ H wn rfl rfl rfl rfl rfl rfl rfl rfl ?_;clear H;intro w H;dsimp only [List.set,setRow] at H;refine kH H (Rf ze rfl ?_);clear H;intro a H;refine bE iH 1 (vs:=[_]) _ H wn rfl rfl rfl rfl rfl rfl rfl rfl ?_;clear H;intro w H;dsimp only [List.set,setRow] at H;refine kH H (Rf uw rfl ?_);clear H;intro a H;refine bE uQ 1 (vs:=[_]) _ H wn rfl rfl rfl rfl rfl rfl rfl rfl ?_;clear H;intro w H;dsimp only [List.set,setRow] at H;refine aH ⟨rfl,?_⟩;refine K2 _ _ ?_;clear K2;refine dz (fun _ K3=>?_);refine bJ dL (cs:=[_,_,_,_,_,_,_,_,_,_,_]) H wn rfl rfl (H.hp.dZ 1 rfl rfl) rfl ?_;clear H;intro a H;refine bE dL 0 (vs:=[_,_,_,_,_,_,_,_,_,_,_]) _ H wn rfl rfl rfl rfl rfl rfl rfl rfl ?_;clear H;intro w H;dsimp only [List.set,setRow] at H;refine K3 _ _ ?_;clear K3;refine bZ ?_;refine (leave1 H results64 (.cons (zR dL (cs:=[_,_,_,_,_,_,_,_,_,_,_]) H rfl rfl (H.hp.dZ 0 rfl rfl)) .nil) ?_).1;exact H.rt ⟨_,rfl,aX.mkItem zH wM Gc⟩
theorem ZG {n:Nat} (ih:BD n) (hn:n≤4294967296) {G:GH} {w0:World} (x:aA) (hz:cu x.dat < n+1):Dt (.func (.func 64) #[] #[]) w0 G x.dat:=by
 intro G1 w1 cs hm1 hG1 hr;have h:=ZH ih hn _ _ hG1 x cs hr hz;have h2:=lV (P:=prog) (caps:=[]) (args:=[.agg cs.toArray]) abH h;exact h2
theorem Ru:∀ n:Nat,n≤4294967297→BD n
 | 0,_=>fun _ _ _ _ _ _ h=>absurd h (by omega)
 | n+1,hn=>by
  intro G w0 hG l v hv hz;have ih:=Ru n (by omega);have hl:=Dr l;refine eN [(0,_)] func40 rfl ntmps40 rfl rfl hG ?_;intro a H;refine kP H (SR fun _ K1=>ak K1 rfl (SR fun _ K2=>Rm rfl ?_));clear H K1;intro a H;refine s_call abG H wn rfl (aal _ _ H.ro l _ _ hv (by omega) (fun y hy=>ZG ih (by omega) y (by have:=Km hy;omega))) rfl ?_;clear H;rintro v4 G4 a w hp4 vE H;exact kH H (ak K2 rfl (LR results40 rfl fun H=>H.rt hp4))
theorem ZP (G:GH) (w0:World) (hG:Hold G w0) (l:List aA) (v:aj) (hv:av G (.sl 11 (l.map aA.dat)) v) (hz:bA l≤4294967296) :
  Calls prog 40 #[v] w0 (bD w0 G fun u G'=>av G' (.sl 11 (l.map aA.dat)) u):=Ru 4294967297 (by omega) G w0 hG l v hv (by omega)
end
section
open Go.RowKit
section
variable {P:Program} {N:Nat} {D:List Deferred} {w0 w w':World} {F:Nat→Prop} {G0 G G':GH} {L L' Li Lo:OL} {T:List (Nat × aj)} {a a':Act} {Q:Exit→Act→World→Prop}
theorem St.cast (h:St N D w0 F G0 G L T a w) (e:L=L'):St N D w0 F G0 G L' T a w:=e ▸ h
theorem St.assoc {A B C:OL} (h:St N D w0 F G0 G ((A++B)++C) T a w):St N D w0 F G0 G (A++(B++C)) T a w:=h.cast (lU _ _ _)
theorem St.un {A B C:OL} (h:St N D w0 F G0 G (A++(B++C)) T a w):St N D w0 F G0 G ((A++B)++C) T a w:=h.cast (lU _ _ _).symm
theorem St.Vt {A B:OL} (h:St N D w0 F G0 G (A++B) T a w):St N D w0 F G0 G (A++(B++[])) T a w:=h.cast (by rw [nO])
theorem Q9 {ι κ:Type} {Lc:OL} {wu:Operand} {ps:List Nat} {assign body:Code} {gf:FuncId} {caps:List aj} {xs:List AP} {Gi:GH}
  (Lv:Nat→ι→OL) (Lt:Nat→ι→OL) (inv:Nat→ι→GH→Prop) (cx:κ→Code) (Lx BM:κ→OL) (wQ:κ→GH→Prop) (i0:ι)
  (H:St N D w0 F G0 G (Lc++Lv 0 i0++Lt 0 i0) T a w) (hg:ev T wu=some (.func (.func gf) #[] caps.toArray)) (en:∀ args w,(callFunc gf args).run P w=.ok (.enter gf args) w) (hit:Iter P Gi (.func (.func gf) #[] caps.toArray) xs) (hGi:∀ b o,Gi b=some o→G b=some o)
  (hps:ps.all (Nat.blt · N)=true) (hlen:∀ k args g,tQ xs k args g→args.length=ps.length) (hinv:∀ k i (G G':GH),(∀ b o,G b=some o→G' b=some o)→inv k i G→inv k i G') (Nk:∀ x (G G':GH),(∀ b o,G b=some o→G' b=some o)→wQ x G→wQ x G') (h0:inv 0 i0 G)
  (round:∀ (l:Nat) (Bg xH:Obj) (bk:OL) (k:Nat) (args:List aj) (i:ι) (G1:GH) (w1:World) (F1:Nat→Prop) (B1:Code→Exit→Act→World→Prop) (a1:Act),tQ xs k args G1→(∀ b o,G b=some o→G1 b=some o)→inv k i G1 →
   (∀ T' G2 L2 a2 w2 c,St N [] w1 F1 G1 G2 ((l,Bg) :: L2) T' a2 w2→(∀ w3,St N [] w1 F1 G1 G2 ((l,xH) :: L2) T' a2 w3→WP (some l) P c (B1 c) a2 w3)→Exit.then (fun a2 w2=>∃ w3,(Instr.beginRound l).run P w2=.ok () w3∧c.wpIn (FW (some l)) 0 P (B1 c) a2 w3) (fun _ _ _=>False) .normal a2 w2) →
   (∀ i' T' G2 a2 w2 c,St N [] w1 F1 G1 G2 ((l,xH) :: (Lc++Lv (k+1) i'++(bk++Lt (k+1) i'))) T' a2 w2→inv (k+1) i' G2→B1 c .normal a2 w2) →
   (∀ x T' G2 a2 w2 c,St N [] w1 F1 G1 G2 ((l,xH) :: (Lc++Lx x++(bk++BM x))) T' a2 w2→wQ x G2→(cx x=.ret→B1 c .ret a2 w2)∧∀ n,cx x=.exit n→B1 c (.exit n) a2 w2) →
   St N [] w1 F1 G1 G1 ((l,Bg) :: (Lc++Lv k i++(bk++Lt k i))) (vX ps args T) a1 w1 →
   WP (some l) P assign (Exit.then (fun a2 w2=>∃ w3,(Instr.beginRound l).run P w2=.ok () w3∧body.wpIn (FW (some l)) 0 P (B1 body) a2 w3) (fun _ _ _=>False)) a1 w1)
  (hdone:∀ Dk i G1 a1 w1,(∀ b o,G b=some o→G1 b=some o)→inv xs.length i G1→St N ({ target:=.collected Dk,args:=#[] } :: D) w0 F G0 G1 ((Dk,.deferred (some [])) :: (Lc++Lv xs.length i++Lt xs.length i)) T a1 w1→Q .normal a1 w1)
  (hstop:∀ Dk x G1 a1 w1,(∀ b o,G b=some o→G1 b=some o)→wQ x G1→St N ({ target:=.collected Dk,args:=#[] } :: D) w0 F G0 G1 ((Dk,.deferred (some [])) :: (Lc++Lx x++BM x)) T a1 w1→WP none P (cx x) Q a1 w1) :
  WP none P (.rangeFunc wu ps.toArray assign body) Q a w:=by
 refine Za (J:=fun k g L=>∃ i,L=Lc++Lv k i++Lt k i∧inv k i g) (Jx:=fun c g L=>∃ x,c=cx x∧L=Lc++Lx x++BM x∧wQ x g) H hg en hit hGi hps hlen (fun k G G' L hm ⟨i,e,h⟩=>⟨i,e,hinv k i G G' hm h⟩) (fun c G G' L hm ⟨x,e1,e2,h⟩=>⟨x,e1,e2,Nk x G G' hm h⟩) ⟨i0,rfl,h0⟩ ?_ ?_ ?_
 ·rintro l q bk k args G1 L1 w1 a1 hk hm ⟨i,rfl,hi⟩ H1
  have pm:∀ A B:OL,(bk++(A++B)).Perm (A++(bk++B)):=fun A B=>by
   rw [← lU,← lU]
   exact List.Perm.append_right B xD
  refine round l (q.at .ready none) (q.at .busy none) bk k args i G1 w1 _ (fun _=>roundPost P l _) a1 hk hm hi ?_ ?_ ?_ (H1.perm (List.Perm.cons _ (pm _ _)))
  ·intro T' G2 L2 a2 w2 c H2 h
   exact Q6 H2 h
  ·intro i' T' G2 a2 w2 c H2 h2
   exact Ey none (H2.perm (List.Perm.cons _ (pm _ _).symm)) ⟨_,rfl,i',rfl,h2⟩
  ·intro x T' G2 a2 w2 c H2 h2
   have H3:=H2.perm (List.Perm.cons _ (pm _ _).symm)
   refine ⟨fun e=>?_,fun n e=>?_⟩
   ·exact Ey (some .ret) H3 ⟨_,_,rfl,x,e.symm,rfl,h2⟩
   ·exact Ey (some (.exit n)) H3 ⟨_,_,rfl,x,e.symm,rfl,h2⟩
 ·rintro Dk G1 L1 a1 w1 hm ⟨i,rfl,hi⟩ H1
  exact hdone Dk i G1 a1 w1 hm hi H1
 ·rintro Dk c G1 L1 a1 w1 hm ⟨x,rfl,rfl,hx⟩ H1
  exact hstop Dk x G1 a1 w1 hm hx H1
def N7 (ds:List Nat):List Deferred:=ds.map fun b=>{ target:=.collected b,args:=#[] }
def CW (ds:List Nat):OL:=ds.map fun b=>(b,.deferred (some []))
theorem Y9 {r:Option Nat} {ι:Type} {c:Code} {Tc:List (Nat × aj)} {Lc:List (Nat × Obj)} (Dv:ι→List Deferred) (Tv:ι→List (Nat × aj)) (Lv:ι→List (Nat × Obj)) (Gv:ι→GH) (Pr:ι→Prop) (m:ι→Nat) (i0:ι)
  (H:St N (Dv i0) w0 F G0 (Gv i0) (Lc++Lv i0) (Tv i0++Tc) a w) (hP:Pr i0)
  (round:∀ i a w,Pr i→St N (Dv i) w0 F G0 (Gv i) (Lc++Lv i) (Tv i++Tc) a w →
   WP r P c (Exit.then (fun a' w'=>∃ i',(St N (Dv i') w0 F G0 (Gv i') (Lc++Lv i') (Tv i'++Tc) a' w'∧Pr i')∧m i' < m i) Q) a w):WP r P (.loop c) Q a w :=
 Q8 (fun i a w=>St N (Dv i) w0 F G0 (Gv i) (Lc++Lv i) (Tv i++Tc) a w∧Pr i) m i0 ⟨H,hP⟩ fun i a w hI=>round i a w hI.2 hI.1
theorem afS {ι:Type} {Dv:ι→List Deferred} {Tc:List (Nat × aj)} {Lc:List (Nat × Obj)} {Tv:ι→List (Nat × aj)} {Lv:ι→List (Nat × Obj)} {Gv:ι→GH} {Pr:ι→Prop} {m:ι→Nat} {i:ι} (i':ι)
  (H:St N (Dv i') w0 F G0 (Gv i') (Lc++Lv i') (Tv i'++Tc) a w) (hP:Pr i') (hm:m i' < m i) :
  ∃ i',(St N (Dv i') w0 F G0 (Gv i') (Lc++Lv i') (Tv i'++Tc) a w∧Pr i')∧m i' < m i:=⟨i',⟨H,hP⟩,hm⟩
theorem NU {fn:Func} {R:Ending→World→Prop} {Lh Lt:OL}:∀ (ds:List Nat) {a:Act} {w:World},St N (N7 ds) w0 F G0 G (Lh++(CW ds++Lt)) T a w →
  (∀ a' w',St N [] w0 F G0 G (Lh++Lt) T a' w'→bodyPostM (FW none) 0 P fn R .ret a' w')→bodyPostM (FW none) 0 P fn R .ret a w∧bodyPostM (FW none) 0 P fn R .normal a w
 | [],a,w,H,k=>⟨k a w H,k a w H⟩
 | b :: ds,a,w,H,k=>by
  refine Gy (b:=b) (D:=N7 ds) H Lh.length (by rw [rD (bK _),Nat.sub_self];rfl) fun a' w' H'=>?_
  refine (NU ds (Lh:=Lh) (Lt:=Lt) (H'.cast ?_) k).1
  rw [List.eraseIdx_append_of_length_le (bK _),Nat.sub_self];rfl
end
end
section
open Go.RowKit
def n1 (x:aA):Nat:=if qz x=0 then fD x else 0
theorem afJ (x:aA):xX [x]=n1 x:=by
 simp only [xX,uj,n1,qV,List.all_cons,List.all_nil,Bool.and_true,ow]
 split <;> simp_all
theorem av.len {G:GH} {sz:Nat} {rows:List (List Dat)} {A:Option Addr} {n c:Nat} (h:av G (.sl sz rows) (.slice A n c)):n=rows.length:=h.cells.1
theorem av.at_ {G:GH} {sz:Nat} {rows:List (List Dat)} {A:Option Addr} {n c:Nat} (h:av G (.sl sz rows) (.slice A n c)):∀ k r,rows[k]?=some r→∃ b o cs,A=some ⟨b,o,none⟩∧cs.length=sz∧(∀ j u,cs[j]?=some u→aI G b (o+k*sz+j)=some u)∧aX G r cs:=by
 obtain ⟨A2,c2,e,_,_,hg⟩:=h.slice
 cases e;exact hg
theorem JK {G:GH} {l:List bS} {A:Option Addr} {k:Nat} (hk:k < l.length) (hg:∀ k r,(l.map bS.dat)[k]?=some r→∃ b o cs,A=some ⟨b,o,none⟩∧cs.length=6∧(∀ j u,cs[j]?=some u→aI G b (o+k*6+j)=some u)∧aX G r cs) :
  ∃ b o pA pn pc dA dn dc yA yn yc cA cn cc,A=some ⟨b,o,none⟩∧(∀ j u,[.slice pA pn pc,vi l[k].head.marks.ins,vi l[k].head.marks.move,.slice dA dn dc,.slice yA yn yc,.slice cA cn cc][j]?=some u→aI G b (o+k*6+j)=some u) ∧
   jm G l[k].head (.slice pA pn pc) (.slice dA dn dc) (.slice yA yn yc)∧av G (.sl 7 (l[k].cells.map bR.dat)) (.slice cA cn cc):=by
 obtain ⟨b,o,cs,h1,h2,h3,h4⟩:=hg k l[k].dat (by simp [hk]);obtain ⟨pA,pn,pc,dA,dn,dc,yA,yn,yc,cA,cn,cc,rfl,h5,h6⟩:=h4.row;exact ⟨b,o,pA,pn,pc,dA,dn,dc,yA,yn,yc,cA,cn,cc,h1,h3,h5,h6⟩
theorem Ik {G:GH} {l:List bR} {A:Option Addr} {k:Nat} (hk:k < l.length) (hg:∀ k r,(l.map bR.dat)[k]?=some r→∃ b o cs,A=some ⟨b,o,none⟩∧cs.length=7∧(∀ j u,cs[j]?=some u→aI G b (o+k*7+j)=some u)∧aX G r cs) :
  ∃ b o pA pn pc dA dn dc yA yn yc fA fn fc,A=some ⟨b,o,none⟩∧(∀ j u,[vi l[k].id,.slice pA pn pc,vi l[k].head.marks.ins,vi l[k].head.marks.move,.slice dA dn dc,.slice yA yn yc,.slice fA fn fc][j]?=some u→aI G b (o+k*7+j)=some u) ∧
   jm G l[k].head (.slice pA pn pc) (.slice dA dn dc) (.slice yA yn yc)∧av G (.sl 11 (l[k].flow.map aA.dat)) (.slice fA fn fc):=by
 obtain ⟨b,o,cs,h1,h2,h3,h4⟩:=hg k l[k].dat (by simp [hk]);obtain ⟨pA,pn,pc,dA,dn,dc,yA,yn,yc,fA,fn,fc,rfl,h5,h6⟩:=h4.cell;exact ⟨b,o,pA,pn,pc,dA,dn,dc,yA,yn,yc,fA,fn,fc,h1,h3,h5,h6⟩
end
section
open Go.RowKit
structure nA where
 (f p d y r s1 s2 s3 s4:Option Addr × Nat × Nat)
 (ins move:Int)
abbrev fq (x:Option Addr × Nat × Nat):aj:=.slice x.1 x.2.1 x.2.2
abbrev nA.cells (D:nA):List aj:=[fq D.f,fq D.p,vi D.ins,vi D.move,fq D.d,fq D.y,fq D.r,fq D.s1,fq D.s2,fq D.s3,fq D.s4]
abbrev nA.val (D:nA):aj:=.agg D.cells.toArray
end
section
open Go.RowKit
theorem LV:∀ args w,(callFunc 97 args).run prog w=.ok (.enter 97 args) w:=enters func97 rfl (by kernel_rfl)
theorem J3:Ty prog 106 3 16 [.bool false,.bool false,.int .i64 0] true:=⟨by kernel_rfl,by kernel_rfl⟩
theorem aif:ou prog 108 [(0,1),(1,3)] [.slice none 0 0,.bool false,.bool false,.int .i64 0]:=⟨by kernel_rfl,by kernel_rfl⟩
theorem Ch:bM prog 63 2 2:=⟨by kernel_rfl⟩
theorem FH:bM prog 106 2 2:=⟨by kernel_rfl⟩
theorem Bp:ou prog 106 [(0,1),(1,1),(2,1)] [.bool false,.bool false,.int .i64 0]:=⟨by kernel_rfl,by kernel_rfl⟩
theorem LX:bM prog 106 1 1:=⟨by kernel_rfl⟩
theorem wY:Ty prog 4 1 1 [.bool false] false:=⟨by kernel_rfl,by kernel_rfl⟩
theorem D8:bM prog 38 0 0:=⟨by kernel_rfl⟩
theorem abF:∀ args w,(callFunc 62 args).run prog w=.ok (.enter 62 args) w:=enters func62 rfl (by kernel_rfl)
theorem Sn:∀ args w,(callFunc 96 args).run prog w=.ok (.enter 96 args) w:=enters func96 rfl (by kernel_rfl)
structure lT where
 id:Int
 items:List aA
 body:Bool
 note:Bool
 tables:Int
mutual
def Dp (note:Bool) (t:Int):aA→List lT
 | .mk k _ i _ _ f r=>if k=6 then ⟨i,f,false,true,t⟩ :: jO true t f else if k=7 then uR note t r else []
def jO (note:Bool) (t:Int):List aA→List lT
 | []=>[]
 | x :: l=>Dp note t x++jO note t l
def uR (note:Bool) (t:Int):List bS→List lT
 | []=>[]
 | r :: l=>Dq note t r++uR note t l
def Dq (note:Bool) (t:Int):bS→List lT
 | .mk _ cs=>vR note t cs
def vR (note:Bool) (t:Int):List bR→List lT
 | []=>[]
 | c :: l=>Dn note t c++vR note t l
def Dn (note:Bool) (t:Int):bR→List lT
 | .mk i _ f=>⟨i,f,false,note,t+1⟩ :: jO note (t+1) f
end
theorem aja (note:Bool) (t:Int) (x:aA):Dp note t x=if x.kind=6 then ⟨x.id,x.flow,false,true,t⟩ :: jO true t x.flow else if x.kind=7 then uR note t x.rows else []:=by cases x;rw [Dp];rfl
theorem ajc (note:Bool) (t:Int) (x:bS):Dq note t x=vR note t x.cells:=by cases x;rw [Dq];rfl
theorem aiY (note:Bool) (t:Int) (x:bR):Dn note t x=⟨x.id,x.flow,false,note,t+1⟩ :: jO note (t+1) x.flow:=by cases x;rw [Dn];rfl
def zl (a:lT):AP:=fun args g=>∃ v,args=[vi a.id,.agg #[v,.bool a.body,.bool a.note,vi a.tables]]∧av g (.sl 11 (a.items.map aA.dat)) v
def KN (n:Nat):Prop:=∀ (fv:aj) (Gi:GH) (xs:List AP) (J:Nat→GH→OL→Prop) (Jx:GH→OL→Prop) (G:GH) (L:OL) (w0:World) (j:Nat) (l:List aA) (id:Int) (body note:Bool) (t:Int) (v:aj),
 (∀ b o,Gi b=some o→G b=some o)→ES prog fv Gi xs J Jx→Ak J→DL Jx→J j G L→gL G L w0→av G (.sl 11 (l.map aA.dat)) v→bA l < n→0≤t→t+bA l≤4294967296→(∀ i a,(⟨id,l,body,note,t⟩ :: jO note t l)[i]?=some a→xs[j+i]?=some (zl a)) →
 Calls prog 97 #[vi id,v,.agg #[.bool body,.bool note,vi t],fv] w0 (fZ w0 G L fun u G' L'=>∃ b,u=.bool b∧(b=true→J (j+((jO note t l).length+1)) G' L')∧(b=false→Jx G' L'))
set_option maxHeartbeats 1000000 in
theorem aje {n:Nat} (ih:KN n) (hn:n≤4294967296):KN (n+1):=by
 intro fv Gi xs J Jx G L w0 j0 l id body note t v hGi hcb rO hJx hJ0 hO hv hz ht0 ht1 hx0;obtain ⟨A,c,rfl,hc1,hc2,hg⟩:=hv.slice;rw [bT] at *;have hll:=Dr l;have Nr:Now xs zl J (j0+((jO note t l).length+1)) j0 (⟨id,l,body,note,t⟩ :: jO note t l) G L:=⟨hJ0,hx0,rfl⟩;refine jI (N:=74) (T:=[(0,_),(1,_),(2,_),(3,_)]) func97 rfl ntmps97 rfl rfl hO ?_;intro a H;refine dz (fun _ K1=>?_);refine fC (cs:=[_,_,_]) H wn rfl rfl rfl ?_;clear H;intro b6 a w hb6 H;refine kH H (ak K1 rfl (SQ fun _ K2=>SR fun _ K3=>Rm rfl (Rm rfl (Rm rfl ?_))));clear H K1;intro a H;refine bJ J3 (cs:=[_,_,_]) H wn rfl rfl (H.hp.dZ 0 rfl rfl) rfl ?_;clear H;intro a H;refine jZ aif [_,_,_,_] H wn rfl rfl rfl rfl ?_;clear H;intro a H;refine EB (Li:=[_]) (L:=L) H wn rfl rfl (hcb _ _ _ _ _ ⟨_,Nr.head,_,rfl,hv⟩ hGi Nr.now (Hp.owns (Li:=[_]) H.hp)) rfl ?_;clear H;rintro v20 Dx E8 a w ⟨b20,rfl,hb1,hb2⟩ AY H;refine kH H (Rn rfl (Kz K3 (Cd rfl ?_ ?_))) <;> clear H K3
 ·intro h21 a H
  try have qw:=dT h21
  refine kP H (SR fun _ K4=>ak K4 rfl ?_);clear H K4;intro a H;refine lr H results97 rfl ?_
  first
   | exact H.hp.gJ (L':=E8) (by repeat (first|exact iA _|apply List.Sublist.cons)) ⟨_,rfl,fun e=>(by cases e),fun _=>hb2 (by simpa using h21)⟩
   | exact H.hp.gJ (L':=E9) (by repeat (first|exact iA _|apply List.Sublist.cons)) ⟨_,rfl,fun e=>(by cases e),fun _=>hb4 (by simpa using AJ)⟩
   | exact H.hp.gJ (L':=Fa) (by repeat (first|exact iA _|apply List.Sublist.cons)) ⟨_,rfl,fun e=>(by cases e),fun _=>hb6 (by simpa using uD)⟩
   | exact H.hp.gJ (L':=Lt) (by repeat (first|exact iA _|apply List.Sublist.cons)) ⟨_,rfl,fun _=>(by rw [iO (by omega),jO] at dR;have:=dR.len;simp only [List.length_nil,sI] at this;rw [← this];exact dR.now),fun e=>(by cases e)⟩
 intro h21 a H
 try have qw:=dF h21
 refine kP H (Kc K2 (SQ fun _ K5=>SR fun _ K6=>Rm rfl (Rl gQ rfl (Rm rfl (Kz K6 (SB ?_))))));clear H K2 K6;intro a H;skip;refine fH (ι:=Nat × Nat × OL × GH) (Tc:=[(3,_),(6,_),(22,_),(23,_)]) (Lc:=[(_,_)]) (fun gh=>[(24,vi gh.1)]) (fun gh=>[]++gh.2.2.1) (fun gh=>gh.2.2.2) (fun gh=>gh.1≤l.length∧(∀ b o,G b=some o→gh.2.2.2 b=some o)∧Now xs zl J (j0+((jO note t l).length+1)) gh.2.1 (jO note t (l.drop gh.1)) gh.2.2.2 gh.2.2.1) (fun gh=>l.length - gh.1) ((0,j0+1,E8,Dx)) (by exact (H).sub ⟨rfl,rfl,rfl,rfl,rfl,aF⟩) ?_ ?_
 ·exact ⟨by omega,AY,Nr.step (hb1 (by simpa using h21))⟩
 clear H;intro gh a w hI H;obtain ⟨k,j1,Lt,g⟩:=gh;dsimp only at hI H;obtain ⟨hk,hgm,dR⟩:=hI;dsimp only [lca,bq] at H;refine kP H (SR fun _ K7=>Rc rfl (Kz K7 (SQ fun _ K8=>Cd rfl ?_ ?_))) <;> clear H K7
 ·intro kY a H
  try have p25:=dT kY
  have hk2:k < l.length:=by omega
  obtain ⟨b,o,pA,pn,pc,dA,dn,dc,yA,yn,yc,fA,fn,fc,rA,rn,rc,rfl,hrow,hhd,hfl,hrw⟩:=AA hk2 hg;replace hrow:=fun j u hj=>aK hgm (hrow j u hj);have hrn:=hrw.len;rw [bT] at hrn;subst hrn;have hrs:=Ko l[k].rows;have hsz1:=Xw hk2;rw [mV hk2] at dR
  simp only [jO,aja] at dR
  refine kP H (Kc K8 (SQ fun _ K9=>SB (SR fun _ aT=>Ri gQ dL rfl rfl ?_)));clear H K8;intro a H;refine bJ dL (cs:=[_,_,_,_,_,_,_,_,_,_,_]) H wn rfl rfl (fun j v hj=>H.hp.aI (hrow j v hj)) rfl ?_;clear H;intro a H;refine eX dL H wn rfl ?_;clear H;intro b10 a w M6 H;refine bE dL 0 (vs:=[_,_,_,_,_,_,_,_,_,_,_]) _ H wn rfl rfl rfl rfl rfl rfl rfl rfl ?_;clear H;intro w H;dsimp only [List.set,setRow] at H;refine aT _ _ ?_;clear aT;refine kP H (SR fun _ bC=>aV jJ aD 0 rfl rfl (Kz bC (SB (SR fun _ bF=>Rc rfl (ak bF rfl (Cd rfl ?_ ?_)))))) <;> clear H bC bF
  ·intro qh a H
   try have p30:=dT qh
   rw [au p30] at dR;refine kP H (SR fun _ bN=>aV Ch aD 0 rfl rfl (aV ze iH 0 rfl rfl (aV FH aD 1 rfl rfl ?_)));clear H;intro a H;refine jZ Bp [_,_,_] H wn rfl rfl rfl rfl ?_;clear H;intro a H;refine kH H (Rm rfl ?_);clear H;intro a H;refine gK LV (Li:=[_,_]) (L:=Lt) H wn rfl (ih fv Gi xs J Jx _ _ _ j1 l[k].flow l[k].id false true t _ (fun b o h=>hgm b o (hGi b o h)) hcb rO hJx dR.now (Hp.owns (Li:=[_,_]) H.hp) (hfl.mono hgm) (by omega) ht0 (by omega) dR.part) rfl ?_;clear H;rintro v40 P6 E9 a w ⟨b40,rfl,hb3,hb4⟩ Ji H;refine kH H (Rn rfl (Kz bN (Cd rfl ?_ ?_))) <;> clear H bN
   ·intro AJ a H
    try have p41:=dT AJ
    refine kP H (SR fun _ bQ=>ak bQ rfl ?_);clear H bQ;intro a H;refine lr H results97 rfl ?_
    first
     | exact H.hp.gJ (L':=E8) (by repeat (first|exact iA _|apply List.Sublist.cons)) ⟨_,rfl,fun e=>(by cases e),fun _=>hb2 (by simpa using h21)⟩
     | exact H.hp.gJ (L':=E9) (by repeat (first|exact iA _|apply List.Sublist.cons)) ⟨_,rfl,fun e=>(by cases e),fun _=>hb4 (by simpa using AJ)⟩
     | exact H.hp.gJ (L':=Fa) (by repeat (first|exact iA _|apply List.Sublist.cons)) ⟨_,rfl,fun e=>(by cases e),fun _=>hb6 (by simpa using uD)⟩
     | exact H.hp.gJ (L':=Lt) (by repeat (first|exact iA _|apply List.Sublist.cons)) ⟨_,rfl,fun _=>(by rw [iO (by omega),jO] at dR;have:=dR.len;simp only [List.length_nil,sI] at this;rw [← this];exact dR.now),fun e=>(by cases e)⟩
   intro AJ a H
   try have p41:=dF AJ
   refine kP H (Kc K9 (SC (Rd rfl (Rm rfl ?_))));clear H K9;intro a H;refine aH ?_;refine dD ((k+1,j1+((jO true t l[k].flow).length+1),E9,P6)) (by exact (H.dU (Pl:=[_,_]) (dx:=[_]) [1] (by decide) rfl).sub ⟨rfl,rfl,rfl,rfl,rfl,aF⟩) ?_ ?_
   ·(try dsimp only);exact ⟨by omega,fun b o h=>Ji b o (hgm b o h),dR.jump (hb3 (by simpa using AJ))⟩
   first|omega|(dsimp only;omega)
  intro qh a H
  try have p30:=dF qh
  refine kP H (SR fun _ dJ=>Rc rfl (ak dJ rfl (Cd rfl ?_ ?_))) <;> clear H dJ
  ·intro Ck a H
   try have p42:=dT Ck
   rw [ah p30,au p42] at dR;refine kP H (SR fun _ dG=>aV uw uQ 0 rfl rfl (Rl oh rfl (Rm rfl (Kz dG (SB ?_)))));clear H dG;intro a H;skip;refine fH (ι:=Nat × Nat × OL × GH) (Tc:=[(3,_),(6,_),(22,_),(23,_),(24,_),(45,_),(46,_)]) (Lc:=[(_,_),(_,_)]) (fun gh=>[(47,vi gh.1)]) (fun gh=>[]++gh.2.2.1) (fun gh=>gh.2.2.2) (fun gh=>gh.1≤l[k].rows.length∧(∀ b o,G b=some o→gh.2.2.2 b=some o)∧Now xs zl J (j0+((jO note t l).length+1)) gh.2.1 (uR note t (l[k].rows.drop gh.1)++jO note t (l.drop (k+1))) gh.2.2.2 gh.2.2.1) (fun gh=>l[k].rows.length - gh.1) ((0,j1,Lt,g)) (by exact (H).sub ⟨rfl,rfl,rfl,rfl,rfl,rfl,rfl,rfl,aF⟩) ?_ ?_
   ·exact ⟨by omega,hgm,dR⟩
   clear H;intro gh a w hI H;obtain ⟨rk,j3,Lt3,g3⟩:=gh;dsimp only at hI H;obtain ⟨Nw,zG,qN⟩:=hI;dsimp only [lca,bq] at H;refine kP H (SR fun _ dh=>Rc rfl (Kz dh (SQ fun _ dX=>Cd rfl ?_ ?_))) <;> clear H dh
   ·intro h48 a H
    try have p48:=dT h48
    have hk3:rk < l[k].rows.length:=by omega
    obtain ⟨b2,o2,qA,qn,qc,eA,en,ec,zA,zn,zc,cA,cn,cc,rfl,hrow,Cx,hcl⟩:=JK hk3 hrw.at_;replace hrow:=fun j u hj=>aK zG (hrow j u hj);have hcn:=hcl.len;rw [bT] at hcn;subst hcn;have hsz2:=PE hk3;have hcs:=Kl l[k].rows[rk].cells;rw [mV hk3] at qN
    simp only [uR,ajc,lU] at qN
    refine kP H (Kc dX (SQ fun _ gy=>SB (SR fun _ eY=>Ri oh kS rfl rfl ?_)));clear H dX;intro a H;refine bJ kS (cs:=[_,_,_,_,_,_]) H wn rfl rfl (fun j v hj=>H.hp.aI (hrow j v hj)) rfl ?_;clear H;intro a H;refine eX kS H wn rfl ?_;clear H;intro b12 a w AV H;refine bE kS 0 (vs:=[_,_,_,_,_,_]) _ H wn rfl rfl rfl rfl rfl rfl rfl rfl ?_;clear H;intro w H;dsimp only [List.set,setRow] at H;refine eY _ _ ?_;clear eY;refine kP H (SR fun _ gD=>aV zk Ad 0 rfl rfl (Rl rZ rfl (Rm rfl (Kz gD (SB ?_)))));clear H gD;intro a H;skip;refine fH (ι:=Nat × Nat × OL × GH) (Tc:=[(3,_),(6,_),(22,_),(23,_),(24,_),(45,_),(46,_),(47,_),(52,_),(53,_)]) (Lc:=[(_,_),(_,_),(_,_)]) (fun gh=>[(54,vi gh.1)]) (fun gh=>[]++gh.2.2.1) (fun gh=>gh.2.2.2) (fun gh=>gh.1≤l[k].rows[rk].cells.length∧(∀ b o,G b=some o→gh.2.2.2 b=some o)∧Now xs zl J (j0+((jO note t l).length+1)) gh.2.1 (vR note t (l[k].rows[rk].cells.drop gh.1)++(uR note t (l[k].rows.drop (rk+1))++jO note t (l.drop (k+1)))) gh.2.2.2 gh.2.2.1) (fun gh=>l[k].rows[rk].cells.length - gh.1) ((0,j3,Lt3,g3)) (by exact (H).sub ⟨rfl,rfl,rfl,rfl,rfl,rfl,rfl,rfl,rfl,rfl,rfl,aF⟩) ?_ ?_
    ·exact ⟨by omega,zG,qN⟩
    clear H;intro gh a w hI H;obtain ⟨ck,j4,Lt4,g4⟩:=gh;dsimp only at hI H;obtain ⟨hck,F5,rQ⟩:=hI;dsimp only [lca,bq] at H;refine kP H (SR fun _ ig=>Rc rfl (Kz ig (SQ fun _ jF=>Cd rfl ?_ ?_))) <;> clear H ig
    ·intro jL a H
     try have p55:=dT jL
     have hk4:ck < l[k].rows[rk].cells.length:=by omega
     obtain ⟨b3,o3,sA,sn,sc,tA,tn,tc,uA,un,uc,gA,gn,gc,rfl,hrow,hch,hcf⟩:=Ik hk4 hcl.at_;replace hrow:=fun j u hj=>aK F5 (hrow j u hj);have aeU:=PD hk4;rw [mV hk4] at rQ
     simp only [vR,aiY,lU] at rQ
     refine kP H (Kc jF (SQ fun _ iW=>SB (SR fun _ jd=>Ri rZ mM rfl rfl ?_)));clear H jF;intro a H;refine bJ mM (cs:=[_,_,_,_,_,_,_]) H wn rfl rfl (fun j v hj=>H.hp.aI (hrow j v hj)) rfl ?_;clear H;intro a H;refine eX mM H wn rfl ?_;clear H;intro b14 a w FY H;refine bE mM 0 (vs:=[_,_,_,_,_,_,_]) _ H wn rfl rfl rfl rfl rfl rfl rfl rfl ?_;clear H;intro w H;dsimp only [List.set,setRow] at H;refine jd _ _ ?_;clear jd;refine kP H (SR fun _ jP=>aV IU aD 0 rfl rfl (aV FP iH 0 rfl rfl (aV LX wY 3 rfl rfl (aV FH aD 3 rfl rfl (Rd rfl ?_)))));clear H;intro a H;refine jZ Bp [_,_,_] H wn rfl rfl rfl rfl ?_;clear H;intro a H;refine kH H (Rm rfl ?_);clear H;intro a H;refine gK LV (Li:=[_,_,_,_]) (L:=Lt4) H wn rfl (ih fv Gi xs J Jx _ _ _ j4 l[k].rows[rk].cells[ck].flow l[k].rows[rk].cells[ck].id false note (t+1) _ (fun b o h=>F5 b o (hGi b o h)) hcb rO hJx rQ.now (Hp.owns (Li:=[_,_,_,_]) H.hp) (hcf.mono F5) (by omega) (by omega) (by omega) rQ.part) rfl ?_;clear H;rintro v69 Yb Fa a w ⟨b69,rfl,hb5,hb6⟩ aex H;refine kH H (Rn rfl (Kz jP (Cd rfl ?_ ?_))) <;> clear H jP
     ·intro uD a H
      try have p70:=dT uD
      refine kP H (SR fun _ jQ=>ak jQ rfl ?_);clear H jQ;intro a H;refine lr H results97 rfl ?_
      first
       | exact H.hp.gJ (L':=E8) (by repeat (first|exact iA _|apply List.Sublist.cons)) ⟨_,rfl,fun e=>(by cases e),fun _=>hb2 (by simpa using h21)⟩
       | exact H.hp.gJ (L':=E9) (by repeat (first|exact iA _|apply List.Sublist.cons)) ⟨_,rfl,fun e=>(by cases e),fun _=>hb4 (by simpa using AJ)⟩
       | exact H.hp.gJ (L':=Fa) (by repeat (first|exact iA _|apply List.Sublist.cons)) ⟨_,rfl,fun e=>(by cases e),fun _=>hb6 (by simpa using uD)⟩
       | exact H.hp.gJ (L':=Lt) (by repeat (first|exact iA _|apply List.Sublist.cons)) ⟨_,rfl,fun _=>(by rw [iO (by omega),jO] at dR;have:=dR.len;simp only [List.length_nil,sI] at this;rw [← this];exact dR.now),fun e=>(by cases e)⟩
     intro uD a H
     try have p70:=dF uD
     refine kP H (Kc iW (SC (Rd rfl (Rm rfl ?_))));clear H iW;intro a H;refine aH ?_;refine dD ((ck+1,j4+((jO note (t+1) l[k].rows[rk].cells[ck].flow).length+1),Fa,Yb)) (by exact (H.dU (Pl:=[_,_,_,_]) (dx:=[_,_,_]) [1,2,3] (by decide) rfl).sub ⟨rfl,rfl,rfl,rfl,rfl,rfl,rfl,rfl,rfl,rfl,rfl,aF⟩) ?_ ?_
     ·(try dsimp only);exact ⟨by omega,fun b o h=>aex b o (F5 b o h),rQ.jump (hb5 (by simpa using uD))⟩
     first|omega|(dsimp only;omega)
    intro jL a H
    try have p55:=dF jL
    refine dV ?_;refine gy _ _ ?_;clear gy;refine kP H (SC (Rd rfl (Rm rfl ?_)));clear H;intro a H;refine aH ?_;refine dD ((rk+1,j4,Lt4,g4)) (by exact (H.dU (Pl:=[_,_,_]) (dx:=[_,_]) [1,2] (by decide) rfl).sub ⟨rfl,rfl,rfl,rfl,rfl,rfl,rfl,rfl,aF⟩) ?_ ?_
    ·(try dsimp only);exact ⟨by omega,F5,by rw [iO (by omega),vR,nD] at rQ;exact rQ⟩
    first|omega|(dsimp only;omega)
   intro h48 a H
   try have p48:=dF h48
   refine dV ?_;refine K9 _ _ ?_;clear K9;refine kP H (SC (Rd rfl (Rm rfl ?_)));clear H;intro a H;refine aH ?_;refine dD ((k+1,j3,Lt3,g3)) (by exact (H.dU (Pl:=[_,_]) (dx:=[_]) [1] (by decide) rfl).sub ⟨rfl,rfl,rfl,rfl,rfl,aF⟩) ?_ ?_
   ·(try dsimp only);exact ⟨by omega,zG,by rw [iO (by omega),uR,nD] at qN;exact qN⟩
   first|omega|(dsimp only;omega)
  intro Ck a H
  try have p42:=dF Ck
  refine kP H (Kc K9 (SC (Rd rfl (Rm rfl ?_))));clear H K9;intro a H;refine aH ?_;refine dD ((k+1,j1,Lt,g)) (by exact (H.dU (Pl:=[_,_]) (dx:=[_]) [1] (by decide) rfl).sub ⟨rfl,rfl,rfl,rfl,rfl,aF⟩) ?_ ?_
  ·(try dsimp only);exact ⟨by omega,hgm,by rw [ah p30,ah p42,nD] at dR;exact dR⟩
  first|omega|(dsimp only;omega)
 intro kY a H
 try have p25:=dF kY
 refine dV ?_;refine K5 _ _ ?_;clear K5;refine kP H (SR fun _ iL=>ak iL rfl ?_);clear H iL;intro a H;refine lr H results97 rfl ?_
 first
  | exact H.hp.gJ (L':=E8) (by repeat (first|exact iA _|apply List.Sublist.cons)) ⟨_,rfl,fun e=>(by cases e),fun _=>hb2 (by simpa using h21)⟩
  | exact H.hp.gJ (L':=E9) (by repeat (first|exact iA _|apply List.Sublist.cons)) ⟨_,rfl,fun e=>(by cases e),fun _=>hb4 (by simpa using AJ)⟩
  | exact H.hp.gJ (L':=Fa) (by repeat (first|exact iA _|apply List.Sublist.cons)) ⟨_,rfl,fun e=>(by cases e),fun _=>hb6 (by simpa using uD)⟩
  | exact H.hp.gJ (L':=Lt) (by repeat (first|exact iA _|apply List.Sublist.cons)) ⟨_,rfl,fun _=>(by rw [iO (by omega),jO] at dR;have:=dR.len;simp only [List.length_nil,sI] at this;rw [← this];exact dR.now),fun e=>(by cases e)⟩
theorem Xl:∀ n:Nat,n≤4294967297→KN n
 | 0,_=>fun _ _ _ _ _ _ _ _ _ _ _ _ _ _ _ _ _ _ _ _ _ _ h=>absurd h (by omega)
 | n+1,hn=>aje (Xl n (by omega)) (by omega)
def Ci (l:List aA):List lT:=⟨0,l,true,false,0⟩ :: jO false 0 l
theorem adg {G:GH} {ba bl bp:Nat} {l:List aA} {v:aj} {id t:Int} {body note:Bool} (h1:aI G ba 0=some (vi id)) (h2:aI G bl 0=some v) (h3:G bp=some (.cells #[.bool body,.bool note,vi t] 106 (0,0))) (hv:av G (.sl 11 (l.map aA.dat)) v) (hz:bA l≤4294967296) (ht0:0≤t) (ht1:t+bA l≤4294967296) :
  Iter prog G (.func (.func 96) #[] #[(aJ ba 0),(aJ bl 0),(aJ bp 0)]) ((⟨id,l,body,note,t⟩ :: jO note t l).map zl):=by
 intro J Jx fv G1 L w0 TH hGi rO hJx hJ hO hcb;refine lV (caps:=[(aJ ba 0),(aJ bl 0),(aJ bp 0)]) Sn ?_;replace h1:=aK hGi h1;replace h2:=aK hGi h2
 have hrow:∀ j u,[.bool body,.bool note,vi t][j]?=some u→aI G1 bp (0+j)=some u:=by
  intro j u hj;refine aK hGi ?_
  unfold aI;rw [h3];simpa using hj
 refine jI (N:=10) (T:=[(0,_),(1,_),(2,_),(3,_)]) func96 rfl ntmps96 rfl rfl hO ?_;intro a H;refine kP H (SC (Rg aD rfl (by assumption) ?_));clear H;intro a H;refine kH H (Rg iH rfl (by assumption) ?_);clear H;intro a H;refine bJ J3 (cs:=[_,_,_]) H wn rfl rfl (fun j v hj=>H.hp.aI (hrow j v hj)) rfl ?_;clear H;intro a H;refine kH H (Rm rfl ?_);clear H;intro a H;refine gK LV (Li:=[]) (L:=L) H wn rfl (Xl 4294967297 (by omega) _ G1 _ J Jx G1 _ _ 0 l id body note t _ (fun _ _ h=>h) hcb rO hJx hJ (Hp.owns (Li:=[]) H.hp) (hv.mono hGi) (by omega) ht0 ht1 (fun i a h=>by rw [ko,qd,h];rfl)) rfl ?_;clear H;rintro v9 G9 L9 a w ⟨b9,rfl,h1,h2⟩ wJ H;refine aH ?_;refine (leave0 H results96 ?_).2
 cases b9
 ·exact H.hp.dW (.inr (h2 rfl))
 exact H.hp.dW (.inl (by simpa using h1 rfl))
theorem adi (G:GH) (w0:World) (hG:Hold G w0) (l:List aA) (v:aj) (id t:Int) (body note:Bool) (hv:av G (.sl 11 (l.map aA.dat)) v) (hz:bA l≤4294967296) (ht0:0≤t) (ht1:t+bA l≤4294967296) :
  Calls prog 62 #[vi id,v,.agg #[.bool body,.bool note,vi t]] w0 (bD w0 G fun u G'=>∃ ba bl bp,u=.func (.func 96) #[] #[(aJ ba 0),(aJ bl 0),(aJ bp 0)]∧Iter prog G' u ((⟨id,l,body,note,t⟩ :: jO note t l).map zl)):=by
 obtain ⟨A,c,rfl,hc1,hc2,hg⟩:=hv.slice;refine eN [(0,_),(1,_),(2,_)] func62 rfl ntmps62 rfl rfl hG ?_;intro a H;refine dz (fun _ K1=>?_);refine fC (cs:=[_]) H wn rfl rfl rfl ?_;clear H;intro b3 a w hb3 H;refine fC (cs:=[_]) H wn rfl rfl rfl ?_;clear H;intro b4 a w hb4 H;refine fC (cs:=[_,_,_]) H wn rfl rfl rfl ?_;clear H;intro b5 a w hb5 H;refine kH H (ak K1 rfl (SR fun _ K2=>?_));clear H K1;intro a H;refine pU H wn rfl rfl ?_;clear H;intro a H;refine kH H (ak K2 rfl ?_);clear H K2;intro a H;refine bZ ?_;obtain ⟨G2,hm2,hb5,H⟩:=H.dM;obtain ⟨G3,Nl,hb4,H⟩:=H.dM;obtain ⟨G4,F7,hb3,H⟩:=H.dM;refine lv H results62 rfl ?_;exact H.rt ⟨b3,b4,b5,rfl,adg (by unfold aI;rw [hb3];rfl) (aK F7 (by unfold aI;rw [hb4];rfl)) (F7 _ _ (Nl _ _ hb5)) (hv.mono fun b o h=>F7 _ _ (Nl _ _ (hm2 _ _ h))) hz ht0 ht1⟩
theorem agn (G:GH) (w0:World) (hG:Hold G w0) (D:nA) (l:List aA) (hv:av G (.sl 11 (l.map aA.dat)) (fq D.f)) (hz:bA l≤4294967296) :
  Calls prog 39 #[D.val] w0 (bD w0 G fun u G'=>∃ ba bl bp,u=.func (.func 96) #[] #[(aJ ba 0),(aJ bl 0),(aJ bp 0)]∧Iter prog G' u ((Ci l).map zl)):=by
 refine eN [(0,_)] func39 rfl ntmps39 rfl rfl hG ?_;intro a H;refine dz (fun _ K1=>?_);refine fC (cs:=[_,_,_,_,_,_,_,_,_,_,_]) H wn rfl rfl rfl ?_;clear H;intro b1 a w hb1 H;refine kH H (ak K1 rfl (SR fun _ K2=>aV D8 iH 0 rfl rfl ?_));clear H K1;intro a H;refine jZ Bp [_,_,_] H wn rfl rfl rfl rfl ?_;clear H;intro a H;refine s_call abF H wn rfl (adi _ _ H.ro l _ 0 0 true false hv hz (by omega) (by omega)) rfl ?_;clear H;rintro v6 G6 a w ⟨ba,bl,bp,rfl,hit⟩ hm6 H;exact kH H (ak K2 rfl (LR results39 rfl fun H=>H.rt ⟨ba,bl,bp,rfl,hit⟩))
end
section
open Go.RowKit
theorem uP:Ty prog 38 11 232 [.slice none 0 0,.slice none 0 0,.int .i64 0,.int .i64 0,.slice none 0 0,.slice none 0 0,.slice none 0 0,.slice none 0 0,.slice none 0 0,.slice none 0 0,.slice none 0 0] true:=⟨by kernel_rfl,by kernel_rfl⟩
theorem abw:∀ args w,(callFunc 39 args).run prog w=.ok (.enter 39 args) w:=enters func39 rfl (by kernel_rfl)
theorem WX:Ty prog 108 4 40 [.slice none 0 0,.bool false,.bool false,.int .i64 0] true:=⟨by kernel_rfl,by kernel_rfl⟩
theorem acz:bM prog 108 0 0:=⟨by kernel_rfl⟩
mutual
theorem ajb {note:Bool} {t:Int} {f:lT}:∀ {x:aA},f∈Dp note t x→bA f.items < cu x.dat
 | .mk k c i tx h fl r,hf=>by
  have h4:=oU (.mk k c i tx h fl r)
  simp only [aA.text,aA.head,aA.flow,aA.rows] at h4
  rw [Dp] at hf
  split at hf
  ·rcases nC.1 hf with rfl|hf
   ·show bA fl < _;omega
   have:=Ki hf;omega
  split at hf
  ·have:=Xk hf;omega
  cases hf
theorem Ki {note:Bool} {t:Int} {f:lT}:∀ {l:List aA},f∈jO note t l→bA f.items≤bA l
 | [],hf=>by simp [jO] at hf
 | x :: l,hf=>by
  rw [jO] at hf
  simp only [bA,dY,eB]
  rcases oZ.1 hf with hf|hf
  ·have:=ajb hf;simp only [bA] at this;omega
  have:=Ki hf;simp only [bA] at this;omega
theorem Xk {note:Bool} {t:Int} {f:lT}:∀ {l:List bS},f∈uR note t l→bA f.items≤gU l
 | [],hf=>by simp [uR] at hf
 | x :: l,hf=>by
  rw [uR] at hf
  simp only [gU,dY,eB]
  rcases oZ.1 hf with hf|hf
  ·have:=ajd hf;simp only [bA] at *;omega
  have:=Xk hf;simp only [bA,gU] at *;omega
theorem ajd {note:Bool} {t:Int} {f:lT}:∀ {x:bS},f∈Dq note t x→bA f.items≤cu x.dat
 | .mk h cs,hf=>by
  have h4:=Ah (.mk h cs)
  simp only [bS.head,bS.cells] at h4
  rw [Dq] at hf;have:=Xj hf;omega
theorem Xj {note:Bool} {t:Int} {f:lT}:∀ {l:List bR},f∈vR note t l→bA f.items≤jc l
 | [],hf=>by simp [vR] at hf
 | x :: l,hf=>by
  rw [vR] at hf
  simp only [jc,dY,eB]
  rcases oZ.1 hf with hf|hf
  ·have:=aiZ hf;simp only [bA] at *;omega
  have:=Xj hf;simp only [bA,jc] at *;omega
theorem aiZ {note:Bool} {t:Int} {f:lT}:∀ {x:bR},f∈Dn note t x→bA f.items≤cu x.dat
 | .mk i h fl,hf=>by
  have h4:=Ag (.mk i h fl)
  simp only [bR.head,bR.flow] at h4
  rw [Dn] at hf
  rcases nC.1 hf with rfl|hf
  ·show bA fl≤_;omega
  have:=Ki hf;omega
end
theorem adh {f:lT} {l:List aA} (h:f∈Ci l):bA f.items≤bA l:=by
 rcases nC.1 h with rfl|h
 ·exact bK _
 exact Ki h
def Az (l:List aA) (id:Int):Option (List aA):=((Ci l).find? fun f=>decide (f.id=id)).map lT.items
theorem acX {α:Type} {p:α→Bool} {A:List α} {k:Nat} (hk:k < A.length) (h:(A.take k).find? p=none) (hp:p A[k]=false):(A.take (k+1)).find? p=none:=by
 rw [jB hk,List.find?_append,h]
 simp [hp]
theorem acY {α:Type} {p:α→Bool} {A:List α} {k:Nat} (hk:k < A.length) (h:(A.take k).find? p=none) (hp:p A[k]=true):A.find? p=some A[k]:=by
 have e:A.find? p=(A.take k++A.drop k).find? p:=by rw [List.take_append_drop]
 rw [e,List.find?_append,h,mV hk,List.find?_cons,hp]
 rfl
theorem Td {α:Type} {p:α→Bool} {A:List α} (h:(A.take A.length).find? p=none):A.find? p=none:=by rwa [Ap] at h
theorem Tf {A:List lT} {k:Nat} {args:List aj} {g:GH} (h:tQ (A.map zl) k args g):∃ (hk:k < A.length) (a:Option Addr) (n c:Nat),args=[vi A[k].id,.agg #[.slice a n c,.bool A[k].body,.bool A[k].note,vi A[k].tables]]∧av g (.sl 11 (A[k].items.map aA.dat)) (.slice a n c):=by
 obtain ⟨p,hp,hargs⟩:=h;rw [qd] at hp;obtain ⟨q,hq,rfl⟩:=lD.1 hp;obtain ⟨hk,rfl⟩:=iM.1 hq;obtain ⟨v,h1,h2⟩:=hargs;obtain ⟨a,n,c,rfl⟩:=h2.form;exact ⟨hk,a,n,c,h1,h2⟩
theorem adf (G:GH) (w0:World) (hG:Hold G w0) (D:nA) (l:List aA) (id:Int) (hv:av G (.sl 11 (l.map aA.dat)) (fq D.f)) (hz:bA l≤4294967296) :
  Calls prog 17 #[D.val,vi id] w0 (bD w0 G fun u G'=>∃ v,u=.tuple #[v,.bool (Az l id).isSome]∧av G' (.sl 11 (((Az l id).getD []).map aA.dat)) v):=by
 refine eN [(0,_),(1,_)] func17 rfl ntmps17 rfl rfl hG ?_;intro a H;refine dz (fun _ K1=>?_);refine fC (cs:=[_,_,_,_,_,_,_,_,_,_,_]) H wn rfl rfl rfl ?_;clear H;intro b2 a w hb2 H;refine fC (cs:=[_]) H wn rfl rfl rfl ?_;clear H;intro b3 a w hb3 H;refine eX iH H wn rfl ?_;clear H;intro b4 a w hb4 H;refine eX wY H wn rfl ?_;clear H;intro b5 a w hb5 H;refine K1 _ _ ?_;clear K1;refine bg (fun _ K2=>?_);refine dz (fun _ K3=>?_);refine bJ uP (cs:=[_,_,_,_,_,_,_,_,_,_,_]) H wn rfl rfl (H.hp.dZ 3 rfl rfl) rfl ?_;clear H;intro a H;refine s_call abw H wn rfl (agn _ _ H.ro D l hv hz) rfl ?_;clear H;rintro v9 G9 a w ⟨ba,bl,bp,rfl,hit⟩ wJ H;refine K3 _ _ ?_;clear K3;refine xI ?_;skip;refine Q9 (ι:=Unit) (κ:=aj) (Lc:=[(_,_),(_,_)]) (fun (k:Nat) (gh:Unit)=>[(b4,.cells #[.slice none 0 0] 22 (0,0)),(b5,.cells #[.bool false] 4 (0,0))]) (fun (k:Nat) (gh:Unit)=>[]) (fun (k:Nat) (gh:Unit) (g:GH)=>((Ci l).take k).find? (fun f=>decide (f.id=id))=none) (fun (gx:aj)=>Code.ret) (fun (gx:aj)=>[(b4,.cells #[gx] 22 (0,0)),(b5,.cells #[.bool true] 4 (0,0))]) (fun (gx:aj)=>[]) (fun (gx:aj) (g:GH)=>∃ f,Az l id=some f∧av g (.sl 11 (f.map aA.dat)) gx) (()) (by exact H.dU (Pl:=[_,_,_,_]) (dx:=[_,_,_,_]) [2,3,1,0] (by decide) rfl) rfl Sn (hit) (fun _ _ h=>h) rfl (fun k args g h=>by obtain ⟨_,_,_,_,rfl,_⟩:=Tf h;rfl) (fun _ _ _ _ _ h=>h) (fun x G G' hm h=>let ⟨f,h1,h2⟩:=h;⟨f,h1,h2.mono hm⟩) (rfl) ?_ ?_ ?_
 ·clear H;intro l2 Bg xH bk k args gh G2 w2 F2 B2 a hk2 hm2 hI Nb Jm Ur H;obtain ⟨hk,vA,vn,vc,rfl,hrep⟩:=Tf hk2;dsimp only [vX,List.cons_append,List.nil_append] at H;refine kP H (SR fun _ K4=>ak K4 rfl (SC ?_));clear H K4;intro a H;refine eX WX H wn rfl ?_;clear H;intro b7 a w Ef H;refine bE WX 0 (vs:=[_,_,_,_]) _ H wn rfl rfl rfl rfl rfl rfl rfl rfl ?_;clear H;intro w H;dsimp only [List.set,setRow] at H;refine aH ?_;refine Nb _ _ _ _ _ _ (by exact H.dU (Pl:=[_,_,_,_,_,_]) (dx:=[_,_,_,_,_,_]) [1,0,2,3,4,5] (by decide) rfl) ?_;clear H;intro w H;refine kP H (SB (SR fun _ K5=>Rm rfl (Ro aD 2 rfl (Rc rfl (Kz K5 (Cd rfl ?_ ?_)))))) <;> clear H K5
  ·intro dP a H
   try have mo:=dT dP
   refine kP H (SR fun _ K6=>aV acz iH 1 rfl rfl ?_);clear H;intro a H;refine s_call LM H wn rfl (ZP _ _ H.ro _ _ hrep (by have:=adh (jo hk);omega)) rfl ?_;clear H;rintro v17 xq a w Ua pJ H;obtain ⟨XD,n17,c17,rfl⟩:=Ua.form;refine bE iH 4 (vs:=[_]) _ H wn rfl rfl rfl rfl rfl rfl rfl rfl ?_;clear H;intro w H;dsimp only [List.set,setRow] at H;refine bE wY 5 (vs:=[_]) _ H wn rfl rfl rfl rfl rfl rfl rfl rfl ?_;clear H;intro w H;dsimp only [List.set,setRow] at H;refine K6 _ _ ?_;clear K6;refine bZ ?_;refine (Ur (.slice XD n17 c17) _ _ _ _ _ (by exact H.dU (Pl:=[_,_,_,_,_,_]) (dx:=[_,_,_,_,_]) [0,2,3,4,5] (by decide) rfl) ?_).1 rfl;exact ⟨_,by unfold Az;rw [acY hk hI dP];rfl,Ua⟩
  intro dP a H
  refine gI ?_;refine Jm (()) _ _ _ _ _ (by exact H.dU (Pl:=[_,_,_,_,_,_]) (dx:=[_,_,_,_,_]) [0,2,3,4,5] (by decide) rfl) ?_;exact acX hk hI dP
 ·clear H;intro PO gh P7 a w hm2 hI H;dsimp only [lca,bq] at H;refine K2 _ _ ?_;clear K2;refine dz (fun _ K7=>?_);refine bE iH 3 (vs:=[_]) _ H wn rfl rfl rfl rfl rfl rfl rfl rfl ?_;clear H;intro w H;dsimp only [List.set,setRow] at H;refine bE wY 4 (vs:=[_]) _ H wn rfl rfl rfl rfl rfl rfl rfl rfl ?_;clear H;intro w H;dsimp only [List.set,setRow] at H;refine K7 _ _ ?_;clear K7;refine bZ ?_;refine (Gy H 0 rfl ?_).1;clear H;intro a w H;dsimp only [List.eraseIdx_cons_succ,List.eraseIdx_cons_zero] at H;refine (eT H results17 (.cons (rY iH H rfl (H.hp.ng 2 rfl rfl)) (.cons (rY wY H rfl (H.hp.ng 3 rfl rfl)) .nil)) ?_).1;exact H.rt ⟨_,by unfold Az;rw [Td (by simpa using hI)];rfl,by unfold Az;rw [Td (by simpa using hI)];exact av.jf rfl (by decide)⟩
 clear H;intro PO gx P7 a w hm2 hI H;obtain ⟨x,hgh⟩:∃ x,x=gx:=⟨_,rfl⟩;subst hgh;dsimp only [lca,bq] at H;obtain ⟨f,hf,hrep⟩:=hI;obtain ⟨xA,xn,xc,rfl⟩:=hrep.form;refine bZ ?_;refine (Gy H 0 rfl ?_).1;clear H;intro a w H;dsimp only [List.eraseIdx_cons_succ,List.eraseIdx_cons_zero] at H;refine (eT H results17 (.cons (rY iH H rfl (H.hp.ng 2 rfl rfl)) (.cons (rY wY H rfl (H.hp.ng 3 rfl rfl)) .nil)) ?_).1;exact H.rt ⟨_,by rw [hf];rfl,by rw [hf];exact hrep⟩
end
section
open Go.RowKit
def jC (xs:Array aj) (o:Nat):Option Int:=match xs[o]? with|some (.int .i64 n)=>some n|_=>none
def Gx (u:Option TypeDesc):Bool:=match u with|some (.int .i64)=>true|_=>false
structure yK (P:Program) (t:TypeId) (gu:List Nat):Prop where
 und:P.underlying t=some (.struct (P.fieldsOf t))
 held:P.stoodInHeld t=false
 guard:P.eqGuardType P.depth t=false
 sW:(P.fieldsOf t).toList.map (·.offset)=gu
 ok:(P.fieldsOf t).toList.all (fun f=>decide (f.name ≠ "_") && P.plainKey f.type && Gx (P.underlying f.type))=true
theorem OC {P:Program} {w:World} {d:Nat} {xs ys:Array aj}:∀ fs:List Field,fs.all (fun f=>decide (f.name ≠ "_") && P.plainKey f.type && Gx (P.underlying f.type))=true →
  (fs.map (·.offset)).all (fun o=>(jC xs o).isSome && (jC ys o).isSome)=true→(Op.eqFields (d+1) xs ys fs).run P w=.ok ((fs.map (·.offset)).all fun o=>jC xs o == jC ys o) w
 | [],_,_=>by simp [Op.eqFields]
 | f :: fs,h1,h2=>by
  simp only [List.all_cons,kK,ow,dY] at h1 h2
  obtain ⟨⟨⟨hn,hp⟩,hi⟩,h1⟩:=h1
  obtain ⟨⟨hx,hy⟩,h2⟩:=h2
  have ih:=OC (w:=w) (d:=d) fs (by simpa using h1) h2
  unfold Gx at hi
  split at hi
  ·rename_i hu
   unfold jC at hx hy
   split at hx
   ·rename_i m hxm
    split at hy
    ·rename_i m2 hym
     have e1:jC xs f.offset=some m:=by unfold jC;rw [hxm]
     have e2:jC ys f.offset=some m2:=by unfold jC;rw [hym]
     simp only [Op.eqFields,hn,ne_eq,not_false_eq_true,if_true,bV,run_part_plain w hp hxm,run_part_plain w hp hym,jG,run_equalIn_int w d f.type .i64 .i64 m m2 hu,dY,List.all_cons,e1,e2]
     by_cases e:m=m2
     ·subst e;simp [ih,List.all_map]
     ·simp [e]
    ·simp at hy
   ·simp at hx
  ·simp at hi
def jK (xs:Array aj) (o:Nat × Bool):Option (Int × Bool):=match xs[o.1]?,o.2 with|some (.int .i64 n),false=>some (n,false)|some (.bool b),true=>some (0,b)|_,_=>none
def xW (u:Option TypeDesc) (b:Bool):Bool:=match u,b with|some (.int .i64),false=>true|some .bool,true=>true|_,_=>false
structure Hr (P:Program) (t:TypeId) (gu:List (Nat × Bool)):Prop where
 und:P.underlying t=some (.struct (P.fieldsOf t))
 held:P.stoodInHeld t=false
 guard:P.eqGuardType P.depth t=false
 sW:(P.fieldsOf t).toList.map (fun f=>(f.offset,xW (P.underlying f.type) true))=gu
 ok:(P.fieldsOf t).toList.all (fun f=>decide (f.name ≠ "_") && P.plainKey f.type && xW (P.underlying f.type) (xW (P.underlying f.type) true))=true
theorem VX {P:Program} {w:World} {d:Nat} {xs ys:Array aj}:∀ fs:List Field,fs.all (fun f=>decide (f.name ≠ "_") && P.plainKey f.type && xW (P.underlying f.type) (xW (P.underlying f.type) true))=true →
  (fs.map (fun f=>(f.offset,xW (P.underlying f.type) true))).all (fun o=>(jK xs o).isSome && (jK ys o).isSome)=true→(Op.eqFields (d+1) xs ys fs).run P w=.ok ((fs.map (fun f=>(f.offset,xW (P.underlying f.type) true))).all fun o=>jK xs o == jK ys o) w
 | [],_,_=>by simp [Op.eqFields]
 | f :: fs,h1,h2=>by
  simp only [List.all_cons,kK,ow,dY] at h1 h2
  obtain ⟨⟨⟨hn,hp⟩,hi⟩,h1⟩:=h1
  obtain ⟨⟨hx,hy⟩,h2⟩:=h2
  have ih:=VX (w:=w) (d:=d) fs (by simpa using h1) h2
  obtain ⟨kb,hkb⟩:∃ kb,kb=xW (P.underlying f.type) true:=⟨_,rfl⟩
  rw [← hkb] at hi hx hy
  cases kb with
  | false =>
   have hu:P.underlying f.type=some (.int .i64):=by clear hkb ih h1 h2 hx hy;unfold xW at hi;split at hi <;> simp_all
   obtain ⟨m,hxm⟩:∃ m,xs[f.offset]?=some (.int .i64 m):=by clear hkb ih h1 h2 hi hy;unfold jK at hx;split at hx <;> simp_all
   obtain ⟨m2,hym⟩:∃ m,ys[f.offset]?=some (.int .i64 m):=by clear hkb ih h1 h2 hi hx;unfold jK at hy;split at hy <;> simp_all
   have e1:jK xs (f.offset,false)=some (m,false):=by unfold jK;rw [hxm]
   have e2:jK ys (f.offset,false)=some (m2,false):=by unfold jK;rw [hym]
   simp only [Op.eqFields,hn,ne_eq,not_false_eq_true,if_true,bV,run_part_plain w hp hxm,run_part_plain w hp hym,jG,run_equalIn_int w d f.type .i64 .i64 m m2 hu,dY,List.all_cons,← hkb,e1,e2]
   by_cases e:m=m2
   ·subst e;simp [ih,List.all_map]
   ·simp [e]
  | true =>
   have hu:P.underlying f.type=some .bool:=by clear hkb ih h1 h2 hx hy;unfold xW at hi;split at hi <;> simp_all
   obtain ⟨m,hxm⟩:∃ m,xs[f.offset]?=some (.bool m):=by clear hkb ih h1 h2 hi hy;unfold jK at hx;split at hx <;> simp_all
   obtain ⟨m2,hym⟩:∃ m,ys[f.offset]?=some (.bool m):=by clear hkb ih h1 h2 hi hx;unfold jK at hy;split at hy <;> simp_all
   have e1:jK xs (f.offset,true)=some (0,m):=by unfold jK;rw [hxm]
   have e2:jK ys (f.offset,true)=some (0,m2):=by unfold jK;rw [hym]
   simp only [Op.eqFields,hn,ne_eq,not_false_eq_true,if_true,bV,run_part_plain w hp hxm,run_part_plain w hp hym,jG,run_equalIn_bool' w d f.type m m2 hu,dY,List.all_cons,← hkb,e1,e2]
   by_cases e:m=m2
   ·subst e;simp [ih,List.all_map]
   ·simp [e]
section
variable {N:Nat} {D:List Deferred} {w0:World} {F:Nat→Prop} {G0 G:GH} {L:List (Nat × Obj)} {T:List (Nat × aj)}
variable {r:Option Nat} {P:Program} {ops:Array Oper} {Q:Exit→Act→World→Prop} {rest:List Oper} {a:Act} {w:World}
variable {d:Nat} {ty:TypeId} {pos:String} {aL:Array Edge} {g:Option (Nat × Bool)}
theorem Bl {t yt:TypeId} {x y:Operand} {p q:ByteArray} (H:St N D w0 F G0 G L T a w) (hw:Region.wanted ⟨some d,.binOp .eql t x y yt,ty,pos,aL,g⟩ (yielded ops a.tmps)=true) (hx:ev T x=some (.string p)) (hy:ev T y=some (.string q)) (hd:Nat.blt d N=true)
  (k:∀ a',St N D w0 F G0 G L ((d,.bool (p.toList == q.toList)) :: T) a' w→WL r P ops Q rest a' w):WL r P ops Q (⟨some d,.binOp .eql t x y yt,ty,pos,aL,g⟩ :: rest) a w:=by
 refine fE (v:=.bool (p.toList == q.toList)) (w':=w) hw rfl ?_ (k _ (H.put hd _ H.hp))
 simp [execOp,H.ev hx,H.ev hy,bV,eqGuard,binOp,Op.stringOp]
theorem OP {op:BinOp} {t yt:TypeId} {gu:List (Nat × Bool)} (ho:op=.eql∨op=.neq) (he:Hr P t gu) {x y:Operand} {xs ys:Array aj} (H:St N D w0 F G0 G L T a w) (hw:Region.wanted ⟨some d,.binOp op t x y yt,ty,pos,aL,g⟩ (yielded ops a.tmps)=true) (hx:ev T x=some (.agg xs)) (hy:ev T y=some (.agg ys))
  (hi:gu.all (fun o=>(jK xs o).isSome && (jK ys o).isSome)=true) (hd:Nat.blt d N=true)
  (k:∀ a',St N D w0 F G0 G L ((d,.bool (if op=.eql then gu.all fun o=>jK xs o == jK ys o else !(gu.all fun o=>jK xs o == jK ys o))) :: T) a' w→WL r P ops Q rest a' w):WL r P ops Q (⟨some d,.binOp op t x y yt,ty,pos,aL,g⟩ :: rest) a w:=by
 have h1:=VX (P:=P) (w:=w) (d:=9998) (xs:=xs) (ys:=ys) _ he.ok (by rw [he.sW];exact hi)
 rw [he.sW] at h1
 rcases ho with rfl|rfl
 ·refine fE (v:=_) (w':=w) hw rfl ?_ (k _ (H.put hd _ H.hp))
  simp only [execOp,H.ev hx,H.ev hy,bV,run_eqGuard_agg w .eql t x y xs ys he.guard,jG,run_eql_struct,run_equalIn_struct w 9999 t xs ys he.und he.held,h1]
  rfl
 ·refine fE (v:=_) (w':=w) hw rfl ?_ (k _ (H.put hd _ H.hp))
  simp only [execOp,H.ev hx,H.ev hy,bV,run_eqGuard_agg w .neq t x y xs ys he.guard,jG,run_neq_struct,run_equalIn_struct w 9999 t xs ys he.und he.held,h1]
  rfl
end
end
section
open Go.RowKit
theorem CF {α:Type} {p:α→Bool} {A:List α} {k:Nat} (hk:k < A.length) (h:(A.take k).findIdx? p=none) (hp:p A[k]=false):(A.take (k+1)).findIdx? p=none:=by
 rw [List.findIdx?_eq_none_iff] at h ⊢;rw [jB hk];intro x hx
 rcases oZ.1 hx with hx|hx
 ·exact h x hx
 rw [oC.1 hx];exact hp
theorem uH {α:Type} {p:α→Bool} {A:List α} {k:Nat} (hk:k < A.length) (h:(A.take k).findIdx? p=none) (hp:p A[k]=true):A.findIdx? p=some k:=by
 have e:A.findIdx? p=(A.take k++A.drop k).findIdx? p:=by rw [List.take_append_drop]
 rw [e,List.findIdx?_append,h,mV hk,List.findIdx?_cons,hp]
 simp;omega
end
section
open Go.RowKit
theorem EF:DI prog 121:=⟨by kernel_rfl⟩
theorem u8B:U8 prog 5:=⟨by kernel_rfl⟩
theorem afM:liesAt prog prog.depth 121 (2 / prog.cellsOf 121) 0 121 1=true:=by kernel_rfl
theorem Rp:prog.cellsOf 5=1:=by kernel_rfl
theorem Vu (v:aj) (w:World):(callFunc 109 #[v]).run prog w=.ok (.value v) w:=ahg func109 (by kernel_rfl) (by kernel_rfl) (by kernel_rfl) (by kernel_rfl) v w
theorem yH:prog.underlying 118=some (.pointer 121):=by kernel_rfl
theorem Kg:prog.underlying 207=some .unsafePointer:=by kernel_rfl
theorem yZ:bM prog 121 0 0:=⟨by kernel_rfl⟩
theorem Aa:Ty prog 118 1 8 [.pointer none] false:=⟨by kernel_rfl,by kernel_rfl⟩
theorem Sk:∀ args w,(callFunc 74 args).run prog w=.ok (.enter 74 args) w:=enters func74 rfl (by kernel_rfl)
theorem Ae:prog.underlying 119=some (.slice 5):=by kernel_rfl
theorem xL:bM prog 121 1 1:=⟨by kernel_rfl⟩
theorem yD:Ty prog 119 1 24 [.slice none 0 0] false:=⟨by kernel_rfl,by kernel_rfl⟩
theorem WZ:prog.underlying 162=some (.pointer 5):=by kernel_rfl
abbrev bB (b:Nat) (p v:aj):Nat × Obj:=(b,.cells #[p,v] 121 (0,0))
theorem Z7 (G:GH) (L:OL) (w0:World) (b:Nat) (A:Option Addr) (n c:Nat) (hO:gL G (bB b (.pointer none) (.slice A n c) :: L) w0) :
  Calls prog 74 #[(aJ b 0)] w0 (fZ w0 G (bB b (.pointer none) (.slice A n c) :: L) fun u G' L'=>L'=bB b (aJ b 0) (.slice A n c) :: L∧G'=G):=by
 refine jI (N:=20) (T:=[(0,_)]) func74 rfl ntmps74 rfl rfl hO ?_;intro a H;refine kP H (SR fun _ K1=>Rm rfl (Rk rfl (aV yZ Aa 0 rfl rfl ?_)));clear H;intro a H;refine JR yH H wn rfl rfl ?_;clear H;intro a H;refine K1 _ _ ?_;clear K1;refine kW H rfl ?_ ?_
 ·intro h6
  refine kP H (SC (Rm rfl (Rm rfl ?_)));clear H;intro a H;refine Wp yH Kg EF H wn rfl 0 rfl rfl rfl ?_;clear H;intro a H;refine Wh (xs:=[.tmp 9]) (Vu _) H wn rfl rfl ?_;clear H;intro a H;refine V7 Kg yH EF H wn rfl 0 rfl afM rfl ?_;clear H;intro a H;refine kH H (Rk rfl (Rf yZ rfl ?_));clear H;intro a H;refine bE Aa 0 (vs:=[_]) _ H wn rfl rfl rfl rfl rfl rfl rfl rfl ?_;clear H;intro w H;dsimp only [List.set,setRow] at H;refine aH ?_;refine (leave0 H results74 ?_).2;exact H.hp.dW ⟨rfl,rfl⟩
 intro h6
 exact absurd h6 (by decide)
theorem Z8 (G:GH) (L:OL) (w0:World) (b:Nat) (A:Option Addr) (n c:Nat) (hO:gL G (bB b (aJ b 0) (.slice A n c) :: L) w0) :
  Calls prog 74 #[(aJ b 0)] w0 (fZ w0 G (bB b (aJ b 0) (.slice A n c) :: L) fun u G' L'=>L'=bB b (aJ b 0) (.slice A n c) :: L∧G'=G):=by
 refine jI (N:=20) (T:=[(0,_)]) func74 rfl ntmps74 rfl rfl hO ?_;intro a H;refine kP H (SR fun _ K1=>Rm rfl (Rk rfl (aV yZ Aa 0 rfl rfl ?_)));clear H;intro a H;refine JR yH H wn rfl rfl ?_;clear H;intro a H;refine K1 _ _ ?_;clear K1;refine kW H rfl ?_ ?_
 ·intro h6
  exact absurd h6 (by simp)
 intro h6
 refine kP H (SR fun _ K2=>Rm rfl (Rk rfl (aV yZ Aa 0 rfl rfl (Rm rfl ?_))));clear H;intro a H;refine Wd yH EF H wn rfl rfl rfl ?_;clear H;intro a H;refine K2 _ _ ?_;clear K2;refine kW H rfl ?_ ?_
 ·intro h19
  exact absurd h19 (by decide)
 intro h19
 refine gI ?_;refine (leave0 H results74 ?_).2;exact H.hp.dW ⟨rfl,rfl⟩
theorem Z9 (G:GH) (L:OL) (w0:World) (b:Nat) (p:aj) (A:Option Addr) (n c:Nat) (hp:p=.pointer none∨p=(aJ b 0)) (hO:gL G (bB b p (.slice A n c) :: L) w0) :
  Calls prog 74 #[(aJ b 0)] w0 (fZ w0 G (bB b p (.slice A n c) :: L) fun u G' L'=>L'=bB b (aJ b 0) (.slice A n c) :: L∧G'=G):=by
 rcases hp with rfl|rfl
 ·exact Z7 G L w0 b A n c hO
 exact Z8 G L w0 b A n c hO
theorem ajj (G:GH) (Lo:OL) (w0:World) (b:Nat) (p v:aj) (n:Nat) (xs:List aj) (s:ByteArray) (hp:p=.pointer none∨p=(aJ b 0)) (hO:gL G (bB b p v :: Lo) w0) (hrow:cK 5 1 v n xs Lo) (hn:n+s.size≤140737488355328) :
  Calls prog 48 #[(aJ b 0),.string s] w0 (fZ w0 G (bB b p v :: Lo) fun u G' L'=>∃ v' fJ,L'=bB b (aJ b 0) v' :: fJ∧cK 5 1 v' (n+s.size) (xs++Lib.strCells s) fJ∧G'=G):=by
 obtain ⟨A,c,rfl,-,-⟩:=hrow.shape;refine jI (N:=19) (T:=[(0,_),(1,_)]) func48 rfl ntmps48 rfl rfl hO ?_;intro a H;refine kP H (SR fun _ K1=>Ra rfl (ak K1 rfl (SR fun _ K2=>Rm rfl ?_)));clear H K1;intro a H;refine gK Sk (Li:=[]) (L:=bB b p _ :: Lo) H wn rfl (Z9 _ _ _ b p A n c hp (Hp.owns (Li:=[]) H.hp)) rfl ?_;clear H;rintro v7 _ L7 a w ⟨rfl,rfl⟩ zI H;dsimp only [List.nil_append] at H;refine K2 _ _ ?_;clear K2;refine kP H (SR fun _ K3=>Rm rfl (Rm rfl (Rk rfl (aV xL yD 0 rfl rfl (Rm rfl ?_)))));clear H;intro a H;refine ahl (Li:=[_]) (Lo:=Lo) Ae fP u8B H wn rfl rfl hrow hn rfl ?_;clear H;intro v14 Qw a w Gj H;obtain ⟨PG,c14,rfl,-,-⟩:=Gj.shape;refine kH H (Rk rfl (Rf xL rfl ?_));clear H;intro a H;refine bE yD 0 (vs:=[_]) _ H wn rfl rfl rfl rfl rfl rfl rfl rfl ?_;clear H;intro w H;dsimp only [List.set,setRow] at H;refine K3 _ _ ?_;clear K3;refine kP H (SR fun _ K4=>Rm rfl (Rv fP rfl (Ra rfl (ak K4 rfl ?_))));clear H K4;intro a H;refine bZ ?_;refine (eT H results48 (.cons (aR H rfl) (.cons (aR H rfl) .nil)) ?_).1;exact H.hp.dW ⟨_,_,rfl,Gj,rfl⟩
theorem ait (G:GH) (Lo:OL) (w0:World) (b:Nat) (p v:aj) (l:List UInt8) (hO:gL G (bB b p v :: Lo) w0) (hrow:cK 5 1 v l.length (Lib.byteCells l) Lo) (h0:l≠[]) :
  Calls prog 49 #[(aJ b 0)] w0 (fZ w0 G (bB b p v :: Lo) fun u G' L'=>u=.string ⟨l.toArray⟩):=by
 rcases hrow.2 with ⟨-,h,-⟩|⟨b2,cap,cur,rfl,rfl,hc1,hc2,hc3,hc4⟩
 ·exact absurd (List.eq_nil_of_length_eq_zero h) h0
 have hl0:l.length≠0:=fun h=>h0 (List.eq_nil_of_length_eq_zero h);have hml:maxLen=9223372036854775807:=rfl;refine jI (N:=14) (T:=[(0,_)]) func49 rfl ntmps49 rfl rfl hO ?_;intro a H;refine kP H (SR fun _ K1=>ak K1 rfl (SQ fun _ K2=>?_));clear H K1;intro a H;have H:=H.sub (T':=[(0,_)]) ⟨rfl,aF⟩;refine dI hmx [[],[0],[0,1],[0,1,2],(ra 0 4),[],[5],[5,6],[5,6,7],(ra 5 4),(ra 0 10),(ra 0 11)] [10,11] (by kernel_rfl) [_,_,_,.slice (some ⟨b2,0,none⟩) l.length cap,(aJ b2 0),_,_,_,.slice (some ⟨b2,0,none⟩) l.length cap,_] H (aB (Z0 rfl (Rm rfl)) (Z1 0 3 rfl (Rk rfl)) (Z1 1 4 rfl (Rf xL rfl)) (Z1 2 5 rfl (Ro yD 0 rfl)) (aB ?_ (Z0 rfl (Rm rfl)) (Z1 5 8 rfl (Rk rfl)) (Z1 6 9 rfl (Rf xL rfl)) (aB (Z1 7 10 rfl (Ro yD 0 rfl)) (Z1 8 11 rfl (Rl Ae rfl)) (bH rfl) (bH rfl) bW))) ?_
 ·refine dw 3 6 rfl rfl fun _ a w G1 hG HT H fin=>?_;refine Wn H wn rfl (by omega) rfl ?_;clear H;intro a H;exact fin H iJ rfl
 clear H;intro a w G mH H hv;have H:=H.aS (hv 4 7 rfl rfl) rfl;have H:=H.aS (hv 9 12 rfl rfl) rfl;clear hv;refine Wq (i:=1) l WZ Rp h0 (by omega) H wn rfl rfl rfl (by rw [← hc4,Nat.mul_one]) rfl ?_;clear H;intro fz a w H;dsimp only [List.set] at H;refine kH H (Ra rfl ?_);clear H;intro a H;refine aH ⟨rfl,?_⟩;refine K2 _ _ ?_;clear K2;refine lr H results49 rfl ?_;exact H.hp.dW rfl
end
section
open Go.RowKit
def wN (p:Nat→Bool):Nat→Nat→Nat→Nat
 | 0,i,_=>i
 | f+1,i,j=>if i < j then (if p ((i+j) / 2) then wN p f i ((i+j) / 2) else wN p f ((i+j) / 2+1) j) else i
theorem afe {p:Nat→Bool} {f i j:Nat} (hf:j - i≤f) (h:i < j):wN p f i j=if p ((i+j) / 2) then wN p (f - 1) i ((i+j) / 2) else wN p (f - 1) ((i+j) / 2+1) j:=by
 match f,hf with
 | 0,hf=>omega
 | f+1,_=>rw [wN,au h];rfl
theorem afc {p:Nat→Bool} {f i j:Nat} (h:¬ i < j):wN p f i j=i:=by
 match f with
 | 0=>rfl
 | f+1=>rw [wN,ah h]
theorem aff {z:Int} (h1:0≤z) (h2:z < 18446744073709551616):IntKind.u64.wrap z=z:=by
 simp only [IntKind.wrap,IntKind.bits,IntKind.signed,tZ,BQ,if_false]
 omega
theorem afd (n:Nat):((n:Nat):Int).fdiv (2 ^ 1)=((n / 2:Nat):Int):=by
 rw [Int.fdiv_eq_ediv_of_nonneg _ (by decide)];omega
def yV (a b:Int):Int:=if a < b then -1 else if b < a then 1 else 0
theorem Rx {a b:Int}:yV a b < 0↔a < b:=by
 unfold yV
 split
 ·simp [*]
 ·split <;> simp_all
theorem ZT {a b:Int}:yV a b=0↔a=b:=by
 unfold yV
 split
 ·omega
 ·split <;> omega
def xG (ks:List Int) (t:Int):Nat:=wN (fun h=>decide (¬ ks.getD h 0 < t)) ks.length 0 ks.length
def AU (ks:List Int) (t:Int):Bool:=decide (ks[xG ks t]?=some t)
theorem adK {ks:List Int} {t:Int} (h:AU ks t=true):xG ks t < ks.length:=by
 have:=qg h
 exact (iM.1 this).1
theorem adJ {ks:List Int} {t:Int} {n:Nat} (e:xG ks t=n) (h:n < ks.length):AU ks t=decide (yV ks[n] t=0):=by
 unfold AU
 rw [e,gM h]
 simp [ZT]
theorem adL {ks:List Int} {t:Int} {n:Nat} (e:xG ks t=n) (h:¬ n < ks.length):AU ks t=false:=by
 unfold AU
 rw [e,List.getElem?_eq_none (by omega)]
 simp
theorem getD_map {α:Type} {f:α→Int} {l:List α} {n:Nat} (h:n < l.length):(l.map f).getD n 0=f l[n]:=by
 simp [List.getD,h]
end
section
open Go.RowKit
structure QE (P:Program) (s n off:Nat):Prop where
 h:(match P.underlying s with|some (.struct fs)=>(fs[n]?).bind fun f=>((P.underlying f.type).map (fun|.struct _=>true|.array _ _=>true|_=>false)).map fun g=>(f.offset,g)|_=>none)=some (off,false)
theorem QE.parts {P:Program} {s n off:Nat} (h:QE P s n off):∃ fs fl u,P.underlying s=some (.struct fs)∧fs[n]?=some fl∧P.underlying fl.type=some u∧(match u with|.struct _=>true|.array _ _=>true|_=>false)=false∧fl.offset=off:=by
 obtain ⟨h⟩:=h
 split at h
 ·rename_i fs hs
  obtain ⟨fl,hf,h2⟩:=Option.bind_eq_some_iff.1 h
  obtain ⟨b,hb,h3⟩:=lD.1 h2
  obtain ⟨u,hu,h4⟩:=lD.1 hb
  simp only [gB] at h3
  refine ⟨fs,fl,u,hs,hf,hu,?_,h3.1⟩
  rw [← h3.2,← h4]
  cases u <;> rfl
 ·cases h
section
variable {N:Nat} {D:List Deferred} {w0:World} {F:Nat→Prop} {G0 G:GH} {L Li Lo:OL} {T:List (Nat × aj)}
variable {r:Option Nat} {P:Program} {ops:Array Oper} {Q:Exit→Act→World→Prop} {rest:List Oper} {a:Act} {w:World}
variable {d:Nat} {ty:TypeId} {pos:String} {aL:Array Edge} {g:Option (Nat × Bool)}
theorem OU {t:TypeId} {x y:Operand} {s:ByteArray} {ky:IntKind} {p:Int} (lo:Nat) (ht:P.underlying t=some .string) (H:St N D w0 F G0 G L T a w) (hw:Region.wanted ⟨some d,.slice t x (some y) none none,ty,pos,aL,g⟩ (yielded ops a.tmps)=true) (hx:ev T x=some (.string s)) (hy:ev T y=some (.int ky p)) (hp:p=(lo:Int)) (h1:lo≤s.size) (hd:Nat.blt d N=true)
  (k:∀ a',St N D w0 F G0 G L ((d,.string (s.extract lo s.size)) :: T) a' w→WL r P ops Q rest a' w):WL r P ops Q (⟨some d,.slice t x (some y) none none,ty,pos,aL,g⟩ :: rest) a w:=by
 subst hp
 have hr:=run_slice_string_l (P:=P) w t s ht ky (lo:Int) (by omega) (by omega)
 rw [Int.toNat_natCast] at hr
 refine fE (v:=.string (s.extract lo s.size)) (w':=w) hw rfl ?_ (k _ (H.put hd _ H.hp))
 simp only [execOp,H.ev hx,Option.map_some,Option.map_none,H.ev hy,bV,run_sliceAt_string w t _ _ _ _ ht,hr,jG,pq]
end
end
section
open Go.RowKit
theorem GV:prog.underlying 249=some (.slice 233):=by kernel_rfl
theorem qY:Ty prog 233 6 56 [.int .i64 0,.int .i64 0,.int .i64 0,.int .i64 0,.int .i64 0,.string ⟨#[]⟩] true:=⟨by kernel_rfl,by kernel_rfl⟩
theorem WE:ou prog 233 [(0,1),(1,1),(2,1),(3,1),(4,1),(5,1)] [.int .i64 0,.int .i64 0,.int .i64 0,.int .i64 0,.int .i64 0,.string ⟨#[]⟩]:=⟨by kernel_rfl,by kernel_rfl⟩
theorem R5:∀ args w,(callFunc 156 args).run prog w=.ok (.enter 156 args) w:=enters func156 rfl (by kernel_rfl)
structure iX where
 num:Int
 xP:Int
 low:Int
 high:Int
 std:Int
 name:ByteArray
def iX.dat (x:iX):List Dat:=[li x.num,li x.xP,li x.low,li x.high,li x.std,.lf (.string x.name)]
def iX.cells (x:iX):List aj:=[vi x.num,vi x.xP,vi x.low,vi x.high,vi x.std,.string x.name]
def iq.cells (x:iq):List aj:=[vi x.key,vi x.value]
theorem afz (G:GH) (x:iX):aX G x.dat x.cells:=by
 simp only [iX.dat,iX.cells,aX]
 exact ⟨_,_,rfl,by simp [av,Value.oneCell'],_,_,rfl,by simp [av,Value.oneCell'],_,_,rfl,by simp [av,Value.oneCell'],_,_,rfl,by simp [av,Value.oneCell'],_,_,rfl,by simp [av,Value.oneCell'],_,_,rfl,by simp [av,Value.oneCell'],rfl⟩
theorem afy {G:GH} {x:iX} {cs:List aj} (h:aX G x.dat cs):cs=x.cells:=by
 simp only [iX.dat,aX,av] at h
 obtain ⟨v1,_,rfl,⟨rfl,-⟩,v2,_,rfl,⟨rfl,-⟩,v3,_,rfl,⟨rfl,-⟩,v4,_,rfl,⟨rfl,-⟩,v5,_,rfl,⟨rfl,-⟩,v6,_,rfl,⟨rfl,-⟩,rfl⟩:=h
 rfl
theorem Oo {G:GH} {x:iq} {cs:List aj} (h:aX G x.dat cs):cs=x.cells:=by
 simp only [iq.dat,aX,av] at h
 obtain ⟨v1,_,rfl,⟨rfl,-⟩,v2,_,rfl,⟨rfl,-⟩,rfl⟩:=h
 rfl
theorem UY (G:GH):∀ (B A:List iX),fF G 6 (A.map iX.dat) (A.map iX.cells).flatten→fF G 6 ((A++B).map iX.dat) ((A++B).map iX.cells).flatten
 | [],A,h=>by rw [nO];exact h
 | x :: B,A,h=>by
  have h2:=h.snoc (afz G x) rfl;have h3:=UY G B (A++[x]) (by simpa using h2)
  simpa using h3
theorem afA (G:GH) (A:List iX):fF G 6 (A.map iX.dat) (A.map iX.cells).flatten:=UY G A [] fF.nil
theorem NS {G:GH} {l:List iX} {A:Option Addr} {n c k:Nat} (hv:av G (.sl 6 (l.map iX.dat)) (.slice A n c)) (hk:k < l.length):∃ b o,A=some ⟨b,o,none⟩∧(∀ j u,[vi l[k].num,vi l[k].xP,vi l[k].low,vi l[k].high,vi l[k].std,.string l[k].name][j]?=some u→aI G b (o+k*6+j)=some u):=by
 obtain ⟨A',c',he,_,_,hg⟩:=hv.slice
 injection he with e1 e2 e3
 subst e1;obtain ⟨b,o,cs,h1,h2,h3,h4⟩:=hg k l[k].dat (by simp [hk]);obtain rfl:=afy h4;exact ⟨b,o,h1,h3⟩
theorem JH {G:GH} {l:List iq} {A:Option Addr} {n c k:Nat} (hv:av G (.sl 2 (l.map iq.dat)) (.slice A n c)) (hk:k < l.length):∃ b o,A=some ⟨b,o,none⟩∧(∀ j u,[vi l[k].key,vi l[k].value][j]?=some u→aI G b (o+k*2+j)=some u):=by
 obtain ⟨A',c',he,_,_,hg⟩:=hv.slice
 injection he with e1 e2 e3
 subst e1;obtain ⟨b,o,cs,h1,h2,h3,h4⟩:=hg k l[k].dat (by simp [hk]);obtain rfl:=Oo h4;exact ⟨b,o,h1,h3⟩
def CO:List iX:=[⟨1,1,0,1073741824,0,⟨#[99,104,97,114,97,99,116,101,114,45,115,116,121,108,101]⟩⟩,⟨2,1,0,1,0,⟨#[98,111,108,100]⟩⟩,⟨3,1,0,1,0,⟨#[105,116,97,108,105,99]⟩⟩,⟨4,1,0,3,0,⟨#[117,110,100,101,114,108,105,110,101]⟩⟩,⟨5,1,2,1638,22,⟨#[115,105,122,101]⟩⟩,⟨6,1,0,16777215,0,⟨#[99,111,108,111,114]⟩⟩,⟨7,1,0,63,0,⟨#[102,111,110,116]⟩⟩,⟨8,1,0,255,0,⟨#[108,97,110,103,117,97,103,101]⟩⟩,⟨9,1,-400,400,0,⟨#[114,97,105,115,101]⟩⟩,⟨10,1,0,1,0,⟨#[104,105,100,100,101,110]⟩⟩,⟨20,2,0,1073741824,0,⟨#[112,97,114,97,103,114,97,112,104,45,115,116,121,108,101]⟩⟩,⟨21,2,0,3,0,⟨#[97,108,105,103,110]⟩⟩,⟨22,2,-31680,31680,0,⟨#[108,101,102,116]⟩⟩,⟨23,2,-31680,31680,0,⟨#[114,105,103,104,116]⟩⟩,⟨24,2,-31680,31680,0,⟨#[102,105,114,115,116]⟩⟩,⟨25,2,0,31680,0,⟨#[98,101,102,111,114,101]⟩⟩,⟨26,2,0,31680,0,⟨#[97,102,116,101,114]⟩⟩,⟨27,2,0,31680,0,⟨#[108,101,97,100,105,110,103]⟩⟩,⟨28,2,0,1,0,⟨#[107,101,101,112,45,110,101,120,116]⟩⟩,⟨29,2,0,1,0,⟨#[107,101,101,112,45,108,105,110,101,115]⟩⟩,⟨30,2,0,1,1,⟨#[119,105,100,111,119]⟩⟩,⟨31,2,0,1,0,⟨#[112,97,103,101,45,98,101,102,111,114,101]⟩⟩,⟨32,2,0,9,0,⟨#[111,117,116,108,105,110,101]⟩⟩,⟨33,2,0,1073741824,0,⟨#[108,105,115,116]⟩⟩,⟨34,2,1,9,1,⟨#[108,101,118,101,108]⟩⟩,⟨35,2,0,32767,0,⟨#[114,101,115,116,97,114,116]⟩⟩,⟨36,2,1,31680,720,⟨#[116,97,98,45,115,116,111,112]⟩⟩,⟨37,2,0,1,0,⟨#[104,121,112,104,101,110,97,116,101]⟩⟩,⟨40,3,720,31680,12240,⟨#[112,97,103,101,45,119,105,100,116,104]⟩⟩,⟨41,3,720,31680,15840,⟨#[112,97,103,101,45,104,101,105,103,104,116]⟩⟩,⟨42,3,0,31680,1440,⟨#[116,111,112]⟩⟩,⟨43,3,0,31680,1440,⟨#[98,111,116,116,111,109]⟩⟩,⟨44,3,0,31680,1440,⟨#[105,110,110,101,114]⟩⟩,⟨45,3,0,31680,1440,⟨#[111,117,116,101,114]⟩⟩,⟨46,3,0,32767,0,⟨#[102,105,114,115,116,45,112,97,103,101]⟩⟩,⟨47,3,1,6,1,⟨#[112,97,103,101,45,102,111,114,109,97,116]⟩⟩,⟨50,4,0,1,0,⟨#[104,101,97,100,101,114]⟩⟩,⟨51,4,0,1,0,⟨#[99,97,110,116,45,115,112,108,105,116]⟩⟩,⟨52,4,0,31680,0,⟨#[114,111,119,45,104,101,105,103,104,116]⟩⟩,⟨60,5,1,32,1,⟨#[99,111,108,117,109,110,45,115,112,97,110]⟩⟩,⟨61,5,0,2,0,⟨#[118,101,114,116,105,99,97,108,45,109,101,114,103,101]⟩⟩,⟨62,5,0,31680,0,⟨#[99,101,108,108,45,119,105,100,116,104]⟩⟩,⟨63,5,0,16777215,16777215,⟨#[115,104,97,100,101]⟩⟩,⟨70,6,0,31680,0,⟨#[116,97,98,108,101,45,119,105,100,116,104]⟩⟩,⟨71,6,0,2,0,⟨#[116,97,98,108,101,45,97,108,105,103,110]⟩⟩]
set_option maxRecDepth 20000 in
theorem afB (G:GH) (w0:World) (hG:Hold G w0):Calls prog 147 #[] w0 (bD w0 G fun u G'=>av G' (.sl 6 (CO.map iX.dat)) u):=by
 refine eN [] func147 rfl ntmps147 rfl rfl hG ?_;intro a H;refine kP H (SR fun _ K1=>ak K1 rfl (SR fun _ K2=>?_));clear H K1;intro a H;(iterate 45 refine jZ WE [_,_,_,_,_,_] H wn rfl rfl rfl rfl ?_;clear H;intro a H);refine ahn GV qY (CO.map iX.cells) H wn rfl rfl rfl rfl rfl rfl rfl ?_;clear H;intro b46 a w ajL H;refine kH H (ak K2 rfl ?_);clear H K2;intro a H;refine lr H results147 rfl ?_;obtain ⟨Gz,hmz,hbz,H⟩:=H.dM;exact H.rt (av.dS (n:=45) (cap:=45) hbz rfl (bK _) (show 45≤maxLen by decide) (jH (bK _)) (afA _ _))
theorem UN (G:GH) (w0:World) (hG:Hold G w0) (x:Int):Calls prog 156 #[vi x] w0 (bD w0 G fun u G'=>u=.bool false∧G=G'):=by
 refine eN [(0,_)] func156 rfl ntmps156 rfl rfl hG ?_;intro a H;exact kP H (SR fun _ K1=>ak K1 rfl (SR fun _ K2=>Rm rfl (Rm rfl (Rc rfl (ak K2 rfl (LR results156 rfl fun H=>H.rt ⟨by simp,rfl⟩))))))
theorem La {x y z:Int} (h:(x < y∧z=-1)∨(y < x∧z=1)∨(x=y∧z=0)):z=yV x y:=by
 unfold yV;split
 ·omega
 split <;> omega
theorem ZX (G:GH) (w0:World) (hG:Hold G w0) (x y:Int):Calls prog 150 #[vi x,vi y] w0 (bD w0 G fun u G'=>u=vi (yV x y)):=by
 refine eN [(0,_),(1,_)] func150 rfl ntmps150 rfl rfl hG ?_;intro a H;refine kP H (SR fun _ K1=>ak K1 rfl (SR fun _ K2=>Rm rfl ?_));clear H K1;intro a H;refine s_call R5 H wn rfl (UN _ _ H.ro x) rfl ?_;clear H;rintro v8 G8 a w ⟨rfl,-⟩ xU H;refine kH H (ak K2 rfl (SR fun _ K3=>Rm rfl ?_));clear H K2;intro a H;refine s_call R5 H wn rfl (UN _ _ H.ro y) rfl ?_;clear H;rintro v10 vT a w ⟨rfl,-⟩ uE H;refine kH H (ak K3 rfl (SQ fun _ K4=>SR fun _ K5=>Rm rfl (Kz K5 (Cd rfl ?_ ?_)))) <;> clear H K3 K5
 ·intro h11 a H
  cases h11
 intro h11 a H
 try have nW:=dF h11
 refine kP H (Kc K4 (SQ fun _ K6=>SR fun _ K7=>Rm rfl (Kz K7 (Cd rfl ?_ ?_)))) <;> clear H K4 K7
 ·intro fM a H
  cases fM
 intro fM a H
 try have pQ:=dF fM
 refine kP H (Kc K6 (SQ fun _ K8=>SR fun _ K9=>Rm rfl (Rm rfl (Rc rfl (Kz K9 (Cd rfl ?_ ?_)))))) <;> clear H K6 K9
 ·intro h16 a H
  try have p16:=dT h16
  exact kP H (SR fun _ aT=>ak aT rfl (LR results150 rfl fun H=>H.rt (ay vi (La (by omega)))))
 intro h16 a H
 try have p16:=dF h16
 refine kP H (Kc K8 (SQ fun _ bC=>SR fun _ bF=>Rm rfl (Rm rfl (Rc rfl (Kz bF (Cd rfl ?_ ?_)))))) <;> clear H K8 bF
 ·intro h19 a H
  try have rW:=dT h19
  exact kP H (SR fun _ bN=>ak bN rfl (LR results150 rfl fun H=>H.rt (ay vi (La (by omega)))))
 intro h19 a H
 try have rW:=dF h19
 exact kP H (Kc bC (SR fun _ bQ=>ak bQ rfl (LR results150 rfl fun H=>H.rt (ay vi (La (by omega))))))
end
section
open Go.RowKit
theorem acG:bM prog 233 0 0:=⟨by kernel_rfl⟩
theorem aaZ:∀ args w,(callFunc 150 args).run prog w=.ok (.enter 150 args) w:=enters func150 rfl (by kernel_rfl)
theorem W9:prog.underlying 240=some (.int .u64):=by kernel_rfl
theorem aaY:∀ args w,(callFunc 149 args).run prog w=.ok (.enter 149 args) w:=enters func149 rfl (by kernel_rfl)
theorem Rh (G:GH) (w0:World) (hG:Hold G w0) (x:iX) (t:Int):sw prog (.func (.func 149) #[] #[]) [.agg x.cells.toArray,vi t] w0 (bD w0 G fun u G'=>u=vi (yV x.num t)):=by
 refine lV (caps:=[]) aaY ?_;refine eN [(0,_),(1,_)] func149 rfl ntmps149 rfl rfl hG ?_;intro a H;refine dz (fun _ K1=>?_);refine fC (cs:=[_,_,_,_,_,_]) H wn rfl rfl rfl ?_;clear H;intro b2 a w hb2 H;refine kH H (ak K1 rfl (SR fun _ K2=>aV acG aD 0 rfl rfl (Rm rfl ?_)));clear H K1;intro a H;refine s_call aaZ H wn rfl (ZX _ _ H.ro x.num t) rfl ?_;clear H;rintro v8 G8 a w rfl xU H;exact kH H (ak K2 rfl (LR results149 rfl fun H=>H.rt rfl))
theorem Y1 (G:GH) (w0:World) (hG:Hold G w0) (l:List iX) (t:Int) (v:aj) (hv:av G (.sl 6 (l.map iX.dat)) v) (hl:l.length≤4294967296) :
  Calls prog 148 #[v,vi t,.func (.func 149) #[] #[]] w0 (bD w0 G fun u G'=>u=.tuple #[vi (xG (l.map iX.num) t),.bool (AU (l.map iX.num) t)]):=by
 obtain ⟨A,c,rfl,hc1,hc2,-⟩:=hv.slice;rw [bT] at *;obtain ⟨p,hp⟩:∃ p:Nat→Bool,p=fun h=>decide (¬ (l.map iX.num).getD h 0 < t):=⟨_,rfl⟩
 have hbs:xG (l.map iX.num) t=wN p l.length 0 l.length:=by rw [hp,xG,bT]
 refine eN [(0,_),(1,_),(2,_)] func148 rfl ntmps148 rfl rfl hG ?_;intro a H;refine kP H (SR fun _ K1=>Ra rfl (ak K1 rfl (SR fun _ K2=>Rm rfl (Rl GV rfl (ak K2 rfl (SR fun _ K3=>Rm rfl (Ra rfl (ak K3 rfl (SQ fun _ K4=>SB ?_)))))))));clear H K1 K2 K3;intro a H;skip;refine fH (ι:=Nat × Nat × Nat × GH) (Tc:=[(0,_),(1,_),(2,_),(8,_)]) (Lc:=[]) (fun gh=>[(9,vi gh.1),(10,vi gh.2.1)]) (fun gh=>[]) (fun gh=>gh.2.2.2) (fun gh=>gh.1≤gh.2.1∧gh.2.1≤l.length∧gh.2.1 - gh.1≤gh.2.2.1∧wN p gh.2.2.1 gh.1 gh.2.1=xG (l.map iX.num) t∧(∀ b o,G b=some o→gh.2.2.2 b=some o)) (fun gh=>gh.2.1 - gh.1) ((0,l.length,l.length,G)) (by exact (H).sub ⟨rfl,rfl,rfl,rfl,rfl,rfl,aF⟩) ?_ ?_
 ·exact ⟨iY _,bK _,Nat.sub_le _ _,hbs.symm,fun _ _ h=>h⟩
 clear H;intro gh a w hI H;obtain ⟨i,j,f,g⟩:=gh;dsimp only at hI H;obtain ⟨hij,hj,hf1,heq,hgm⟩:=hI;have CB:=hv.mono hgm;dsimp only [lca,bq] at H;refine kP H (SQ fun _ K5=>SR fun _ K6=>Rm rfl (Rm rfl (Rc rfl (Kz K6 (Cd rfl ?_ ?_))))) <;> clear H K6
 ·intro dO a H
  try have lN:=dT dO
  have hlt:i < j:=by omega
  rw [afe hf1 hlt] at heq;obtain ⟨m,hm⟩:∃ m,m=(i+j) / 2:=⟨_,rfl⟩;rw [← hm] at heq
  have hml:m < l.length:=by omega
  obtain ⟨b,o,rfl,hrow⟩:=NS CB hml
  have hpm:p m=decide (¬ l[m].num < t):=by rw [hp];dsimp only;rw [getD_map hml]
  rw [hpm] at heq;refine kP H (Kc K5 (SB (SR fun _ K7=>Rm rfl (Rm rfl (Rd rfl ?_)))));clear H K5;intro a H;rw [show ((i:Int)+(j:Int))=((i+j:Nat):Int) by push_cast;rfl] at H;refine EC ((i+j:Nat):Int) W9 lu H wn rfl (aff (by omega) (by omega)) rfl ?_;clear H;intro a H;refine Wj _ H wn rfl rfl rfl (by decide) rfl ?_;clear H;intro a H;rw [afd,← hm] at H;refine EC (m:Int) lu W9 H wn rfl (Gn (by omega) (by omega)) rfl ?_;clear H;intro a H;refine kH H (ak K7 rfl (SR fun _ K8=>Rm rfl (Rm rfl (Rm rfl (Ri GV qY rfl rfl ?_)))));clear H K7;intro a H;refine bJ qY (cs:=[_,_,_,_,_,_]) H wn rfl rfl (fun j v hj=>H.hp.aI (hrow j v hj)) rfl ?_;clear H;intro a H;refine kH H (Rm rfl ?_);clear H;intro a H;refine oO H wn rfl rfl (Rh _ _ H.ro l[m] t) rfl ?_;clear H;rintro v30 BG a w rfl Cv H;refine kH H (Rc rfl (Kz K8 (Cd rfl ?_ ?_))) <;> clear H K8
  ·intro h31 a H
   try have p31:=dT h31
   rw [ah (by simpa using Rx.1 p31)] at heq;refine kP H (SC (Rm rfl (Rd rfl (Ra rfl ?_))));clear H;intro a H;refine aH ?_;refine dD ((m+1,j,f - 1,BG)) (by exact (H).sub ⟨rfl,rfl,rfl,rfl,rfl,rfl,aF⟩) ?_ ?_
   ·(try dsimp only);exact ⟨by omega,hj,by omega,heq,fun b o h=>Cv b o (hgm b o h)⟩
   first|omega|(dsimp only;omega)
  intro h31 a H
  try have p31:=dF h31
  rw [au (by simpa using fun h=>p31 (Rx.2 h))] at heq;refine kP H (SC (Rm rfl (Ra rfl ?_)));clear H;intro a H;refine aH ?_;refine dD ((i,m,f - 1,BG)) (by exact (H).sub ⟨rfl,rfl,rfl,rfl,rfl,rfl,aF⟩) ?_ ?_
  ·(try dsimp only);exact ⟨by omega,by omega,by omega,heq,fun b o h=>Cv b o (hgm b o h)⟩
  first|omega|(dsimp only;omega)
 intro dO a H
 try have lN:=dF dO
 refine dV ?_;refine K4 _ _ ?_;clear K4;refine bg (fun _ K9=>?_);rw [afc (by omega)] at heq;refine kP H (SC (Rm rfl (Rm rfl (Rm rfl (Rc rfl (Rm rfl (Sp 39 rfl ?_ ?_))))))) <;> clear H
 ·intro lX a H
  try have p39:=dT lX
  have hil:i < l.length:=by omega
  obtain ⟨b,o,rfl,hrow⟩:=NS CB hil;refine kH H (YM lX rfl (YM lX rfl (YM lX rfl (YI GV qY lX rfl rfl ?_))));clear H;intro a H;refine bJ qY (cs:=[_,_,_,_,_,_]) H (wg H rfl rfl lX) rfl rfl (fun j v hj=>H.hp.aI (hrow j v hj)) rfl ?_;clear H;intro a H;refine kH H (YM lX rfl ?_);clear H;intro a H;refine oO H (wg H rfl rfl lX) rfl rfl (Rh _ _ H.ro l[i] t) rfl ?_;clear H;rintro v46 XW a w rfl aep H;refine kH H (YC lX rfl (Pt lX rfl (Ra rfl (aU K9 rfl ?_))));clear H K9;intro a H;refine bZ ?_;refine (eT H results148 (.cons (aR H rfl) (.cons (aR H rfl) .nil)) ?_).1;exact H.rt (by rw [adJ heq.symm (by rw [bT];omega),← heq];simp)
 intro lX a H
 try have p39:=dF lX
 refine kH H (aY lX rfl (aY lX rfl (aP lX rfl (Pf lX rfl (Ra rfl (aU K9 rfl ?_))))));clear H K9;intro a H;refine bZ ?_;refine (eT H results148 (.cons (aR H rfl) (.cons (aR H rfl) .nil)) ?_).1;exact H.rt (by rw [adL heq.symm (by rw [bT];omega),← heq])
end
section
open Go.RowKit
end
section
open Go.RowKit
def uT (fv:aj) (G:GH) (d:List Dat) (b:Bool):Prop:=∀ (G1:GH) (w1:World) (cs:List aj),(∀ b o,G b=some o→G1 b=some o)→Hold G1 w1→aX G1 d cs →
 sw prog fv [.agg cs.toArray] w1 (bD w1 G1 fun u G'=>u=.bool b)
def mZ (o:Option Nat):Int:=match o with|some i=>i|none=>-1
theorem afk (G:GH) (w0:World) (hG:Hold G w0) (l:List bS) (p:bS→Bool) (v fv:aj) (hv:av G (.sl 6 (l.map bS.dat)) v) (hf:∀ x∈l,uT fv G x.dat (p x)) :
  Calls prog 104 #[v,fv] w0 (bD w0 G fun u G'=>u=vi (mZ (l.findIdx? p))):=by
 obtain ⟨A,c,rfl,hc1,hc2,hg⟩:=hv.slice;have hml:maxLen=9223372036854775807:=rfl;rw [bT] at *;refine eN [(0,_),(1,_)] func104 rfl ntmps104 rfl rfl hG ?_;intro a H;refine kP H (SR fun _ K1=>ak K1 rfl (SQ fun _ K2=>SR fun _ K3=>Rm rfl (Rl oh rfl (Rm rfl (Kz K3 (SB ?_))))));clear H K1 K3;intro a H;skip;refine fH (ι:=Nat × GH) (Tc:=[(0,_),(1,_),(7,_)]) (Lc:=[]) (fun gh=>[(8,vi gh.1)]) (fun gh=>[]) (fun gh=>gh.2) (fun gh=>gh.1≤l.length∧(l.take gh.1).findIdx? p=none∧(∀ b o,G b=some o→gh.2 b=some o)) (fun gh=>l.length - gh.1) ((0,G)) (by exact (H).sub ⟨rfl,rfl,rfl,rfl,aF⟩) ?_ ?_
 ·exact ⟨by omega,rfl,fun _ _ h=>h⟩
 clear H;intro gh a w hI H;obtain ⟨k,g⟩:=gh;dsimp only at hI H;obtain ⟨hk,hno,hgm⟩:=hI;dsimp only [lca,bq] at H;refine kP H (SR fun _ K4=>Rc rfl (Kz K4 (SQ fun _ K5=>Cd rfl ?_ ?_))) <;> clear H K4
 ·intro h9 a H
  try have p9:=dT h9
  have hk2:k < l.length:=by omega
  obtain ⟨b,o,cs,rfl,hcl,hrow,hrep⟩:=hg k l[k].dat (by simp [hk2]);obtain ⟨pA,pn,pc,dA,dn,dc,yA,yn,yc,fA,fn,fc,rfl,-⟩:=hrep.row;replace hrow:=fun j u hj=>aK hgm (hrow j u hj);refine kP H (Kc K5 (SQ fun _ K6=>SB (SR fun _ K7=>Rm rfl (ak K7 rfl (SR fun _ K8=>Rm rfl (Rm rfl (Rm rfl (Ri oh kS rfl rfl ?_))))))));clear H K5 K7;intro a H;refine bJ kS (cs:=[_,_,_,_,_,_]) H wn rfl rfl (fun j v hj=>H.hp.aI (hrow j v hj)) rfl ?_;clear H;intro a H;refine oO H wn rfl rfl (hf _ (jo hk2) _ _ _ hgm H.ro (hrep.mono hgm)) rfl ?_;clear H;rintro v16 qB a w rfl qL H;refine K8 _ _ ?_;clear K8;refine kW H rfl ?_ ?_
  ·intro h16
   try have p16:=dT h16
   refine kP H (SR fun _ K9=>Rm rfl (ak K9 rfl ?_));clear H K9;intro a H;refine lr H results104 rfl ?_
   first
    | exact H.rt (by rw [uH hk2 hno h16];rfl)
    | exact H.rt (by rw [show l.take k=l from jH (by omega)] at hno;rw [hno];rfl)
  intro h16
  try have p16:=dF h16
  refine kP H (Kc K6 (SC (Rd rfl (Rm rfl ?_))));clear H K6;intro a H;refine aH ?_;refine dD ((k+1,qB)) (by exact (H).sub ⟨rfl,rfl,rfl,rfl,aF⟩) ?_ ?_
  ·(try dsimp only);exact ⟨by omega,CF hk2 hno h16,fun b o h=>qL b o (hgm b o h)⟩
  first|omega|(dsimp only;omega)
 intro h9 a H
 try have p9:=dF h9
 refine dV ?_;refine K2 _ _ ?_;clear K2;refine kP H (SR fun _ aT=>ak aT rfl ?_);clear H aT;intro a H;refine lr H results104 rfl ?_
 first
  | exact H.rt (by rw [uH hk2 hno h16];rfl)
  | exact H.rt (by rw [show l.take k=l from jH (by omega)] at hno;rw [hno];rfl)
end
section
open Go.RowKit
theorem aaW:∀ args w,(callFunc 147 args).run prog w=.ok (.enter 147 args) w:=enters func147 rfl (by kernel_rfl)
theorem aaX:∀ args w,(callFunc 148 args).run prog w=.ok (.enter 148 args) w:=enters func148 rfl (by kernel_rfl)
theorem ru:prog.underlying 68=some (.slice 3):=by kernel_rfl
theorem abb:∀ args w,(callFunc 151 args).run prog w=.ok (.enter 151 args) w:=enters func151 rfl (by kernel_rfl)
theorem RZ:∀ args w,(callFunc 137 args).run prog w=.ok (.enter 137 args) w:=enters func137 rfl (by kernel_rfl)
theorem aaP:∀ args w,(callFunc 139 args).run prog w=.ok (.enter 139 args) w:=enters func139 rfl (by kernel_rfl)
theorem acH:bM prog 233 1 1:=⟨by kernel_rfl⟩
theorem aaO:∀ args w,(callFunc 138 args).run prog w=.ok (.enter 138 args) w:=enters func138 rfl (by kernel_rfl)
theorem acI:bM prog 233 2 2:=⟨by kernel_rfl⟩
theorem acJ:bM prog 233 3 3:=⟨by kernel_rfl⟩
def kz:iX:=⟨0,0,0,0,0,⟨#[]⟩⟩
def CK:List Int:=CO.map iX.num
def kX (k:Int):iX × Bool:=if AU CK k=true then (CO.getD (xG CK k) kz,true) else (kz,false)
theorem find_spec (G:GH) (w0:World) (hG:Hold G w0) (k:Int):Calls prog 137 #[vi k] w0 (bD w0 G fun u G'=>u=.tuple #[.agg (kX k).1.cells.toArray,.bool (kX k).2]):=by
 refine eN [(0,_)] func137 rfl ntmps137 rfl rfl hG ?_;intro a H;refine dz (fun _ K1=>?_);refine eX qY H wn rfl ?_;clear H;intro b2 a w hb2 H;refine kH H (ak K1 rfl (SR fun _ K2=>?_));clear H K1;intro a H;refine s_call aaW H wn rfl (afB _ _ H.ro) rfl ?_;clear H;rintro v7 G7 a w hv7 zI H;obtain ⟨A,c,rfl,hc1,hc2,-⟩:=hv7.slice;rw [bT] at *;refine kH H (ak K2 rfl (SR fun _ K3=>Rm rfl (Rm rfl ?_)));clear H K2;intro a H;refine s_call aaX H wn rfl (Y1 _ _ H.ro CO k _ hv7 (by decide)) rfl ?_;clear H;rintro v11 vU a w rfl Jf H;have hv7:=hv7.mono Jf;have hkn:CO.map iX.num=CK:=rfl;rw [hkn] at H;obtain ⟨n,hn⟩:∃ n,n=xG CK k:=⟨_,rfl⟩;obtain ⟨q,hq⟩:∃ q,q=AU CK k:=⟨_,rfl⟩;rw [← hn,← hq] at H;refine kH H (Rm rfl ?_);clear H;intro a H;(iterate 2 refine lQ H wn rfl rfl rfl ?_;clear H;intro a H);refine kH H (Ra rfl (ak K3 rfl (SQ fun _ K4=>SR fun _ K5=>Rm rfl (Rn rfl (Kz K5 (Cd rfl ?_ ?_)))))) <;> clear H K3 K5
 ·intro nE a H
  refine dz (fun _ K6=>?_);refine jZ WE [_,_,_,_,_,_] H wn rfl rfl rfl rfl ?_;clear H;intro a H;refine bE qY 0 (vs:=[_,_,_,_,_,_]) _ H wn rfl rfl rfl rfl rfl rfl rfl rfl ?_;clear H;intro w H;dsimp only [List.set,setRow] at H;refine kH H (ak K6 rfl ?_);clear H K6;intro a H;refine bZ ?_;refine (eT H results137 (.cons (zR qY (cs:=[_,_,_,_,_,_]) H rfl rfl (H.hp.dZ 0 rfl rfl)) (.cons (aR H rfl) .nil)) ?_).1;exact H.rt (by rw [kX,ah (by rw [← hq];simpa using nE)];rfl)
 intro nE a H
 try have rV:=dF nE
 have hlt:n < CO.length:=by have:=adK (ks:=CK) (t:=k) (by rw [← hq];simpa using nE);rw [← hn] at this;simpa [CK] using this
 obtain ⟨b,o,rfl,hrow⟩:=NS hv7 hlt;refine kP H (Kc K4 (SR fun _ K7=>Rm rfl (Rm rfl (Ri GV qY rfl rfl ?_))));clear H K4;intro a H;refine bJ qY (cs:=[_,_,_,_,_,_]) H wn rfl rfl (fun j v hj=>H.hp.aI (hrow j v hj)) rfl ?_;clear H;intro a H;refine bE qY 0 (vs:=[_,_,_,_,_,_]) _ H wn rfl rfl rfl rfl rfl rfl rfl rfl ?_;clear H;intro w H;dsimp only [List.set,setRow] at H;refine kH H (ak K7 rfl ?_);clear H K7;intro a H;refine bZ ?_;refine (eT H results137 (.cons (zR qY (cs:=[_,_,_,_,_,_]) H rfl rfl (H.hp.dZ 0 rfl rfl)) (.cons (aR H rfl) .nil)) ?_).1;exact H.rt (by rw [kX,au (by rw [← hq];simpa using nE),← hn,List.getD_eq_getElem?_getD,gM hlt];rfl)
def cZ (e:Int):List Int:=if e=1∨e=4∨e=5∨e=6 then [1] else if e=2 then [1,2] else if e=3 then [3] else if e=7 then [6] else if e=9 then [4] else if e=10 then [5] else []
theorem eF (G:GH) (A:List Int):fF G 1 (A.map fun k=>[li k]) (A.map vi):=by
 refine ⟨A.map fun k=>[vi k],?_,by simp,fun j r cs hr hc=>?_⟩
 ·induction A with
  | nil=>rfl
  | cons a A ih=>simpa using ih
 rw [qd] at hr hc
 cases h:A[j]? with
 | none=>rw [h] at hr;cases hr
 | some x =>
  rw [h] at hr hc
  cases hr;cases hc
  exact ⟨by simp only [aX];exact ⟨_,_,rfl,by simp [av,Value.oneCell'],rfl⟩,rfl⟩
theorem ado (G:GH) (w0:World) (hG:Hold G w0) (e:Int):Calls prog 139 #[vi e] w0 (bD w0 G fun u G'=>av G' (.sl 1 ((cZ e).map fun k=>[li k])) u):=by
  refine eN [(0,_)] func139 rfl ntmps139 rfl rfl hG ?_;intro a H;refine kP H (SR fun _ K1=>ak K1 rfl (SQ fun _ K2=>SR fun _ K3=>Rm rfl (Kz K3 (SB (SQ fun _ K4=>SR fun _ K5=>Rc rfl (ak K5 rfl (Cd rfl ?_ ?_))))))) <;> clear H K1 K3 K5
  · intro h4 a H
    try have p4:=dT h4
    refine kP H (Kc K4 (Ct rfl h4 (SR fun _ K6=>?_)));clear H K4;intro a H;refine gP ru aD [_] [_] H wn rfl rfl rfl rfl rfl (by intro i q h;match i,h with|0,h=>exact h|n+1,h=>simp at h) rfl rfl ?_;clear H;intro b9 a w xR H;refine kH H (ak K6 rfl ?_);clear H K6;intro a H;refine lr H results139 rfl ?_
    first
      | exact H.rt (by rw [cZ,ah (by omega),ah (by omega),ah (by omega),ah (by omega),ah (by omega),ah (by omega)];exact av.jf rfl (by decide))
      | (obtain ⟨Gz,hmz,hbz,H⟩:=H.dM
         first
           | exact H.rt (by rw [cZ,au (by omega)];exact av.dS (n:=1) (cap:=1) hbz rfl (bK _) (show 1≤maxLen by decide) rfl (eF _ [1]))
           | exact H.rt (by rw [cZ,ah (by omega),au (by omega)];exact av.dS (n:=2) (cap:=2) hbz rfl (bK _) (show 2≤maxLen by decide) rfl (eF _ [1,2]))
           | exact H.rt (by rw [cZ,ah (by omega),ah (by omega),au (by omega)];exact av.dS (n:=1) (cap:=1) hbz rfl (bK _) (show 1≤maxLen by decide) rfl (eF _ [3]))
           | exact H.rt (by rw [cZ,ah (by omega),ah (by omega),ah (by omega),au (by omega)];exact av.dS (n:=1) (cap:=1) hbz rfl (bK _) (show 1≤maxLen by decide) rfl (eF _ [6]))
           | exact H.rt (by rw [cZ,ah (by omega),ah (by omega),ah (by omega),ah (by omega),au (by omega)];exact av.dS (n:=1) (cap:=1) hbz rfl (bK _) (show 1≤maxLen by decide) rfl (eF _ [4]))
           | exact H.rt (by rw [cZ,ah (by omega),ah (by omega),ah (by omega),ah (by omega),ah (by omega),au (by omega)];exact av.dS (n:=1) (cap:=1) hbz rfl (bK _) (show 1≤maxLen by decide) rfl (eF _ [5])))
  intro h4 a H
  try have p4:=dF h4
  refine kP H (SR fun _ K7=>Rc rfl (ak K7 rfl (Cd rfl ?_ ?_))) <;> clear H K7
  · intro h4 a H
    try have p4:=dT h4
    refine kP H (Kc K4 (Ct rfl h4 (SR fun _ K8=>?_)));clear H K4;intro a H;refine gP ru aD [_] [_] H wn rfl rfl rfl rfl rfl (by intro i q h;match i,h with|0,h=>exact h|n+1,h=>simp at h) rfl rfl ?_;clear H;intro b9 a w xR H;refine kH H (ak K8 rfl ?_);clear H K8;intro a H;refine lr H results139 rfl ?_
    first
      | exact H.rt (by rw [cZ,ah (by omega),ah (by omega),ah (by omega),ah (by omega),ah (by omega),ah (by omega)];exact av.jf rfl (by decide))
      | (obtain ⟨Gz,hmz,hbz,H⟩:=H.dM
         first
           | exact H.rt (by rw [cZ,au (by omega)];exact av.dS (n:=1) (cap:=1) hbz rfl (bK _) (show 1≤maxLen by decide) rfl (eF _ [1]))
           | exact H.rt (by rw [cZ,ah (by omega),au (by omega)];exact av.dS (n:=2) (cap:=2) hbz rfl (bK _) (show 2≤maxLen by decide) rfl (eF _ [1,2]))
           | exact H.rt (by rw [cZ,ah (by omega),ah (by omega),au (by omega)];exact av.dS (n:=1) (cap:=1) hbz rfl (bK _) (show 1≤maxLen by decide) rfl (eF _ [3]))
           | exact H.rt (by rw [cZ,ah (by omega),ah (by omega),ah (by omega),au (by omega)];exact av.dS (n:=1) (cap:=1) hbz rfl (bK _) (show 1≤maxLen by decide) rfl (eF _ [6]))
           | exact H.rt (by rw [cZ,ah (by omega),ah (by omega),ah (by omega),ah (by omega),au (by omega)];exact av.dS (n:=1) (cap:=1) hbz rfl (bK _) (show 1≤maxLen by decide) rfl (eF _ [4]))
           | exact H.rt (by rw [cZ,ah (by omega),ah (by omega),ah (by omega),ah (by omega),ah (by omega),au (by omega)];exact av.dS (n:=1) (cap:=1) hbz rfl (bK _) (show 1≤maxLen by decide) rfl (eF _ [5])))
  intro h4 a H
  try have p4:=dF h4
  refine kP H (SR fun _ K9=>Rc rfl (ak K9 rfl (Cd rfl ?_ ?_))) <;> clear H K9
  · intro h4 a H
    try have p4:=dT h4
    refine kP H (Kc K4 (Ct rfl h4 (SR fun _ aT=>?_)));clear H K4;intro a H;refine gP ru aD [_] [_] H wn rfl rfl rfl rfl rfl (by intro i q h;match i,h with|0,h=>exact h|n+1,h=>simp at h) rfl rfl ?_;clear H;intro b9 a w xR H;refine kH H (ak aT rfl ?_);clear H aT;intro a H;refine lr H results139 rfl ?_
    first
      | exact H.rt (by rw [cZ,ah (by omega),ah (by omega),ah (by omega),ah (by omega),ah (by omega),ah (by omega)];exact av.jf rfl (by decide))
      | (obtain ⟨Gz,hmz,hbz,H⟩:=H.dM
         first
           | exact H.rt (by rw [cZ,au (by omega)];exact av.dS (n:=1) (cap:=1) hbz rfl (bK _) (show 1≤maxLen by decide) rfl (eF _ [1]))
           | exact H.rt (by rw [cZ,ah (by omega),au (by omega)];exact av.dS (n:=2) (cap:=2) hbz rfl (bK _) (show 2≤maxLen by decide) rfl (eF _ [1,2]))
           | exact H.rt (by rw [cZ,ah (by omega),ah (by omega),au (by omega)];exact av.dS (n:=1) (cap:=1) hbz rfl (bK _) (show 1≤maxLen by decide) rfl (eF _ [3]))
           | exact H.rt (by rw [cZ,ah (by omega),ah (by omega),ah (by omega),au (by omega)];exact av.dS (n:=1) (cap:=1) hbz rfl (bK _) (show 1≤maxLen by decide) rfl (eF _ [6]))
           | exact H.rt (by rw [cZ,ah (by omega),ah (by omega),ah (by omega),ah (by omega),au (by omega)];exact av.dS (n:=1) (cap:=1) hbz rfl (bK _) (show 1≤maxLen by decide) rfl (eF _ [4]))
           | exact H.rt (by rw [cZ,ah (by omega),ah (by omega),ah (by omega),ah (by omega),ah (by omega),au (by omega)];exact av.dS (n:=1) (cap:=1) hbz rfl (bK _) (show 1≤maxLen by decide) rfl (eF _ [5])))
  intro h4 a H
  try have p4:=dF h4
  refine kP H (SC (Rc rfl (aU K4 rfl (Cd rfl ?_ ?_)))) <;> clear H K4
  · intro h4 a H
    try have p4:=dT h4
    refine dz (fun _ bC=>?_);refine gP ru aD [_] [_] H wn rfl rfl rfl rfl rfl (by intro i q h;match i,h with|0,h=>exact h|n+1,h=>simp at h) rfl rfl ?_;clear H;intro b9 a w xR H;refine kH H (ak bC rfl ?_);clear H bC;intro a H;refine lr H results139 rfl ?_
    first
      | exact H.rt (by rw [cZ,ah (by omega),ah (by omega),ah (by omega),ah (by omega),ah (by omega),ah (by omega)];exact av.jf rfl (by decide))
      | (obtain ⟨Gz,hmz,hbz,H⟩:=H.dM
         first
           | exact H.rt (by rw [cZ,au (by omega)];exact av.dS (n:=1) (cap:=1) hbz rfl (bK _) (show 1≤maxLen by decide) rfl (eF _ [1]))
           | exact H.rt (by rw [cZ,ah (by omega),au (by omega)];exact av.dS (n:=2) (cap:=2) hbz rfl (bK _) (show 2≤maxLen by decide) rfl (eF _ [1,2]))
           | exact H.rt (by rw [cZ,ah (by omega),ah (by omega),au (by omega)];exact av.dS (n:=1) (cap:=1) hbz rfl (bK _) (show 1≤maxLen by decide) rfl (eF _ [3]))
           | exact H.rt (by rw [cZ,ah (by omega),ah (by omega),ah (by omega),au (by omega)];exact av.dS (n:=1) (cap:=1) hbz rfl (bK _) (show 1≤maxLen by decide) rfl (eF _ [6]))
           | exact H.rt (by rw [cZ,ah (by omega),ah (by omega),ah (by omega),ah (by omega),au (by omega)];exact av.dS (n:=1) (cap:=1) hbz rfl (bK _) (show 1≤maxLen by decide) rfl (eF _ [4]))
           | exact H.rt (by rw [cZ,ah (by omega),ah (by omega),ah (by omega),ah (by omega),ah (by omega),au (by omega)];exact av.dS (n:=1) (cap:=1) hbz rfl (bK _) (show 1≤maxLen by decide) rfl (eF _ [5])))
  intro h4 a H
  try have p4:=dF h4
  refine kP H (SR fun _ bF=>Rc rfl (ak bF rfl (Cd rfl ?_ ?_))) <;> clear H bF
  · intro h10 a H
    try have lM:=dT h10
    refine dz (fun _ bN=>?_);refine gP ru aD [_,_] [_,_] H wn rfl rfl rfl rfl rfl (by intro i q h;match i,h with|0,h=>exact h|1,h=>exact h|n+2,h=>simp at h) rfl rfl ?_;clear H;intro b12 a w AV H;refine kH H (ak bN rfl ?_);clear H bN;intro a H;refine lr H results139 rfl ?_
    first
      | exact H.rt (by rw [cZ,ah (by omega),ah (by omega),ah (by omega),ah (by omega),ah (by omega),ah (by omega)];exact av.jf rfl (by decide))
      | (obtain ⟨Gz,hmz,hbz,H⟩:=H.dM
         first
           | exact H.rt (by rw [cZ,au (by omega)];exact av.dS (n:=1) (cap:=1) hbz rfl (bK _) (show 1≤maxLen by decide) rfl (eF _ [1]))
           | exact H.rt (by rw [cZ,ah (by omega),au (by omega)];exact av.dS (n:=2) (cap:=2) hbz rfl (bK _) (show 2≤maxLen by decide) rfl (eF _ [1,2]))
           | exact H.rt (by rw [cZ,ah (by omega),ah (by omega),au (by omega)];exact av.dS (n:=1) (cap:=1) hbz rfl (bK _) (show 1≤maxLen by decide) rfl (eF _ [3]))
           | exact H.rt (by rw [cZ,ah (by omega),ah (by omega),ah (by omega),au (by omega)];exact av.dS (n:=1) (cap:=1) hbz rfl (bK _) (show 1≤maxLen by decide) rfl (eF _ [6]))
           | exact H.rt (by rw [cZ,ah (by omega),ah (by omega),ah (by omega),ah (by omega),au (by omega)];exact av.dS (n:=1) (cap:=1) hbz rfl (bK _) (show 1≤maxLen by decide) rfl (eF _ [4]))
           | exact H.rt (by rw [cZ,ah (by omega),ah (by omega),ah (by omega),ah (by omega),ah (by omega),au (by omega)];exact av.dS (n:=1) (cap:=1) hbz rfl (bK _) (show 1≤maxLen by decide) rfl (eF _ [5])))
  intro h10 a H
  try have lM:=dF h10
  refine kP H (SR fun _ bQ=>Rc rfl (ak bQ rfl (Cd rfl ?_ ?_))) <;> clear H bQ
  · intro fM a H
    try have pQ:=dT fM
    refine dz (fun _ dJ=>?_);refine gP ru aD [_] [_] H wn rfl rfl rfl rfl rfl (by intro i q h;match i,h with|0,h=>exact h|n+1,h=>simp at h) rfl rfl ?_;clear H;intro b15 a w adP H;refine kH H (ak dJ rfl ?_);clear H dJ;intro a H;refine lr H results139 rfl ?_
    first
      | exact H.rt (by rw [cZ,ah (by omega),ah (by omega),ah (by omega),ah (by omega),ah (by omega),ah (by omega)];exact av.jf rfl (by decide))
      | (obtain ⟨Gz,hmz,hbz,H⟩:=H.dM
         first
           | exact H.rt (by rw [cZ,au (by omega)];exact av.dS (n:=1) (cap:=1) hbz rfl (bK _) (show 1≤maxLen by decide) rfl (eF _ [1]))
           | exact H.rt (by rw [cZ,ah (by omega),au (by omega)];exact av.dS (n:=2) (cap:=2) hbz rfl (bK _) (show 2≤maxLen by decide) rfl (eF _ [1,2]))
           | exact H.rt (by rw [cZ,ah (by omega),ah (by omega),au (by omega)];exact av.dS (n:=1) (cap:=1) hbz rfl (bK _) (show 1≤maxLen by decide) rfl (eF _ [3]))
           | exact H.rt (by rw [cZ,ah (by omega),ah (by omega),ah (by omega),au (by omega)];exact av.dS (n:=1) (cap:=1) hbz rfl (bK _) (show 1≤maxLen by decide) rfl (eF _ [6]))
           | exact H.rt (by rw [cZ,ah (by omega),ah (by omega),ah (by omega),ah (by omega),au (by omega)];exact av.dS (n:=1) (cap:=1) hbz rfl (bK _) (show 1≤maxLen by decide) rfl (eF _ [4]))
           | exact H.rt (by rw [cZ,ah (by omega),ah (by omega),ah (by omega),ah (by omega),ah (by omega),au (by omega)];exact av.dS (n:=1) (cap:=1) hbz rfl (bK _) (show 1≤maxLen by decide) rfl (eF _ [5])))
  intro fM a H
  try have pQ:=dF fM
  refine kP H (SR fun _ dG=>Rc rfl (ak dG rfl (Cd rfl ?_ ?_))) <;> clear H dG
  · intro h16 a H
    try have p16:=dT h16
    refine dz (fun _ dh=>?_);refine gP ru aD [_] [_] H wn rfl rfl rfl rfl rfl (by intro i q h;match i,h with|0,h=>exact h|n+1,h=>simp at h) rfl rfl ?_;clear H;intro b18 a w I8 H;refine kH H (ak dh rfl ?_);clear H dh;intro a H;refine lr H results139 rfl ?_
    first
      | exact H.rt (by rw [cZ,ah (by omega),ah (by omega),ah (by omega),ah (by omega),ah (by omega),ah (by omega)];exact av.jf rfl (by decide))
      | (obtain ⟨Gz,hmz,hbz,H⟩:=H.dM
         first
           | exact H.rt (by rw [cZ,au (by omega)];exact av.dS (n:=1) (cap:=1) hbz rfl (bK _) (show 1≤maxLen by decide) rfl (eF _ [1]))
           | exact H.rt (by rw [cZ,ah (by omega),au (by omega)];exact av.dS (n:=2) (cap:=2) hbz rfl (bK _) (show 2≤maxLen by decide) rfl (eF _ [1,2]))
           | exact H.rt (by rw [cZ,ah (by omega),ah (by omega),au (by omega)];exact av.dS (n:=1) (cap:=1) hbz rfl (bK _) (show 1≤maxLen by decide) rfl (eF _ [3]))
           | exact H.rt (by rw [cZ,ah (by omega),ah (by omega),ah (by omega),au (by omega)];exact av.dS (n:=1) (cap:=1) hbz rfl (bK _) (show 1≤maxLen by decide) rfl (eF _ [6]))
           | exact H.rt (by rw [cZ,ah (by omega),ah (by omega),ah (by omega),ah (by omega),au (by omega)];exact av.dS (n:=1) (cap:=1) hbz rfl (bK _) (show 1≤maxLen by decide) rfl (eF _ [4]))
           | exact H.rt (by rw [cZ,ah (by omega),ah (by omega),ah (by omega),ah (by omega),ah (by omega),au (by omega)];exact av.dS (n:=1) (cap:=1) hbz rfl (bK _) (show 1≤maxLen by decide) rfl (eF _ [5])))
  intro h16 a H
  try have p16:=dF h16
  refine kP H (SR fun _ dX=>Rc rfl (ak dX rfl (Cd rfl ?_ ?_))) <;> clear H dX
  · intro h19 a H
    try have rW:=dT h19
    refine dz (fun _ gy=>?_);refine gP ru aD [_] [_] H wn rfl rfl rfl rfl rfl (by intro i q h;match i,h with|0,h=>exact h|n+1,h=>simp at h) rfl rfl ?_;clear H;intro b21 a w ajF H;refine kH H (ak gy rfl ?_);clear H gy;intro a H;refine lr H results139 rfl ?_
    first
      | exact H.rt (by rw [cZ,ah (by omega),ah (by omega),ah (by omega),ah (by omega),ah (by omega),ah (by omega)];exact av.jf rfl (by decide))
      | (obtain ⟨Gz,hmz,hbz,H⟩:=H.dM
         first
           | exact H.rt (by rw [cZ,au (by omega)];exact av.dS (n:=1) (cap:=1) hbz rfl (bK _) (show 1≤maxLen by decide) rfl (eF _ [1]))
           | exact H.rt (by rw [cZ,ah (by omega),au (by omega)];exact av.dS (n:=2) (cap:=2) hbz rfl (bK _) (show 2≤maxLen by decide) rfl (eF _ [1,2]))
           | exact H.rt (by rw [cZ,ah (by omega),ah (by omega),au (by omega)];exact av.dS (n:=1) (cap:=1) hbz rfl (bK _) (show 1≤maxLen by decide) rfl (eF _ [3]))
           | exact H.rt (by rw [cZ,ah (by omega),ah (by omega),ah (by omega),au (by omega)];exact av.dS (n:=1) (cap:=1) hbz rfl (bK _) (show 1≤maxLen by decide) rfl (eF _ [6]))
           | exact H.rt (by rw [cZ,ah (by omega),ah (by omega),ah (by omega),ah (by omega),au (by omega)];exact av.dS (n:=1) (cap:=1) hbz rfl (bK _) (show 1≤maxLen by decide) rfl (eF _ [4]))
           | exact H.rt (by rw [cZ,ah (by omega),ah (by omega),ah (by omega),ah (by omega),ah (by omega),au (by omega)];exact av.dS (n:=1) (cap:=1) hbz rfl (bK _) (show 1≤maxLen by decide) rfl (eF _ [5])))
  intro h19 a H
  try have rW:=dF h19
  refine kP H (SR fun _ eY=>Rc rfl (ak eY rfl (Cd rfl ?_ ?_))) <;> clear H eY
  · intro h22 a H
    try have iK:=dT h22
    refine dz (fun _ gD=>?_);refine gP ru aD [_] [_] H wn rfl rfl rfl rfl rfl (by intro i q h;match i,h with|0,h=>exact h|n+1,h=>simp at h) rfl rfl ?_;clear H;intro b24 a w ajH H;refine kH H (ak gD rfl ?_);clear H gD;intro a H;refine lr H results139 rfl ?_
    first
      | exact H.rt (by rw [cZ,ah (by omega),ah (by omega),ah (by omega),ah (by omega),ah (by omega),ah (by omega)];exact av.jf rfl (by decide))
      | (obtain ⟨Gz,hmz,hbz,H⟩:=H.dM
         first
           | exact H.rt (by rw [cZ,au (by omega)];exact av.dS (n:=1) (cap:=1) hbz rfl (bK _) (show 1≤maxLen by decide) rfl (eF _ [1]))
           | exact H.rt (by rw [cZ,ah (by omega),au (by omega)];exact av.dS (n:=2) (cap:=2) hbz rfl (bK _) (show 2≤maxLen by decide) rfl (eF _ [1,2]))
           | exact H.rt (by rw [cZ,ah (by omega),ah (by omega),au (by omega)];exact av.dS (n:=1) (cap:=1) hbz rfl (bK _) (show 1≤maxLen by decide) rfl (eF _ [3]))
           | exact H.rt (by rw [cZ,ah (by omega),ah (by omega),ah (by omega),au (by omega)];exact av.dS (n:=1) (cap:=1) hbz rfl (bK _) (show 1≤maxLen by decide) rfl (eF _ [6]))
           | exact H.rt (by rw [cZ,ah (by omega),ah (by omega),ah (by omega),ah (by omega),au (by omega)];exact av.dS (n:=1) (cap:=1) hbz rfl (bK _) (show 1≤maxLen by decide) rfl (eF _ [4]))
           | exact H.rt (by rw [cZ,ah (by omega),ah (by omega),ah (by omega),ah (by omega),ah (by omega),au (by omega)];exact av.dS (n:=1) (cap:=1) hbz rfl (bK _) (show 1≤maxLen by decide) rfl (eF _ [5])))
  intro h22 a H
  try have iK:=dF h22
  refine kP H (Kc K2 (SR fun _ ig=>ak ig rfl ?_));clear H K2 ig;intro a H;refine lr H results139 rfl ?_
  first
    | exact H.rt (by rw [cZ,ah (by omega),ah (by omega),ah (by omega),ah (by omega),ah (by omega),ah (by omega)];exact av.jf rfl (by decide))
    | (obtain ⟨Gz,hmz,hbz,H⟩:=H.dM
       first
         | exact H.rt (by rw [cZ,au (by omega)];exact av.dS (n:=1) (cap:=1) hbz rfl (bK _) (show 1≤maxLen by decide) rfl (eF _ [1]))
         | exact H.rt (by rw [cZ,ah (by omega),au (by omega)];exact av.dS (n:=2) (cap:=2) hbz rfl (bK _) (show 2≤maxLen by decide) rfl (eF _ [1,2]))
         | exact H.rt (by rw [cZ,ah (by omega),ah (by omega),au (by omega)];exact av.dS (n:=1) (cap:=1) hbz rfl (bK _) (show 1≤maxLen by decide) rfl (eF _ [3]))
         | exact H.rt (by rw [cZ,ah (by omega),ah (by omega),ah (by omega),au (by omega)];exact av.dS (n:=1) (cap:=1) hbz rfl (bK _) (show 1≤maxLen by decide) rfl (eF _ [6]))
         | exact H.rt (by rw [cZ,ah (by omega),ah (by omega),ah (by omega),ah (by omega),au (by omega)];exact av.dS (n:=1) (cap:=1) hbz rfl (bK _) (show 1≤maxLen by decide) rfl (eF _ [4]))
         | exact H.rt (by rw [cZ,ah (by omega),ah (by omega),ah (by omega),ah (by omega),ah (by omega),au (by omega)];exact av.dS (n:=1) (cap:=1) hbz rfl (bK _) (show 1≤maxLen by decide) rfl (eF _ [5])))
theorem afp {G:GH} {l:List Int} {A:Option Addr} {n c k:Nat} (hv:av G (.sl 1 (l.map fun k=>[li k])) (.slice A n c)) (hk:k < l.length):∃ b o,A=some ⟨b,o,none⟩∧aI G b (o+k*1)=some (vi l[k]):=by
 obtain ⟨A',c',he,_,_,hg⟩:=hv.slice
 injection he with e1 e2 e3
 subst e1;obtain ⟨b,o,cs,h1,h2,h3,h4⟩:=hg k [li l[k]] (by simp [hk])
 simp only [aX,av] at h4
 obtain ⟨v1,_,rfl,⟨rfl,-⟩,rfl⟩:=h4;exact ⟨b,o,h1,h3 0 _ rfl⟩
theorem afl (G:GH) (w0:World) (hG:Hold G w0) (l:List Int) (t:Int) (v:aj) (hv:av G (.sl 1 (l.map fun k=>[li k])) v) :
  Calls prog 151 #[v,vi t] w0 (bD w0 G fun u G'=>u=vi (mZ (l.findIdx? fun x=>decide (t=x)))):=by
 obtain ⟨A,c,rfl,hc1,hc2,-⟩:=hv.slice;have hml:maxLen=9223372036854775807:=rfl;rw [bT] at *;refine eN [(0,_),(1,_)] func151 rfl ntmps151 rfl rfl hG ?_;intro a H;refine kP H (SR fun _ K1=>ak K1 rfl (SQ fun _ K2=>SR fun _ K3=>Rm rfl (Rl ru rfl (Rm rfl (Kz K3 (SB ?_))))));clear H K1 K3;intro a H;skip;refine fH (ι:=Nat) (Tc:=[(0,_),(1,_),(7,_)]) (Lc:=[]) (fun gh=>[(8,vi gh)]) (fun gh=>[]) (fun gh=>G) (fun gh=>gh≤l.length∧(l.take gh).findIdx? (fun x=>decide (t=x))=none) (fun gh=>l.length - gh) (0) (by exact (H).sub ⟨rfl,rfl,rfl,rfl,aF⟩) ?_ ?_
 ·exact ⟨iY _,rfl⟩
 clear H;intro gh a w hI H;obtain ⟨k,hgh⟩:∃ x,x=gh:=⟨_,rfl⟩;subst hgh;obtain ⟨hk,hno⟩:=hI;dsimp only [lca,bq] at H;refine kP H (SR fun _ K4=>Rc rfl (Kz K4 (SQ fun _ K5=>Cd rfl ?_ ?_))) <;> clear H K4
 ·intro h9 a H
  try have p9:=dT h9
  have hk2:k < l.length:=by omega
  obtain ⟨b,o,rfl,hrow⟩:=afp hv hk2;refine kP H (Kc K5 (SQ fun _ K6=>SB (SR fun _ K7=>Rm rfl (ak K7 rfl (SR fun _ K8=>Rm rfl (Rm rfl (Rm rfl (Ri ru aD rfl rfl (Rg aD rfl (by assumption) ?_)))))))));clear H K5 K7;intro a H;refine kH H (Rc rfl (Kz K8 (Cd rfl ?_ ?_))) <;> clear H K8
  ·intro h16 a H
   try have p16:=dT h16
   exact kP H (SR fun _ K9=>Rm rfl (ak K9 rfl (LR results151 rfl fun H=>H.rt (by rw [uH hk2 hno (by simpa using p16)];rfl))))
  intro h16 a H
  try have p16:=dF h16
  refine kP H (Kc K6 (SC (Rd rfl (Rm rfl ?_))));clear H K6;intro a H;refine aH ?_;refine dD ((k+1)) (by exact (H).sub ⟨rfl,rfl,rfl,rfl,aF⟩) ?_ ?_
  ·exact ⟨by omega,CF hk2 hno (by simpa using p16)⟩
  first|omega|(dsimp only;omega)
 intro h9 a H
 try have p9:=dF h9
 refine dV ?_;refine K2 _ _ ?_;clear K2;exact kP H (SR fun _ aT=>ak aT rfl (LR results151 rfl fun H=>H.rt (by rw [show l.take k=l from jH (by omega)] at hno;rw [hno];rfl)))
theorem Z4 (G:GH) (w0:World) (hG:Hold G w0) (l:List Int) (t:Int) (v:aj) (hv:av G (.sl 1 (l.map fun k=>[li k])) v) :
  Calls prog 138 #[v,vi t] w0 (bD w0 G fun u G'=>u=.bool (decide (t∈l))):=by
 obtain ⟨A,c,rfl,hc1,hc2,-⟩:=hv.slice;rw [bT] at *;refine eN [(0,_),(1,_)] func138 rfl ntmps138 rfl rfl hG ?_;intro a H;refine kP H (SR fun _ K1=>ak K1 rfl (SR fun _ K2=>Rm rfl (Rm rfl ?_)));clear H K1;intro a H;refine s_call abb H wn rfl (afl _ _ H.ro l t _ hv) rfl ?_;clear H;rintro v7 G7 a w rfl zI H;refine kH H (Rc rfl (ak K2 rfl ?_));clear H K2;intro a H;refine lr H results138 rfl ?_
 exact H.rt (by
  congr 1
  cases h:l.findIdx? (fun x=>decide (t=x)) with
  | none =>
   rw [List.findIdx?_eq_none_iff] at h;have:t∉l:=fun hm=>absurd (h t hm) (by simp)
   simp [mZ,this]
  | some i =>
   obtain ⟨hi,he,-⟩:=List.findIdx?_eq_some_iff_getElem.1 h
   have:t∈l:=by rw [qg he];exact jo _
   simp [mZ,this])
def xO (e k:Int):Bool:=(kX k).2 && decide ((kX k).1.xP∈cZ e)
theorem Te (G:GH) (w0:World) (hG:Hold G w0) (e k:Int):Calls prog 125 #[vi e,vi k] w0 (bD w0 G fun u G'=>u=.bool (xO e k)):=by
 refine eN [(0,_),(1,_)] func125 rfl ntmps125 rfl rfl hG ?_;intro a H;refine kP H (SR fun _ K1=>ak K1 rfl (SR fun _ K2=>Rm rfl ?_));clear H K1;intro a H;refine s_call RZ H wn rfl (find_spec _ _ H.ro k) rfl ?_;clear H;rintro v9 G9 a w rfl wJ H;dsimp only [iX.cells] at H;refine kH H (Rm rfl ?_);clear H;intro a H;(iterate 2 refine lQ H wn rfl rfl rfl ?_;clear H;intro a H);refine eX qY H wn rfl ?_;clear H;intro b5 a w hb5 H;refine bE qY 0 (vs:=[_,_,_,_,_,_]) _ H wn rfl rfl rfl rfl rfl rfl rfl rfl ?_;clear H;intro w H;dsimp only [List.set,setRow] at H;refine kH H (ak K2 rfl (SQ fun _ K3=>?_));clear H K2;intro a H
 by_cases c0:(kX k).2=true
 ·skip
  have nI:∀ (dB:Nat) (v:aj) (G G':GH),(∀ k o,G k=some o→G' k=some o)→(fun (dB:Nat) (v:aj) (G:GH)=>match dB with|0=>v=.bool (kX k).2|1=>v=.bool (decide ((kX k).2=true))|2=>v=vi e|3=>(kX k).2=true→av G (.sl 1 ((cZ e).map fun k=>[li k])) v|4=>v=(aJ b5 1)|5=>v=vi (kX k).1.xP|6=>v=.bool (decide ((kX k).1.xP∈cZ e))|7=>v=.bool (xO e k)|_=>True) dB v G→(fun (dB:Nat) (v:aj) (G:GH)=>match dB with|0=>v=.bool (kX k).2|1=>v=.bool (decide ((kX k).2=true))|2=>v=vi e|3=>(kX k).2=true→av G (.sl 1 ((cZ e).map fun k=>[li k])) v|4=>v=(aJ b5 1)|5=>v=vi (kX k).1.xP|6=>v=.bool (decide ((kX k).1.xP∈cZ e))|7=>v=.bool (xO e k)|_=>True) dB v G':=by
   intro dB v G G' hm h
   match dB,h with
   | 0,h=>exact h
   | 1,h=>exact h
   | 2,h=>exact h
   | 3,h=>exact fun hf=>(h hf).mono hm
   | 4,h=>exact h
   | 5,h=>exact h
   | 6,h=>exact h
   | 7,h=>exact h
   | 8,h=>exact trivial
   | _+9,h=>exact trivial
  refine DT (hmx) [[],[0],[0,1],[0,1,2],[0,1],[0,1,4],(ra 0 6),(ra 0 7),(ra 0 8)] [8] (by kernel_rfl) (by kernel_rfl) (fun (dB:Nat) (v:aj) (G:GH)=>match dB with|0=>v=.bool (kX k).2|1=>v=.bool (decide ((kX k).2=true))|2=>v=vi e|3=>(kX k).2=true→av G (.sl 1 ((cZ e).map fun k=>[li k])) v|4=>v=(aJ b5 1)|5=>v=vi (kX k).1.xP|6=>v=.bool (decide ((kX k).1.xP∈cZ e))|7=>v=.bool (xO e k)|_=>True) nI H ?_ ?_
  ·clear H;refine aB ?_ ?_ ?_ ?_ (aB ?_ ?_ ?_ ?_ (aW (bH rfl) bW))
   ·refine gN [] rfl trivial (by kernel_rfl) nI rfl rfl ?_;intro dQ a w G1 hG HT H fin;exact kH H (Rm rfl fun _ H=>fin H iJ rfl)
   ·refine gN [(0,12,_)] rfl ⟨fun _ _ h=>h,aF⟩ (by kernel_rfl) nI rfl rfl ?_;intro dQ a w G1 hG HT H fin;refine kH H (Rm rfl ?_);clear H;intro a H;exact fin H iJ (by simp)
   ·refine gN [(1,13,_)] rfl ⟨fun _ _ h=>h,aF⟩ (by kernel_rfl) nI rfl rfl ?_;intro dQ a w G1 hG HT H fin;exact kH H (YM (aC c0) rfl fun _ H=>fin H iJ rfl)
   ·refine gN [(2,14,_),(1,13,_)] rfl ⟨fun _ _ h=>h,fun _ _ h=>h,aF⟩ (by kernel_rfl) nI rfl rfl ?_;intro dQ a w G1 hG HT H fin;refine s_call aaP H (wg H rfl rfl (aC c0)) rfl (ado _ _ H.ro e) rfl ?_;clear H;rintro v15 Dw a w Bc Cq H;exact fin H Cq (by first|exact fun _=>Bc|rfl)
   ·refine gN [(1,13,_)] rfl ⟨fun _ _ h=>h,aF⟩ (by kernel_rfl) nI rfl rfl ?_;intro dQ a w G1 hG HT H fin;exact kH H (YF acH (aC c0) rfl fun _ H=>fin H iJ rfl)
   ·refine gN [(4,16,_),(1,13,_)] rfl ⟨fun _ _ h=>h,fun _ _ h=>h,aF⟩ (by kernel_rfl) nI rfl rfl ?_;intro dQ a w G1 hG HT H fin;exact kH H (YO aD 0 (aC c0) rfl fun _ H=>fin H iJ rfl)
   ·intro dQ a w G1 _ bY hc hG HT hv;have H:=HT;clear bY;obtain ⟨u15,aeY,Bc⟩:=hv 3 15 (hc 3 (by decide)) rfl;(try dsimp only at Bc);have H:=H.kG aeY;have H:=H.aS (hv 5 17 (hc 5 (by decide)) rfl) rfl;have H:=H.aS (hv 1 13 (hc 1 (by decide)) rfl) rfl;have Hb:=H.full;have H:=Hb;clear hc;refine s_call aaO H (wg H rfl rfl (aC c0)) rfl (Z4 _ _ H.ro _ _ _ (Bc c0)) rfl ?_;clear H;rintro v18 PW a w rfl adp H;refine aH ⟨rfl,?_⟩;exact lH (by kernel_rfl) nI rfl rfl HT Hb hG hv adp (rfl) H
   refine gN [(1,13,_),(6,18,_)] rfl ⟨fun _ _ h=>h,fun _ _ h=>h,aF⟩ (by kernel_rfl) nI rfl rfl ?_;intro dQ a w G1 hG HT H fin;refine kH H (Pt (aC c0) rfl ?_);clear H;intro a H;exact fin H iJ (by unfold xO;simp_all)
  clear H;intro a w G zy H hv;have H:=H.aS (hv 7 19 rfl rfl) rfl;clear hv;refine kH H (Ra rfl ?_);clear H;intro a H;refine aH ⟨rfl,?_⟩;refine K3 _ _ ?_;clear K3;refine lr H results125 rfl ?_;exact H.rt rfl
 skip;refine dI hmx [[],[0],[0,1],[0,1,2],[0,1],[0,1,4],(ra 0 6),(ra 0 7),(ra 0 8)] [8] (by kernel_rfl) [_,.bool (decide ((kX k).2=true)),undef,undef,undef,undef,undef,.bool (xO e k)] H (aB (Z0 rfl (Rm rfl)) ?_ (aN (j:=1) (by kernel_rfl) (fun _ _ _ _ _ h=>h) rfl rfl rfl rfl rfl (fun _ _ h=>aO h (aG (aM c0))) rfl (fun _=>rfl)) ?_ (aB (aN (j:=1) (by kernel_rfl) (fun _ _ _ _ _ h=>h) rfl rfl rfl rfl rfl (fun _ _ h=>aO h (aG (aM c0))) rfl (fun _=>rfl)) (aN (j:=1) (by kernel_rfl) (fun _ _ _ _ _ h=>h) rfl rfl rfl rfl rfl (fun _ _ h=>aO h (aG (aM c0))) rfl (fun _=>rfl)) (aN (j:=1) (by kernel_rfl) (fun _ _ _ _ _ h=>h) rfl rfl rfl rfl rfl (fun _ _ h=>aO h (aG (aM c0))) rfl (fun _=>rfl)) ?_ (aW (bH rfl) bW))) ?_
 ·refine dw 0 12 rfl rfl fun _ a w G1 hG HT H fin=>?_;refine kH H (Rm rfl ?_);clear H;intro a H;exact fin H iJ (by show _=_;simp)
 ·intro dQ a w G1 _ bY hc hG HT hv;have H:=HT;clear bY;have H:=H.aS (hv 2 14 (hc 2 (by decide)) rfl) rfl;have H:=H.aS (hv 1 13 (hc 1 (by decide)) rfl) rfl;have Hb:=H.full;have H:=Hb;clear hc;refine kH H (Ks (aM c0) rfl ?_);clear H;intro a H;refine aH ⟨rfl,?_⟩;exact lH (by kernel_rfl) (fun _ _ _ _ _ h=>h) rfl rfl HT Hb hG hv (fun _ _ h=>h) (by first|exact fun _=>Bc|rfl) H
 ·refine cB 1 13 6 18 rfl rfl fun _ a w G1 hG HT H fin=>?_;refine kH H (Pf (aM c0) rfl ?_);clear H;intro a H;exact fin H iJ (by show _=_;unfold xO;simp_all)
 clear H;intro a w G zy H hv;have H:=H.aS (hv 7 19 rfl rfl) rfl;clear hv;refine kH H (Ra rfl ?_);clear H;intro a H;refine aH ⟨rfl,?_⟩;refine K3 _ _ ?_;clear K3;refine lr H results125 rfl ?_;exact H.rt rfl
def sQ (k v:Int):Int:=if (kX k).2=false then 4 else if v < (kX k).1.low∨(kX k).1.high < v then 5 else 0
theorem KX (G:GH) (w0:World) (hG:Hold G w0) (k x:Int):Calls prog 126 #[vi k,vi x] w0 (bD w0 G fun u G'=>u=vi (sQ k x)):=by
 refine eN [(0,_),(1,_)] func126 rfl ntmps126 rfl rfl hG ?_;intro a H;refine kP H (SR fun _ K1=>ak K1 rfl (SR fun _ K2=>Rm rfl ?_));clear H K1;intro a H;refine s_call RZ H wn rfl (find_spec _ _ H.ro k) rfl ?_;clear H;rintro v9 G9 a w rfl wJ H;dsimp only [iX.cells] at H;refine kH H (Rm rfl ?_);clear H;intro a H;(iterate 2 refine lQ H wn rfl rfl rfl ?_;clear H;intro a H);refine eX qY H wn rfl ?_;clear H;intro b5 a w hb5 H;refine bE qY 0 (vs:=[_,_,_,_,_,_]) _ H wn rfl rfl rfl rfl rfl rfl rfl rfl ?_;clear H;intro w H;dsimp only [List.set,setRow] at H;refine kH H (ak K2 rfl (SQ fun _ K3=>SB (SR fun _ K4=>Rm rfl (Rn rfl (ak K4 rfl (Cd rfl ?_ ?_)))))) <;> clear H K2 K4
 ·intro h12 a H
  try have qO:=dT h12
  exact kP H (SR fun _ K5=>ak K5 rfl (LR results126 rfl fun H=>H.rt (by unfold sQ;simp_all)))
 intro h12 a H
 try have qO:=dF h12
 refine kP H (SR fun _ K6=>Rm rfl (aV acI aD 0 rfl rfl (Rc rfl (Rm rfl (Sp 20 rfl ?_ ?_))))) <;> clear H
 ·intro h20 a H
  try have C8:=dT h20
  exact kH H (aP h20 rfl (aP h20 rfl (Pt h20 rfl (ak K6 rfl (Ct rfl rfl (SR fun _ K7=>ak K7 rfl (LR results126 rfl fun H=>H.rt (by unfold sQ;simp_all))))))))
 intro h20 a H
 try have C8:=dF h20
 refine kH H (YM h20 rfl (YF acJ h20 rfl (YO aD 0 h20 rfl (YC h20 rfl (Pf h20 rfl (ak K6 rfl (Cd rfl ?_ ?_))))))) <;> clear H K6
 ·intro nE a H
  try have rV:=dT nE
  exact kP H (SR fun _ K8=>ak K8 rfl (LR results126 rfl fun H=>H.rt (by unfold sQ;simp_all)))
 intro nE a H
 try have rV:=dF nE
 exact kP H (Kc K3 (SR fun _ K9=>ak K9 rfl (LR results126 rfl fun H=>H.rt (by unfold sQ;simp_all))))
end
section
open Go.RowKit
theorem uo:bM prog 187 0 0:=⟨by kernel_rfl⟩
theorem RX:∀ args w,(callFunc 125 args).run prog w=.ok (.enter 125 args) w:=enters func125 rfl (by kernel_rfl)
theorem SH:bM prog 187 1 1:=⟨by kernel_rfl⟩
theorem LB:∀ args w,(callFunc 126 args).run prog w=.ok (.enter 126 args) w:=enters func126 rfl (by kernel_rfl)
def Eu (q:Option Int) (k:Int):Bool:=match q with|some j=>decide (k < j)|none=>false
def yU (e:Int):Option Int→List iq→Int
 | _,[]=>0
 | q,p :: r=>if xO e p.key=false then 4 else if q=some p.key then 7 else if Eu q p.key=true then 6 else if sQ p.key p.value=0 then yU e (some p.key) r else sQ p.key p.value
def wV (l:List iq) (k:Nat):Option Int:=if k=0 then none else l[k - 1]?.map iq.key
def gq (e:Int) (l:List iq):Int:=if e < 1∨10 < e then 3 else yU e none l
theorem ZF {e:Int} {l:List iq} {k:Nat} (h:k < l.length):yU e (wV l k) (l.drop k)=if xO e l[k].key=false then 4 else if wV l k=some l[k].key then 7 else if Eu (wV l k) l[k].key=true then 6 else if sQ l[k].key l[k].value=0 then yU e (wV l (k+1)) (l.drop (k+1)) else sQ l[k].key l[k].value:=by
 rw [mV h,yU]
 have:wV l (k+1)=some l[k].key:=by rw [wV,ah (by omega),Nat.add_sub_cancel,gM h];rfl
 rw [this]
theorem JF {l:List iq} {k:Nat} (h:k=0):wV l k=none:=au h
theorem VJ (G:GH) (w0:World) (hG:Hold G w0) (e:Int) (l:List iq) (v:aj) (hv:av G (.sl 2 (l.map iq.dat)) v) :
  Calls prog 90 #[vi e,v] w0 (bD w0 G fun u G'=>u=vi (gq e l)):=by
 obtain ⟨A,c,rfl,hc1,hc2,-⟩:=hv.slice;have hml:maxLen=9223372036854775807:=rfl;rw [bT] at *;refine eN [(0,_),(1,_)] func90 rfl ntmps90 rfl rfl hG ?_;intro a H;refine kP H (SR fun _ K1=>ak K1 rfl (SQ fun _ K2=>SR fun _ K3=>Rm rfl (Rc rfl (Rm rfl (Sp 10 rfl ?_ ?_))))) <;> clear H K1
 ·intro h10 a H
  try have lM:=dT h10
  refine kH H (aP h10 rfl (Pt h10 rfl (Kz K3 (Ct rfl rfl (SR fun _ K4=>ak K4 rfl ?_)))));clear H K3 K4;intro a H;refine lr H results90 rfl ?_
  first
   | exact H.rt (ay vi (by rw [ah (by simpa using p61)] at heq;rw [gq,ah (by omega)];exact heq))
   | exact H.rt (ay vi (by rw [au (by simpa using h21)] at heq;rw [gq,ah (by omega)];exact heq))
   | exact H.rt (ay vi (by rw [gq,ah (by omega)];exact heq))
   | exact H.rt (ay vi (by rw [gq,ah (by omega),← heq,show l.drop k=[] from iO (by omega)];rfl))
   | exact H.rt (ay vi (by rw [gq,au (by omega)]))
 intro h10 a H
 try have lM:=dF h10
 refine kH H (YM h10 rfl (YC h10 rfl (Pf h10 rfl (Kz K3 (Cd rfl ?_ ?_))))) <;> clear H K3
 ·intro fM a H
  try have pQ:=dT fM
  refine kP H (SR fun _ K5=>ak K5 rfl ?_);clear H K5;intro a H;refine lr H results90 rfl ?_
  first
   | exact H.rt (ay vi (by rw [ah (by simpa using p61)] at heq;rw [gq,ah (by omega)];exact heq))
   | exact H.rt (ay vi (by rw [au (by simpa using h21)] at heq;rw [gq,ah (by omega)];exact heq))
   | exact H.rt (ay vi (by rw [gq,ah (by omega)];exact heq))
   | exact H.rt (ay vi (by rw [gq,ah (by omega),← heq,show l.drop k=[] from iO (by omega)];rfl))
   | exact H.rt (ay vi (by rw [gq,au (by omega)]))
 intro fM a H
 try have pQ:=dF fM
 refine kP H (Kc K2 (SQ fun _ K6=>SR fun _ K7=>Rm rfl (Rl og rfl (Rm rfl (Kz K7 (SB ?_))))));clear H K2 K7;intro a H;skip;refine fH (ι:=Nat × GH) (Tc:=[(0,_),(1,_),(14,_),(15,_)]) (Lc:=[]) (fun gh=>[(16,vi gh.1)]) (fun gh=>[]) (fun gh=>gh.2) (fun gh=>gh.1≤l.length∧yU e (wV l gh.1) (l.drop gh.1)=yU e none l∧(∀ b o,G b=some o→gh.2 b=some o)) (fun gh=>l.length - gh.1) ((0,G)) (by exact (H).sub ⟨rfl,rfl,rfl,rfl,rfl,aF⟩) ?_ ?_
 ·exact ⟨iY _,rfl,fun _ _ h=>h⟩
 clear H;intro gh a w hI H;obtain ⟨k,g⟩:=gh;dsimp only at hI H;obtain ⟨hk,heq,hgm⟩:=hI;dsimp only [lca,bq] at H;refine kP H (SR fun _ K8=>Rc rfl (Kz K8 (SQ fun _ K9=>Cd rfl ?_ ?_))) <;> clear H K8
 ·intro dO a H
  try have lN:=dT dO
  have hk2:k < l.length:=by omega
  have CB:=hv.mono hgm;obtain ⟨b,o,rfl,hrow⟩:=JH CB hk2
  obtain ⟨pk,hpk⟩:∃ pk,0 < k→aI g b (o+(k - 1)*2+0)=some (vi pk)∧wV l k=some pk:=by
   by_cases h0:0 < k
   ·obtain ⟨b',o',he,hr'⟩:=JH CB (show k - 1 < l.length by omega)
    injection he with he
    injection he with e1 e2 e3
    subst e1;subst e2;exact ⟨_,fun _=>⟨hr' 0 _ rfl,by rw [wV,ah (by omega),gM (by omega)];rfl⟩⟩
   exact ⟨0,fun h=>absurd h h0⟩
  rw [ZF hk2] at heq;have ajQ:=heq;refine kP H (Kc K9 (SQ fun _ aT=>SB (SR fun _ bC=>Rm rfl (Ri og mJ rfl rfl ?_))));clear H K9;intro a H;refine bJ mJ (cs:=[_,_]) H wn rfl rfl (fun j v hj=>H.hp.aI (hrow j v hj)) rfl ?_;clear H;intro a H;refine eX mJ H wn rfl ?_;clear H;intro b6 a w hb6 H;refine kH H (Ra rfl ?_);clear H;intro a H;refine bE mJ 0 (vs:=[_,_]) _ H wn rfl rfl rfl rfl rfl rfl rfl rfl ?_;clear H;intro w H;dsimp only [List.set,setRow] at H;refine bC _ _ ?_;clear bC;refine sP (ι:=GH) (Tc:=[(0,_),(1,_),(6,_),(14,_),(15,_),(16,_)]) (Lc:=[(_,_)]) (fun gh=>[]) (fun gh=>[]) (fun gh=>gh) (fun gh=>(if sQ l[k].key l[k].value=0 then yU e (wV l (k+1)) (l.drop (k+1)) else sQ l[k].key l[k].value)=yU e none l∧(∀ b o,g b=some o→gh b=some o)) (by exact (H).sub ⟨rfl,rfl,rfl,rfl,rfl,rfl,aF⟩) ?_ ?_
  ·skip;refine kP H (SB (SR fun _ bF=>Rm rfl (aV uo aD 0 rfl rfl ?_)));clear H;intro a H;refine s_call RX H wn rfl (Te _ _ H.ro e l[k].key) rfl ?_;clear H;rintro v25 PX a w rfl AZ H;replace hrow:=fun j u hj=>aK AZ (hrow j u hj);refine kH H (Rn rfl (ak bF rfl (Cd rfl ?_ ?_))) <;> clear H bF
   ·intro h21 a H
    try have qw:=dT h21
    refine kP H (SR fun _ bN=>ak bN rfl ?_);clear H bN;intro a H;refine lr H results90 rfl ?_
    first
     | exact H.rt (ay vi (by rw [ah (by simpa using p61)] at heq;rw [gq,ah (by omega)];exact heq))
     | exact H.rt (ay vi (by rw [au (by simpa using h21)] at heq;rw [gq,ah (by omega)];exact heq))
     | exact H.rt (ay vi (by rw [gq,ah (by omega)];exact heq))
     | exact H.rt (ay vi (by rw [gq,ah (by omega),← heq,show l.drop k=[] from iO (by omega)];rfl))
     | exact H.rt (ay vi (by rw [gq,au (by omega)]))
   intro h21 a H
   try have qw:=dF h21
   rw [ah (by simpa using h21)] at heq;refine bg (fun _ bQ=>?_)
   by_cases c0:0 < (k:Int)
   ·skip
    by_cases c1:l[k].key=pk
    ·skip;refine dI hmx [[],[0],[0,1],[0,1,2],(ra 0 4),[0,1,2],[0,1,2],[0,1,2,6],[0,1,2,5,6,7],[0,1,2,5,6,7,8],[0,1,2,5,6,7,8,9],(ra 0 11),(ra 0 12),(ra 0 13)] [13] (by kernel_rfl) [_,_,_,_,vi l[k].key,_,_,vi ((k - 1:Nat):Int),_,_,_,_,_] H (aB (Z0 rfl (Rm rfl)) (Z1 0 28 rfl (Rc rfl)) (Z1 1 29 rfl (Rm rfl)) (Z1 2 30 rfl (YF uo (aC c0) rfl)) (aB (Z2 3 31 2 30 rfl (YO aD 0 (aC c0) rfl)) (Z1 2 30 rfl (YM (aC c0) rfl)) (Z1 2 30 rfl (YM (aC c0) rfl)) ?_ (aB (Z3 5 33 7 35 2 30 rfl (YI og mJ (aC c0) rfl rfl)) (Z2 8 36 2 30 rfl (YF uo (aC c0) rfl)) (X2 9 37 2 30 rfl fun hG=>YR aD (aC c0) rfl (aK hG (aK AZ (hpk (by omega)).1))) (Z3 4 32 10 38 2 30 rfl (YC (aC c0) rfl)) (aW (Z2 2 30 11 39 rfl (Pt (aC c0) rfl)) (aW (bH rfl) bW))))) ?_
     ·refine cB 6 34 2 30 rfl rfl fun _ a w G1 hG HT H fin=>?_;refine mq _ H (wg H rfl rfl (aC c0)) rfl rfl rfl (by omega) (by omega) rfl ?_;clear H;intro a H;exact fin H iJ (by show _=_;first|rfl|exact ay vi (by omega))
     clear H;intro a w G qJ H hv;have H:=H.aS (hv 12 40 rfl rfl) rfl;clear hv;refine kH H (Ra rfl ?_);clear H;intro a H;refine aH ⟨rfl,?_⟩;refine bQ _ _ ?_;clear bQ;refine uf H rfl (aC c1) ?_;refine bg (fun _ dJ=>?_);rw [au (by rw [(hpk (by omega)).2,c1])] at heq;refine kP H (SC (aU dJ rfl ?_));clear H dJ;intro a H;refine lr H results90 rfl ?_
     first
      | exact H.rt (ay vi (by rw [ah (by simpa using p61)] at heq;rw [gq,ah (by omega)];exact heq))
      | exact H.rt (ay vi (by rw [au (by simpa using h21)] at heq;rw [gq,ah (by omega)];exact heq))
      | exact H.rt (ay vi (by rw [gq,ah (by omega)];exact heq))
      | exact H.rt (ay vi (by rw [gq,ah (by omega),← heq,show l.drop k=[] from iO (by omega)];rfl))
      | exact H.rt (ay vi (by rw [gq,au (by omega)]))
    skip;refine dI hmx [[],[0],[0,1],[0,1,2],(ra 0 4),[0,1,2],[0,1,2],[0,1,2,6],[0,1,2,5,6,7],[0,1,2,5,6,7,8],[0,1,2,5,6,7,8,9],(ra 0 11),(ra 0 12),(ra 0 13)] [13] (by kernel_rfl) [_,_,_,_,vi l[k].key,_,_,vi ((k - 1:Nat):Int),_,_,_,_,_] H (aB (Z0 rfl (Rm rfl)) (Z1 0 28 rfl (Rc rfl)) (Z1 1 29 rfl (Rm rfl)) (Z1 2 30 rfl (YF uo (aC c0) rfl)) (aB (Z2 3 31 2 30 rfl (YO aD 0 (aC c0) rfl)) (Z1 2 30 rfl (YM (aC c0) rfl)) (Z1 2 30 rfl (YM (aC c0) rfl)) ?_ (aB (Z3 5 33 7 35 2 30 rfl (YI og mJ (aC c0) rfl rfl)) (Z2 8 36 2 30 rfl (YF uo (aC c0) rfl)) (X2 9 37 2 30 rfl fun hG=>YR aD (aC c0) rfl (aK hG (aK AZ (hpk (by omega)).1))) (Z3 4 32 10 38 2 30 rfl (YC (aC c0) rfl)) (aW (Z2 2 30 11 39 rfl (Pt (aC c0) rfl)) (aW (bH rfl) bW))))) ?_
    ·refine cB 6 34 2 30 rfl rfl fun _ a w G1 hG HT H fin=>?_;refine mq _ H (wg H rfl rfl (aC c0)) rfl rfl rfl (by omega) (by omega) rfl ?_;clear H;intro a H;exact fin H iJ (by show _=_;first|rfl|exact ay vi (by omega))
    clear H;intro a w G qJ H hv;have H:=H.aS (hv 12 40 rfl rfl) rfl;clear hv;refine kH H (Ra rfl ?_);clear H;intro a H;refine aH ⟨rfl,?_⟩;refine bQ _ _ ?_;clear bQ;refine lF H rfl (aM c1) ?_;refine bg (fun _ dG=>?_)
    have q1:¬ (0 < (k:Int)∧l[k].key=pk):=by first|exact fun h=>c1 h.2|exact fun h=>c0 h.1
    rw [ah (fun h=>q1 (by
     by_cases h0:0 < k
     ·rw [(hpk h0).2] at h
      injection h with h
      exact ⟨by omega,h.symm⟩
     rw [JF (by omega)] at h
     cases h))] at heq
    by_cases c3:l[k].key < pk
    ·skip;refine dI hmx [[],[0],[0,1],[0,1,2],(ra 0 4),[0,1,2],[0,1,2],[0,1,2,6],[0,1,2,5,6,7],[0,1,2,5,6,7,8],[0,1,2,5,6,7,8,9],(ra 0 11),(ra 0 12),(ra 0 13)] [13] (by kernel_rfl) [_,_,_,_,vi l[k].key,_,_,vi ((k - 1:Nat):Int),_,_,vi pk,_,_] H (aB (Z0 rfl (Rm rfl)) (Z1 0 42 rfl (Rc rfl)) (Z1 1 43 rfl (Rm rfl)) (Z1 2 44 rfl (YF uo (aC c0) rfl)) (aB (Z2 3 45 2 44 rfl (YO aD 0 (aC c0) rfl)) (Z1 2 44 rfl (YM (aC c0) rfl)) (Z1 2 44 rfl (YM (aC c0) rfl)) ?_ (aB (Z3 5 47 7 49 2 44 rfl (YI og mJ (aC c0) rfl rfl)) (Z2 8 50 2 44 rfl (YF uo (aC c0) rfl)) ?_ (Z3 4 46 10 52 2 44 rfl (YC (aC c0) rfl)) (aW (Z2 2 44 11 53 rfl (Pt (aC c0) rfl)) (aW (bH rfl) bW))))) ?_
     ·refine cB 6 48 2 44 rfl rfl fun _ a w G1 hG HT H fin=>?_;refine mq _ H (wg H rfl rfl (aC c0)) rfl rfl rfl (by omega) (by omega) rfl ?_;clear H;intro a H;exact fin H iJ (by show _=_;first|rfl|exact ay vi (by omega))
     ·refine cB 9 51 2 44 rfl rfl fun _ a w G1 hG HT H fin=>?_;refine nX aD H (wg H rfl rfl (aC c0)) rfl (H.hp.aI (aK hG (aK qJ (aK AZ (hpk (by omega)).1)))) rfl ?_;clear H;intro a H;exact fin H iJ rfl
     clear H;intro a w G lZ H hv;have H:=H.aS (hv 12 54 rfl rfl) rfl;clear hv;refine kH H (Ra rfl ?_);clear H;intro a H;refine aH ⟨rfl,?_⟩;refine dG _ _ ?_;clear dG;refine uf H rfl (aC c3) ?_;refine bg (fun _ dh=>?_);rw [au (by rw [(hpk (by omega)).2];exact aC c3)] at heq;refine kP H (SC (aU dh rfl ?_));clear H dh;intro a H;refine lr H results90 rfl ?_
     first
      | exact H.rt (ay vi (by rw [ah (by simpa using p61)] at heq;rw [gq,ah (by omega)];exact heq))
      | exact H.rt (ay vi (by rw [au (by simpa using h21)] at heq;rw [gq,ah (by omega)];exact heq))
      | exact H.rt (ay vi (by rw [gq,ah (by omega)];exact heq))
      | exact H.rt (ay vi (by rw [gq,ah (by omega),← heq,show l.drop k=[] from iO (by omega)];rfl))
      | exact H.rt (ay vi (by rw [gq,au (by omega)]))
    skip;refine dI hmx [[],[0],[0,1],[0,1,2],(ra 0 4),[0,1,2],[0,1,2],[0,1,2,6],[0,1,2,5,6,7],[0,1,2,5,6,7,8],[0,1,2,5,6,7,8,9],(ra 0 11),(ra 0 12),(ra 0 13)] [13] (by kernel_rfl) [_,_,_,_,vi l[k].key,_,_,vi ((k - 1:Nat):Int),_,_,vi pk,_,_] H (aB (Z0 rfl (Rm rfl)) (Z1 0 42 rfl (Rc rfl)) (Z1 1 43 rfl (Rm rfl)) (Z1 2 44 rfl (YF uo (aC c0) rfl)) (aB (Z2 3 45 2 44 rfl (YO aD 0 (aC c0) rfl)) (Z1 2 44 rfl (YM (aC c0) rfl)) (Z1 2 44 rfl (YM (aC c0) rfl)) ?_ (aB (Z3 5 47 7 49 2 44 rfl (YI og mJ (aC c0) rfl rfl)) (Z2 8 50 2 44 rfl (YF uo (aC c0) rfl)) ?_ (Z3 4 46 10 52 2 44 rfl (YC (aC c0) rfl)) (aW (Z2 2 44 11 53 rfl (Pt (aC c0) rfl)) (aW (bH rfl) bW))))) ?_
    ·refine cB 6 48 2 44 rfl rfl fun _ a w G1 hG HT H fin=>?_;refine mq _ H (wg H rfl rfl (aC c0)) rfl rfl rfl (by omega) (by omega) rfl ?_;clear H;intro a H;exact fin H iJ (by show _=_;first|rfl|exact ay vi (by omega))
    ·refine cB 9 51 2 44 rfl rfl fun _ a w G1 hG HT H fin=>?_;refine nX aD H (wg H rfl rfl (aC c0)) rfl (H.hp.aI (aK hG (aK qJ (aK AZ (hpk (by omega)).1)))) rfl ?_;clear H;intro a H;exact fin H iJ rfl
    clear H;intro a w G lZ H hv;have H:=H.aS (hv 12 54 rfl rfl) rfl;clear hv;refine kH H (Ra rfl ?_);clear H;intro a H;refine aH ⟨rfl,?_⟩;refine dG _ _ ?_;clear dG;refine lF H rfl (aM c3) ?_;refine gI ?_;refine ⟨_,by exact (H).sub ⟨rfl,rfl,rfl,rfl,rfl,rfl,aF⟩,?_⟩
    have q2:¬ (0 < (k:Int)∧l[k].key < pk):=by first|exact fun h=>c3 h.2|exact fun h=>c0 h.1
    rw [ah (fun h=>q2 (by
     by_cases h0:0 < k
     ·rw [(hpk h0).2] at h;exact ⟨by omega,qg h⟩
     rw [JF (by omega)] at h
     cases h))] at heq
    exact ⟨heq,fun b o h=>lZ b o (qJ b o (AZ b o h))⟩
   skip;refine dI hmx [[],[0],[0,1],[0,1,2],(ra 0 4),[0,1,2],[0,1,2],[0,1,2,6],[0,1,2,5,6,7],[0,1,2,5,6,7,8],[0,1,2,5,6,7,8,9],(ra 0 11),(ra 0 12),(ra 0 13)] [13] (by kernel_rfl) [_,_,_,undef,undef,undef,undef,undef,undef,undef,undef,undef,_] H (aB (Z0 rfl (Rm rfl)) (Z1 0 28 rfl (Rc rfl)) (Z1 1 29 rfl (Rm rfl)) (aN (j:=2) (by kernel_rfl) (fun _ _ _ _ _ h=>h) rfl rfl rfl rfl rfl (fun _ _ h=>aO h (aG (aM c0))) rfl (fun _=>rfl)) (aB (aN (j:=2) (by kernel_rfl) (fun _ _ _ _ _ h=>h) rfl rfl rfl rfl rfl (fun _ _ h=>aO h (aG (aM c0))) rfl (fun _=>rfl)) (aN (j:=2) (by kernel_rfl) (fun _ _ _ _ _ h=>h) rfl rfl rfl rfl rfl (fun _ _ h=>aO h (aG (aM c0))) rfl (fun _=>rfl)) (aN (j:=2) (by kernel_rfl) (fun _ _ _ _ _ h=>h) rfl rfl rfl rfl rfl (fun _ _ h=>aO h (aG (aM c0))) rfl (fun _=>rfl)) (aN (j:=2) (by kernel_rfl) (fun _ _ _ _ _ h=>h) rfl rfl rfl rfl rfl (fun _ _ h=>aO h (aG (aM c0))) rfl (fun _=>rfl)) (aB (aN (j:=2) (by kernel_rfl) (fun _ _ _ _ _ h=>h) rfl rfl rfl rfl rfl (fun _ _ h=>aO h (aG (aM c0))) rfl (fun _=>rfl)) (aN (j:=2) (by kernel_rfl) (fun _ _ _ _ _ h=>h) rfl rfl rfl rfl rfl (fun _ _ h=>aO h (aG (aM c0))) rfl (fun _=>rfl)) (aN (j:=2) (by kernel_rfl) (fun _ _ _ _ _ h=>h) rfl rfl rfl rfl rfl (fun _ _ h=>aO h (aG (aM c0))) rfl (fun _=>rfl)) (aN (j:=2) (by kernel_rfl) (fun _ _ _ _ _ h=>h) rfl rfl rfl rfl rfl (fun _ _ h=>aO h (aG (aM c0))) rfl (fun _=>rfl)) (aW (Z2 2 30 11 39 rfl (Pf (aM c0) rfl)) (aW (bH rfl) bW))))) ?_
   clear H;intro a w G qJ H hv;have H:=H.aS (hv 12 40 rfl rfl) rfl;clear hv;refine kH H (Ra rfl ?_);clear H;intro a H;refine aH ⟨rfl,?_⟩;refine bQ _ _ ?_;clear bQ;refine lF H rfl rfl ?_;refine bg (fun _ dX=>?_)
   have q1:¬ (0 < (k:Int)∧l[k].key=pk):=by first|exact fun h=>c1 h.2|exact fun h=>c0 h.1
   rw [ah (fun h=>q1 (by
    by_cases h0:0 < k
    ·rw [(hpk h0).2] at h
     injection h with h
     exact ⟨by omega,h.symm⟩
    rw [JF (by omega)] at h
    cases h))] at heq
   refine dI hmx [[],[0],[0,1],[0,1,2],(ra 0 4),[0,1,2],[0,1,2],[0,1,2,6],[0,1,2,5,6,7],[0,1,2,5,6,7,8],[0,1,2,5,6,7,8,9],(ra 0 11),(ra 0 12),(ra 0 13)] [13] (by kernel_rfl) [_,_,_,undef,undef,undef,undef,undef,undef,undef,undef,undef,_] H (aB (Z0 rfl (Rm rfl)) (Z1 0 42 rfl (Rc rfl)) (Z1 1 43 rfl (Rm rfl)) (aN (j:=2) (by kernel_rfl) (fun _ _ _ _ _ h=>h) rfl rfl rfl rfl rfl (fun _ _ h=>aO h (aG (aM c0))) rfl (fun _=>rfl)) (aB (aN (j:=2) (by kernel_rfl) (fun _ _ _ _ _ h=>h) rfl rfl rfl rfl rfl (fun _ _ h=>aO h (aG (aM c0))) rfl (fun _=>rfl)) (aN (j:=2) (by kernel_rfl) (fun _ _ _ _ _ h=>h) rfl rfl rfl rfl rfl (fun _ _ h=>aO h (aG (aM c0))) rfl (fun _=>rfl)) (aN (j:=2) (by kernel_rfl) (fun _ _ _ _ _ h=>h) rfl rfl rfl rfl rfl (fun _ _ h=>aO h (aG (aM c0))) rfl (fun _=>rfl)) (aN (j:=2) (by kernel_rfl) (fun _ _ _ _ _ h=>h) rfl rfl rfl rfl rfl (fun _ _ h=>aO h (aG (aM c0))) rfl (fun _=>rfl)) (aB (aN (j:=2) (by kernel_rfl) (fun _ _ _ _ _ h=>h) rfl rfl rfl rfl rfl (fun _ _ h=>aO h (aG (aM c0))) rfl (fun _=>rfl)) (aN (j:=2) (by kernel_rfl) (fun _ _ _ _ _ h=>h) rfl rfl rfl rfl rfl (fun _ _ h=>aO h (aG (aM c0))) rfl (fun _=>rfl)) (aN (j:=2) (by kernel_rfl) (fun _ _ _ _ _ h=>h) rfl rfl rfl rfl rfl (fun _ _ h=>aO h (aG (aM c0))) rfl (fun _=>rfl)) (aN (j:=2) (by kernel_rfl) (fun _ _ _ _ _ h=>h) rfl rfl rfl rfl rfl (fun _ _ h=>aO h (aG (aM c0))) rfl (fun _=>rfl)) (aW (Z2 2 44 11 53 rfl (Pf (aM c0) rfl)) (aW (bH rfl) bW))))) ?_
   clear H;intro a w G lZ H hv;have H:=H.aS (hv 12 54 rfl rfl) rfl;clear hv;refine kH H (Ra rfl ?_);clear H;intro a H;refine aH ⟨rfl,?_⟩;refine dX _ _ ?_;clear dX;refine lF H rfl rfl ?_;refine gI ?_;refine ⟨_,by exact (H).sub ⟨rfl,rfl,rfl,rfl,rfl,rfl,aF⟩,?_⟩
   have q2:¬ (0 < (k:Int)∧l[k].key < pk):=by first|exact fun h=>c3 h.2|exact fun h=>c0 h.1
   rw [ah (fun h=>q2 (by
    by_cases h0:0 < k
    ·rw [(hpk h0).2] at h;exact ⟨by omega,qg h⟩
    rw [JF (by omega)] at h
    cases h))] at heq
   exact ⟨heq,fun b o h=>lZ b o (qJ b o (AZ b o h))⟩
  clear H;intro gh a w hI H;obtain ⟨g2,hgh⟩:∃ x,x=gh:=⟨_,rfl⟩;subst hgh;obtain ⟨heq,nU⟩:=hI;replace hrow:=fun j u hj=>aK nU (hrow j u hj);dsimp only [lca,bq] at H;refine kP H (SR fun _ gy=>aV uo aD 0 rfl rfl (aV SH aD 0 rfl rfl ?_));clear H;intro a H;refine s_call LB H wn rfl (KX _ _ H.ro l[k].key l[k].value) rfl ?_;clear H;rintro v59 X6 a w rfl aeu H;refine kH H (ak gy rfl (SR fun _ eY=>Rm rfl (Rc rfl (Kz eY (Cd rfl ?_ ?_))))) <;> clear H gy eY
  ·intro Cm a H
   try have p61:=dT Cm
   refine kP H (SR fun _ gD=>Rm rfl (ak gD rfl ?_));clear H gD;intro a H;refine lr H results90 rfl ?_
   first
    | exact H.rt (ay vi (by rw [ah (by simpa using p61)] at heq;rw [gq,ah (by omega)];exact heq))
    | exact H.rt (ay vi (by rw [au (by simpa using h21)] at heq;rw [gq,ah (by omega)];exact heq))
    | exact H.rt (ay vi (by rw [gq,ah (by omega)];exact heq))
    | exact H.rt (ay vi (by rw [gq,ah (by omega),← heq,show l.drop k=[] from iO (by omega)];rfl))
    | exact H.rt (ay vi (by rw [gq,au (by omega)]))
  intro Cm a H
  try have p61:=dF Cm
  refine kP H (Kc aT (SC (Rd rfl (Rm rfl ?_))));clear H aT;intro a H;refine aH ?_;refine dD ((k+1,X6)) (by exact (H.dU (Pl:=[_]) (dx:=[]) [] (by decide) rfl).sub ⟨rfl,rfl,rfl,rfl,rfl,aF⟩) ?_ ?_
  ·(try dsimp only);exact ⟨by omega,by rw [au (by simpa using p61)] at heq;exact heq,fun b o h=>aeu b o (nU b o (hgm b o h))⟩
  first|omega|(dsimp only;omega)
 intro dO a H
 try have lN:=dF dO
 refine dV ?_;refine K6 _ _ ?_;clear K6;refine kP H (SR fun _ ig=>ak ig rfl ?_);clear H ig;intro a H;refine lr H results90 rfl ?_
 first
  | exact H.rt (ay vi (by rw [ah (by simpa using p61)] at heq;rw [gq,ah (by omega)];exact heq))
  | exact H.rt (ay vi (by rw [au (by simpa using h21)] at heq;rw [gq,ah (by omega)];exact heq))
  | exact H.rt (ay vi (by rw [gq,ah (by omega)];exact heq))
  | exact H.rt (ay vi (by rw [gq,ah (by omega),← heq,show l.drop k=[] from iO (by omega)];rfl))
  | exact H.rt (ay vi (by rw [gq,au (by omega)]))
end
section
open Go.RowKit
theorem fV:Ty prog 56 1 8 [.int .i64 0] false:=⟨by kernel_rfl,by kernel_rfl⟩
theorem nJ:prog.underlying 168=some (.slice 56):=by kernel_rfl
theorem um:∀ args w,(callFunc 89 args).run prog w=.ok (.enter 89 args) w:=enters func89 rfl (by kernel_rfl)
theorem uI (G:GH) (w0:World) (hG:Hold G w0) (n l h:Int):Calls prog 89 #[vi n,vi l,vi h] w0 (bD w0 G fun u G'=>u=.bool (decide (l≤n∧n≤h))∧G=G'):=by
 refine eN [(0,_),(1,_),(2,_)] func89 rfl ntmps89 rfl rfl hG ?_;intro a H;refine kP H (SR fun _ K1=>ak K1 rfl (SR fun _ K2=>Rm rfl (Rm rfl (Rc rfl (Rm rfl (Sp 10 rfl ?_ ?_)))))) <;> clear H K1
 ·intro h10 a H
  try have lM:=dT h10
  exact kH H (YM h10 rfl (YM h10 rfl (YC h10 rfl (Pt h10 rfl (ak K2 rfl (LR results89 rfl fun H=>H.rt ⟨aG (by first|(simp_all;done)|(simp_all;omega)),rfl⟩))))))
 intro h10 a H
 try have lM:=dF h10
 exact kH H (aY h10 rfl (Pf h10 rfl (ak K2 rfl (LR results89 rfl fun H=>H.rt ⟨aG (by first|(simp_all;done)|(simp_all;omega)),rfl⟩))))
def bP (b:Bool) (e:Int):Int:=if b=true then e else 0
theorem iR (G:GH) (w0:World) (hG:Hold G w0) (b:Bool) (e:Int):Calls prog 59 #[.bool b,vi e] w0 (bD w0 G fun u G'=>u=vi (bP b e)∧G=G'):=by
 refine eN [(0,_),(1,_)] func59 rfl ntmps59 rfl rfl hG ?_;intro a H;refine kP H (SR fun _ K1=>ak K1 rfl (SQ fun _ K2=>SR fun _ K3=>Rm rfl (Kz K3 (Cd rfl ?_ ?_)))) <;> clear H K1 K3
 ·intro h5 a H
  try have p5:=dT h5
  exact kP H (SR fun _ K4=>Rm rfl (ak K4 rfl (LR results59 rfl fun H=>H.rt ⟨ay vi (by simp_all [bP]),rfl⟩)))
 intro h5 a H
 try have p5:=dF h5
 exact kP H (Kc K2 (SR fun _ K5=>ak K5 rfl (LR results59 rfl fun H=>H.rt ⟨ay vi (by simp_all [bP]),rfl⟩)))
def cO:List Int→Int
 | []=>0
 | e :: r=>if e≠0 then e else cO r
theorem IW {l:List Int} {k:Nat} (h:k < l.length):cO (l.drop k)=if l[k]≠0 then l[k] else cO (l.drop (k+1)):=by
 rw [mV h,cO]
theorem oK (G:GH) (w0:World) (hG:Hold G w0) (l:List Int) (v:aj) (hv:av G (.sl 1 (l.map fun k=>[li k])) v) :
  Calls prog 54 #[v] w0 (bD w0 G fun u G'=>u=vi (cO l)∧G=G'):=by
 obtain ⟨A,c,rfl,hc1,hc2,hg⟩:=hv.slice;have hml:maxLen=9223372036854775807:=rfl;rw [bT] at *;refine eN [(0,_)] func54 rfl ntmps54 rfl rfl hG ?_;intro a H;refine kP H (SR fun _ K1=>ak K1 rfl (SQ fun _ K2=>SR fun _ K3=>Rm rfl (Rl nJ rfl (Rm rfl (Kz K3 (SB ?_))))));clear H K1 K3;intro a H;skip;refine fH (ι:=Nat) (Tc:=[(5,_),(6,_)]) (Lc:=[]) (fun gh=>[(7,vi gh)]) (fun gh=>[]) (fun gh=>G) (fun gh=>gh≤l.length∧cO (l.drop gh)=cO l) (fun gh=>l.length - gh) (0) (by exact (H).sub ⟨rfl,rfl,rfl,aF⟩) ?_ ?_
 ·exact ⟨iY _,rfl⟩
 clear H;intro gh a w hI H;obtain ⟨k,hgh⟩:∃ x,x=gh:=⟨_,rfl⟩;subst hgh;obtain ⟨hk,he⟩:=hI;dsimp only [lca,bq] at H;refine kP H (SR fun _ K4=>Rc rfl (Kz K4 (SQ fun _ K5=>Cd rfl ?_ ?_))) <;> clear H K4
 ·intro h8 a H
  try have p8:=dT h8
  have hk2:k < l.length:=by omega
  obtain ⟨b,o,cs,rfl,hcl,hrow,hr⟩:=hg k [li l[k]] (by simp [hk2]);obtain ⟨v1,_,rfl,⟨rfl,-⟩,rfl⟩:∃ v vs,cs=v :: vs∧av G (li l[k]) v∧aX G [] vs:=hr
  have hcell:aI G b (o+k*1)=some (vi l[k]):=by simpa using hrow 0 _ rfl
  refine kP H (Kc K5 (SQ fun _ K6=>SB (SR fun _ K7=>Ri nJ fV rfl rfl (Rg fV rfl hcell (ak K7 rfl (SR fun _ K8=>Rm rfl (Rc rfl (Kz K8 (Cd rfl ?_ ?_))))))))) <;> clear H K5 K7 K8
  ·intro h12 a H
   try have qO:=dT h12
   exact kP H (SR fun _ K9=>Rm rfl (ak K9 rfl (LR results54 rfl fun H=>H.rt ⟨ay vi (by rw [IW hk2,au qO] at he;exact he),rfl⟩)))
  intro h12 a H
  try have qO:=dF h12
  refine kP H (Kc K6 (SC (Rd rfl (Rm rfl ?_))));clear H K6;intro a H;refine aH ?_;refine dD ((k+1)) (by exact (H).sub ⟨rfl,rfl,rfl,aF⟩) ?_ ?_
  ·exact ⟨by omega,by rw [IW hk2,ah qO] at he;exact he⟩
  first|omega|(dsimp only;omega)
 intro h8 a H
 try have p8:=dF h8
 refine dV ?_;refine K2 _ _ ?_;clear K2;exact kP H (SR fun _ aT=>ak aT rfl (LR results54 rfl fun H=>H.rt ⟨ay vi (by rw [iO (by omega)] at he;exact he),rfl⟩))
def qC (fv:aj) (Gi:GH) (n:Nat) (E:Nat→Int):Prop:=∀ i,i < n→∀ (G1:GH) (w1:World),(∀ b o,Gi b=some o→G1 b=some o)→Hold G1 w1→sw prog fv [vi i] w1 (bD w1 G1 fun u G'=>u=vi (E i))
theorem qC.mono {fv:aj} {G G':GH} {n:Nat} {E:Nat→Int} (h:qC fv G n E) (hm:∀ b o,G b=some o→G' b=some o):qC fv G' n E:=fun i hi G1 w1 hG1=>h i hi G1 w1 fun b o hb=>hG1 b o (hm b o hb)
def jR (E:Nat→Int) (n:Nat):Int:=cO ((List.range n).map E)
theorem BS {E:Nat→Int} {n k:Nat} (h:k < n):cO (((List.range n).map E).drop k)=if E k≠0 then E k else cO (((List.range n).map E).drop (k+1)):=by
 rw [IW (by simpa using h)];simp
theorem Fp (G:GH) (w0:World) (hG:Hold G w0) (n:Nat) (E:Nat→Int) (fv:aj) (hn:n≤4611686018427387904) (hf:qC fv G n E) :
  Calls prog 84 #[vi n,fv] w0 (bD w0 G fun u G'=>u=vi (jR E n)):=by
 refine eN [(0,_),(1,_)] func84 rfl ntmps84 rfl rfl hG ?_;intro a H;refine kP H (SR fun _ K1=>ak K1 rfl (SQ fun _ K2=>SR fun _ K3=>Rm rfl (Rm rfl (Kz K3 (SB ?_)))));clear H K1 K3;intro a H;skip;refine fH (ι:=Nat × GH) (Tc:=[(1,_),(7,_)]) (Lc:=[]) (fun gh=>[(8,vi gh.1)]) (fun gh=>[]) (fun gh=>gh.2) (fun gh=>gh.1≤n∧cO (((List.range n).map E).drop gh.1)=jR E n∧(∀ b o,G b=some o→gh.2 b=some o)) (fun gh=>n - gh.1) ((0,G)) (by exact (H).sub ⟨rfl,rfl,rfl,aF⟩) ?_ ?_
 ·exact ⟨iY _,rfl,fun _ _ h=>h⟩
 clear H;intro gh a w hI H;obtain ⟨k,g⟩:=gh;dsimp only at hI H;obtain ⟨hk,he,hgm⟩:=hI;dsimp only [lca,bq] at H;refine kP H (SR fun _ K4=>Rc rfl (Kz K4 (SQ fun _ K5=>Cd rfl ?_ ?_))) <;> clear H K4
 ·intro h9 a H
  try have p9:=dT h9
  have hk2:k < n:=by omega
  refine kP H (Kc K5 (SQ fun _ K6=>SB (SR fun _ K7=>Rm rfl (ak K7 rfl (SR fun _ K8=>Rm rfl (Rm rfl ?_))))));clear H K5 K7;intro a H;refine oO H wn rfl rfl (hf k hk2 _ _ hgm H.ro) rfl ?_;clear H;rintro v13 ET a w rfl Jg H;refine kH H (ak K8 rfl (SR fun _ K9=>Rm rfl (Rc rfl (Kz K9 (Cd rfl ?_ ?_))))) <;> clear H K8 K9
  ·intro nE a H
   try have rV:=dT nE
   exact kP H (SR fun _ aT=>Rm rfl (ak aT rfl (LR results84 rfl fun H=>H.rt (ay vi (by rw [BS hk2,au rV] at he;exact he)))))
  intro nE a H
  try have rV:=dF nE
  refine kP H (Kc K6 (SC (Rd rfl (Rm rfl ?_))));clear H K6;intro a H;refine aH ?_;refine dD ((k+1,ET)) (by exact (H).sub ⟨rfl,rfl,rfl,aF⟩) ?_ ?_
  ·(try dsimp only);exact ⟨by omega,by rw [BS hk2,ah rV] at he;exact he,fun b o h=>Jg b o (hgm b o h)⟩
  first|omega|(dsimp only;omega)
 intro h9 a H
 try have p9:=dF h9
 refine dV ?_;refine K2 _ _ ?_;clear K2;exact kP H (SR fun _ bC=>ak bC rfl (LR results84 rfl fun H=>H.rt (ay vi (by rw [iO (by simp;omega)] at he;exact he))))
def nV (id:Nat→Int) (i:Nat):Int:=if ¬ (1≤id i∧id i≤1073741824) then 18 else if 0 < i∧id i=id (i - 1) then 7 else if 0 < i∧id i < id (i - 1) then 6 else 0
theorem NM (G:GH) (w0:World) (hG:Hold G w0) (i:Nat) (id:Nat→Int) (fv:aj) (hn:i≤4611686018427387904) (hf:qC fv G (i+1) id) :
  Calls prog 86 #[vi i,fv] w0 (bD w0 G fun u G'=>u=vi (nV id i)):=by
 refine eN [(0,_),(1,_)] func86 rfl ntmps86 rfl rfl hG ?_;intro a H;refine kP H (SR fun _ K1=>ak K1 rfl (SQ fun _ K2=>SB (SR fun _ K3=>Rm rfl (Rm rfl ?_))));clear H K1;intro a H;refine oO H wn rfl rfl (hf i (Nat.lt_succ_self _) _ _ (fun _ _ h=>h) H.ro) rfl ?_;clear H;rintro v8 G8 a w rfl xU H;refine s_call um H wn rfl (uI _ _ H.ro (id i) 1 1073741824) rfl ?_;clear H;rintro v9 _ a w ⟨rfl,rfl⟩ - H;refine kH H (Rn rfl (ak K3 rfl (Cd rfl ?_ ?_))) <;> clear H K3
 ·intro h5 a H
  try have p5:=dT h5
  refine kP H (SR fun _ K4=>ak K4 rfl ?_);clear H K4;intro a H;refine lr H results86 rfl ?_
  exact H.rt (ay vi (by unfold nV;(repeat' split) <;> first|rfl|(exfalso;simp_all;done)|(exfalso;simp_all;omega)))
 intro h5 a H
 try have p5:=dF h5
 refine kP H (SR fun _ K5=>Rm rfl (Rc rfl (Rm rfl (Sp 14 rfl ?_ ?_)))) <;> clear H
 ·intro dP a H
  try have mo:=dT dP
  refine kH H (YM dP rfl (YM dP rfl ?_));clear H;intro a H;refine oO H (wg H rfl rfl dP) rfl rfl (hf i (Nat.lt_succ_self _) _ _ xU H.ro) rfl ?_;clear H;rintro v17 xq a w rfl pJ H;refine kH H (YM dP rfl (YM dP rfl ?_));clear H;intro a H;refine mq _ H (wg H rfl rfl dP) rfl rfl rfl (by omega) (by omega) rfl ?_;clear H;intro a H;rw [show ((i:Int) - 1)=((i - 1:Nat):Int) by omega] at H;refine oO H (wg H rfl rfl dP) rfl rfl (hf (i - 1) (by omega) _ _ (fun b o h=>pJ b o (xU b o h)) H.ro) rfl ?_;clear H;rintro v21 Kv a w rfl wI H;refine kH H (YC dP rfl (Pt dP rfl (ak K5 rfl (Cd rfl ?_ ?_)))) <;> clear H K5
  ·intro h11 a H
   try have nW:=dT h11
   refine kP H (SR fun _ K6=>ak K6 rfl ?_);clear H K6;intro a H;refine lr H results86 rfl ?_
   exact H.rt (ay vi (by unfold nV;(repeat' split) <;> first|rfl|(exfalso;simp_all;done)|(exfalso;simp_all;omega)))
  intro h11 a H
  try have nW:=dF h11
  refine kP H (SR fun _ K7=>Rm rfl (Rc rfl (Rm rfl (Sp 27 rfl ?_ ?_)))) <;> clear H
  ·intro h27 a H
   try have p27:=dT h27
   refine kH H (YM h27 rfl (YM h27 rfl ?_));clear H;intro a H;refine oO H (wg H rfl rfl h27) rfl rfl (hf i (Nat.lt_succ_self _) _ _ (fun b o h=>by first|exact wI b o (pJ b o (xU b o h))|(exfalso;omega)) H.ro) rfl ?_;clear H;rintro v30 BG a w rfl Cv H;refine kH H (YM h27 rfl (YM h27 rfl ?_));clear H;intro a H;refine mq _ H (wg H rfl rfl h27) rfl rfl rfl (by omega) (by omega) rfl ?_;clear H;intro a H;rw [show ((i:Int) - 1)=((i - 1:Nat):Int) by omega] at H;refine oO H (wg H rfl rfl h27) rfl rfl (hf (i - 1) (by omega) _ _ (fun b o h=>by first|exact Cv b o (wI b o (pJ b o (xU b o h)))|(exfalso;omega)) H.ro) rfl ?_;clear H;rintro v34 XT a w rfl TP H;refine kH H (YC h27 rfl (Pt h27 rfl (ak K7 rfl (Cd rfl ?_ ?_)))) <;> clear H K7
   ·intro dN a H
    try have jS:=dT dN
    refine kP H (SR fun _ K8=>ak K8 rfl ?_);clear H K8;intro a H;refine lr H results86 rfl ?_
    exact H.rt (ay vi (by unfold nV;(repeat' split) <;> first|rfl|(exfalso;simp_all;done)|(exfalso;simp_all;omega)))
   intro dN a H
   try have jS:=dF dN
   refine kP H (Kc K2 (SR fun _ K9=>ak K9 rfl ?_));clear H K2 K9;intro a H;refine lr H results86 rfl ?_
   exact H.rt (ay vi (by unfold nV;(repeat' split) <;> first|rfl|(exfalso;simp_all;done)|(exfalso;simp_all;omega)))
  intro h27 a H
  try have p27:=dF h27
  refine kH H (aY h27 rfl (aY h27 rfl (aP h27 rfl (Pf h27 rfl (ak K7 rfl (Cf rfl rfl (Kc K2 (SR fun _ aT=>ak aT rfl ?_))))))));clear H K7 K2 aT;intro a H;refine lr H results86 rfl ?_
  exact H.rt (ay vi (by unfold nV;(repeat' split) <;> first|rfl|(exfalso;simp_all;done)|(exfalso;simp_all;omega)))
 intro dP a H
 try have mo:=dF dP
 refine kH H (aY dP rfl (aY dP rfl (aP dP rfl (Pf dP rfl (ak K5 rfl (Cf rfl rfl (SR fun _ bC=>Rm rfl (Rc rfl (Rm rfl (Sp 27 rfl ?_ ?_)))))))))) <;> clear H K5
 ·intro h27 a H
  try have p27:=dT h27
  refine kH H (YM h27 rfl (YM h27 rfl ?_));clear H;intro a H;refine oO H (wg H rfl rfl h27) rfl rfl (hf i (Nat.lt_succ_self _) _ _ (fun b o h=>by first|exact wI b o (pJ b o (xU b o h))|(exfalso;omega)) H.ro) rfl ?_;clear H;rintro v30 BG a w rfl Cv H;refine kH H (YM h27 rfl (YM h27 rfl ?_));clear H;intro a H;refine mq _ H (wg H rfl rfl h27) rfl rfl rfl (by omega) (by omega) rfl ?_;clear H;intro a H;rw [show ((i:Int) - 1)=((i - 1:Nat):Int) by omega] at H;refine oO H (wg H rfl rfl h27) rfl rfl (hf (i - 1) (by omega) _ _ (fun b o h=>by first|exact Cv b o (wI b o (pJ b o (xU b o h)))|(exfalso;omega)) H.ro) rfl ?_;clear H;rintro v34 XT a w rfl TP H;refine kH H (YC h27 rfl (Pt h27 rfl (ak bC rfl (Cd rfl ?_ ?_)))) <;> clear H bC
  ·intro dN a H
   try have jS:=dT dN
   refine kP H (SR fun _ bF=>ak bF rfl ?_);clear H bF;intro a H;refine lr H results86 rfl ?_
   exact H.rt (ay vi (by unfold nV;(repeat' split) <;> first|rfl|(exfalso;simp_all;done)|(exfalso;simp_all;omega)))
  intro dN a H
  try have jS:=dF dN
  refine kP H (Kc K2 (SR fun _ bN=>ak bN rfl ?_));clear H K2 bN;intro a H;refine lr H results86 rfl ?_
  exact H.rt (ay vi (by unfold nV;(repeat' split) <;> first|rfl|(exfalso;simp_all;done)|(exfalso;simp_all;omega)))
 intro h27 a H
 try have p27:=dF h27
 refine kH H (aY h27 rfl (aY h27 rfl (aP h27 rfl (Pf h27 rfl (ak bC rfl (Cf rfl rfl (Kc K2 (SR fun _ bQ=>ak bQ rfl ?_))))))));clear H bC K2 bQ;intro a H;refine lr H results86 rfl ?_
 exact H.rt (ay vi (by unfold nV;(repeat' split) <;> first|rfl|(exfalso;simp_all;done)|(exfalso;simp_all;omega)))
end
section
open Go.RowKit
theorem iP:∀ args w,(callFunc 59 args).run prog w=.ok (.enter 59 args) w:=enters func59 rfl (by kernel_rfl)
theorem oI:∀ args w,(callFunc 54 args).run prog w=.ok (.enter 54 args) w:=enters func54 rfl (by kernel_rfl)
def uX (s:ByteArray):Bool:=decide (1≤s.size∧s.size≤40) && oP s
theorem QO (G:GH) (w0:World) (hG:Hold G w0) (s:ByteArray) (hs:s.size < 4611686018427387904):Calls prog 88 #[.string s] w0 (bD w0 G fun u G'=>u=.bool (uX s)∧G=G'):=by
 refine eN [(0,_)] func88 rfl ntmps88 rfl rfl hG ?_;intro a H;refine kP H (SR fun _ K1=>ak K1 rfl (SR fun _ K2=>Rm rfl (Rv fP rfl (Rc rfl (Rm rfl (Sp 6 rfl ?_ ?_)))))) <;> clear H K1
 ·intro h6 a H
  try have p6:=dT h6
  refine kH H (YM h6 rfl ?_);clear H;intro a H;refine Bn fP H (wg H rfl rfl h6) rfl rfl ?_;clear H;intro a H;refine kH H (YC h6 rfl (Pt h6 rfl (Rm rfl (Sp 11 rfl ?_ ?_)))) <;> clear H
  ·intro h11 a H
   try have nW:=dT h11
   refine kH H (YM h11 rfl ?_);clear H;intro a H;refine s_call FE H (wg H rfl rfl h11) rfl (GY _ _ H.ro s hs) rfl ?_;clear H;rintro v13 _ a w ⟨rfl,rfl⟩ - H;exact kH H (Pt h11 rfl (ak K2 rfl (LR results88 rfl fun H=>H.rt ⟨aG (by unfold uX;first|(simp_all;done)|(simp_all;omega)),rfl⟩)))
  intro h11 a H
  try have nW:=dF h11
  exact kH H (aP h11 rfl (Pf h11 rfl (ak K2 rfl (LR results88 rfl fun H=>H.rt ⟨aG (by unfold uX;first|(simp_all;done)|(simp_all;omega)),rfl⟩))))
 intro h6 a H
 try have p6:=dF h6
 exact kH H (aY h6 rfl (Pf h6 rfl (Rm rfl (aP rfl rfl (Pf rfl rfl (ak K2 rfl (LR results88 rfl fun H=>H.rt ⟨aG (by unfold uX;first|(simp_all;done)|(simp_all;omega)),rfl⟩)))))))
def zZ (s:ByteArray):Int:=cO [bP (!oP s) 12,bP (decide (1024 < (s.size:Int))) 10]
theorem vO {G:GH} {b:Nat} {x y:Int} (h:G b=some (.cells #[vi x,vi y] 56 (0,0))):av G (.sl 1 ([x,y].map fun k=>[li k])) (.slice (some ⟨b,0,none⟩) 2 2) :=
 av.dS (n:=2) (cap:=2) h rfl (bK _) (show 2≤maxLen by decide) (jH (bK _)) (eF G [x,y])
theorem O9 (G:GH) (w0:World) (hG:Hold G w0) (s:ByteArray) (hs:s.size < 4611686018427387904):Calls prog 122 #[.string s] w0 (bD w0 G fun u G'=>u=vi (zZ s)):=by
 refine eN [(0,_)] func122 rfl ntmps122 rfl rfl hG ?_;intro a H;refine kP H (SR fun _ K1=>ak K1 rfl (SR fun _ K2=>Rm rfl ?_));clear H K1;intro a H;refine s_call FE H wn rfl (GY _ _ H.ro s hs) rfl ?_;clear H;rintro v4 _ a w ⟨rfl,rfl⟩ - H;refine kH H (Rn rfl ?_);clear H;intro a H;refine s_call iP H wn rfl (iR _ _ H.ro _ 12) rfl ?_;clear H;rintro v6 _ a w ⟨rfl,rfl⟩ - H;refine kH H (Rm rfl (Rv fP rfl (Rc rfl ?_)));clear H;intro a H;refine s_call iP H wn rfl (iR _ _ H.ro _ 10) rfl ?_;clear H;rintro v10 _ a w ⟨rfl,rfl⟩ - H;refine gP nJ fV [_,_] [_,_] H wn rfl rfl rfl rfl rfl (by intro i q h;match i,h with|0,h=>exact h|1,h=>exact h|n+2,h=>simp at h) rfl rfl ?_;clear H;intro b11 a w I7 H;obtain ⟨vU,Jf,Ee,H⟩:=H.dM;refine s_call oI H wn rfl (oK _ _ H.ro _ _ (vO Ee)) rfl ?_;clear H;rintro v12 _ a w ⟨rfl,rfl⟩ - H;exact kH H (ak K2 rfl (LR results122 rfl fun H=>H.rt rfl))
def JA (c:Int):Bool:=decide (97≤sO .or .u8 c 32) && decide (sO .or .u8 c 32≤122)
def CZ (c:Int):Bool:=(decide (48≤c) && decide (c≤57)) || decide (c=45) || decide (c=95)
def yh (s:ByteArray) (k:Nat):Bool:=JA (gF s k) || (decide (k≠0) && CZ (gF s k))
def oH (s:ByteArray):Bool:=decide (1≤s.size∧s.size≤40) && (List.range s.size).all (yh s)
theorem Lb (G:GH) (w0:World) (hG:Hold G w0) (s:ByteArray) (hs:s.size < 4611686018427387904):Calls prog 124 #[.string s] w0 (bD w0 G fun u G'=>u=.bool (oH s)∧G=G'):=by
 refine eN [(0,_)] func124 rfl ntmps124 rfl rfl hG ?_;intro a H;refine kP H (SR fun _ K1=>ak K1 rfl (SQ fun _ K2=>SR fun _ K3=>Rm rfl (Rv fP rfl (Rc rfl (Rm rfl (Sp 10 rfl ?_ ?_)))))) <;> clear H K1
 ·intro h10 a H
  try have lM:=dT h10
  exact kH H (aY h10 rfl (Pt h10 rfl (Kz K3 (Ct rfl rfl (SR fun _ K4=>ak K4 rfl (LR results124 rfl fun H=>H.rt ⟨aG (by unfold oH;rw [iN (by omega)];rfl),rfl⟩))))))
 intro h10 a H
 try have lM:=dF h10
 refine kH H (YM h10 rfl ?_);clear H;intro a H;refine Bn fP H (wg H rfl rfl h10) rfl rfl ?_;clear H;intro a H;refine kH H (YC h10 rfl (Pf h10 rfl (Kz K3 (Cd rfl ?_ ?_)))) <;> clear H K3
 ·intro dP a H
  try have mo:=dT dP
  exact kP H (SR fun _ K5=>ak K5 rfl (LR results124 rfl fun H=>H.rt ⟨aG (by unfold oH;rw [iN (by omega)];rfl),rfl⟩))
 intro dP a H
 try have mo:=dF dP
 refine kP H (Kc K2 (SQ fun _ K6=>SR fun _ K7=>Rm rfl (Rv fP rfl (Rm rfl (Kz K7 (SB ?_))))));clear H K2 K7;intro a H;skip;refine fH (ι:=Nat) (Tc:=[(0,_),(16,_)]) (Lc:=[]) (fun gh=>[(17,vi gh)]) (fun gh=>[]) (fun gh=>G) (fun gh=>gh≤s.size∧(List.range gh).all (yh s)=true) (fun gh=>s.size - gh) (0) (by exact (H).sub ⟨rfl,rfl,rfl,aF⟩) ?_ ?_
 ·exact ⟨iY _,rfl⟩
 clear H;intro gh a w hI H;obtain ⟨k,hgh⟩:∃ x,x=gh:=⟨_,rfl⟩;subst hgh;obtain ⟨hk,hall⟩:=hI;dsimp only [lca,bq] at H;refine kP H (SR fun _ K8=>Rc rfl (Kz K8 (SQ fun _ K9=>Cd rfl ?_ ?_))) <;> clear H K8
 ·intro h18 a H
  try have vH:=dT h18
  have hk2:k < s.size:=by omega
  refine kP H (Kc K9 (SQ fun _ aT=>SB (SR fun _ bC=>Rm rfl (ak bC rfl (SR fun _ bF=>Rm rfl (Rm rfl ?_))))));clear H K9 bC;intro a H;refine nu k fP H wn rfl rfl rfl (by omega) rfl ?_;clear H;intro a H;rw [← kV] at H;refine JQ rfl H wn rfl rfl rfl ?_;clear H;intro a H;refine kH H (ak bF rfl ?_);clear H bF;intro a H;refine sP (ι:=Bool) (Tc:=[(0,_),(3,_),(16,_),(17,_)]) (Lc:=[]) (fun gh=>[(5,.bool gh)]) (fun gh=>[]) (fun gh=>G) (fun gh=>gh=JA (gF s k)) (by exact (H).sub ⟨rfl,rfl,rfl,rfl,aF⟩) ?_ ?_
  ·skip;refine kP H (SC (Rm rfl (Rc rfl (Rm rfl (Sp 26 rfl ?_ ?_))))) <;> clear H
   ·intro fU a H
    try have p26:=dT fU
    refine kH H (YM fU rfl (YC fU rfl (Pt fU rfl (Ra rfl ?_))));clear H;intro a H;refine aH ?_;refine ⟨_,by exact (H).sub ⟨rfl,rfl,rfl,rfl,rfl,aF⟩,?_⟩
    unfold JA;first|(simp_all;done)|(simp_all;omega)
   intro fU a H
   try have p26:=dF fU
   refine kH H (aP fU rfl (Pf fU rfl (Ra rfl ?_)));clear H;intro a H;refine aH ?_;refine ⟨_,by exact (H).sub ⟨rfl,rfl,rfl,rfl,rfl,aF⟩,?_⟩
   unfold JA;first|(simp_all;done)|(simp_all;omega)
  clear H;intro gh a w hI H;obtain ⟨lt,hgh⟩:∃ x,x=gh:=⟨_,rfl⟩;subst hgh;have hlt:=hI;dsimp only [lca,bq] at H;refine sP (ι:=Bool) (Tc:=[(0,_),(3,_),(5,_),(16,_),(17,_)]) (Lc:=[]) (fun gh=>[(6,.bool gh)]) (fun gh=>[]) (fun gh=>G) (fun gh=>gh=CZ (gF s k)) (by exact (H).sub ⟨rfl,rfl,rfl,rfl,rfl,aF⟩) ?_ ?_
  ·skip;refine kP H (SC (Rm rfl (Rm rfl ?_)));clear H;intro a H;refine nu k fP H wn rfl rfl rfl (by omega) rfl ?_;clear H;intro a H;rw [← kV] at H;refine kH H (Rc rfl (Rm rfl (Sp 34 rfl ?_ ?_))) <;> clear H
   ·intro fI a H
    try have p34:=dT fI
    refine kH H (YM fI rfl (YM fI rfl ?_));clear H;intro a H;refine nu k fP H (wg H rfl rfl fI) rfl rfl rfl (by omega) rfl ?_;clear H;intro a H;rw [← kV] at H;refine kH H (YC fI rfl (Pt fI rfl (Rm rfl (Sp 40 rfl ?_ ?_)))) <;> clear H
    ·intro kN a H
     try have p40:=dT kN
     refine kH H (aP kN rfl (aP kN rfl (Pt kN rfl (Rm rfl (aP rfl rfl (aP rfl rfl (Pt rfl rfl (Ra rfl ?_))))))));clear H;intro a H;refine aH ?_;refine ⟨_,by exact (H).sub ⟨rfl,rfl,rfl,rfl,rfl,rfl,aF⟩,?_⟩
     unfold CZ;first|(simp_all;done)|(simp_all;omega)
    intro kN a H
    try have p40:=dF kN
    refine kH H (YM kN rfl (YM kN rfl ?_));clear H;intro a H;refine nu k fP H (wg H rfl rfl kN) rfl rfl rfl (by omega) rfl ?_;clear H;intro a H;rw [← kV] at H;refine kH H (YC kN rfl (Pf kN rfl (Rm rfl (Sp 46 rfl ?_ ?_)))) <;> clear H
    ·intro h46 a H
     try have p46:=dT h46
     refine kH H (aP h46 rfl (aP h46 rfl (Pt h46 rfl (Ra rfl ?_))));clear H;intro a H;refine aH ?_;refine ⟨_,by exact (H).sub ⟨rfl,rfl,rfl,rfl,rfl,rfl,aF⟩,?_⟩
     unfold CZ;first|(simp_all;done)|(simp_all;omega)
    intro h46 a H
    try have p46:=dF h46
    refine kH H (YM h46 rfl (YM h46 rfl ?_));clear H;intro a H;refine nu k fP H (wg H rfl rfl h46) rfl rfl rfl (by omega) rfl ?_;clear H;intro a H;rw [← kV] at H;refine kH H (YC h46 rfl (Pf h46 rfl (Ra rfl ?_)));clear H;intro a H;refine aH ?_;refine ⟨_,by exact (H).sub ⟨rfl,rfl,rfl,rfl,rfl,rfl,aF⟩,?_⟩
    unfold CZ;first|(simp_all;done)|(simp_all;omega)
   intro fI a H
   try have p34:=dF fI
   refine kH H (aP fI rfl (aP fI rfl (Pf fI rfl (Rm rfl ?_))));clear H;intro a H;(iterate 2 refine tL H (wg H rfl rfl rfl) rfl rfl ?_;clear H;intro a H);refine nu k fP H (wg H rfl rfl rfl) rfl rfl rfl (by omega) rfl ?_;clear H;intro a H;rw [← kV] at H;refine Dc H (wg H rfl rfl rfl) rfl rfl rfl rfl ?_;clear H;intro a H;refine kH H (Pf rfl rfl (Rm rfl (Sp 46 rfl ?_ ?_))) <;> clear H
   ·intro h46 a H
    try have p46:=dT h46
    refine kH H (aP h46 rfl (aP h46 rfl (Pt h46 rfl (Ra rfl ?_))));clear H;intro a H;refine aH ?_;refine ⟨_,by exact (H).sub ⟨rfl,rfl,rfl,rfl,rfl,rfl,aF⟩,?_⟩
    unfold CZ;first|(simp_all;done)|(simp_all;omega)
   intro h46 a H
   try have p46:=dF h46
   refine kH H (YM h46 rfl (YM h46 rfl ?_));clear H;intro a H;refine nu k fP H (wg H rfl rfl h46) rfl rfl rfl (by omega) rfl ?_;clear H;intro a H;rw [← kV] at H;refine kH H (YC h46 rfl (Pf h46 rfl (Ra rfl ?_)));clear H;intro a H;refine aH ?_;refine ⟨_,by exact (H).sub ⟨rfl,rfl,rfl,rfl,rfl,rfl,aF⟩,?_⟩
   unfold CZ;first|(simp_all;done)|(simp_all;omega)
  clear H;intro gh a w hI H;obtain ⟨ot,hgh⟩:∃ x,x=gh:=⟨_,rfl⟩;subst hgh;have hot:=hI;dsimp only [lca,bq] at H;refine kP H (SR fun _ bN=>Rm rfl (Rn rfl (Rm rfl (Sp 54 rfl ?_ ?_)))) <;> clear H
  ·intro gT a H
   try have p54:=dT gT
   refine kH H (YM gT rfl (YC gT rfl (YM gT rfl (Sp 57 rfl ?_ ?_)))) <;> clear H
   ·intro h57 a H
    try have p57:=dT h57
    refine kH H (aP h57 rfl (PT gT h57 rfl (Pt gT rfl (Kz bN (Ct rfl rfl (SR fun _ bQ=>ak bQ rfl ?_))))));clear H bN bQ;intro a H;refine lr H results124 rfl ?_
    first
     | exact H.rt ⟨aG (by
       unfold oH
       rw [show k=s.size by omega] at hall
       rw [hall,jV (by omega)];rfl),rfl⟩
     | exact H.rt ⟨aG (by
       unfold oH
       rw [show (List.range s.size).all (yh s)=false from List.all_eq_false.2 ⟨k,by simpa using hk2,by unfold yh;simp_all⟩,Bool.and_false]),rfl⟩
   intro h57 a H
   try have p57:=dF h57
   refine kH H (YM h57 rfl (YN h57 rfl (PF gT h57 rfl (Pt gT rfl (Kz bN (Cd rfl ?_ ?_)))))) <;> clear H bN
   ·intro Cm a H
    try have p61:=dT Cm
    refine kP H (SR fun _ dJ=>ak dJ rfl ?_);clear H dJ;intro a H;refine lr H results124 rfl ?_
    first
     | exact H.rt ⟨aG (by
       unfold oH
       rw [show k=s.size by omega] at hall
       rw [hall,jV (by omega)];rfl),rfl⟩
     | exact H.rt ⟨aG (by
       unfold oH
       rw [show (List.range s.size).all (yh s)=false from List.all_eq_false.2 ⟨k,by simpa using hk2,by unfold yh;simp_all⟩,Bool.and_false]),rfl⟩
   intro Cm a H
   try have p61:=dF Cm
   refine kP H (Kc aT (SC (Rd rfl (Rm rfl ?_))));clear H aT;intro a H;refine aH ?_;refine dD ((k+1)) (by exact (H).sub ⟨rfl,rfl,rfl,aF⟩) ?_ ?_
   ·exact ⟨by omega,by rw [List.range_succ,List.all_append,hall];simp [yh];simp_all⟩
   first|omega|(dsimp only;omega)
  intro gT a H
  try have p54:=dF gT
  refine kH H (aY gT rfl (Ku rfl (Ku rfl (Ks gT rfl (Pf gT rfl (Kz bN (Cf rfl rfl (Kc aT (SC (Rd rfl (Rm rfl ?_)))))))))));clear H bN aT;intro a H;refine aH ?_;refine dD ((k+1)) (by exact (H).sub ⟨rfl,rfl,rfl,aF⟩) ?_ ?_
  ·exact ⟨by omega,by rw [List.range_succ,List.all_append,hall];simp [yh];simp_all⟩
  first|omega|(dsimp only;omega)
 intro h18 a H
 try have vH:=dF h18
 refine dV ?_;refine K6 _ _ ?_;clear K6;refine kP H (SR fun _ dG=>ak dG rfl ?_);clear H dG;intro a H;refine lr H results124 rfl ?_
 first
  | exact H.rt ⟨aG (by
    unfold oH
    rw [show k=s.size by omega] at hall
    rw [hall,jV (by omega)];rfl),rfl⟩
  | exact H.rt ⟨aG (by
    unfold oH
    rw [show (List.range s.size).all (yh s)=false from List.all_eq_false.2 ⟨k,by simpa using hk2,by unfold yh;simp_all⟩,Bool.and_false]),rfl⟩
end
section
open Go.RowKit
section
variable {N:Nat} {D:List Deferred} {w0:World} {F:Nat→Prop} {G0 G:GH} {L:OL} {T:List (Nat × aj)}
variable {r:Option Nat} {P:Program} {ops:Array Oper} {Q:Exit→Act→World→Prop} {rest:List Oper} {a:Act} {w:World}
variable {d:Nat} {ty:TypeId} {pos:String} {aL:Array Edge} {g:Option (Nat × Bool)}
end
end
section
open Go.RowKit
section
variable {N:Nat} {D:List Deferred} {w0:World} {F:Nat→Prop} {G0 G:GH} {L:OL} {T T':List (Nat × aj)}
variable {r:Option Nat} {P:Program} {Q:Exit→Act→World→Prop} {l:List Oper} {a a':Act} {w w':World} {ε:Type}
def DK (l:List Oper) (pr:ε→Nat→aj→Prop) (T:List (Nat × aj)) (S:Nat→Bool) (E:ε) (T':List (Nat × aj)):Prop :=
 (∀ t v,lk T t=some v→lk T' t=some v)∧∀ i d,S i=true→eD l i=some d→∃ v,lk T' d=some v∧pr E i v
theorem DK.put {pr:ε→Nat→aj→Prop} {S:Nat→Bool} {E E':ε} {i d:Nat} {v:aj} (h:DK l pr T S E T') (hok:Lg l T=true) (hi:eD l i=some d) (hv:pr E' i v) (hE:∀ j u,j≠i→pr E j u→pr E' j u):DK l pr T (eu S i) E' ((d,v) :: T'):=by
 have hil:=xK hi
 have hok1:=kJ.1 hok i (oz.2 hil)
 rw [lW,hi] at hok1
 simp only [kK,Option.isNone_iff_eq_none,kJ,oz] at hok1
 refine ⟨fun t u ht=>?_,fun j e hj he=>?_⟩
 ·rw [eO (fun e=>by subst e;rw [hok1.1] at ht;cases ht)];exact h.1 t u ht
 ·by_cases hji:j=i
  ·subst hji;rw [hi] at he;cases he;exact ⟨v,jM _ _ _,hv⟩
  ·have hSj:S j=true:=by unfold eu at hj;rwa [ah hji] at hj
   obtain ⟨u,hu1,hu2⟩:=h.2 j e hSj he
   have hne:d≠e:=by
    intro e';subst e'
    have h2:=hok1.2 j (xK he)
    have hb:Nat.beq i j=false:=yT (fun h=>hji h.symm)
    rw [hb,he] at h2
    simp at h2
   exact ⟨u,by rw [eO hne];exact hu1,hE j u hji hu2⟩
theorem DK.add {pr:ε→Nat→aj→Prop} {S:Nat→Bool} {E:ε} (h:DK l pr T S E T') {t:Nat} {u:aj} (hu:lk T' t=some u):DK l pr T S E ((t,u) :: T'):=by
 have e:∀ s v,lk T' s=some v→lk ((t,u) :: T') s=some v:=fun s v hs=>by
  by_cases hst:t=s
  ·subst hst;rw [hu] at hs;cases hs;exact jM _ _ _
  ·rw [eO hst];exact hs
 exact ⟨fun s v hs=>e s v (h.1 s v hs),fun i d hi hd=>by
  obtain ⟨v,h1,h2⟩:=h.2 i d hi hd
  exact ⟨v,e d v h1,h2⟩⟩
end
end
section
open Go.RowKit
section
variable {N:Nat} {D:List Deferred} {w0:World} {F:Nat→Prop} {G0 G G1 G2:GH} {L L1:OL} {T Xs:List (Nat × aj)}
variable {r:Option Nat} {P:Program} {Q:Exit→Act→World→Prop} {l:List Oper} {a a':Act} {w w':World}
theorem Y6 {id:Nat} (hm:P.follows .mixedOrders=true) (bL:List (List Nat)) (B:List Nat) (hk:yX l bL=true) (hB:zY l bL B=true) (X:(Nat→Bool)→Act→World→Prop) (h0:X (fun _=>false) a w.drew)
  (hstep:∀ i o S a w,l[i]?=some o→B.contains i=false→S i=false→(∀ j∈bL.getD i [],S j=true)→(∀ j,j < l.length→i∈bL.getD j []→S j=false)→X S a w→WL r P l.toArray (fun e a' w'=>e=.normal∧X (eu S i) a' w') [o] a w)
  (hend:∀ S a w,(∀ i,i < l.length→B.contains i=false→S i=true)→(∀ i,B.contains i=true→S i=false)→X S a w→WL r P l.toArray (fun e a w=>e=.normal∧Q .normal a w) (qp l B) a w):WP r P (.region id l.toArray true) Q a w:=by
 have hB1:∀ p b,B[p]?=some b→b < l.length∧∀ i,i < l.length→(B.contains i=false∨(B.take p).contains i=true)→i∈bL.getD b []:=by
  intro p b hp
  simp only [zY,kK] at hB
  have h1:=kJ.1 hB.1 p (oz.2 (iM.1 hp).1)
  rw [hp] at h1
  simp only [kK,kJ,oz] at h1
  refine ⟨Eq.mp Nat.blt_eq h1.1,fun i hi hor=>?_⟩
  have h2:=h1.2 i hi
  rcases hor with h3|h3
  ·have h4:i∉B:=by simpa using h3
   simpa [h4] using h2
  ·have h4:i∈B.take p:=by simpa using h3
   simpa [h4] using h2
 have hB2:∀ i,i < l.length→B.contains i=false→∀ j∈bL.getD i [],B.contains j=false:=by
  intro i hi hb j hj
  simp only [zY,kK] at hB
  have h1:=kJ.1 hB.2 i (oz.2 hi)
  rw [hb] at h1
  simp only [Bool.false_or,kJ] at h1
  simpa using h1 j hj
 refine KU hm bL hk (fun S a w=>((∀ i,B.contains i=true→S i=false)∧X S a w) ∨
   ∃ p,(∀ i,i < l.length→B.contains i=false→S i=true)∧(∀ i,(B.take p).contains i=true→S i=true)∧(∀ q b,B[q]?=some b→p≤q→S b=false)∧WL r P l.toArray (fun e a w=>e=.normal∧Q .normal a w) (qp l (B.drop p)) a w)
  (.inl ⟨fun _ _=>rfl,h0⟩) ?_ ?_
 ·intro i o S a w ho hX bY nH hdesc
  have hil:i < l.length:=(iM.1 ho).1
  by_cases hbi:B.contains i=true
  ·-- an operation of the tail: all that stands ahead of it is done
   obtain ⟨p0,hp0⟩:=List.getElem?_of_mem (by simpa using hbi:i∈B)
   have hall:∀ j,j < l.length→B.contains j=false→S j=true:=fun j hj hb=>nH j ((hB1 p0 i hp0).2 j hj (.inl hb))
   have Nu:∃ p,(∀ i,(B.take p).contains i=true→S i=true)∧(∀ q b,B[q]?=some b→p≤q→S b=false)∧WL r P l.toArray (fun e a w=>e=.normal∧Q .normal a w) (qp l (B.drop p)) a w:=by
    rcases hX with ⟨h1,hD⟩|⟨p,_,h2,h3,h4⟩
    ·exact ⟨0,by simp,fun q b hq _=>h1 b (by simpa using kI hq),hend S a w hall h1 hD⟩
    ·exact ⟨p,h2,h3,h4⟩
   obtain ⟨p,h2,h3,h4⟩:=Nu
   -- i is the next one
   have hpp:p≤p0:=by
    rcases Nat.lt_or_ge p0 p with hlt|hge
    ·have:(B.take p).contains i=true:=by
      simp only [uV]
      exact kI (i:=p0) (by rw [sH,au hlt];exact hp0)
     rw [h2 i this] at bY;cases bY
    ·exact hge
   have Cw:p < B.length:=by have:=(iM.1 hp0).1;omega
   have hbp:B[p]?=some B[p]:=gM Cw
   have heq:B[p]=i:=by
    rcases Nat.lt_or_ge p p0 with hlt|hge
    ·exfalso
     have hin:B[p]∈bL.getD i []:=(hB1 p0 i hp0).2 _ (hB1 p _ hbp).1 (.inr (by
      simp only [uV]
      exact kI (i:=p) (by rw [sH,au hlt];exact hbp)))
     have:=nH _ hin
     rw [h3 p _ hbp (bK _)] at this;cases this
    ·have:p=p0:=by omega
     subst this
     rw [hbp] at hp0;simpa using hp0
   have hdrop:B.drop p=i :: B.drop (p+1):=by rw [mV Cw,heq]
   have hops:qp l (B.drop p)=o :: qp l (B.drop (p+1)):=by rw [hdrop];simp [qp,ho]
   rw [hops] at h4
   refine Xq (fun a' w' h5=>.inr ⟨p+1,fun j hj hb=>?_,fun j hj=>?_,fun q b hq hpq=>?_,h5⟩) h4
   ·unfold eu;split
    ·rfl
    ·exact hall j hj hb
   ·unfold eu;split
    ·rfl
    ·rename_i hne
     refine h2 j ?_
     simp only [uV] at hj ⊢
     rw [jB Cw,oZ] at hj
     rcases hj with hj|hj
     ·exact hj
     ·simp only [oC] at hj;exact absurd (hj.trans heq) hne
   ·unfold eu
    rw [ah ?_]
    ·exact h3 q b hq (by omega)
    ·rintro rfl
     -- i would stand twice in B: it would come ahead of itself
     have h6:=(hB1 q b hq).2 b (hB1 q b hq).1 (.inr (by
      simp only [uV]
      exact kI (i:=p) (by rw [sH,au (by omega)];rw [hbp,heq])))
     rw [nH _ h6] at bY;cases bY
  ·have wH:B.contains i=false:=by cases h:B.contains i with|false=>rfl|true=>exact absurd h hbi
   rcases hX with ⟨h1,hX⟩|⟨p,h0,_,_,_⟩
   ·refine sj (fun e a' w' ⟨he,hD⟩=>⟨he,.inl ⟨fun j hj=>?_,hD⟩⟩) (hstep i o S a w ho wH bY nH hdesc hX)
    unfold eu
    rw [ah (by rintro rfl;rw [wH] at hj;cases hj)]
    exact h1 j hj
   ·rw [h0 i hil wH] at bY;cases bY
 ·intro S a w hall hX
  rcases hX with ⟨h1,hD⟩|⟨p,_,_,h3,h4⟩
  ·have hnil:B=[]:=by
    cases B with
    | nil=>rfl
    | cons b B=>have h5:=h1 b (by simp);rw [hall b (hB1 0 b rfl).1] at h5;cases h5
   subst hnil
   exact (hend S a w (fun j hj _=>hall j hj) h1 hD).2
  ·have hnil:B.drop p=[]:=by
    cases hd:B.drop p with
    | nil=>rfl
    | cons b B' =>
     have hb:B[p]?=some b:=by
      have:=ay (fun x:List Nat=>x[0]?) hd
      simpa using this
     have h5:=h3 p b hb (bK _)
     rw [hall b (hB1 p b hb).1] at h5;cases h5
   rw [hnil] at h4
   exact h4.2
theorem Iu {pr:Nat→aj→GH→Prop} {S:Nat→Bool} {i d:Nat} {v:aj} (hok:lW l T i=true) (hi:eD l i=some d) 
  (HT:St N D w0 F G0 G1 L T a w) (Hb:St N D w0 F G0 G1 L (Xs++full N a) a w) (hG:∀ k o,G k=some o→G1 k=some o) (hv:∀ j d,j≠i→S j=true→eD l j=some d→∃ v,a.tmps[d]?=some v∧pr j v G1)
  (hp:pr i v G1) (H:St N D w0 F G0 G1 L1 ((d,v) :: (Xs++full N a)) a' w'):DX N D w0 F G0 G L1 T l pr (eu S i) a' w':=by
 have hil:i < l.length:=xK hi
 have hok1:=hok
 rw [lW,hi] at hok1
 simp only [kK,Option.isNone_iff_eq_none,kJ,oz] at hok1
 have hsame:∀ t,t≠d→a'.tmps[t]?=a.tmps[t]?:=by
  intro t ht
  by_cases hlt:t < N
  ·have h1:∃ u,lk (Xs++full N a) t=some u:=by
    rw [CU]
    cases lk Xs t with
    | some u=>exact ⟨u,rfl⟩
    | none=>exact ⟨_,Jz a hlt⟩
   obtain ⟨u,hu⟩:=h1
   rw [Hb.get t u hu,H.get t u (by rw [eO (Ne.symm ht)];exact hu)]
  ·rw [Array.getElem?_eq_none (by rw [H.kL];omega),Array.getElem?_eq_none (by rw [Hb.kL];omega)]
 refine ⟨G1,hG,⟨H.kL,fun t u ht=>?_,H.pE,H.hp⟩,fun j e hj he=>?_⟩
 ·rw [hsame t (fun e=>by rw [e,hok1.1] at ht;cases ht)]
  exact HT.get t u ht
 ·by_cases hji:j=i
  ·subst hji
   rw [hi] at he
   simp only [mU] at he
   subst he
   exact ⟨v,H.get d v (jM _ _ _),hp⟩
  ·have hSj:S j=true:=by unfold eu at hj;rwa [ah hji] at hj
   obtain ⟨u,hu1,hu2⟩:=hv j e hji hSj he
   have hne:e≠d:=by
    intro e'
    subst e'
    have h2:=hok1.2 j (xK he)
    rw [yT (fun h=>hji h.symm),he] at h2
    simp at h2
   exact ⟨u,by rw [hsame e hne];exact hu1,hu2⟩
end
end
section
open Go.RowKit
section
variable {N:Nat} {D:List Deferred} {w0:World} {F:Nat→Prop} {G0 G:GH} {L:OL} {T:List (Nat × aj)}
variable {r:Option Nat} {P:Program} {ops:Array Oper} {Q:Exit→Act→World→Prop} {rest:List Oper} {a:Act} {w:World}
variable {d:Nat} {ty:TypeId} {pos:String} {aL:Array Edge} {g:Option (Nat × Bool)}
theorem Bo {t:TypeId} (H:St N D w0 F G0 G L T a w) (hw:Region.wanted ⟨some d,.makeMap t none,ty,pos,aL,g⟩ (yielded ops a.tmps)=true) (hd:Nat.blt d N=true)
  (k:∀ b a' w',w0.heap.size≤b→St N D w0 F G0 G ((b,.map #[] 0) :: L) ((d,.map (some b)) :: T) a' w'→WL r P ops Q rest a' w'):WL r P ops Q (⟨some d,.makeMap t none,ty,pos,aL,g⟩ :: rest) a w:=by
 refine fE (v:=.map (some w.heap.size)) (w':=w.alloc (.map #[] 0)) hw rfl ?_ (k _ _ _ H.hp.size (H.put hd _ (H.hp.alloc _)))
 simp [execOp,Instr.makeMap,newObj,Sem.run,bV]
def zN (an:Option (Nat × aj)) (zv:aj):aj × Bool:=match an with|some (_,v)=>(v,true)|none=>(zv,false)
theorem ahq {t kt et:TypeId} {kd:TypeDesc} {x y:Operand} {b i clock:Nat} {es:Array MapEntry} {ky zv:aj} (an:Option (Nat × aj)) (hm:P.underlying t=some (.map kt et)) (hk:P.underlying kt=some kd) (hz:(P.info? et).map (fun i=>i.zero)=some (some zv)) (H:St N D w0 F G0 G L T a w)
  (hw:Region.wanted ⟨some d,.lookup t x y true,ty,pos,aL,g⟩ (yielded ops a.tmps)=true) (hx:ev T x=some (.map (some b))) (hy:ev T y=some ky) (hi:L[i]?=some (b,.map es clock)) (hky:MapKept.IsKey kd ky) (hf:Instr.findNow kd ky es.toList 0=some an) (hd:Nat.blt d N=true)
  (k:∀ a',St N D w0 F G0 G L ((d,.tuple #[(zN an zv).1,.bool (zN an zv).2]) :: T) a' w→WL r P ops Q rest a' w):WL r P ops Q (⟨some d,.lookup t x y true,ty,pos,aL,g⟩ :: rest) a w:=by
 have hb:w.heap[b]?=some (.map es clock):=H.hp.own _ (kI hi)
 obtain ⟨inf,hi1,hi2⟩:=lD.1 hz
 refine fE (v:=.tuple #[(zN an zv).1,.bool (zN an zv).2]) (w':=w) hw rfl ?_ (k _ (H.put hd _ H.hp))
 have h1:=MapKept.run_checkKey (w:=w) hk hky es.isEmpty 9999
 have h2:=MapKept.run_findKey (w:=w) hk hf
 cases an with
 | none=>simp [execOp,Instr.lookup,H.ev hx,H.ev hy,bV,lg hm,MapKept.run_getObj_map hb,h1,h2,Result.andThen,zeroValue,zP hi1,hi2,zN]
 | some q=>simp [execOp,Instr.lookup,H.ev hx,H.ev hy,bV,lg hm,MapKept.run_getObj_map hb,h1,h2,Result.andThen,zN]
theorem Xf {w:World} {b clock:Nat} {es:Array MapEntry} {o:Obj} (h:w.heap[b]?=some (.map es clock)):sG b o w { w with heap:=w.heap.setIfInBounds b o }:=by
 have hlt:b < w.heap.size:=(Array.getElem?_eq_some_iff.1 h).1
 refine ⟨rfl,rfl,rfl,by simp,by simp [hlt],fun k hk=>?_⟩
 simp only
 rw [Array.getElem?_setIfInBounds_ne (Ne.symm hk)]
theorem V9 {t kt et:TypeId} {kd:TypeDesc} {x y z:Operand} {b i clock:Nat} {es:Array MapEntry} {ky v:aj} (hm:P.underlying t=some (.map kt et)) (hk:P.underlying kt=some kd) (H:St N D w0 F G0 G L T a w)
  (hw:Region.wanted ⟨none,.mapUpdate t x y z,ty,pos,aL,g⟩ (yielded ops a.tmps)=true) (hx:ev T x=some (.map (some b))) (hy:ev T y=some ky) (hzv:ev T z=some v) (hi:L[i]?=some (b,.map es clock)) (hky:MapKept.IsKey kd ky) (hf:Instr.findNow kd ky es.toList 0=some none)
  (k:∀ w',St N D w0 F G0 G (L.set i (b,.map (es.push ⟨ky,v,clock⟩) (clock+1))) T a w'→WL r P ops Q rest a w'):WL r P ops Q (⟨none,.mapUpdate t x y z,ty,pos,aL,g⟩ :: rest) a w:=by
 have hb:w.heap[b]?=some (.map es clock):=H.hp.own _ (kI hi)
 have h1:=MapKept.run_checkKey (w:=w) hk hky false 9999
 have h2:=MapKept.run_findKey (w:=w) hk hf
 refine Py (w':={ w with heap:=w.heap.setIfInBounds b (.map (es.push ⟨ky,v,clock⟩) (clock+1)) }) hw rfl ?_ (k _ (H.move (H.hp.upd hi (Xf hb))))
 simp [execOp,Instr.mapUpdate,H.ev hx,H.ev hy,H.ev hzv,bV,lg hm,MapKept.run_getObj_map hb,h1,h2,MapKept.run_setObj_map _ hb,Result.andThen]
theorem ahu {t yt:TypeId} {x y:Operand} {p q:ByteArray} (H:St N D w0 F G0 G L T a w) (hw:Region.wanted ⟨some d,.binOp .neq t x y yt,ty,pos,aL,g⟩ (yielded ops a.tmps)=true) (hx:ev T x=some (.string p)) (hy:ev T y=some (.string q)) (hd:Nat.blt d N=true)
  (k:∀ a',St N D w0 F G0 G L ((d,.bool (!(p.toList == q.toList))) :: T) a' w→WL r P ops Q rest a' w):WL r P ops Q (⟨some d,.binOp .neq t x y yt,ty,pos,aL,g⟩ :: rest) a w:=by
 refine fE (v:=.bool (!(p.toList == q.toList))) (w':=w) hw rfl ?_ (k _ (H.put hd _ H.hp))
 simp [execOp,H.ev hx,H.ev hy,bV,eqGuard,binOp,Op.stringOp]
theorem Hp.NZ (h:Hp w0 F G0 G L w) {b o:Nat} {c:Array aj} {e:TypeId} {fz:Nat × Nat} {v:aj} (hm:(b,Obj.cells c e fz)∈L) (hv:c[o]?=some v):w.cell? ⟨b,o,none⟩=some v:=by
 have:=h.own _ hm
 simp only [World.cell?,this]
 exact hv
end
end
section
open Go.RowKit
section
variable {N:Nat} {D:List Deferred} {w0:World} {F:Nat→Prop} {G0 G G1 G2:GH} {L L1:OL} {T Xs:List (Nat × aj)}
variable {r:Option Nat} {P:Program} {Q:Exit→Act→World→Prop} {l:List Oper} {a a':Act} {w w':World}
end
end
section
open Go.RowKit
section
variable {N:Nat} {D:List Deferred} {w0:World} {F:Nat→Prop} {G0 G G1 G2:GH} {L L1 L2:OL} {T Xs:List (Nat × aj)}
variable {r:Option Nat} {P:Program} {Q:Exit→Act→World→Prop} {l:List Oper} {a a':Act} {w w':World}
end
end
section
open Go.RowKit
theorem afN:liesAt prog prog.depth 259 (7 / prog.cellsOf 259) 2 121 1=true:=by kernel_rfl
theorem J9:Ty prog 5 1 1 [.int .u8 0] false:=⟨by kernel_rfl,by kernel_rfl⟩
abbrev fT (b:Nat) (s:ByteArray) (i:Int) (p v q:aj) (pl e:Int):Nat × Obj:=(b,.cells #[.string s,vi i,p,v,q,vi pl,vi e] 259 (0,0))
theorem ahC (G:GH) (L:OL) (w0:World) (b:Nat) (s:ByteArray) (i:Int) (A:Option Addr) (n c:Nat) (B:Option Addr) (m d:Nat) (pl e:Int) (hO:gL G (fT b s i (.pointer none) (.slice A n c) (.slice B m d) pl e :: L) w0) :
  Calls prog 74 #[(aJ b 2)] w0 (fZ w0 G (fT b s i (.pointer none) (.slice A n c) (.slice B m d) pl e :: L) fun u G' L'=>L'=fT b s i (aJ b 2) (.slice A n c) (.slice B m d) pl e :: L∧G'=G):=by
 refine jI (N:=20) (T:=[(0,_)]) func74 rfl ntmps74 rfl rfl hO ?_;intro a H;refine kP H (SR fun _ K1=>Rm rfl (Rk rfl (aV yZ Aa 0 rfl rfl ?_)));clear H;intro a H;refine JR yH H wn rfl rfl ?_;clear H;intro a H;refine K1 _ _ ?_;clear K1;refine kW H rfl ?_ ?_
 ·intro h6
  refine kP H (SC (Rm rfl (Rm rfl ?_)));clear H;intro a H;refine Wp yH Kg EF H wn rfl 0 rfl rfl rfl ?_;clear H;intro a H;refine Wh (xs:=[.tmp 9]) (Vu _) H wn rfl rfl ?_;clear H;intro a H;refine V7 Kg yH EF H wn rfl 0 rfl afN rfl ?_;clear H;intro a H;refine kH H (Rk rfl (Rf yZ rfl ?_));clear H;intro a H;refine bE Aa 0 (vs:=[_]) _ H wn rfl rfl rfl rfl rfl rfl rfl rfl ?_;clear H;intro w H;dsimp only [List.set,setRow] at H;refine aH ?_;refine (leave0 H results74 ?_).2;exact H.hp.dW ⟨rfl,rfl⟩
 intro h6
 exact absurd h6 (by decide)
theorem ahD (G:GH) (L:OL) (w0:World) (b:Nat) (s:ByteArray) (i:Int) (A:Option Addr) (n c:Nat) (B:Option Addr) (m d:Nat) (pl e:Int) (hO:gL G (fT b s i (aJ b 2) (.slice A n c) (.slice B m d) pl e :: L) w0) :
  Calls prog 74 #[(aJ b 2)] w0 (fZ w0 G (fT b s i (aJ b 2) (.slice A n c) (.slice B m d) pl e :: L) fun u G' L'=>L'=fT b s i (aJ b 2) (.slice A n c) (.slice B m d) pl e :: L∧G'=G):=by
 refine jI (N:=20) (T:=[(0,_)]) func74 rfl ntmps74 rfl rfl hO ?_;intro a H;refine kP H (SR fun _ K1=>Rm rfl (Rk rfl (aV yZ Aa 0 rfl rfl ?_)));clear H;intro a H;refine JR yH H wn rfl rfl ?_;clear H;intro a H;refine K1 _ _ ?_;clear K1;refine kW H rfl ?_ ?_
 ·intro h6
  exact absurd h6 (by simp)
 intro h6
 refine kP H (SR fun _ K2=>Rm rfl (Rk rfl (aV yZ Aa 0 rfl rfl (Rm rfl ?_))));clear H;intro a H;refine Wd yH EF H wn rfl rfl rfl ?_;clear H;intro a H;refine K2 _ _ ?_;clear K2;refine kW H rfl ?_ ?_
 ·intro h19
  exact absurd h19 (by decide)
 intro h19
 refine gI ?_;refine (leave0 H results74 ?_).2;exact H.hp.dW ⟨rfl,rfl⟩
theorem ahE (G:GH) (L:OL) (w0:World) (b:Nat) (s:ByteArray) (i:Int) (p:aj) (A:Option Addr) (n c:Nat) (B:Option Addr) (m d:Nat) (pl e:Int) (hp:p=.pointer none∨p=(aJ b 2)) (hO:gL G (fT b s i p (.slice A n c) (.slice B m d) pl e :: L) w0) :
  Calls prog 74 #[(aJ b 2)] w0 (fZ w0 G (fT b s i p (.slice A n c) (.slice B m d) pl e :: L) fun u G' L'=>L'=fT b s i (aJ b 2) (.slice A n c) (.slice B m d) pl e :: L∧G'=G):=by
 rcases hp with rfl|rfl
 ·exact ahC G L w0 b s i A n c B m d pl e hO
 exact ahD G L w0 b s i A n c B m d pl e hO
theorem Xm (G:GH) (Lp Lo:OL) (w0:World) (b:Nat) (s:ByteArray) (i:Int) (p v:aj) (B:Option Addr) (m d:Nat) (pl e:Int) (n:Nat) (xs:List aj) (c:Int) (hp:p=.pointer none∨p=(aJ b 2)) (hO:gL G (fT b s i p v (.slice B m d) pl e :: (Lp++Lo)) w0) (hrow:cK 5 1 v n xs Lo) (hn:n≤4294967296) :
  Calls prog 159 #[(aJ b 2),.int .u8 c] w0 (fZ w0 G (fT b s i p v (.slice B m d) pl e :: (Lp++Lo)) fun u G' L'=>∃ v' fJ,L'=fT b s i (aJ b 2) v' (.slice B m d) pl e :: (Lp++fJ)∧cK 5 1 v' (n+1) (xs++[.int .u8 c]) fJ∧G'=G):=by
 have hml:maxLen=9223372036854775807:=rfl;obtain ⟨A,c0,rfl,-,-⟩:=hrow.shape;obtain ⟨Lt,nG⟩:∃ x,x=Lp++Lo:=⟨_,rfl⟩;rw [← nG] at hO ⊢;refine jI (N:=17) (T:=[(0,_),(1,_)]) func159 rfl ntmps159 rfl rfl hO ?_;intro a H;refine kP H (SR fun _ K1=>ak K1 rfl (SR fun _ K2=>Rm rfl ?_));clear H K1;intro a H;refine gK Sk (Li:=[]) (L:=fT b s i p _ (.slice B m d) pl e :: Lt) H wn rfl (ahE _ _ _ b s i p A n c0 B m d pl e hp (Hp.owns (Li:=[]) H.hp)) rfl ?_;clear H;rintro v6 _ L6 a w ⟨rfl,rfl⟩ hm6 H;dsimp only [List.nil_append] at H;refine K2 _ _ ?_;clear K2;refine kP H (SR fun _ K3=>Rm rfl (Rm rfl (Rk rfl (aV xL yD 0 rfl rfl (Rm rfl ?_)))));clear H;intro a H;refine gP Ae J9 [_] [_] H wn rfl rfl rfl rfl rfl (by intro i q h;match i,h with|0,h=>exact h|n+1,h=>simp at h) rfl rfl ?_;clear H;intro b13 a w M7 H;subst nG;have H:=St.un (A:=[_,_]) (B:=Lp) (C:=Lo) H;refine pR (Li:=[_,_]++Lp) (Lo:=Lo) (news:=[.int .u8 c]) Ae J9 rfl rfl H wn rfl rfl hrow rfl (H.hp.dZ 0 rfl rfl) rfl (by omega) (by omega) rfl ?_;clear H;intro v14 Qw a w Gj H;obtain ⟨PG,c14,rfl,-,-⟩:=Gj.shape;have H:=H.assoc;dsimp only [lca,bq] at H;refine kH H (Rk rfl (Rf xL rfl ?_));clear H;intro a H;refine bE yD 1 (vs:=[_]) _ H wn rfl rfl rfl rfl rfl rfl rfl rfl ?_;clear H;intro w H;dsimp only [List.set,setRow] at H;refine K3 _ _ ?_;clear K3;exact kP H (SR fun _ K4=>ak K4 rfl (LR results159 rfl fun H=>H.hp.gJ (L':=fT b s i _ _ _ pl e :: (Lp++Qw)) (yP _ _) ⟨_,_,rfl,Gj,rfl⟩))
theorem ahV (G:GH) (L:OL) (w0:World) (b:Nat) (s:ByteArray) (i:Int) (p:aj) (A:Option Addr) (n c:Nat) (B:Option Addr) (m d:Nat) (pl e:Int) (hO:gL G (fT b s i p (.slice A n c) (.slice B m d) pl e :: L) w0) :
  Calls prog 164 #[(aJ b 2)] w0 (fZ w0 G (fT b s i p (.slice A n c) (.slice B m d) pl e :: L) fun u G' L'=>u=vi n∧L'=fT b s i p (.slice A n c) (.slice B m d) pl e :: L∧G'=G):=by
 refine jI (N:=8) (T:=[(0,_)]) func164 rfl ntmps164 rfl rfl hO ?_;intro a H;exact kP H (SR fun _ K1=>ak K1 rfl (SR fun _ K2=>Rm rfl (Rk rfl (aV xL yD 0 rfl rfl (Rl Ae rfl (ak K2 rfl (LR results164 rfl fun H=>H.hp.dW ⟨rfl,rfl,rfl⟩)))))))
theorem air (G:GH) (L:OL) (w0:World) (b:Nat) (s:ByteArray) (i:Int) (p:aj) (A:Option Addr) (n c:Nat) (B:Option Addr) (m d:Nat) (pl e:Int) (hO:gL G (fT b s i p (.slice A n c) (.slice B m d) pl e :: L) w0) :
  Calls prog 165 #[(aJ b 2)] w0 (fZ w0 G (fT b s i p (.slice A n c) (.slice B m d) pl e :: L) fun u G' L'=>L'=fT b s i (.pointer none) (.slice none 0 0) (.slice B m d) pl e :: L∧G'=G):=by
 refine jI (N:=8) (T:=[(0,_)]) func165 rfl ntmps165 rfl rfl hO ?_;intro a H;refine kP H (SR fun _ K1=>Rm rfl (Rk rfl (Rf yZ rfl ?_)));clear H;intro a H;refine bE Aa 0 (vs:=[_]) _ H wn rfl rfl rfl rfl rfl rfl rfl rfl ?_;clear H;intro w H;dsimp only [List.set,setRow] at H;refine K1 _ _ ?_;clear K1;refine kP H (SC (Rm rfl (Rk rfl (Rf xL rfl ?_))));clear H;intro a H;refine bE yD 0 (vs:=[_]) _ H wn rfl rfl rfl rfl rfl rfl rfl rfl ?_;clear H;intro w H;dsimp only [List.set,setRow] at H;refine aH ?_;refine (leave0 H results165 ?_).2;exact H.hp.dW ⟨rfl,rfl⟩
theorem ais (G:GH) (Lp Lo:OL) (w0:World) (b:Nat) (s:ByteArray) (i:Int) (p v:aj) (B:Option Addr) (m d:Nat) (pl e:Int) (l:List UInt8) (hO:gL G (fT b s i p v (.slice B m d) pl e :: (Lp++Lo)) w0) (hrow:cK 5 1 v l.length (Lib.byteCells l) Lo) (h0:l≠[]) :
  Calls prog 49 #[(aJ b 2)] w0 (fZ w0 G (fT b s i p v (.slice B m d) pl e :: (Lp++Lo)) fun u G' L'=>u=.string ⟨l.toArray⟩∧L'=fT b s i p v (.slice B m d) pl e :: Lp):=by
 rcases hrow.2 with ⟨-,h,-⟩|⟨b2,cap,cur,rfl,rfl,hc1,hc2,hc3,hc4⟩
 ·exact absurd (List.eq_nil_of_length_eq_zero h) h0
 have hl0:l.length≠0:=fun h=>h0 (List.eq_nil_of_length_eq_zero h);have hml:maxLen=9223372036854775807:=rfl;obtain ⟨Lt,nG⟩:∃ x,x=Lp++[(b2,Obj.cells cur 5 (0,0))]:=⟨_,rfl⟩;rw [← nG] at hO ⊢;refine jI (N:=14) (T:=[(0,_)]) func49 rfl ntmps49 rfl rfl hO ?_;intro a H;refine kP H (SR fun _ K1=>ak K1 rfl (SQ fun _ K2=>?_));clear H K1;intro a H;have H:=H.sub (T':=[(0,_)]) ⟨rfl,aF⟩;refine dI hmx [[],[0],[0,1],[0,1,2],(ra 0 4),[],[5],[5,6],[5,6,7],(ra 5 4),(ra 0 10),(ra 0 11)] [10,11] (by kernel_rfl) [_,_,_,.slice (some ⟨b2,0,none⟩) l.length cap,(aJ b2 0),_,_,_,.slice (some ⟨b2,0,none⟩) l.length cap,_] H (aB (Z0 rfl (Rm rfl)) (Z1 0 3 rfl (Rk rfl)) (Z1 1 4 rfl (Rf xL rfl)) (Z1 2 5 rfl (Ro yD 0 rfl)) (aB ?_ (Z0 rfl (Rm rfl)) (Z1 5 8 rfl (Rk rfl)) (Z1 6 9 rfl (Rf xL rfl)) (aB (Z1 7 10 rfl (Ro yD 0 rfl)) (Z1 8 11 rfl (Rl Ae rfl)) (bH rfl) (bH rfl) bW))) ?_
 ·refine dw 3 6 rfl rfl fun _ a w G1 hG HT H fin=>?_;refine Wn H wn rfl (by omega) rfl ?_;clear H;intro a H;exact fin H iJ rfl
 clear H;intro a w G mH H hv;have H:=H.aS (hv 4 7 rfl rfl) rfl;have H:=H.aS (hv 9 12 rfl rfl) rfl;clear hv;subst nG;have H:=H.perm (List.Perm.cons _ xD);dsimp only [lca,bq] at H;refine Wq (i:=1) l WZ Rp h0 (by omega) H wn rfl rfl rfl (by rw [← hc4,Nat.mul_one]) rfl ?_;clear H;intro fz a w H;dsimp only [List.set] at H;refine kH H (Ra rfl ?_);clear H;intro a H;refine aH ⟨rfl,?_⟩;refine K2 _ _ ?_;clear K2;refine lr H results49 rfl ?_;exact H.hp.gJ (L':=fT b s i _ _ _ pl e :: Lp) (List.Sublist.cons_cons _ (yP _ _)) ⟨rfl,rfl⟩
end
section
open Go.RowKit
section
variable {N:Nat} {D:List Deferred} {w0:World} {F:Nat→Prop} {G0 G G1 G2:GH} {L L1 L2:OL} {T Xs:List (Nat × aj)}
variable {r:Option Nat} {P:Program} {Q:Exit→Act→World→Prop} {l:List Oper} {a a':Act} {w w':World}
end
end
section
open Go.RowKit
section
variable {N:Nat} {D:List Deferred} {w0:World} {F:Nat→Prop} {G0 G G1 G2:GH} {L L1 L2:OL} {T Xs:List (Nat × aj)}
variable {r:Option Nat} {P:Program} {Q:Exit→Act→World→Prop} {l:List Oper} {a a':Act} {w w':World}
theorem RQ {pr:Nat→aj→GH→Prop} {S:Nat→Bool} {i d:Nat} {v:aj} (hok:lW l T i=true) (iC:∀ i v (G G':GH),(∀ k o,G k=some o→G' k=some o)→pr i v G→pr i v G') (hi:eD l i=some d)
  (HT:St N D w0 F G0 G1 L T a w) (Hb:St N D w0 F G0 G1 L (Xs++full N a) a w) (hG:∀ k o,G k=some o→G1 k=some o) (hv:∀ j d,j≠i→S j=true→eD l j=some d→∃ v,a.tmps[d]?=some v∧pr j v G1)
  (hG2:∀ k o,G1 k=some o→G2 k=some o) (hp:pr i v G2) (H:St N D w0 F G0 G2 L1 ((d,v) :: (Xs++full N a)) a' w'):DX N D w0 F G0 G L1 T l pr (eu S i) a' w':=by
 have hok1:=hok
 rw [lW,hi] at hok1
 simp only [kK,Option.isNone_iff_eq_none,kJ,oz] at hok1
 have hsame:∀ t,t≠d→a'.tmps[t]?=a.tmps[t]?:=by
  intro t ht
  by_cases hlt:t < N
  ·have h1:∃ u,lk (Xs++full N a) t=some u:=by
    rw [CU]
    cases lk Xs t with
    | some u=>exact ⟨u,rfl⟩
    | none=>exact ⟨_,Jz a hlt⟩
   obtain ⟨u,hu⟩:=h1
   rw [Hb.get t u hu,H.get t u (by rw [eO (Ne.symm ht)];exact hu)]
  ·rw [Array.getElem?_eq_none (by rw [H.kL];omega),Array.getElem?_eq_none (by rw [Hb.kL];omega)]
 refine ⟨G2,fun k o hk=>hG2 k o (hG k o hk),⟨H.kL,fun t u ht=>?_,H.pE,H.hp⟩,fun j e hj he=>?_⟩
 ·rw [hsame t (fun e=>by rw [e,hok1.1] at ht;cases ht)]
  exact HT.get t u ht
 ·by_cases hji:j=i
  ·subst hji
   rw [hi] at he
   simp only [mU] at he
   subst he
   exact ⟨v,H.get d v (jM _ _ _),hp⟩
  ·have hSj:S j=true:=by unfold eu at hj;rwa [ah hji] at hj
   obtain ⟨u,hu1,hu2⟩:=hv j e hji hSj he
   have hne:e≠d:=by
    intro e'
    subst e'
    have h2:=hok1.2 j (xK he)
    rw [yT (fun h=>hji h.symm),he] at h2
    simp at h2
   exact ⟨u,by rw [hsame e hne];exact hu1,iC j u _ _ hG2 hu2⟩
theorem Q7 {id:Nat} {κ:Type} (k0:κ) (hm:P.follows .mixedOrders=true) (bL:List (List Nat)) (B:List Nat) (hk:yX l bL=true) (hB:zY l bL B=true) (m1 m2 m3:Nat) (ake:B.contains m1=false) (akf:B.contains m2=false) (aey:B.contains m3=false) (hne:Nat.beq m1 m2=false) (TY:Nat.beq m2 m3=false) (hne1:Nat.beq m1 m3=false) (h12:(bL.getD m2 []).contains m1=true) (fM:(bL.getD m3 []).contains m1=true) (h23:(bL.getD m3 []).contains m2=true)
  (C L2:OL) (ob:Obj) (L3:Nat→κ→OL) (hC:∀ x,x∈C→x∈L) (hC2:∀ x,x∈C→x∈L2) (hC3:∀ b k x,x∈C→x∈L3 b k) (pr:Nat→κ→Nat→aj→GH→Prop)
  (aeM:∀ b b' k i v G,Nat.beq i m2=false→(bL.getD i []).contains m2=false→pr b k i v G→pr b' k i v G)
  (aeN:∀ b k k' i v G,Nat.beq i m3=false→(bL.getD i []).contains m3=false→pr b k i v G→pr b k' i v G)
  (H:St N D w0 F G0 G L T a w)
  (hstep:allI (fun i o=>∀ b k L' S a w G1,(∀ x,x∈C→x∈L')→B.contains i=false→Nat.beq i m1=false→Nat.beq i m2=false→Nat.beq i m3=false→S i=false→(∀ j∈bL.getD i [],S j=true)→(∀ k o,G k=some o→G1 k=some o)→St N D w0 F G0 G1 L' T a w→(∀ i d,S i=true→eD l i=some d→∃ v,a.tmps[d]?=some v∧pr b k i v G1) →
   WL r P l.toArray (fun e a' w'=>e=.normal∧DX N D w0 F G0 G L' T l (pr b k) (eu S i) a' w') [o] a w) 0 l)
  (aez:∀ o b k S a w G1,l[m1]?=some o→S m1=false→(∀ j∈bL.getD m1 [],S j=true)→(∀ k o,G k=some o→G1 k=some o)→St N D w0 F G0 G1 L T a w→(∀ i d,i≠m1→S i=true→eD l i=some d→∃ v,a.tmps[d]?=some v∧pr b k i v G1) →
   WL r P l.toArray (fun e a' w'=>e=.normal∧DX N D w0 F G0 G L2 T l (pr b k) (eu S m1) a' w') [o] a w)
  (aeA:∀ o k S a w G1,l[m2]?=some o→S m2=false→(∀ j∈bL.getD m2 [],S j=true)→(∀ k o,G k=some o→G1 k=some o)→St N D w0 F G0 G1 L2 T a w→(∀ b i d,i≠m2→S i=true→eD l i=some d→∃ v,a.tmps[d]?=some v∧pr b k i v G1) →
   WL r P l.toArray (fun e a' w'=>e=.normal∧∃ b,DX N D w0 F G0 G ((b,ob) :: L2) T l (pr b k) (eu S m2) a' w') [o] a w)
  (aeB:∀ o b S a w G1,l[m3]?=some o→S m3=false→(∀ j∈bL.getD m3 [],S j=true)→(∀ k o,G k=some o→G1 k=some o)→St N D w0 F G0 G1 ((b,ob) :: L2) T a w→(∀ k i d,i≠m3→S i=true→eD l i=some d→∃ v,a.tmps[d]?=some v∧pr b k i v G1) →
   WL r P l.toArray (fun e a' w'=>e=.normal∧∃ k,DX N D w0 F G0 G (L3 b k) T l (pr b k) (eu S m3) a' w') [o] a w)
  (hend:∀ b k a w G1,(∀ k o,G k=some o→G1 k=some o)→St N D w0 F G0 G1 (L3 b k) T a w→(∀ i d,B.contains i=false→eD l i=some d→∃ v,a.tmps[d]?=some v∧pr b k i v G1)→WL r P l.toArray (fun e a w=>e=.normal∧Q .normal a w) (qp l B) a w)
  (Np:Nat.blt m2 l.length=true) (Nq:Nat.blt m3 l.length=true):WP r P (.region id l.toArray true) Q a w:=by
 have Vq:m1≠m2:=fun e=>by subst e;rw [Nat.beq_refl] at hne;cases hne
 have Vs:m2≠m3:=fun e=>by subst e;rw [Nat.beq_refl] at TY;cases TY
 have Vr:m1≠m3:=fun e=>by subst e;rw [Nat.beq_refl] at hne1;cases hne1
 refine Y6 hm bL B hk hB (fun S a w=>(S m2=true→S m1=true)∧(S m3=true→S m2=true)∧∃ b k L',L'=(bif S m3 then L3 b k else bif S m2 then (b,ob) :: L2 else bif S m1 then L2 else L)∧DX N D w0 F G0 G L' T l (pr b k) S a w)
  ⟨fun h=>h,fun h=>h,0,k0,L,rfl,G,fun _ _ h=>h,H.move H.hp.drew,fun _ _ h=>absurd (show false=true from h) (by decide)⟩ ?_ ?_
 ·rintro i o S a w ho hb bY nH hdesc ⟨aeG,aeH,b,k,L',hL,G1,hG,HS,hv⟩
  have hsub:∀ x,x∈C→x∈L':=fun x hx=>by
   rw [hL]
   cases S m3 with
   | true=>exact hC3 b k x hx
   | false=>cases S m2 with
    | true=>exact kr _ (hC2 x hx)
    | false=>cases S m1 with
     | true=>exact hC2 x hx
     | false=>exact hC x hx
  have hno:∀ j,j < l.length→S j=true→(bL.getD j []).contains i=false:=fun j hjl hj=>by
   cases hc:(bL.getD j []).contains i with
   | false=>rfl
   | true =>
    have:=hdesc j hjl (by simpa using hc)
    rw [this] at hj;cases hj
  by_cases h1:i=m1
  ·subst h1
   have hS2:S m2=false:=hdesc m2 (Eq.mp Nat.blt_eq Np) (by simpa using h12)
   have Ed:S m3=false:=hdesc m3 (Eq.mp Nat.blt_eq Nq) (by simpa using fM)
   rw [Ed,hS2,bY] at hL
   subst hL
   have h:=aez o b k S a w G1 ho bY nH hG HS fun j d hj hSj hd=>hv j d hSj hd
   have e2:eu S i m2=S m2:=ah (fun e=>Vq e.symm)
   have e3:eu S i m3=S m3:=ah (fun e=>Vr e.symm)
   refine sj (fun e a' w' ⟨he,hD⟩=>⟨he,fun _=>au rfl,fun h=>(by rw [e3,Ed] at h;cases h),b,k,_,?_,hD⟩) h
   rw [show eu S i i=true from au rfl,e2,e3,hS2,Ed]
   rfl
  ·by_cases h2:i=m2
   ·subst h2
    have hS1:S m1=true:=nH m1 (by simpa using h12)
    have Ed:S m3=false:=hdesc m3 (Eq.mp Nat.blt_eq Nq) (by simpa using h23)
    rw [Ed,bY,hS1] at hL
    subst hL
    have e1:eu S i m1=S m1:=ah Vq
    have e3:eu S i m3=S m3:=ah (fun e=>Vs e.symm)
    have h:=aeA o k S a w G1 ho bY nH hG HS fun b' j d hj hSj hd=>by
     obtain ⟨v,hv1,hv2⟩:=hv j d hSj hd
     exact ⟨v,hv1,aeM b b' k j v _ (yT hj) (hno j (xK hd) hSj) hv2⟩
    refine sj (fun e a' w' ⟨he,b',hD⟩=>⟨he,fun _=>by rw [e1];exact hS1,fun _=>au rfl,b',k,_,?_,hD⟩) h
    rw [show eu S i i=true from au rfl,e3,Ed];rfl
   ·by_cases h3:i=m3
    ·subst h3
     have hS1:S m1=true:=nH m1 (by simpa using fM)
     have hS2:S m2=true:=nH m2 (by simpa using h23)
     rw [bY,hS2] at hL
     subst hL
     have e1:eu S i m1=S m1:=ah Vr
     have e2:eu S i m2=S m2:=ah Vs
     have h:=aeB o b S a w G1 ho bY nH hG HS fun k' j d hj hSj hd=>by
      obtain ⟨v,hv1,hv2⟩:=hv j d hSj hd
      exact ⟨v,hv1,aeN b k k' j v _ (yT hj) (hno j (xK hd) hSj) hv2⟩
     refine sj (fun e a' w' ⟨he,k',hD⟩=>⟨he,fun _=>by rw [e1];exact hS1,fun _=>by rw [e2];exact hS2,b,k',_,?_,hD⟩) h
     rw [show eu S i i=true from au rfl];rfl
    ·have h:=Fj hstep i o ho
     rw [ko] at h
     have e1:eu S i m1=S m1:=ah (fun e=>h1 e.symm)
     have e2:eu S i m2=S m2:=ah (fun e=>h2 e.symm)
     have e3:eu S i m3=S m3:=ah (fun e=>h3 e.symm)
     refine sj (fun e a' w' ⟨he,hD⟩=>⟨he,by rw [e1,e2];exact aeG,by rw [e2,e3];exact aeH,b,k,L',?_,hD⟩) (h b k L' S a w G1 hsub hb (yT h1) (yT h2) (yT h3) bY nH hG HS hv)
     rw [e1,e2,e3];exact hL
 ·rintro S a w hall hnB ⟨_,_,b,k,L',hL,G1,hG,HS,hv⟩
  have hs3:S m3=true:=hall m3 (Eq.mp Nat.blt_eq Nq) aey
  rw [hs3] at hL
  subst hL
  exact hend b k a w G1 hG HS fun j d hb hd=>hv j d (hall j (xK hd) hb) hd
end
theorem aiM {z:Int} (h1:0≤z) (h2:z < 256):IntKind.u8.wrap z=z:=by
 simp only [IntKind.wrap,IntKind.bits,IntKind.signed,tZ,BQ,if_false]
 omega
section
variable {N:Nat} {D:List Deferred} {w0:World} {F:Nat→Prop} {G0 G:GH} {L:OL} {T:List (Nat × aj)}
variable {r:Option Nat} {P:Program} {ops:Array Oper} {Q:Exit→Act→World→Prop} {rest:List Oper} {a:Act} {w:World}
variable {d:Nat} {ty:TypeId} {pos:String} {aL:Array Edge} {g:Option (Nat × Bool)}
theorem ahA {x y:Operand} {t yt:TypeId} {p q:Int} (H:St N D w0 F G0 G L T a w) (hw:Region.wanted ⟨some d,.binOp .sub t x y yt,ty,pos,aL,g⟩ (yielded ops a.tmps)=true) (hx:ev T x=some (.int .u8 p)) (hy:ev T y=some (.int .u8 q)) (h1:0≤p - q) (h2:p - q < 256) (hd:Nat.blt d N=true)
  (k:∀ a',St N D w0 F G0 G L ((d,.int .u8 (p - q)) :: T) a' w→WL r P ops Q rest a' w):WL r P ops Q (⟨some d,.binOp .sub t x y yt,ty,pos,aL,g⟩ :: rest) a w :=
 fE (v:=.int .u8 (p - q)) (w':=w) hw rfl (by simp [execOp,eqGuard,binOp,Op.intArith,H.ev hx,H.ev hy,bV,aiM h1 h2]) (k _ (H.put hd _ H.hp))
end
end
end Go.Proofs.YteopmoocmoigcaaGreat
