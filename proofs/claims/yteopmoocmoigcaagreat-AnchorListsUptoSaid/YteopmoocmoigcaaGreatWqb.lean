/-
  What the claim stands on, part 2: Run Rg Pos Pq Doc Dq Eq Idx Bld Hv Ut Prk Prp Plc Plr Prq Prc Fst Nam Pn De Dj Mp Dk Dw Lsc Dm Dl.
-/
import Derived.Test.YteopmoocmoigcaaGreatWqa
import Derived.Laws.StructEq
import Derived.ChangeKeysEq
import Derived.Lib.OthersKept
import Derived.Laws.IdiomStrings
import Derived.Laws.Cover4
import Derived.Laws.Slices
import Derived.Laws.Strings2
import Derived.MapKept
namespace Go.Proofs.YteopmoocmoigcaaGreat
open Go.Proofs.Tryz
section
open Go.RowKit
theorem hmx:prog.follows .mixedOrders=true:=by kernel_rfl
theorem jh:bV prog 63 0 0:=⟨by kernel_rfl⟩
theorem aG:Ty prog 3 1 8 [.int .i64 0] false:=⟨by kernel_rfl,by kernel_rfl⟩
theorem sS:bV prog 63 3 3:=⟨by kernel_rfl⟩
theorem fZ:Ty prog 9 1 16 [.string ⟨#[]⟩] false:=⟨by kernel_rfl,by kernel_rfl⟩
theorem Mt:∀ args w,(callFunc 61 args).run prog w=.ok (.enter 61 args) w:=enters func61 rfl (by kernel_rfl)
theorem gI:prog.underlying 22=some (.slice 63):=by kernel_rfl
theorem dB:Ty prog 63 11 176 [.int .i64 0,.int .i64 0,.int .i64 0,.string ⟨#[]⟩,.slice none 0 0,.int .i64 0,.int .i64 0,.slice none 0 0,.slice none 0 0,.slice none 0 0,.slice none 0 0] true:=⟨by kernel_rfl,by kernel_rfl⟩
theorem Ms:∀ args w,(callFunc 41 args).run prog w=.ok (.enter 41 args) w:=enters func41 rfl (by kernel_rfl)
theorem nY:prog.underlying 23=some (.slice 187):=by kernel_rfl
theorem mQ:Ty prog 187 2 16 [.int .i64 0,.int .i64 0] true:=⟨by kernel_rfl,by kernel_rfl⟩
theorem pR:prog.underlying 24=some (.slice 190):=by kernel_rfl
theorem uN:Ty prog 190 2 16 [.int .i64 0,.int .i64 0] true:=⟨by kernel_rfl,by kernel_rfl⟩
theorem tN:prog.underlying 25=some (.slice 199):=by kernel_rfl
theorem uO:Ty prog 199 4 32 [.int .i64 0,.int .i64 0,.int .i64 0,.bool false] true:=⟨by kernel_rfl,by kernel_rfl⟩
theorem pQ:Ty prog 29 5 88 [.slice none 0 0,.int .i64 0,.int .i64 0,.slice none 0 0,.slice none 0 0] true:=⟨by kernel_rfl,by kernel_rfl⟩
theorem Cq:bV prog 29 0 0:=⟨by kernel_rfl⟩
theorem Ah:Ty prog 23 1 24 [.slice none 0 0] false:=⟨by kernel_rfl,by kernel_rfl⟩
theorem acE:∀ args w,(callFunc 98 args).run prog w=.ok (.enter 98 args) w:=enters func98 rfl (by kernel_rfl)
theorem sQ:bV prog 29 1 1:=⟨by kernel_rfl⟩
theorem vv:bV prog 27 2 2:=⟨by kernel_rfl⟩
theorem vO:Ty prog 24 1 24 [.slice none 0 0] false:=⟨by kernel_rfl,by kernel_rfl⟩
theorem acF:∀ args w,(callFunc 99 args).run prog w=.ok (.enter 99 args) w:=enters func99 rfl (by kernel_rfl)
theorem Co:bV prog 27 3 3:=⟨by kernel_rfl⟩
theorem Dx:Ty prog 25 1 24 [.slice none 0 0] false:=⟨by kernel_rfl,by kernel_rfl⟩
theorem aaM:∀ args w,(callFunc 100 args).run prog w=.ok (.enter 100 args) w:=enters func100 rfl (by kernel_rfl)
theorem mG:prog.underlying 61=some (.slice 96):=by kernel_rfl
theorem jQ:Ty prog 96 6 112 [.slice none 0 0,.int .i64 0,.int .i64 0,.slice none 0 0,.slice none 0 0,.slice none 0 0] true:=⟨by kernel_rfl,by kernel_rfl⟩
theorem pU:prog.underlying 94=some (.slice 98):=by kernel_rfl
theorem lT:Ty prog 98 7 120 [.int .i64 0,.slice none 0 0,.int .i64 0,.int .i64 0,.slice none 0 0,.slice none 0 0,.slice none 0 0] true:=⟨by kernel_rfl,by kernel_rfl⟩
theorem FX:bV prog 98 0 0:=⟨by kernel_rfl⟩
theorem TJ:bV prog 98 1 1:=⟨by kernel_rfl⟩
theorem IV:∀ args w,(callFunc 65 args).run prog w=.ok (.enter 65 args) w:=enters func65 rfl (by kernel_rfl)
theorem Ej:bV prog 98 2 6:=⟨by kernel_rfl⟩
theorem gZ:Ty prog 22 1 24 [.slice none 0 0] false:=⟨by kernel_rfl,by kernel_rfl⟩
theorem Mr:∀ args w,(callFunc 40 args).run prog w=.ok (.enter 40 args) w:=enters func40 rfl (by kernel_rfl)
theorem aiv:oU prog 98 [(0,1),(1,5),(6,1)] [.int .i64 0,.slice none 0 0,.int .i64 0,.int .i64 0,.slice none 0 0,.slice none 0 0,.slice none 0 0]:=⟨by kernel_rfl,by kernel_rfl⟩
theorem TI:bV prog 96 0 0:=⟨by kernel_rfl⟩
theorem vC:bV prog 96 1 5:=⟨by kernel_rfl⟩
theorem vQ:Ty prog 94 1 24 [.slice none 0 0] false:=⟨by kernel_rfl,by kernel_rfl⟩
theorem aaN:∀ args w,(callFunc 101 args).run prog w=.ok (.enter 101 args) w:=enters func101 rfl (by kernel_rfl)
theorem aiu:oU prog 96 [(0,5),(5,1)] [.slice none 0 0,.int .i64 0,.int .i64 0,.slice none 0 0,.slice none 0 0,.slice none 0 0]:=⟨by kernel_rfl,by kernel_rfl⟩
theorem AL:bV prog 63 4 4:=⟨by kernel_rfl⟩
theorem xR:bV prog 63 5 9:=⟨by kernel_rfl⟩
theorem qg:bV prog 63 6 10:=⟨by kernel_rfl⟩
theorem qz:Ty prog 61 1 24 [.slice none 0 0] false:=⟨by kernel_rfl,by kernel_rfl⟩
theorem SK:∀ args w,(callFunc 66 args).run prog w=.ok (.enter 66 args) w:=enters func66 rfl (by kernel_rfl)
theorem ach:∀ args w,(callFunc 63 args).run prog w=.ok (.enter 63 args) w:=enters func63 rfl (by kernel_rfl)
theorem aaO:∀ args w,(callFunc 102 args).run prog w=.ok (.enter 102 args) w:=enters func102 rfl (by kernel_rfl)
theorem acj:∀ args w,(callFunc 67 args).run prog w=.ok (.enter 67 args) w:=enters func67 rfl (by kernel_rfl)
theorem aci:∀ args w,(callFunc 64 args).run prog w=.ok (.enter 64 args) w:=enters func64 rfl (by kernel_rfl)
def dV (x:ay):Nat:=if x.kind=1 then uZ x.text else 1
def qB (x:ay):Int:=if x.kind=1 then EY x.text else 0
theorem PZ (G:GH) (w0:World) (hG:Hold G w0) (x:ay) (i2 i3:Int) (p i5 i6 d l f r:aj) (hs:x.text.size < 4611686018427387904) :
  Calls prog 41 #[.agg #[vi x.kind,vi i2,vi i3,.string x.text,p,i5,i6,d,l,f,r]] w0 (bC w0 G fun v G'=>v=.tuple #[vi (dV x),vi (qB x)]∧G=G'):=by
 refine eN [(0,_)] func41 rfl ntmps41 rfl rfl hG ?_;intro a H;refine cO (fun _ K1=>?_);refine fC (cs:=[_,_,_,_,_,_,_,_,_,_,_]) H wn rfl rfl rfl ?_;clear H;intro b1 a w hb1 H;refine kH H (Ra rfl (ak K1 rfl (SQ fun _ K2=>SR fun _ K3=>aR jh aG 0 rfl rfl (Rc rfl (Kz K3 (Cd rfl ?_ ?_)))))) <;> clear H K1 K3
 ·intro h6 a H
  try have p6:=dT h6
  refine kP H (SR fun _ K4=>Ra rfl (ak K4 rfl ?_));clear H K4;intro a H;refine cu ?_;refine (eT H results41 (.cons (aU H rfl) (.cons (aU H rfl) .nil)) ?_).1;exact H.rt ⟨by simp only [dV,qB,ah p6];rfl,rfl⟩
 intro h6 a H
 try have p6:=dF h6
 refine kP H (Kc K2 (SR fun _ K5=>aR sS fZ 0 rfl rfl ?_));clear H K2;intro a H;refine s_call Mt H wn rfl (LU _ _ H.ro _ hs) rfl ?_;clear H;rintro v9 _ a w ⟨rfl,rfl⟩ - H;(iterate 2 refine lu H wn rfl rfl rfl ?_;clear H;intro a H);refine kH H (Ra rfl (ak K5 rfl ?_));clear H K5;intro a H;refine cu ?_;refine (eT H results41 (.cons (aU H rfl) (.cons (aU H rfl) .nil)) ?_).1;exact H.rt ⟨by rw [lY] at p6;simp only [dV,qB,au p6],rfl⟩
def uh (l:List ay):Bool:=l.all fun x=>decide (qB x=0)
def nW:List ay→Nat
 | []=>0
 | x :: l=>dV x+nW l
def vJ (l:List ay):Int:=if uh l then nW l else 0
def wS (l:List ay):Int:=if uh l then 0 else 12
def qX:List ay→Nat
 | []=>0
 | x :: l=>x.text.size+1+qX l
theorem Xk:∀ l:List ay,nW l≤qX l
 | []=>bU _
 | x :: l=>by
  have:=Xk l;have h2:=FH x.text
  simp only [nW,qX,dV];split <;> omega
theorem Xm {x:ay}:∀ {l:List ay},x∈l→x.text.size < qX l
 | [],h=>by cases h
 | y :: l,h=>by
  simp only [qX]
  rcases lX.1 h with rfl|h
  ·omega
  have:=Xm h;omega
theorem aiA (l m:List ay):nW (l++m)=nW l+nW m:=by
 induction l with
 | nil=>simp [nW]
 | cons x l ih=>simp [nW,ih];omega
theorem aiB {l:List ay} {k:Nat} (h:k < l.length):nW (l.take (k+1))=nW (l.take k)+dV l[k]:=by
 rw [jE h,aiA];simp [nW]
theorem aiE (l m:List ay):qX (l++m)=qX l+qX m:=by
 induction l with
 | nil=>simp [qX]
 | cons x l ih=>simp [qX,ih];omega
theorem aiF (l:List ay) (k:Nat):qX (l.take k)≤qX l:=by
 have:=aiE (l.take k) (l.drop k);rw [List.take_append_drop] at this;omega
theorem zw {G:GH} {l:List ay} {A:Option Addr} {k:Nat} (hk:k < l.length) (hg:∀ k r,(l.map ay.dat)[k]?=some r→∃ b o cs,A=some ⟨b,o,none⟩∧cs.length=11∧(∀ j u,cs[j]?=some u→aJ G b (o+k*11+j)=some u)∧aY G r cs) :
  ∃ b o pA pn pc dA dn dc yA yn yc fA fn fc rA rn rc,A=some ⟨b,o,none⟩∧(∀ j u,[vi l[k].kind,vi l[k].code,vi l[k].id,.string l[k].text,.slice pA pn pc,vi l[k].head.marks.ins,vi l[k].head.marks.move,.slice dA dn dc,.slice yA yn yc,.slice fA fn fc,.slice rA rn rc][j]?=some u→aJ G b (o+k*11+j)=some u) ∧
   jl G l[k].head (.slice pA pn pc) (.slice dA dn dc) (.slice yA yn yc)∧av G (.sl 11 (l[k].flow.map ay.dat)) (.slice fA fn fc)∧av G (.sl 6 (l[k].rows.map bO.dat)) (.slice rA rn rc):=by
 obtain ⟨b,o,cs,h1,h2,h3,h4⟩:=hg k l[k].dat (by simp [hk]);obtain ⟨pA,pn,pc,dA,dn,dc,yA,yn,yc,fA,fn,fc,rA,rn,rc,rfl,h5,h6,h7⟩:=h4.item;exact ⟨b,o,pA,pn,pc,dA,dn,dc,yA,yn,yc,fA,fn,fc,rA,rn,rc,h1,h3,h5,h6,h7⟩
theorem aaG {l:List ay} {k:Nat} (h:k < l.length):uh (l.take (k+1))=(uh (l.take k) && decide (qB l[k]=0)):=by
 unfold uh
 rw [jE h,List.all_append];simp
theorem aaF {l:List ay} {k:Nat} (h:k < l.length) (hn:¬ qB l[k]=0):uh l=false:=by
 unfold uh
 rw [List.all_eq_false];exact ⟨l[k],iQ h,by simpa using hn⟩
theorem Oy:∀ l:List ay,l.length≤qX l
 | []=>bU _
 | x :: l=>by have:=Oy l;simp only [nA,qX];omega
theorem PU:∀ l:List ay,qX l≤bg l
 | []=>bU _
 | x :: l=>by
  have:=PU l;have h2:=nZ x
  simp only [qX,bg,eY,eD] at *;omega
theorem Vo (G:GH) (w0:World) (hG:Hold G w0) (l:List ay) (v:aj) (hv:av G (.sl 11 (l.map ay.dat)) v) (hz:bg l≤4294967296) :
  Calls prog 18 #[v] w0 (bC w0 G fun v G'=>v=.tuple #[vi (vJ l),vi (wS l)]∧G=G'):=by
 obtain ⟨A,c,rfl,hc1,hc2,hg⟩:=hv.slice;rw [bT] at *;have hll:=Oy l;have htz:=PU l;refine eN [(0,_)] func18 rfl ntmps18 rfl rfl hG ?_;intro a H;refine kP H (SR fun _ K1=>Ra rfl (ak K1 rfl (SR fun _ K2=>ak K2 rfl (SQ fun _ K3=>SR fun _ K4=>Rm rfl (Rl gI rfl (Rm rfl (Kz K4 (SB ?_))))))));clear H K1 K2 K4;intro a H;skip;refine eZ (ι:=Nat) (Tc:=[(9,_),(10,_)]) (Lc:=[]) (fun gh=>[(4,vi (nW (l.take gh))),(11,vi gh)]) (fun gh=>[]) (fun gh=>G) (fun gh=>gh≤l.length∧uh (l.take gh)=true) (fun gh=>l.length - gh) (0) (by exact (H).sub ⟨rfl,rfl,rfl,rfl,aB⟩) ?_ ?_
 ·exact ⟨by omega,by simp [uh]⟩
 clear H;intro gh a w hI H;obtain ⟨k,hgh⟩:∃ x,x=gh:=⟨_,rfl⟩;subst hgh;obtain ⟨hk,hd⟩:=hI;dsimp only [lca,aZ] at H;refine kP H (SR fun _ K5=>Rc rfl (Kz K5 (SQ fun _ K6=>Cd rfl ?_ ?_))) <;> clear H K5
 ·intro h12 a H
  try have oJ:=dT h12
  have hk2:k < l.length:=by omega
  obtain ⟨b,o,pA,pn,pc,dA,dn,dc,yA,yn,yc,fA,fn,fc,rA,rn,rc,rfl,hrow,-⟩:=zw hk2 hg;have hsm:=aiB hk2;have hle:=Xk (l.take (k+1));have hle2:=aiF l (k+1);refine kP H (Kc K6 (SQ fun _ K7=>SB (SR fun _ K8=>Ri gI dB rfl rfl ?_)));clear H K6;intro a H;refine bD dB (cs:=[_,_,_,_,_,_,_,_,_,_,_]) H wn rfl rfl (fun j v hj=>H.hp.aJ (hrow j v hj)) rfl ?_;clear H;intro a H;refine eU dB H wn rfl ?_;clear H;intro b6 a w hb6 H;refine bF dB 0 (vs:=[_,_,_,_,_,_,_,_,_,_,_]) _ H wn rfl rfl rfl rfl rfl rfl rfl rfl ?_;clear H;intro w H;dsimp only [List.set,setRow] at H;refine K8 _ _ ?_;clear K8;refine cO (fun _ K9=>?_);refine bD dB (cs:=[_,_,_,_,_,_,_,_,_,_,_]) H wn rfl rfl (H.hp.dY 0 rfl rfl) rfl ?_;clear H;intro a H;refine s_call Ms H wn rfl (PZ _ _ H.ro _ _ _ _ _ _ _ _ _ _ (by have:=Xm (iQ hk2);omega)) rfl ?_;clear H;rintro v17 _ a w ⟨rfl,rfl⟩ - H;refine kH H (Rm rfl ?_);clear H;intro a H;(iterate 2 refine lu H wn rfl rfl rfl ?_;clear H;intro a H);refine kH H (Ra rfl (ak K9 rfl (SQ fun _ aS=>SR fun _ bA=>Rm rfl (Rc rfl (Kz bA (Cd rfl ?_ ?_)))))) <;> clear H K9 bA
  ·intro h21 a H
   try have oK:=dT h21
   refine kP H (SR fun _ bK=>Ra rfl (ak bK rfl ?_));clear H bK;intro a H;refine cu ?_;refine (eT H results18 (.cons (aU H rfl) (.cons (aU H rfl) .nil)) ?_).1;exact H.rt ⟨by simp [vJ,wS,aaF hk2 oK],rfl⟩
  intro h21 a H
  try have oK:=dF h21
  refine kP H (Kc aS (SC (Rm rfl (Rm rfl (Rd rfl ?_)))));clear H aS;intro a H;rw [← Int.natCast_add,← hsm] at H;refine kH H (aV K7 rfl (SC (Rd rfl (Rm rfl ?_))));clear H K7;intro a H;refine aH ?_;refine dw ((k+1)) (by exact (H.dU (Pl:=[_]) (cK:=[]) [] (by decide) rfl).sub ⟨rfl,rfl,rfl,rfl,aB⟩) ?_ ?_
  ·exact ⟨by omega,by rw [aaG hk2,hd];simpa using oK⟩
  first|omega|(dsimp only;omega)
 intro h12 a H
 try have oJ:=dF h12
 refine dW ?_;refine K3 _ _ ?_;clear K3;refine kP H (SR fun _ bR=>Rm rfl (Ra rfl (ak bR rfl ?_)));clear H bR;intro a H;refine cu ?_;refine (eT H results18 (.cons (aU H rfl) (.cons (aU H rfl) .nil)) ?_).1;exact H.rt ⟨by rw [show l.take k=l from jA (by omega)] at hd ⊢;simp [vJ,wS,hd],rfl⟩
theorem aaj (G:GH) (w0:World) (hG:Hold G w0) (rows:List (List Dat)) (A:Option Addr) (n c:Nat) (hv:av G (.sl 2 rows) (.slice A n c)) (hz:rows.length≤4294967296) :
  Calls prog 98 #[.slice A n c] w0 (bC w0 G fun v G'=>av G' (.sl 2 rows) v):=by
 obtain ⟨hn,hc1,hc2,hnil,hx⟩:=hv.cells;refine eN [(0,_)] func98 rfl ntmps98 rfl rfl hG ?_;intro a H;refine kP H (SR fun _ K1=>ak K1 rfl (SQ fun _ K2=>SR fun _ K3=>Rm rfl ?_));clear H K1;intro a H;refine Pm nY H wn rfl rfl ?_;clear H;intro a H;refine K3 _ _ ?_;clear K3;refine kV H rfl ?_ ?_
 ·intro h4
  exact kP H (SR fun _ K4=>ak K4 rfl (LR results98 rfl fun H=>H.rt (by rw [hnil (by simpa using h4)];exact av.jf rfl (by simp [maxLen]))))
 intro h4
 try have p4:=dF h4
 refine fO ?_;refine K2 _ _ ?_;clear K2;refine bq (fun _ K5=>?_)
 have hA:¬ A=none:=by intro e;rw [e] at h4;cases h4
 refine oz ?_;refine Pk nY mQ H wn rfl ?_;clear H;intro b5 a w hb5 H;refine kH H (Rm rfl ?_);clear H;intro a H
 by_cases hr0:rows=[]
 ·have hn0:n=0:=by rw [hn,hr0];rfl
  subst hn0;refine J4 nY mQ H wn rfl rfl (bU _) rfl ?_;clear H;intro a H;exact kH H (aV K5 rfl (LR results98 rfl fun H=>H.rt (by rw [hr0];exact av.jf rfl (by simp [maxLen]))))
 obtain ⟨b,o,xs,rfl,hxl,hxc,hx1,ji⟩:=hx hr0;refine oL (Li:=[]) (Lo:=[_]) (news:=xs) nY mQ rfl rfl H wn rfl rfl dD.empty hxl (fun j u hj=>H.hp.aJ (hxc j u hj)) hx1 (by omega) (by omega) rfl ?_;clear H;intro v7 Lo a w hrow H;obtain ⟨G',hm,hrep,H⟩:=H.sV hrow (rows:=rows) (by omega) (by simpa using ji)
 try clear hG
 obtain ⟨G2,hG2⟩:∃ g,g=G':=⟨_,rfl⟩;subst hG2;exact kH H (aV K5 rfl (LR results98 rfl fun H=>H.rt hrep))
theorem aah (G:GH) (w0:World) (hG:Hold G w0) (rows:List (List Dat)) (A:Option Addr) (n c:Nat) (hv:av G (.sl 2 rows) (.slice A n c)) (hz:rows.length≤4294967296) :
  Calls prog 99 #[.slice A n c] w0 (bC w0 G fun v G'=>av G' (.sl 2 rows) v):=by
 obtain ⟨hn,hc1,hc2,hnil,hx⟩:=hv.cells;refine eN [(0,_)] func99 rfl ntmps99 rfl rfl hG ?_;intro a H;refine kP H (SR fun _ K1=>ak K1 rfl (SQ fun _ K2=>SR fun _ K3=>Rm rfl ?_));clear H K1;intro a H;refine Pm pR H wn rfl rfl ?_;clear H;intro a H;refine K3 _ _ ?_;clear K3;refine kV H rfl ?_ ?_
 ·intro h4
  exact kP H (SR fun _ K4=>ak K4 rfl (LR results99 rfl fun H=>H.rt (by rw [hnil (by simpa using h4)];exact av.jf rfl (by simp [maxLen]))))
 intro h4
 try have p4:=dF h4
 refine fO ?_;refine K2 _ _ ?_;clear K2;refine bq (fun _ K5=>?_)
 have hA:¬ A=none:=by intro e;rw [e] at h4;cases h4
 refine oz ?_;refine Pk pR uN H wn rfl ?_;clear H;intro b5 a w hb5 H;refine kH H (Rm rfl ?_);clear H;intro a H
 by_cases hr0:rows=[]
 ·have hn0:n=0:=by rw [hn,hr0];rfl
  subst hn0;refine J4 pR uN H wn rfl rfl (bU _) rfl ?_;clear H;intro a H;exact kH H (aV K5 rfl (LR results99 rfl fun H=>H.rt (by rw [hr0];exact av.jf rfl (by simp [maxLen]))))
 obtain ⟨b,o,xs,rfl,hxl,hxc,hx1,ji⟩:=hx hr0;refine oL (Li:=[]) (Lo:=[_]) (news:=xs) pR uN rfl rfl H wn rfl rfl dD.empty hxl (fun j u hj=>H.hp.aJ (hxc j u hj)) hx1 (by omega) (by omega) rfl ?_;clear H;intro v7 Lo a w hrow H;obtain ⟨G',hm,hrep,H⟩:=H.sV hrow (rows:=rows) (by omega) (by simpa using ji)
 try clear hG
 obtain ⟨G2,hG2⟩:∃ g,g=G':=⟨_,rfl⟩;subst hG2;exact kH H (aV K5 rfl (LR results99 rfl fun H=>H.rt hrep))
theorem aai (G:GH) (w0:World) (hG:Hold G w0) (rows:List (List Dat)) (A:Option Addr) (n c:Nat) (hv:av G (.sl 4 rows) (.slice A n c)) (hz:rows.length≤4294967296) :
  Calls prog 100 #[.slice A n c] w0 (bC w0 G fun v G'=>av G' (.sl 4 rows) v):=by
 obtain ⟨hn,hc1,hc2,hnil,hx⟩:=hv.cells;refine eN [(0,_)] func100 rfl ntmps100 rfl rfl hG ?_;intro a H;refine kP H (SR fun _ K1=>ak K1 rfl (SQ fun _ K2=>SR fun _ K3=>Rm rfl ?_));clear H K1;intro a H;refine Pm tN H wn rfl rfl ?_;clear H;intro a H;refine K3 _ _ ?_;clear K3;refine kV H rfl ?_ ?_
 ·intro h4
  exact kP H (SR fun _ K4=>ak K4 rfl (LR results100 rfl fun H=>H.rt (by rw [hnil (by simpa using h4)];exact av.jf rfl (by simp [maxLen]))))
 intro h4
 try have p4:=dF h4
 refine fO ?_;refine K2 _ _ ?_;clear K2;refine bq (fun _ K5=>?_)
 have hA:¬ A=none:=by intro e;rw [e] at h4;cases h4
 refine oz ?_;refine Pk tN uO H wn rfl ?_;clear H;intro b5 a w hb5 H;refine kH H (Rm rfl ?_);clear H;intro a H
 by_cases hr0:rows=[]
 ·have hn0:n=0:=by rw [hn,hr0];rfl
  subst hn0;refine J4 tN uO H wn rfl rfl (bU _) rfl ?_;clear H;intro a H;exact kH H (aV K5 rfl (LR results100 rfl fun H=>H.rt (by rw [hr0];exact av.jf rfl (by simp [maxLen]))))
 obtain ⟨b,o,xs,rfl,hxl,hxc,hx1,ji⟩:=hx hr0;refine oL (Li:=[]) (Lo:=[_]) (news:=xs) tN uO rfl rfl H wn rfl rfl dD.empty hxl (fun j u hj=>H.hp.aJ (hxc j u hj)) hx1 (by omega) (by omega) rfl ?_;clear H;intro v7 Lo a w hrow H;obtain ⟨G',hm,hrep,H⟩:=H.sV hrow (rows:=rows) (by omega) (by simpa using ji)
 try clear hG
 obtain ⟨G2,hG2⟩:∃ g,g=G':=⟨_,rfl⟩;subst hG2;exact kH H (aV K5 rfl (LR results100 rfl fun H=>H.rt hrep))
theorem IL (G:GH) (w0:World) (hG:Hold G w0) (h:ig) (pA dA yA:Option Addr) (pn pc dn dc yn yc:Nat) (hv:jl G h (.slice pA pn pc) (.slice dA dn dc) (.slice yA yn yc)) (hz:oO h≤4294967296) :
  Calls prog 65 #[.agg #[.slice pA pn pc,vi h.marks.ins,vi h.marks.move,.slice dA dn dc,.slice yA yn yc]] w0 (bC w0 G fun v G'=>∃ p d l,v=.agg #[p,vi h.marks.ins,vi h.marks.move,d,l]∧jl G' h p d l):=by
 have he:=HV h;have h1:=qW (h.props.map iq.dat);have h2:=qW (h.marks.bZ.map jg.dat);have h3:=qW (h.marks.layers.map iO.dat);refine eN [(0,_)] func65 rfl ntmps65 rfl rfl hG ?_;intro a H;refine cO (fun _ K1=>?_);refine fC (cs:=[_,_,_,_,_]) H wn rfl rfl rfl ?_;clear H;intro b1 a w hb1 H;refine eU pQ H wn rfl ?_;clear H;intro b2 a w hb2 H;refine K1 _ _ ?_;clear K1;refine kP H (SR fun _ K2=>aR Cq Ah 1 rfl rfl ?_);clear H;intro a H;refine s_call acE H wn rfl (aaj _ _ H.ro _ _ _ _ hv.props (by omega)) rfl ?_;clear H;rintro v5 G5 a w vH NP H;obtain ⟨A5,n5,c5,rfl⟩:=vH.form;refine kH H (Rf Cq rfl ?_);clear H;intro a H;refine bF Ah 1 (vs:=[_]) _ H wn rfl rfl rfl rfl rfl rfl rfl rfl ?_;clear H;intro w H;dsimp only [List.set,setRow] at H;refine K2 _ _ ?_;clear K2;refine bq (fun _ K3=>?_);obtain ⟨hvp,hvd,hvy⟩:=hv.mono NP;clear hv
 have nI:∀ (bS:Nat) (v:aj) (G G':GH),(∀ k o,G k=some o→G' k=some o)→(fun (bS:Nat) (v:aj) (G:GH)=>match bS with|0=>v=(aI b1 1)|1=>v=(aI b1 3)|2=>v=.slice dA dn dc|3=>av G (.sl 2 (h.marks.bZ.map jg.dat)) v|4=>v=(aI b1 1)|5=>v=(aI b1 4)|6=>v=.slice yA yn yc|7=>av G (.sl 4 (h.marks.layers.map iO.dat)) v|8=>v=(aI b1 1)|9=>v=(aI b1 3)|_=>True) bS v G→(fun (bS:Nat) (v:aj) (G:GH)=>match bS with|0=>v=(aI b1 1)|1=>v=(aI b1 3)|2=>v=.slice dA dn dc|3=>av G (.sl 2 (h.marks.bZ.map jg.dat)) v|4=>v=(aI b1 1)|5=>v=(aI b1 4)|6=>v=.slice yA yn yc|7=>av G (.sl 4 (h.marks.layers.map iO.dat)) v|8=>v=(aI b1 1)|9=>v=(aI b1 3)|_=>True) bS v G':=by
  intro bS v G G' hm h
  match bS,h with
  | 0,h=>exact h
  | 1,h=>exact h
  | 2,h=>exact h
  | 3,h=>exact av.mono hm h
  | 4,h=>exact h
  | 5,h=>exact h
  | 6,h=>exact h
  | 7,h=>exact av.mono hm h
  | 8,h=>exact h
  | 9,h=>exact h
  | 10,h=>exact trivial
  | 11,h=>exact trivial
  | 12,h=>exact trivial
  | 13,h=>exact trivial
  | _+14,h=>exact trivial
 refine AA (hmx) [[],[0],[0,1],[0,1,2],[],[4],[4,5],(ra 0 7),(ra 0 7),(ra 0 7++[8]),(ra 0 10),(ra 0 11),(ra 0 12),(ra 0 13)] (ra 10 4) (by kernel_rfl) (by kernel_rfl) (fun (bS:Nat) (v:aj) (G:GH)=>match bS with|0=>v=(aI b1 1)|1=>v=(aI b1 3)|2=>v=.slice dA dn dc|3=>av G (.sl 2 (h.marks.bZ.map jg.dat)) v|4=>v=(aI b1 1)|5=>v=(aI b1 4)|6=>v=.slice yA yn yc|7=>av G (.sl 4 (h.marks.layers.map iO.dat)) v|8=>v=(aI b1 1)|9=>v=(aI b1 3)|_=>True) nI H ?_ ?_
 ·clear H;refine aD ?_ ?_ ?_ ?_ (aD ?_ ?_ ?_ ?_ (aD ?_ ?_ (bL rfl) (bL rfl) (aW (bL rfl) (aW (bL rfl) bY))))
  ·refine dM [] rfl trivial (by kernel_rfl) nI rfl rfl ?_;intro bQ a w G1 hG HT H fin;exact kH H (Rf sQ rfl fun _ H=>fin H iJ rfl)
  ·refine dM [(0,7,_)] rfl ⟨fun _ _ h=>h,aB⟩ (by kernel_rfl) nI rfl rfl ?_;intro bQ a w G1 hG HT H fin;exact kH H (Rf vv rfl fun _ H=>fin H iJ rfl)
  ·refine dM [(1,8,_)] rfl ⟨fun _ _ h=>h,aB⟩ (by kernel_rfl) nI rfl rfl ?_;intro bQ a w G1 hG HT H fin;exact kH H (Ro vO 1 rfl fun _ H=>fin H iJ rfl)
  ·refine dM [(2,9,_)] rfl ⟨fun _ _ h=>h,aB⟩ (by kernel_rfl) nI rfl rfl ?_;intro bQ a w G1 hG HT H fin;refine s_call acF H wn rfl (aah _ _ H.ro _ _ _ _ (hvd.mono hG) (by omega)) rfl ?_;clear H;rintro v10 uR a w wK mK H;exact fin H mK (wK)
  ·refine dM [] rfl trivial (by kernel_rfl) nI rfl rfl ?_;intro bQ a w G1 hG HT H fin;exact kH H (Rf sQ rfl fun _ H=>fin H iJ rfl)
  ·refine dM [(4,11,_)] rfl ⟨fun _ _ h=>h,aB⟩ (by kernel_rfl) nI rfl rfl ?_;intro bQ a w G1 hG HT H fin;exact kH H (Rf Co rfl fun _ H=>fin H iJ rfl)
  ·refine dM [(5,12,_)] rfl ⟨fun _ _ h=>h,aB⟩ (by kernel_rfl) nI rfl rfl ?_;intro bQ a w G1 hG HT H fin;exact kH H (Ro Dx 1 rfl fun _ H=>fin H iJ rfl)
  ·refine dM [(6,13,_)] rfl ⟨fun _ _ h=>h,aB⟩ (by kernel_rfl) nI rfl rfl ?_;intro bQ a w G1 hG HT H fin;refine s_call aaM H wn rfl (aai _ _ H.ro _ _ _ _ (hvy.mono hG) (by omega)) rfl ?_;clear H;rintro v14 E8 a w Gy FZ H;exact fin H FZ (Gy)
  ·refine dM [] rfl trivial (by kernel_rfl) nI rfl rfl ?_;intro bQ a w G1 hG HT H fin;exact kH H (Rf sQ rfl fun _ H=>fin H iJ rfl)
  refine dM [(8,15,_)] rfl ⟨fun _ _ h=>h,aB⟩ (by kernel_rfl) nI rfl rfl ?_;intro bQ a w G1 hG HT H fin;exact kH H (Rf vv rfl fun _ H=>fin H iJ rfl)
 clear H;intro a w G zH H hv;obtain ⟨u10,Ob,wK⟩:=hv 3 10 (by decide) rfl;(try dsimp only at wK);obtain ⟨XY,n10,c10,rfl⟩:=wK.form;have H:=H.jS Ob;obtain ⟨u14,afs,Gy⟩:=hv 7 14 (by decide) rfl;(try dsimp only at Gy);obtain ⟨Qb,n14,c14,rfl⟩:=Gy.form;have H:=H.jS afs;have H:=H.aQ (hv 9 16 rfl rfl) rfl;clear hv;refine bF vO 1 (vs:=[_]) _ H wn rfl rfl rfl rfl rfl rfl rfl rfl ?_;clear H;intro w H;dsimp only [List.set,setRow] at H;refine kH H (Rf sQ rfl (Rf Co rfl ?_));clear H;intro a H;refine bF Dx 1 (vs:=[_]) _ H wn rfl rfl rfl rfl rfl rfl rfl rfl ?_;clear H;intro w H;dsimp only [List.set,setRow] at H;refine aH ⟨rfl,?_⟩;refine K3 _ _ ?_;clear K3;refine cO (fun _ K4=>?_);refine bD pQ (cs:=[_,_,_,_,_]) H wn rfl rfl (H.hp.dY 1 rfl rfl) rfl ?_;clear H;intro a H;refine bF pQ 0 (vs:=[_,_,_,_,_]) _ H wn rfl rfl rfl rfl rfl rfl rfl rfl ?_;clear H;intro w H;dsimp only [List.set,setRow] at H;refine K4 _ _ ?_;clear K4;refine cu ?_;refine (leave1 H results65 (.cons (Ab pQ (cs:=[_,_,_,_,_]) H rfl rfl (H.hp.dY 0 rfl rfl)) .nil) ?_).1;exact H.rt ⟨_,_,_,rfl,vH.mono zH,wK,Gy⟩
def DI (fv:aj) (w0:World) (G:GH) (d:List Dat):Prop:=∀ (G1:GH) (w1:World) (cs:List aj),(∀ b o,G b=some o→G1 b=some o)→Hold G1 w1→aY G1 d cs →
 sD prog fv [.agg cs.toArray] w1 (bC w1 G1 fun u G'=>∃ cs',u=.agg cs'.toArray∧aY G' d cs')
theorem aaK (G:GH) (w0:World) (hG:Hold G w0) (l:List ay) (v fv:aj) (hv:av G (.sl 11 (l.map ay.dat)) v) (hz:l.length≤4294967296) (hf:∀ x∈l,DI fv w0 G x.dat) :
  Calls prog 63 #[v,fv] w0 (bC w0 G fun u G'=>av G' (.sl 11 (l.map ay.dat)) u):=by
 obtain ⟨A,c,rfl,hc1,hc2,hg⟩:=hv.slice
 have hml:4294967297≤maxLen:=by decide
 rw [bT] at *;refine eN [(0,_),(1,_)] func63 rfl ntmps63 rfl rfl hG ?_;intro a H;refine kP H (SR fun _ K1=>ak K1 rfl (SR fun _ K2=>ak K2 rfl (SQ fun _ K3=>SR fun _ K4=>Rm rfl (Rl gI rfl (Rm rfl (Kz K4 (SB ?_)))))));clear H K1 K2 K4;intro a H;skip;refine eZ (ι:=Nat × aj × List aj × OL × GH) (Tc:=[(1,_),(8,_),(9,_)]) (Lc:=[]) (fun gh=>[(5,gh.2.1),(10,vi gh.1)]) (fun gh=>[]++gh.2.2.2.1) (fun gh=>gh.2.2.2.2) (fun gh=>gh.1≤l.length∧dD 63 11 gh.2.1 gh.1 gh.2.2.1 gh.2.2.2.1∧fH gh.2.2.2.2 11 ((l.map ay.dat).take gh.1) gh.2.2.1∧(∀ b o,G b=some o→gh.2.2.2.2 b=some o)) (fun gh=>l.length - gh.1) ((0,.slice none 0 0,[],[],G)) (by exact (H).sub ⟨rfl,rfl,rfl,rfl,rfl,aB⟩) ?_ ?_
 ·exact ⟨by omega,dD.nil,by simpa using fH.nil,fun _ _ h=>h⟩
 clear H;intro gh a w hI H;obtain ⟨k,v,xs,Lo,g⟩:=gh;dsimp only at hI H;obtain ⟨hk,hrw,ji,hgm⟩:=hI;dsimp only [lca,aZ] at H;refine kP H (SR fun _ K5=>Rc rfl (Kz K5 (SQ fun _ K6=>Cd rfl ?_ ?_))) <;> clear H K5
 ·intro h11 a H
  try have mZ:=dT h11
  have hk2:k < l.length:=by omega
  obtain ⟨b,o,cs,rfl,hcl,hrow,hrep⟩:=hg k l[k].dat (by simp [hk2]);obtain ⟨pA,pn,pc,dA,dn,dc,yA,yn,yc,fA,fn,fc,rA,rn,rc,rfl,-⟩:=hrep.item;replace hrow:=fun j u hj=>aK hgm (hrow j u hj);refine kP H (Kc K6 (SQ fun _ K7=>SB (SR fun _ K8=>Ri gI dB rfl rfl ?_)));clear H K6;intro a H;refine bD dB (cs:=[_,_,_,_,_,_,_,_,_,_,_]) H wn rfl rfl (fun j v hj=>H.hp.aJ (hrow j v hj)) rfl ?_;clear H;intro a H;refine eU dB H wn rfl ?_;clear H;intro b7 a w CO H;refine bF dB 0 (vs:=[_,_,_,_,_,_,_,_,_,_,_]) _ H wn rfl rfl rfl rfl rfl rfl rfl rfl ?_;clear H;intro w H;dsimp only [List.set,setRow] at H;refine K8 _ _ ?_;clear K8;refine kP H (SC (Rm rfl (Rm rfl ?_)));clear H;intro a H;refine bD dB (cs:=[_,_,_,_,_,_,_,_,_,_,_]) H wn rfl rfl (H.hp.dY 0 rfl rfl) rfl ?_;clear H;intro a H;refine oM H wn rfl rfl (hf _ (iQ hk2) _ _ _ hgm H.ro (hrep.mono hgm)) rfl ?_;clear H;rintro v17 yM a w ⟨vY,rfl,dS⟩ qo H;obtain ⟨cs,hcs⟩:∃ cs,cs=vY:=⟨_,rfl⟩;obtain ⟨pA,pn,pc,dA,dn,dc,yA,yn,yc,fA,fn,fc,rA,rn,rc,sZ,-⟩:=dS.item;rw [sZ] at H;refine gQ gI dB [_,_,_,_,_,_,_,_,_,_,_] [_,_,_,_,_,_,_,_,_,_,_] H wn rfl rfl rfl rfl rfl (by intro i q h;match i,h with|0,h=>exact h|n+1,h=>simp at h) rfl rfl ?_;clear H;intro b18 a w Jg H;refine oL (Li:=[_,_]) (Lo:=Lo) (news:=vY) gI dB rfl rfl H wn rfl rfl hrw (by rw [sZ];rfl) (by rw [sZ];exact H.hp.dY 0 rfl rfl) dS.one (by omega) (by omega) rfl ?_;clear H;intro v19 BZ a w vI H;refine kH H (aV K7 rfl (SC (Rd rfl (Rm rfl ?_))));clear H K7;intro a H;refine aH ?_;refine dw ((k+1,v19,xs++vY,BZ,yM)) (by exact (H.dU (Pl:=[_,_]) (cK:=[]) [] (by decide) rfl).sub ⟨rfl,rfl,rfl,rfl,rfl,aB⟩) ?_ ?_
  ·(try dsimp only);refine ⟨by omega,vI,?_,fun b o h=>qo b o (hgm b o h)⟩;rw [jE (by simpa using hk2)];exact (ji.mono qo).snoc (by simpa using dS) (by rw [sZ];rfl)
  first|omega|(dsimp only;omega)
 intro h11 a H
 try have mZ:=dF h11
 refine dW ?_;refine K3 _ _ ?_;clear K3;refine bq (fun _ K9=>?_);obtain ⟨G',hm,hrep,H⟩:=H.sV (Li:=[]) hrw (rows:=l.map ay.dat) (by simp;omega) (by rw [jA (by simp;omega)] at ji;exact ji);exact kP H (SC (Rm rfl (aV K9 rfl (LR results63 rfl fun H=>H.rt hrep))))
theorem Sd (G:GH) (w0:World) (hG:Hold G w0) (l:List bO) (v fv:aj) (hv:av G (.sl 6 (l.map bO.dat)) v) (hz:l.length≤4294967296) (hf:∀ x∈l,DI fv w0 G x.dat) :
  Calls prog 66 #[v,fv] w0 (bC w0 G fun u G'=>av G' (.sl 6 (l.map bO.dat)) u):=by
 obtain ⟨A,c,rfl,hc1,hc2,hg⟩:=hv.slice
 have hml:4294967297≤maxLen:=by decide
 rw [bT] at *;refine eN [(0,_),(1,_)] func66 rfl ntmps66 rfl rfl hG ?_;intro a H;refine kP H (SR fun _ K1=>ak K1 rfl (SR fun _ K2=>ak K2 rfl (SQ fun _ K3=>SR fun _ K4=>Rm rfl (Rl mG rfl (Rm rfl (Kz K4 (SB ?_)))))));clear H K1 K2 K4;intro a H;skip;refine eZ (ι:=Nat × aj × List aj × OL × GH) (Tc:=[(1,_),(8,_),(9,_)]) (Lc:=[]) (fun gh=>[(5,gh.2.1),(10,vi gh.1)]) (fun gh=>[]++gh.2.2.2.1) (fun gh=>gh.2.2.2.2) (fun gh=>gh.1≤l.length∧dD 96 6 gh.2.1 gh.1 gh.2.2.1 gh.2.2.2.1∧fH gh.2.2.2.2 6 ((l.map bO.dat).take gh.1) gh.2.2.1∧(∀ b o,G b=some o→gh.2.2.2.2 b=some o)) (fun gh=>l.length - gh.1) ((0,.slice none 0 0,[],[],G)) (by exact (H).sub ⟨rfl,rfl,rfl,rfl,rfl,aB⟩) ?_ ?_
 ·exact ⟨by omega,dD.nil,by simpa using fH.nil,fun _ _ h=>h⟩
 clear H;intro gh a w hI H;obtain ⟨k,v,xs,Lo,g⟩:=gh;dsimp only at hI H;obtain ⟨hk,hrw,ji,hgm⟩:=hI;dsimp only [lca,aZ] at H;refine kP H (SR fun _ K5=>Rc rfl (Kz K5 (SQ fun _ K6=>Cd rfl ?_ ?_))) <;> clear H K5
 ·intro h11 a H
  try have mZ:=dT h11
  have hk2:k < l.length:=by omega
  obtain ⟨b,o,cs,rfl,hcl,hrow,hrep⟩:=hg k l[k].dat (by simp [hk2]);obtain ⟨pA,pn,pc,dA,dn,dc,yA,yn,yc,fA,fn,fc,rfl,-⟩:=hrep.row;replace hrow:=fun j u hj=>aK hgm (hrow j u hj);refine kP H (Kc K6 (SQ fun _ K7=>SB (SR fun _ K8=>Ri mG jQ rfl rfl ?_)));clear H K6;intro a H;refine bD jQ (cs:=[_,_,_,_,_,_]) H wn rfl rfl (fun j v hj=>H.hp.aJ (hrow j v hj)) rfl ?_;clear H;intro a H;refine eU jQ H wn rfl ?_;clear H;intro b7 a w CO H;refine bF jQ 0 (vs:=[_,_,_,_,_,_]) _ H wn rfl rfl rfl rfl rfl rfl rfl rfl ?_;clear H;intro w H;dsimp only [List.set,setRow] at H;refine K8 _ _ ?_;clear K8;refine kP H (SC (Rm rfl (Rm rfl ?_)));clear H;intro a H;refine bD jQ (cs:=[_,_,_,_,_,_]) H wn rfl rfl (H.hp.dY 0 rfl rfl) rfl ?_;clear H;intro a H;refine oM H wn rfl rfl (hf _ (iQ hk2) _ _ _ hgm H.ro (hrep.mono hgm)) rfl ?_;clear H;rintro v17 yM a w ⟨vY,rfl,dS⟩ qo H;obtain ⟨cs,hcs⟩:∃ cs,cs=vY:=⟨_,rfl⟩;obtain ⟨pA,pn,pc,dA,dn,dc,yA,yn,yc,fA,fn,fc,sZ,-⟩:=dS.row;rw [sZ] at H;refine gQ mG jQ [_,_,_,_,_,_] [_,_,_,_,_,_] H wn rfl rfl rfl rfl rfl (by intro i q h;match i,h with|0,h=>exact h|n+1,h=>simp at h) rfl rfl ?_;clear H;intro b18 a w Jg H;refine oL (Li:=[_,_]) (Lo:=Lo) (news:=vY) mG jQ rfl rfl H wn rfl rfl hrw (by rw [sZ];rfl) (by rw [sZ];exact H.hp.dY 0 rfl rfl) dS.one (by omega) (by omega) rfl ?_;clear H;intro v19 BZ a w vI H;refine kH H (aV K7 rfl (SC (Rd rfl (Rm rfl ?_))));clear H K7;intro a H;refine aH ?_;refine dw ((k+1,v19,xs++vY,BZ,yM)) (by exact (H.dU (Pl:=[_,_]) (cK:=[]) [] (by decide) rfl).sub ⟨rfl,rfl,rfl,rfl,rfl,aB⟩) ?_ ?_
  ·(try dsimp only);refine ⟨by omega,vI,?_,fun b o h=>qo b o (hgm b o h)⟩;rw [jE (by simpa using hk2)];exact (ji.mono qo).snoc (by simpa using dS) (by rw [sZ];rfl)
  first|omega|(dsimp only;omega)
 intro h11 a H
 try have mZ:=dF h11
 refine dW ?_;refine K3 _ _ ?_;clear K3;refine bq (fun _ K9=>?_);obtain ⟨G',hm,hrep,H⟩:=H.sV (Li:=[]) hrw (rows:=l.map bO.dat) (by simp;omega) (by rw [jA (by simp;omega)] at ji;exact ji);exact kP H (SC (Rm rfl (aV K9 rfl (LR results66 rfl fun H=>H.rt hrep))))
theorem aaJ (G:GH) (w0:World) (hG:Hold G w0) (l:List bN) (v fv:aj) (hv:av G (.sl 7 (l.map bN.dat)) v) (hz:l.length≤4294967296) (hf:∀ x∈l,DI fv w0 G x.dat) :
  Calls prog 101 #[v,fv] w0 (bC w0 G fun u G'=>av G' (.sl 7 (l.map bN.dat)) u):=by
 obtain ⟨A,c,rfl,hc1,hc2,hg⟩:=hv.slice
 have hml:4294967297≤maxLen:=by decide
 rw [bT] at *;refine eN [(0,_),(1,_)] func101 rfl ntmps101 rfl rfl hG ?_;intro a H;refine kP H (SR fun _ K1=>ak K1 rfl (SR fun _ K2=>ak K2 rfl (SQ fun _ K3=>SR fun _ K4=>Rm rfl (Rl pU rfl (Rm rfl (Kz K4 (SB ?_)))))));clear H K1 K2 K4;intro a H;skip;refine eZ (ι:=Nat × aj × List aj × OL × GH) (Tc:=[(1,_),(8,_),(9,_)]) (Lc:=[]) (fun gh=>[(5,gh.2.1),(10,vi gh.1)]) (fun gh=>[]++gh.2.2.2.1) (fun gh=>gh.2.2.2.2) (fun gh=>gh.1≤l.length∧dD 98 7 gh.2.1 gh.1 gh.2.2.1 gh.2.2.2.1∧fH gh.2.2.2.2 7 ((l.map bN.dat).take gh.1) gh.2.2.1∧(∀ b o,G b=some o→gh.2.2.2.2 b=some o)) (fun gh=>l.length - gh.1) ((0,.slice none 0 0,[],[],G)) (by exact (H).sub ⟨rfl,rfl,rfl,rfl,rfl,aB⟩) ?_ ?_
 ·exact ⟨by omega,dD.nil,by simpa using fH.nil,fun _ _ h=>h⟩
 clear H;intro gh a w hI H;obtain ⟨k,v,xs,Lo,g⟩:=gh;dsimp only at hI H;obtain ⟨hk,hrw,ji,hgm⟩:=hI;dsimp only [lca,aZ] at H;refine kP H (SR fun _ K5=>Rc rfl (Kz K5 (SQ fun _ K6=>Cd rfl ?_ ?_))) <;> clear H K5
 ·intro h11 a H
  try have mZ:=dT h11
  have hk2:k < l.length:=by omega
  obtain ⟨b,o,cs,rfl,hcl,hrow,hrep⟩:=hg k l[k].dat (by simp [hk2]);obtain ⟨pA,pn,pc,dA,dn,dc,yA,yn,yc,fA,fn,fc,rfl,-⟩:=hrep.cell;replace hrow:=fun j u hj=>aK hgm (hrow j u hj);refine kP H (Kc K6 (SQ fun _ K7=>SB (SR fun _ K8=>Ri pU lT rfl rfl ?_)));clear H K6;intro a H;refine bD lT (cs:=[_,_,_,_,_,_,_]) H wn rfl rfl (fun j v hj=>H.hp.aJ (hrow j v hj)) rfl ?_;clear H;intro a H;refine eU lT H wn rfl ?_;clear H;intro b7 a w CO H;refine bF lT 0 (vs:=[_,_,_,_,_,_,_]) _ H wn rfl rfl rfl rfl rfl rfl rfl rfl ?_;clear H;intro w H;dsimp only [List.set,setRow] at H;refine K8 _ _ ?_;clear K8;refine kP H (SC (Rm rfl (Rm rfl ?_)));clear H;intro a H;refine bD lT (cs:=[_,_,_,_,_,_,_]) H wn rfl rfl (H.hp.dY 0 rfl rfl) rfl ?_;clear H;intro a H;refine oM H wn rfl rfl (hf _ (iQ hk2) _ _ _ hgm H.ro (hrep.mono hgm)) rfl ?_;clear H;rintro v17 yM a w ⟨vY,rfl,dS⟩ qo H;obtain ⟨cs,hcs⟩:∃ cs,cs=vY:=⟨_,rfl⟩;obtain ⟨pA,pn,pc,dA,dn,dc,yA,yn,yc,fA,fn,fc,sZ,-⟩:=dS.cell;rw [sZ] at H;refine gQ pU lT [_,_,_,_,_,_,_] [_,_,_,_,_,_,_] H wn rfl rfl rfl rfl rfl (by intro i q h;match i,h with|0,h=>exact h|n+1,h=>simp at h) rfl rfl ?_;clear H;intro b18 a w Jg H;refine oL (Li:=[_,_]) (Lo:=Lo) (news:=vY) pU lT rfl rfl H wn rfl rfl hrw (by rw [sZ];rfl) (by rw [sZ];exact H.hp.dY 0 rfl rfl) dS.one (by omega) (by omega) rfl ?_;clear H;intro v19 BZ a w vI H;refine kH H (aV K7 rfl (SC (Rd rfl (Rm rfl ?_))));clear H K7;intro a H;refine aH ?_;refine dw ((k+1,v19,xs++vY,BZ,yM)) (by exact (H.dU (Pl:=[_,_]) (cK:=[]) [] (by decide) rfl).sub ⟨rfl,rfl,rfl,rfl,rfl,aB⟩) ?_ ?_
  ·(try dsimp only);refine ⟨by omega,vI,?_,fun b o h=>qo b o (hgm b o h)⟩;rw [jE (by simpa using hk2)];exact (ji.mono qo).snoc (by simpa using dS) (by rw [sZ];rfl)
  first|omega|(dsimp only;omega)
 intro h11 a H
 try have mZ:=dF h11
 refine dW ?_;refine K3 _ _ ?_;clear K3;refine bq (fun _ K9=>?_);obtain ⟨G',hm,hrep,H⟩:=H.sV (Li:=[]) hrw (rows:=l.map bN.dat) (by simp;omega) (by rw [jA (by simp;omega)] at ji;exact ji);exact kP H (SC (Rm rfl (aV K9 rfl (LR results101 rfl fun H=>H.rt hrep))))
def BN (n:Nat):Prop:=∀ (G:GH) (w0:World),Hold G w0→∀ (l:List ay) (v:aj),av G (.sl 11 (l.map ay.dat)) v→bg l < n →
 Calls prog 40 #[v] w0 (bC w0 G fun u G'=>av G' (.sl 11 (l.map ay.dat)) u)
theorem aag {n:Nat} (ih:BN n) (hn:n≤4294967296) (G:GH) (w0:World) (hG:Hold G w0) (x:bN) (cs:List aj) (hv:aY G x.dat cs) (hz:cB x.dat < n+1) :
  Calls prog 102 #[.agg cs.toArray] w0 (bC w0 G fun u G'=>∃ cs',u=.agg cs'.toArray∧aY G' x.dat cs'):=by
 have he:=Aq x;obtain ⟨pA,pn,pc,dA,dn,dc,yA,yn,yc,fA,fn,fc,rfl,hh,hf⟩:=hv.cell;refine eN [(0,_)] func102 rfl ntmps102 rfl rfl hG ?_;intro a H;refine cO (fun _ K1=>?_);refine fC (cs:=[_,_,_,_,_,_,_]) H wn rfl rfl rfl ?_;clear H;intro b1 a w hb1 H;refine eU lT H wn rfl ?_;clear H;intro b2 a w hb2 H;refine K1 _ _ ?_;clear K1;refine bq (fun _ K2=>?_)
 have iI:∀ (bS:Nat) (v:aj) (G G':GH),(∀ k o,G k=some o→G' k=some o)→(fun (bS:Nat) (v:aj) (G:GH)=>match bS with|0=>v=(aI b1 0)|1=>v=vi x.id|2=>v=(aI b1 1)|3=>v=.agg #[.slice pA pn pc,vi x.head.marks.ins,vi x.head.marks.move,.slice dA dn dc,.slice yA yn yc]|4=>∃ p d l,v=.agg #[p,vi x.head.marks.ins,vi x.head.marks.move,d,l]∧jl G x.head p d l|5=>v=(aI b1 6)|6=>v=.slice fA fn fc|7=>av G (.sl 11 (x.flow.map ay.dat)) v|_=>True) bS v G→(fun (bS:Nat) (v:aj) (G:GH)=>match bS with|0=>v=(aI b1 0)|1=>v=vi x.id|2=>v=(aI b1 1)|3=>v=.agg #[.slice pA pn pc,vi x.head.marks.ins,vi x.head.marks.move,.slice dA dn dc,.slice yA yn yc]|4=>∃ p d l,v=.agg #[p,vi x.head.marks.ins,vi x.head.marks.move,d,l]∧jl G x.head p d l|5=>v=(aI b1 6)|6=>v=.slice fA fn fc|7=>av G (.sl 11 (x.flow.map ay.dat)) v|_=>True) bS v G':=by
  intro bS v G G' hm h
  match bS,h with
  | 0,h=>exact h
  | 1,h=>exact h
  | 2,h=>exact h
  | 3,h=>exact h
  | 4,h=>exact let ⟨p,d,l,h1,h2⟩:=h;⟨p,d,l,h1,h2.mono hm⟩
  | 5,h=>exact h
  | 6,h=>exact h
  | 7,h=>exact av.mono hm h
  | 8,h=>exact trivial
  | 9,h=>exact trivial
  | _+10,h=>exact trivial
 refine AA (hmx) [[],[0],[],[2],[2,3],[],[5],(ra 2 5),(ra 0 8),(ra 0 9)] [8,9] (by kernel_rfl) (by kernel_rfl) (fun (bS:Nat) (v:aj) (G:GH)=>match bS with|0=>v=(aI b1 0)|1=>v=vi x.id|2=>v=(aI b1 1)|3=>v=.agg #[.slice pA pn pc,vi x.head.marks.ins,vi x.head.marks.move,.slice dA dn dc,.slice yA yn yc]|4=>∃ p d l,v=.agg #[p,vi x.head.marks.ins,vi x.head.marks.move,d,l]∧jl G x.head p d l|5=>v=(aI b1 6)|6=>v=.slice fA fn fc|7=>av G (.sl 11 (x.flow.map ay.dat)) v|_=>True) iI H ?_ ?_
 ·clear H;refine aD ?_ ?_ ?_ ?_ (aD ?_ ?_ ?_ ?_ (aW (bL rfl) (aW (bL rfl) bY)))
  ·refine dM [] rfl trivial (by kernel_rfl) iI rfl rfl ?_;intro bQ a w G1 hG HT H fin;exact kH H (Rf FX rfl fun _ H=>fin H iJ rfl)
  ·refine dM [(0,3,_)] rfl ⟨fun _ _ h=>h,aB⟩ (by kernel_rfl) iI rfl rfl ?_;intro bQ a w G1 hG HT H fin;exact kH H (Ro aG 1 rfl fun _ H=>fin H iJ rfl)
  ·refine dM [] rfl trivial (by kernel_rfl) iI rfl rfl ?_;intro bQ a w G1 hG HT H fin;exact kH H (Rf TJ rfl fun _ H=>fin H iJ rfl)
  ·refine dM [(2,5,_)] rfl ⟨fun _ _ h=>h,aB⟩ (by kernel_rfl) iI rfl rfl ?_;intro bQ a w G1 hG HT H fin;refine bD pQ (cs:=[_,_,_,_,_]) H wn rfl rfl (H.hp.dY 1 rfl rfl) rfl ?_;clear H;intro a H;exact fin H iJ rfl
  ·refine dM [(3,6,_)] rfl ⟨fun _ _ h=>h,aB⟩ (by kernel_rfl) iI rfl rfl ?_;intro bQ a w G1 hG HT H fin;refine s_call IV H wn rfl (IL _ _ H.ro x.head _ _ _ _ _ _ _ _ _ (hh.mono hG) (by omega)) rfl ?_;clear H;rintro v7 G7 a w Jz zJ H;exact fin H zJ (Jz)
  ·refine dM [] rfl trivial (by kernel_rfl) iI rfl rfl ?_;intro bQ a w G1 hG HT H fin;exact kH H (Rf Ej rfl fun _ H=>fin H iJ rfl)
  ·refine dM [(5,8,_)] rfl ⟨fun _ _ h=>h,aB⟩ (by kernel_rfl) iI rfl rfl ?_;intro bQ a w G1 hG HT H fin;exact kH H (Ro gZ 1 rfl fun _ H=>fin H iJ rfl)
  refine dM [(6,9,_)] rfl ⟨fun _ _ h=>h,aB⟩ (by kernel_rfl) iI rfl rfl ?_;intro bQ a w G1 hG HT H fin;refine s_call Mr H wn rfl (ih _ _ H.ro x.flow _ (hf.mono hG) (by omega)) rfl ?_;clear H;rintro v10 uR a w wK mK H;exact fin H mK (wK)
 clear H;intro a w G mJ H hv;have H:=H.aQ (hv 1 4 rfl rfl) rfl;obtain ⟨u7,hu7,Jz⟩:=hv 4 7 (by decide) rfl;(try dsimp only at Jz);obtain ⟨p7,d7,l7,rfl,Jl⟩:=Jz;obtain ⟨a1,a2,a3,rfl⟩:=Jl.props.form;obtain ⟨a4,a5,a6,rfl⟩:=Jl.bZ.form;obtain ⟨a7,a8,a9,rfl⟩:=Jl.layers.form;have H:=H.jS hu7;obtain ⟨u10,Ob,wK⟩:=hv 7 10 (by decide) rfl;(try dsimp only at wK);obtain ⟨XY,n10,c10,rfl⟩:=wK.form;have H:=H.jS Ob;clear hv;refine jJ aiv [_,_,_,_,_,_,_] H wn rfl rfl rfl rfl ?_;clear H;intro a H;refine bF lT 0 (vs:=[_,_,_,_,_,_,_]) _ H wn rfl rfl rfl rfl rfl rfl rfl rfl ?_;clear H;intro w H;dsimp only [List.set,setRow] at H;refine aH ⟨rfl,?_⟩;refine K2 _ _ ?_;clear K2;refine cu ?_;refine (leave1 H results102 (.cons (Ab lT (cs:=[_,_,_,_,_,_,_]) H rfl rfl (H.hp.dY 0 rfl rfl)) .nil) ?_).1;exact H.rt ⟨_,rfl,aY.VF Jl wK⟩
theorem aaf {n:Nat} (ih:BN n) (hn:n≤4294967296) {G:GH} {w0:World} (x:bN) (hz:cB x.dat < n+1):DI (.func (.func 102) #[] #[]) w0 G x.dat:=by
 intro G1 w1 cs hm1 hG1 hr;have h:=aag ih hn _ _ hG1 x cs hr hz;have h2:=lZ (P:=prog) (caps:=[]) (args:=[.agg cs.toArray]) aaO h;exact h2
theorem aal {n:Nat} (ih:BN n) (hn:n≤4294967296) (G:GH) (w0:World) (hG:Hold G w0) (x:bO) (cs:List aj) (hv:aY G x.dat cs) (hz:cB x.dat < n+1) :
  Calls prog 67 #[.agg cs.toArray] w0 (bC w0 G fun u G'=>∃ cs',u=.agg cs'.toArray∧aY G' x.dat cs'):=by
 have he:=Ar x;have hl:=Hz x.cells;obtain ⟨pA,pn,pc,dA,dn,dc,yA,yn,yc,fA,fn,fc,rfl,hh,hf⟩:=hv.row;refine eN [(0,_)] func67 rfl ntmps67 rfl rfl hG ?_;intro a H;refine cO (fun _ K1=>?_);refine fC (cs:=[_,_,_,_,_,_]) H wn rfl rfl rfl ?_;clear H;intro b1 a w hb1 H;refine eU jQ H wn rfl ?_;clear H;intro b2 a w hb2 H;refine K1 _ _ ?_;clear K1;refine bq (fun _ K2=>?_)
 have iI:∀ (bS:Nat) (v:aj) (G G':GH),(∀ k o,G k=some o→G' k=some o)→(fun (bS:Nat) (v:aj) (G:GH)=>match bS with|0=>v=(aI b1 0)|1=>v=.agg #[.slice pA pn pc,vi x.head.marks.ins,vi x.head.marks.move,.slice dA dn dc,.slice yA yn yc]|2=>∃ p d l,v=.agg #[p,vi x.head.marks.ins,vi x.head.marks.move,d,l]∧jl G x.head p d l|3=>v=(aI b1 5)|4=>v=.slice fA fn fc|5=>av G (.sl 7 (x.cells.map bN.dat)) v|_=>True) bS v G→(fun (bS:Nat) (v:aj) (G:GH)=>match bS with|0=>v=(aI b1 0)|1=>v=.agg #[.slice pA pn pc,vi x.head.marks.ins,vi x.head.marks.move,.slice dA dn dc,.slice yA yn yc]|2=>∃ p d l,v=.agg #[p,vi x.head.marks.ins,vi x.head.marks.move,d,l]∧jl G x.head p d l|3=>v=(aI b1 5)|4=>v=.slice fA fn fc|5=>av G (.sl 7 (x.cells.map bN.dat)) v|_=>True) bS v G':=by
  intro bS v G G' hm h
  match bS,h with
  | 0,h=>exact h
  | 1,h=>exact h
  | 2,h=>exact let ⟨p,d,l,h1,h2⟩:=h;⟨p,d,l,h1,h2.mono hm⟩
  | 3,h=>exact h
  | 4,h=>exact h
  | 5,h=>exact av.mono hm h
  | 6,h=>exact trivial
  | 7,h=>exact trivial
  | _+8,h=>exact trivial
 refine AA (hmx) [[],[0],[0,1],[],[3],(ra 0 5),(ra 0 6),(ra 0 7)] [6,7] (by kernel_rfl) (by kernel_rfl) (fun (bS:Nat) (v:aj) (G:GH)=>match bS with|0=>v=(aI b1 0)|1=>v=.agg #[.slice pA pn pc,vi x.head.marks.ins,vi x.head.marks.move,.slice dA dn dc,.slice yA yn yc]|2=>∃ p d l,v=.agg #[p,vi x.head.marks.ins,vi x.head.marks.move,d,l]∧jl G x.head p d l|3=>v=(aI b1 5)|4=>v=.slice fA fn fc|5=>av G (.sl 7 (x.cells.map bN.dat)) v|_=>True) iI H ?_ ?_
 ·clear H;refine aD ?_ ?_ ?_ ?_ (aD ?_ ?_ (bL rfl) (bL rfl) bY)
  ·refine dM [] rfl trivial (by kernel_rfl) iI rfl rfl ?_;intro bQ a w G1 hG HT H fin;exact kH H (Rf TI rfl fun _ H=>fin H iJ rfl)
  ·refine dM [(0,3,_)] rfl ⟨fun _ _ h=>h,aB⟩ (by kernel_rfl) iI rfl rfl ?_;intro bQ a w G1 hG HT H fin;refine bD pQ (cs:=[_,_,_,_,_]) H wn rfl rfl (H.hp.dY 1 rfl rfl) rfl ?_;clear H;intro a H;exact fin H iJ rfl
  ·refine dM [(1,4,_)] rfl ⟨fun _ _ h=>h,aB⟩ (by kernel_rfl) iI rfl rfl ?_;intro bQ a w G1 hG HT H fin;refine s_call IV H wn rfl (IL _ _ H.ro x.head _ _ _ _ _ _ _ _ _ (hh.mono hG) (by omega)) rfl ?_;clear H;rintro v5 G5 a w vH AZ H;exact fin H AZ (vH)
  ·refine dM [] rfl trivial (by kernel_rfl) iI rfl rfl ?_;intro bQ a w G1 hG HT H fin;exact kH H (Rf vC rfl fun _ H=>fin H iJ rfl)
  ·refine dM [(3,6,_)] rfl ⟨fun _ _ h=>h,aB⟩ (by kernel_rfl) iI rfl rfl ?_;intro bQ a w G1 hG HT H fin;exact kH H (Ro vQ 1 rfl fun _ H=>fin H iJ rfl)
  refine dM [(4,7,_)] rfl ⟨fun _ _ h=>h,aB⟩ (by kernel_rfl) iI rfl rfl ?_;intro bQ a w G1 hG HT H fin;refine s_call aaN H wn rfl (aaJ _ _ H.ro x.cells _ _ (hf.mono hG) (by omega) (fun y hy=>aaf ih hn y (by have:=ajg hy;omega))) rfl ?_;clear H;rintro v8 G8 a w wL qK H;exact fin H qK (wL)
 clear H;intro a w G mJ H hv;obtain ⟨u5,Oe,vH⟩:=hv 2 5 (by decide) rfl;(try dsimp only at vH);obtain ⟨p5,d5,l5,rfl,zO⟩:=vH;obtain ⟨a1,a2,a3,rfl⟩:=zO.props.form;obtain ⟨a4,a5,a6,rfl⟩:=zO.bZ.form;obtain ⟨a7,a8,a9,rfl⟩:=zO.layers.form;have H:=H.jS Oe;obtain ⟨u8,Og,wL⟩:=hv 5 8 (by decide) rfl;(try dsimp only at wL);obtain ⟨A8,n8,c8,rfl⟩:=wL.form;have H:=H.jS Og;clear hv;refine jJ aiu [_,_,_,_,_,_] H wn rfl rfl rfl rfl ?_;clear H;intro a H;refine bF jQ 0 (vs:=[_,_,_,_,_,_]) _ H wn rfl rfl rfl rfl rfl rfl rfl rfl ?_;clear H;intro w H;dsimp only [List.set,setRow] at H;refine aH ⟨rfl,?_⟩;refine K2 _ _ ?_;clear K2;refine cu ?_;refine (leave1 H results67 (.cons (Ab jQ (cs:=[_,_,_,_,_,_]) H rfl rfl (H.hp.dY 0 rfl rfl)) .nil) ?_).1;exact H.rt ⟨_,rfl,aY.VG zO wL⟩
theorem aak {n:Nat} (ih:BN n) (hn:n≤4294967296) {G:GH} {w0:World} (x:bO) (hz:cB x.dat < n+1):DI (.func (.func 67) #[] #[]) w0 G x.dat:=by
 intro G1 w1 cs hm1 hG1 hr;have h:=aal ih hn _ _ hG1 x cs hr hz;have h2:=lZ (P:=prog) (caps:=[]) (args:=[.agg cs.toArray]) acj h;exact h2
theorem aae {n:Nat} (ih:BN n) (hn:n≤4294967296) (G:GH) (w0:World) (hG:Hold G w0) (x:ay) (cs:List aj) (hv:aY G x.dat cs) (hz:cB x.dat < n+1) :
  Calls prog 64 #[.agg cs.toArray] w0 (bC w0 G fun u G'=>∃ cs',u=.agg cs'.toArray∧aY G' x.dat cs'):=by
 have he:=nZ x;have hl:=H6 x.rows;obtain ⟨pA,pn,pc,dA,dn,dc,yA,yn,yc,fA,fn,fc,rA,rn,rc,rfl,hh,hf,hr⟩:=hv.item;refine eN [(0,_)] func64 rfl ntmps64 rfl rfl hG ?_;intro a H;refine cO (fun _ K1=>?_);refine fC (cs:=[_,_,_,_,_,_,_,_,_,_,_]) H wn rfl rfl rfl ?_;clear H;intro b1 a w hb1 H;refine eU dB H wn rfl ?_;clear H;intro b2 a w hb2 H;refine K1 _ _ ?_;clear K1;refine bq (fun _ K2=>?_)
 have iI:∀ (bS:Nat) (v:aj) (G G':GH),(∀ k o,G k=some o→G' k=some o)→(fun (bS:Nat) (v:aj) (G:GH)=>match bS with|0=>v=(aI b1 4)|1=>v=.agg #[.slice pA pn pc,vi x.head.marks.ins,vi x.head.marks.move,.slice dA dn dc,.slice yA yn yc]|2=>∃ p d l,v=.agg #[p,vi x.head.marks.ins,vi x.head.marks.move,d,l]∧jl G x.head p d l|3=>v=(aI b1 9)|4=>v=.slice fA fn fc|5=>av G (.sl 11 (x.flow.map ay.dat)) v|6=>v=(aI b1 10)|7=>v=.slice rA rn rc|8=>av G (.sl 6 (x.rows.map bO.dat)) v|9=>v=(aI b1 4)|_=>True) bS v G→(fun (bS:Nat) (v:aj) (G:GH)=>match bS with|0=>v=(aI b1 4)|1=>v=.agg #[.slice pA pn pc,vi x.head.marks.ins,vi x.head.marks.move,.slice dA dn dc,.slice yA yn yc]|2=>∃ p d l,v=.agg #[p,vi x.head.marks.ins,vi x.head.marks.move,d,l]∧jl G x.head p d l|3=>v=(aI b1 9)|4=>v=.slice fA fn fc|5=>av G (.sl 11 (x.flow.map ay.dat)) v|6=>v=(aI b1 10)|7=>v=.slice rA rn rc|8=>av G (.sl 6 (x.rows.map bO.dat)) v|9=>v=(aI b1 4)|_=>True) bS v G':=by
  intro bS v G G' hm h
  match bS,h with
  | 0,h=>exact h
  | 1,h=>exact h
  | 2,h=>exact let ⟨p,d,l,h1,h2⟩:=h;⟨p,d,l,h1,h2.mono hm⟩
  | 3,h=>exact h
  | 4,h=>exact h
  | 5,h=>exact av.mono hm h
  | 6,h=>exact h
  | 7,h=>exact h
  | 8,h=>exact av.mono hm h
  | 9,h=>exact h
  | 10,h=>exact trivial
  | 11,h=>exact trivial
  | 12,h=>exact trivial
  | 13,h=>exact trivial
  | 14,h=>exact trivial
  | _+15,h=>exact trivial
 refine AA (hmx) [[],[0],[0,1],[],[3],(ra 0 5),[],[6],(ra 0 8),[0,1,2,3,4,6,7],(ra 0 10),(ra 0 11),(ra 0 12),(ra 0 13),(ra 0 14)] (ra 10 5) (by kernel_rfl) (by kernel_rfl) (fun (bS:Nat) (v:aj) (G:GH)=>match bS with|0=>v=(aI b1 4)|1=>v=.agg #[.slice pA pn pc,vi x.head.marks.ins,vi x.head.marks.move,.slice dA dn dc,.slice yA yn yc]|2=>∃ p d l,v=.agg #[p,vi x.head.marks.ins,vi x.head.marks.move,d,l]∧jl G x.head p d l|3=>v=(aI b1 9)|4=>v=.slice fA fn fc|5=>av G (.sl 11 (x.flow.map ay.dat)) v|6=>v=(aI b1 10)|7=>v=.slice rA rn rc|8=>av G (.sl 6 (x.rows.map bO.dat)) v|9=>v=(aI b1 4)|_=>True) iI H ?_ ?_
 ·clear H;refine aD ?_ ?_ ?_ ?_ (aD ?_ ?_ ?_ ?_ (aD ?_ ?_ (bL rfl) (bL rfl) (aW (bL rfl) (aW (bL rfl) (aW (bL rfl) bY)))))
  ·refine dM [] rfl trivial (by kernel_rfl) iI rfl rfl ?_;intro bQ a w G1 hG HT H fin;exact kH H (Rf AL rfl fun _ H=>fin H iJ rfl)
  ·refine dM [(0,3,_)] rfl ⟨fun _ _ h=>h,aB⟩ (by kernel_rfl) iI rfl rfl ?_;intro bQ a w G1 hG HT H fin;refine bD pQ (cs:=[_,_,_,_,_]) H wn rfl rfl (H.hp.dY 1 rfl rfl) rfl ?_;clear H;intro a H;exact fin H iJ rfl
  ·refine dM [(1,4,_)] rfl ⟨fun _ _ h=>h,aB⟩ (by kernel_rfl) iI rfl rfl ?_;intro bQ a w G1 hG HT H fin;refine s_call IV H wn rfl (IL _ _ H.ro x.head _ _ _ _ _ _ _ _ _ (hh.mono hG) (by omega)) rfl ?_;clear H;rintro v5 G5 a w vH AZ H;exact fin H AZ (vH)
  ·refine dM [] rfl trivial (by kernel_rfl) iI rfl rfl ?_;intro bQ a w G1 hG HT H fin;exact kH H (Rf xR rfl fun _ H=>fin H iJ rfl)
  ·refine dM [(3,6,_)] rfl ⟨fun _ _ h=>h,aB⟩ (by kernel_rfl) iI rfl rfl ?_;intro bQ a w G1 hG HT H fin;exact kH H (Ro gZ 1 rfl fun _ H=>fin H iJ rfl)
  ·refine dM [(4,7,_)] rfl ⟨fun _ _ h=>h,aB⟩ (by kernel_rfl) iI rfl rfl ?_;intro bQ a w G1 hG HT H fin;refine s_call Mr H wn rfl (ih _ _ H.ro x.flow _ (hf.mono hG) (by omega)) rfl ?_;clear H;rintro v8 G8 a w wL qK H;exact fin H qK (wL)
  ·refine dM [] rfl trivial (by kernel_rfl) iI rfl rfl ?_;intro bQ a w G1 hG HT H fin;exact kH H (Rf qg rfl fun _ H=>fin H iJ rfl)
  ·refine dM [(6,9,_)] rfl ⟨fun _ _ h=>h,aB⟩ (by kernel_rfl) iI rfl rfl ?_;intro bQ a w G1 hG HT H fin;exact kH H (Ro qz 1 rfl fun _ H=>fin H iJ rfl)
  ·refine dM [(7,10,_)] rfl ⟨fun _ _ h=>h,aB⟩ (by kernel_rfl) iI rfl rfl ?_;intro bQ a w G1 hG HT H fin;refine s_call SK H wn rfl (Sd _ _ H.ro x.rows _ _ (hr.mono hG) (by omega) (fun y hy=>aak ih hn y (by have:=ajk hy;omega))) rfl ?_;clear H;rintro v11 vS a w Gx jH H;exact fin H jH (Gx)
  refine dM [] rfl trivial (by kernel_rfl) iI rfl rfl ?_;intro bQ a w G1 hG HT H fin;exact kH H (Rf AL rfl fun _ H=>fin H iJ rfl)
 clear H;intro a w G mJ H hv;obtain ⟨u5,Oe,vH⟩:=hv 2 5 (by decide) rfl;(try dsimp only at vH);obtain ⟨p5,d5,l5,rfl,zO⟩:=vH;obtain ⟨a1,a2,a3,rfl⟩:=zO.props.form;obtain ⟨a4,a5,a6,rfl⟩:=zO.bZ.form;obtain ⟨a7,a8,a9,rfl⟩:=zO.layers.form;have H:=H.jS Oe;obtain ⟨u8,Og,wL⟩:=hv 5 8 (by decide) rfl;(try dsimp only at wL);obtain ⟨A8,n8,c8,rfl⟩:=wL.form;have H:=H.jS Og;obtain ⟨u11,afr,Gx⟩:=hv 8 11 (by decide) rfl;(try dsimp only at Gx);obtain ⟨A11,n11,c11,rfl⟩:=Gx.form;have H:=H.jS afr;have H:=H.aQ (hv 9 12 rfl rfl) rfl;clear hv;refine bF pQ 1 (vs:=[_,_,_,_,_]) _ H wn rfl rfl rfl rfl rfl rfl rfl rfl ?_;clear H;intro w H;dsimp only [List.set,setRow] at H;refine kH H (Rf xR rfl ?_);clear H;intro a H;refine bF gZ 1 (vs:=[_]) _ H wn rfl rfl rfl rfl rfl rfl rfl rfl ?_;clear H;intro w H;dsimp only [List.set,setRow] at H;refine kH H (Rf qg rfl ?_);clear H;intro a H;refine bF qz 1 (vs:=[_]) _ H wn rfl rfl rfl rfl rfl rfl rfl rfl ?_;clear H;intro w H;dsimp only [List.set,setRow] at H;refine aH ⟨rfl,?_⟩;refine K2 _ _ ?_;clear K2;refine cO (fun _ K3=>?_);refine bD dB (cs:=[_,_,_,_,_,_,_,_,_,_,_]) H wn rfl rfl (H.hp.dY 1 rfl rfl) rfl ?_;clear H;intro a H;refine bF dB 0 (vs:=[_,_,_,_,_,_,_,_,_,_,_]) _ H wn rfl rfl rfl rfl rfl rfl rfl rfl ?_;clear H;intro w H;dsimp only [List.set,setRow] at H;refine K3 _ _ ?_;clear K3;refine cu ?_;refine (leave1 H results64 (.cons (Ab dB (cs:=[_,_,_,_,_,_,_,_,_,_,_]) H rfl rfl (H.hp.dY 0 rfl rfl)) .nil) ?_).1;exact H.rt ⟨_,rfl,aY.mkItem zO wL Gx⟩
theorem aad {n:Nat} (ih:BN n) (hn:n≤4294967296) {G:GH} {w0:World} (x:ay) (hz:cB x.dat < n+1):DI (.func (.func 64) #[] #[]) w0 G x.dat:=by
 intro G1 w1 cs hm1 hG1 hr;have h:=aae ih hn _ _ hG1 x cs hr hz;have h2:=lZ (P:=prog) (caps:=[]) (args:=[.agg cs.toArray]) aci h;exact h2
theorem RS:∀ n:Nat,n≤4294967297→BN n
 | 0,_=>fun _ _ _ _ _ _ h=>absurd h (by omega)
 | n+1,hn=>by
  intro G w0 hG l v hv hz;have ih:=RS n (by omega);have hl:=BM l;refine eN [(0,_)] func40 rfl ntmps40 rfl rfl hG ?_;intro a H;refine kP H (SR fun _ K1=>ak K1 rfl (SR fun _ K2=>Rm rfl ?_));clear H K1;intro a H;refine s_call ach H wn rfl (aaK _ _ H.ro l _ _ hv (by omega) (fun y hy=>aad ih (by omega) y (by have:=HY hy;omega))) rfl ?_;clear H;rintro v4 G4 a w hp4 zI H;exact kH H (ak K2 rfl (LR results40 rfl fun H=>H.rt hp4))
theorem aam (G:GH) (w0:World) (hG:Hold G w0) (l:List ay) (v:aj) (hv:av G (.sl 11 (l.map ay.dat)) v) (hz:bg l≤4294967296) :
  Calls prog 40 #[v] w0 (bC w0 G fun u G'=>av G' (.sl 11 (l.map ay.dat)) u):=RS 4294967297 (by omega) G w0 hG l v hv (by omega)
end
section
open Go.RowKit
section
variable {P:Program} {N:Nat} {D:List Deferred} {w0 w w':World} {F:Nat→Prop} {G0 G G':GH} {L L' Li Lo:OL} {T:List (Nat × aj)} {a a':Act} {Q:Exit→Act→World→Prop}
theorem St.cast (h:St N D w0 F G0 G L T a w) (e:L=L'):St N D w0 F G0 G L' T a w:=e ▸ h
theorem St.assoc {A B C:OL} (h:St N D w0 F G0 G ((A++B)++C) T a w):St N D w0 F G0 G (A++(B++C)) T a w:=h.cast (ou _ _ _)
theorem St.un {A B C:OL} (h:St N D w0 F G0 G (A++(B++C)) T a w):St N D w0 F G0 G ((A++B)++C) T a w:=h.cast (ou _ _ _).symm
theorem St.VQ {A B:OL} (h:St N D w0 F G0 G (A++B) T a w):St N D w0 F G0 G (A++(B++[])) T a w:=h.cast (by rw [oW])
theorem RI {ι κ:Type} {Lc:OL} {wu:Operand} {ps:List Nat} {assign body:Code} {gf:FuncId} {caps:List aj} {xs:List AP} {Gi:GH}
  (Lv:Nat→ι→OL) (Lt:Nat→ι→OL) (inv:Nat→ι→GH→Prop) (cx:κ→Code) (Lx Cc:κ→OL) (wQ:κ→GH→Prop) (i0:ι)
  (H:St N D w0 F G0 G (Lc++Lv 0 i0++Lt 0 i0) T a w) (hg:ev T wu=some (.func (.func gf) #[] caps.toArray)) (en:∀ args w,(callFunc gf args).run P w=.ok (.enter gf args) w) (hit:Iter P Gi (.func (.func gf) #[] caps.toArray) xs) (hGi:∀ b o,Gi b=some o→G b=some o)
  (hps:ps.all (Nat.blt · N)=true) (hlen:∀ k args g,tQ xs k args g→args.length=ps.length) (hinv:∀ k i (G G':GH),(∀ b o,G b=some o→G' b=some o)→inv k i G→inv k i G') (NH:∀ x (G G':GH),(∀ b o,G b=some o→G' b=some o)→wQ x G→wQ x G') (h0:inv 0 i0 G)
  (round:∀ (l:Nat) (Bp xJ:Obj) (bk:OL) (k:Nat) (args:List aj) (i:ι) (G1:GH) (w1:World) (F1:Nat→Prop) (B1:Code→Exit→Act→World→Prop) (a1:Act),tQ xs k args G1→(∀ b o,G b=some o→G1 b=some o)→inv k i G1 →
   (∀ T' G2 L2 a2 w2 c,St N [] w1 F1 G1 G2 ((l,Bp) :: L2) T' a2 w2→(∀ w3,St N [] w1 F1 G1 G2 ((l,xJ) :: L2) T' a2 w3→WP (some l) P c (B1 c) a2 w3)→Exit.then (fun a2 w2=>∃ w3,(Instr.beginRound l).run P w2=.ok () w3∧c.wpIn (FW (some l)) 0 P (B1 c) a2 w3) (fun _ _ _=>False) .normal a2 w2) →
   (∀ i' T' G2 a2 w2 c,St N [] w1 F1 G1 G2 ((l,xJ) :: (Lc++Lv (k+1) i'++(bk++Lt (k+1) i'))) T' a2 w2→inv (k+1) i' G2→B1 c .normal a2 w2) →
   (∀ x T' G2 a2 w2 c,St N [] w1 F1 G1 G2 ((l,xJ) :: (Lc++Lx x++(bk++Cc x))) T' a2 w2→wQ x G2→(cx x=.ret→B1 c .ret a2 w2)∧∀ n,cx x=.exit n→B1 c (.exit n) a2 w2) →
   St N [] w1 F1 G1 G1 ((l,Bp) :: (Lc++Lv k i++(bk++Lt k i))) (vW ps args T) a1 w1 →
   WP (some l) P assign (Exit.then (fun a2 w2=>∃ w3,(Instr.beginRound l).run P w2=.ok () w3∧body.wpIn (FW (some l)) 0 P (B1 body) a2 w3) (fun _ _ _=>False)) a1 w1)
  (hdone:∀ Dk i G1 a1 w1,(∀ b o,G b=some o→G1 b=some o)→inv xs.length i G1→St N ({ target:=.collected Dk,args:=#[] } :: D) w0 F G0 G1 ((Dk,.deferred (some [])) :: (Lc++Lv xs.length i++Lt xs.length i)) T a1 w1→Q .normal a1 w1)
  (hstop:∀ Dk x G1 a1 w1,(∀ b o,G b=some o→G1 b=some o)→wQ x G1→St N ({ target:=.collected Dk,args:=#[] } :: D) w0 F G0 G1 ((Dk,.deferred (some [])) :: (Lc++Lx x++Cc x)) T a1 w1→WP none P (cx x) Q a1 w1) :
  WP none P (.rangeFunc wu ps.toArray assign body) Q a w:=by
 refine ZB (J:=fun k g L=>∃ i,L=Lc++Lv k i++Lt k i∧inv k i g) (Jx:=fun c g L=>∃ x,c=cx x∧L=Lc++Lx x++Cc x∧wQ x g) H hg en hit hGi hps hlen (fun k G G' L hm ⟨i,e,h⟩=>⟨i,e,hinv k i G G' hm h⟩) (fun c G G' L hm ⟨x,e1,e2,h⟩=>⟨x,e1,e2,NH x G G' hm h⟩) ⟨i0,rfl,h0⟩ ?_ ?_ ?_
 ·rintro l q bk k args G1 L1 w1 a1 hk hm ⟨i,rfl,hi⟩ H1
  have pm:∀ A B:OL,(bk++(A++B)).Perm (A++(bk++B)):=fun A B=>by
   rw [← ou,← ou]
   exact List.Perm.append_right B yX
  refine round l (q.at .ready none) (q.at .busy none) bk k args i G1 w1 _ (fun _=>roundPost P l _) a1 hk hm hi ?_ ?_ ?_ (H1.perm (List.Perm.cons _ (pm _ _)))
  ·intro T' G2 L2 a2 w2 c H2 h
   exact RF H2 h
  ·intro i' T' G2 a2 w2 c H2 h2
   exact EJ none (H2.perm (List.Perm.cons _ (pm _ _).symm)) ⟨_,rfl,i',rfl,h2⟩
  ·intro x T' G2 a2 w2 c H2 h2
   have H3:=H2.perm (List.Perm.cons _ (pm _ _).symm)
   refine ⟨fun e=>?_,fun n e=>?_⟩
   ·exact EJ (some .ret) H3 ⟨_,_,rfl,x,e.symm,rfl,h2⟩
   ·exact EJ (some (.exit n)) H3 ⟨_,_,rfl,x,e.symm,rfl,h2⟩
 ·rintro Dk G1 L1 a1 w1 hm ⟨i,rfl,hi⟩ H1
  exact hdone Dk i G1 a1 w1 hm hi H1
 ·rintro Dk c G1 L1 a1 w1 hm ⟨x,rfl,rfl,hx⟩ H1
  exact hstop Dk x G1 a1 w1 hm hx H1
def OD (ds:List Nat):List Deferred:=ds.map fun b=>{ target:=.collected b,args:=#[] }
def Dj (ds:List Nat):OL:=ds.map fun b=>(b,.deferred (some []))
theorem ZA {r:Option Nat} {ι:Type} {c:Code} {Tc:List (Nat × aj)} {Lc:List (Nat × Obj)} (Dv:ι→List Deferred) (Tv:ι→List (Nat × aj)) (Lv:ι→List (Nat × Obj)) (Gv:ι→GH) (Pr:ι→Prop) (m:ι→Nat) (i0:ι)
  (H:St N (Dv i0) w0 F G0 (Gv i0) (Lc++Lv i0) (Tv i0++Tc) a w) (hP:Pr i0)
  (round:∀ i a w,Pr i→St N (Dv i) w0 F G0 (Gv i) (Lc++Lv i) (Tv i++Tc) a w →
   WP r P c (Exit.then (fun a' w'=>∃ i',(St N (Dv i') w0 F G0 (Gv i') (Lc++Lv i') (Tv i'++Tc) a' w'∧Pr i')∧m i' < m i) Q) a w):WP r P (.loop c) Q a w :=
 RH (fun i a w=>St N (Dv i) w0 F G0 (Gv i) (Lc++Lv i) (Tv i++Tc) a w∧Pr i) m i0 ⟨H,hP⟩ fun i a w hI=>round i a w hI.2 hI.1
theorem agi {ι:Type} {Dv:ι→List Deferred} {Tc:List (Nat × aj)} {Lc:List (Nat × Obj)} {Tv:ι→List (Nat × aj)} {Lv:ι→List (Nat × Obj)} {Gv:ι→GH} {Pr:ι→Prop} {m:ι→Nat} {i:ι} (i':ι)
  (H:St N (Dv i') w0 F G0 (Gv i') (Lc++Lv i') (Tv i'++Tc) a w) (hP:Pr i') (hm:m i' < m i) :
  ∃ i',(St N (Dv i') w0 F G0 (Gv i') (Lc++Lv i') (Tv i'++Tc) a w∧Pr i')∧m i' < m i:=⟨i',⟨H,hP⟩,hm⟩
theorem Ox {fn:Func} {R:Ending→World→Prop} {Lh Lt:OL}:∀ (ds:List Nat) {a:Act} {w:World},St N (OD ds) w0 F G0 G (Lh++(Dj ds++Lt)) T a w →
  (∀ a' w',St N [] w0 F G0 G (Lh++Lt) T a' w'→bodyPostM (FW none) 0 P fn R .ret a' w')→bodyPostM (FW none) 0 P fn R .ret a w∧bodyPostM (FW none) 0 P fn R .normal a w
 | [],a,w,H,k=>⟨k a w H,k a w H⟩
 | b :: ds,a,w,H,k=>by
  refine GK (b:=b) (D:=OD ds) H Lh.length (by rw [vV (bU _),Nat.sub_self];rfl) fun a' w' H'=>?_
  refine (Ox ds (Lh:=Lh) (Lt:=Lt) (H'.cast ?_) k).1
  rw [List.eraseIdx_append_of_length_le (bU _),Nat.sub_self];rfl
end
end
section
open Go.RowKit
def n1 (x:ay):Nat:=if qB x=0 then dV x else 0
theorem afY (x:ay):vJ [x]=n1 x:=by
 simp only [vJ,uh,n1,nW,List.all_cons,List.all_nil,Bool.and_true,oq]
 split <;> simp_all
mutual
/-- The positions of a flow and of those within it, from an item on. -/
def BK (flow:Int) (at_:Nat):ay→List (Int × Int)
 | .mk k c i t h f r=>(List.range (n1 (.mk k c i t h f r))).map (fun q=>(flow,((at_+q:Nat):Int)))++((if k=6 then uP i 0 f else [])++rz r)
def uP (flow:Int):Nat→List ay→List (Int × Int)
 | at_,[]=>[(flow,(at_:Int))]
 | at_,x :: l=>BK flow at_ x++uP flow (at_+n1 x) l
def rz:List bO→List (Int × Int)
 | []=>[]
 | r :: l=>BL r++rz l
def BL:bO→List (Int × Int)
 | .mk _ cs=>xw cs
def xw:List bN→List (Int × Int)
 | []=>[]
 | c :: l=>BJ c++xw l
def BJ:bN→List (Int × Int)
 | .mk i _ f=>uP i 0 f
end
theorem av.len {G:GH} {sz:Nat} {rows:List (List Dat)} {A:Option Addr} {n c:Nat} (h:av G (.sl sz rows) (.slice A n c)):n=rows.length:=h.cells.1
theorem av.at_ {G:GH} {sz:Nat} {rows:List (List Dat)} {A:Option Addr} {n c:Nat} (h:av G (.sl sz rows) (.slice A n c)):∀ k r,rows[k]?=some r→∃ b o cs,A=some ⟨b,o,none⟩∧cs.length=sz∧(∀ j u,cs[j]?=some u→aJ G b (o+k*sz+j)=some u)∧aY G r cs:=by
 obtain ⟨A2,c2,e,_,_,hg⟩:=h.slice
 cases e;exact hg
theorem GV {G:GH} {l:List bO} {A:Option Addr} {k:Nat} (hk:k < l.length) (hg:∀ k r,(l.map bO.dat)[k]?=some r→∃ b o cs,A=some ⟨b,o,none⟩∧cs.length=6∧(∀ j u,cs[j]?=some u→aJ G b (o+k*6+j)=some u)∧aY G r cs) :
  ∃ b o pA pn pc dA dn dc yA yn yc cA cn cc,A=some ⟨b,o,none⟩∧(∀ j u,[.slice pA pn pc,vi l[k].head.marks.ins,vi l[k].head.marks.move,.slice dA dn dc,.slice yA yn yc,.slice cA cn cc][j]?=some u→aJ G b (o+k*6+j)=some u) ∧
   jl G l[k].head (.slice pA pn pc) (.slice dA dn dc) (.slice yA yn yc)∧av G (.sl 7 (l[k].cells.map bN.dat)) (.slice cA cn cc):=by
 obtain ⟨b,o,cs,h1,h2,h3,h4⟩:=hg k l[k].dat (by simp [hk]);obtain ⟨pA,pn,pc,dA,dn,dc,yA,yn,yc,cA,cn,cc,rfl,h5,h6⟩:=h4.row;exact ⟨b,o,pA,pn,pc,dA,dn,dc,yA,yn,yc,cA,cn,cc,h1,h3,h5,h6⟩
theorem FB {G:GH} {l:List bN} {A:Option Addr} {k:Nat} (hk:k < l.length) (hg:∀ k r,(l.map bN.dat)[k]?=some r→∃ b o cs,A=some ⟨b,o,none⟩∧cs.length=7∧(∀ j u,cs[j]?=some u→aJ G b (o+k*7+j)=some u)∧aY G r cs) :
  ∃ b o pA pn pc dA dn dc yA yn yc fA fn fc,A=some ⟨b,o,none⟩∧(∀ j u,[vi l[k].id,.slice pA pn pc,vi l[k].head.marks.ins,vi l[k].head.marks.move,.slice dA dn dc,.slice yA yn yc,.slice fA fn fc][j]?=some u→aJ G b (o+k*7+j)=some u) ∧
   jl G l[k].head (.slice pA pn pc) (.slice dA dn dc) (.slice yA yn yc)∧av G (.sl 11 (l[k].flow.map ay.dat)) (.slice fA fn fc):=by
 obtain ⟨b,o,cs,h1,h2,h3,h4⟩:=hg k l[k].dat (by simp [hk]);obtain ⟨pA,pn,pc,dA,dn,dc,yA,yn,yc,fA,fn,fc,rfl,h5,h6⟩:=h4.cell;exact ⟨b,o,pA,pn,pc,dA,dn,dc,yA,yn,yc,fA,fn,fc,h1,h3,h5,h6⟩
end
section
open Go.RowKit
structure nK where
 (f p d y r s1 s2 s3 s4:Option Addr × Nat × Nat)
 (ins move:Int)
abbrev fq (x:Option Addr × Nat × Nat):aj:=.slice x.1 x.2.1 x.2.2
abbrev nK.cells (D:nK):List aj:=[fq D.f,fq D.p,vi D.ins,vi D.move,fq D.d,fq D.y,fq D.r,fq D.s1,fq D.s2,fq D.s3,fq D.s4]
abbrev nK.val (D:nK):aj:=.agg D.cells.toArray
end
section
open Go.RowKit
theorem Mx:∀ args w,(callFunc 97 args).run prog w=.ok (.enter 97 args) w:=enters func97 rfl (by kernel_rfl)
theorem Kl:Ty prog 106 3 16 [.bool false,.bool false,.int .i64 0] true:=⟨by kernel_rfl,by kernel_rfl⟩
theorem aip:oU prog 108 [(0,1),(1,3)] [.slice none 0 0,.bool false,.bool false,.int .i64 0]:=⟨by kernel_rfl,by kernel_rfl⟩
theorem zq:bV prog 63 2 2:=⟨by kernel_rfl⟩
theorem FN:bV prog 106 2 2:=⟨by kernel_rfl⟩
theorem Bw:oU prog 106 [(0,1),(1,1),(2,1)] [.bool false,.bool false,.int .i64 0]:=⟨by kernel_rfl,by kernel_rfl⟩
theorem MB:bV prog 106 1 1:=⟨by kernel_rfl⟩
theorem xg:Ty prog 4 1 1 [.bool false] false:=⟨by kernel_rfl,by kernel_rfl⟩
theorem Cr:bV prog 38 0 0:=⟨by kernel_rfl⟩
theorem acg:∀ args w,(callFunc 62 args).run prog w=.ok (.enter 62 args) w:=enters func62 rfl (by kernel_rfl)
theorem SV:∀ args w,(callFunc 96 args).run prog w=.ok (.enter 96 args) w:=enters func96 rfl (by kernel_rfl)
structure jL where
 id:Int
 items:List ay
 body:Bool
 note:Bool
 tables:Int
mutual
def Al (note:Bool) (t:Int):ay→List jL
 | .mk k _ i _ _ f r=>if k=6 then ⟨i,f,false,true,t⟩ :: jk true t f else if k=7 then rC note t r else []
def jk (note:Bool) (t:Int):List ay→List jL
 | []=>[]
 | x :: l=>Al note t x++jk note t l
def rC (note:Bool) (t:Int):List bO→List jL
 | []=>[]
 | r :: l=>Am note t r++rC note t l
def Am (note:Bool) (t:Int):bO→List jL
 | .mk _ cs=>sw note t cs
def sw (note:Bool) (t:Int):List bN→List jL
 | []=>[]
 | c :: l=>Ak note t c++sw note t l
def Ak (note:Bool) (t:Int):bN→List jL
 | .mk i _ f=>⟨i,f,false,note,t+1⟩ :: jk note (t+1) f
end
theorem aiZ (note:Bool) (t:Int) (x:ay):Al note t x=if x.kind=6 then ⟨x.id,x.flow,false,true,t⟩ :: jk true t x.flow else if x.kind=7 then rC note t x.rows else []:=by cases x;rw [Al];rfl
theorem ajb (note:Bool) (t:Int) (x:bO):Am note t x=sw note t x.cells:=by cases x;rw [Am];rfl
theorem aiX (note:Bool) (t:Int) (x:bN):Ak note t x=⟨x.id,x.flow,false,note,t+1⟩ :: jk note (t+1) x.flow:=by cases x;rw [Ak];rfl
def zu (a:jL):AP:=fun args g=>∃ v,args=[vi a.id,.agg #[v,.bool a.body,.bool a.note,vi a.tables]]∧av g (.sl 11 (a.items.map ay.dat)) v
def KZ (n:Nat):Prop:=∀ (fv:aj) (Gi:GH) (xs:List AP) (J:Nat→GH→OL→Prop) (Jx:GH→OL→Prop) (G:GH) (L:OL) (w0:World) (j:Nat) (l:List ay) (id:Int) (body note:Bool) (t:Int) (v:aj),
 (∀ b o,Gi b=some o→G b=some o)→E5 prog fv Gi xs J Jx→BS J→DW Jx→J j G L→gW G L w0→av G (.sl 11 (l.map ay.dat)) v→bg l < n→0≤t→t+bg l≤4294967296→(∀ i a,(⟨id,l,body,note,t⟩ :: jk note t l)[i]?=some a→xs[j+i]?=some (zu a)) →
 Calls prog 97 #[vi id,v,.agg #[.bool body,.bool note,vi t],fv] w0 (gF w0 G L fun u G' L'=>∃ b,u=.bool b∧(b=true→J (j+((jk note t l).length+1)) G' L')∧(b=false→Jx G' L'))
set_option maxHeartbeats 1000000 in
theorem ajd {n:Nat} (ih:KZ n) (hn:n≤4294967296):KZ (n+1):=by
 intro fv Gi xs J Jx G L w0 j0 l id body note t v hGi hcb uz hJx hJ0 hO hv hz ht0 ht1 hx0;obtain ⟨A,c,rfl,hc1,hc2,hg⟩:=hv.slice;rw [bT] at *;have hll:=BM l;have NU:Now xs zu J (j0+((jk note t l).length+1)) j0 (⟨id,l,body,note,t⟩ :: jk note t l) G L:=⟨hJ0,hx0,rfl⟩;refine jN (N:=74) (T:=[(0,_),(1,_),(2,_),(3,_)]) func97 rfl ntmps97 rfl rfl hO ?_;intro a H;refine cO (fun _ K1=>?_);refine fC (cs:=[_,_,_]) H wn rfl rfl rfl ?_;clear H;intro b6 a w hb6 H;refine kH H (ak K1 rfl (SQ fun _ K2=>SR fun _ K3=>Rm rfl (Rm rfl (Rm rfl ?_))));clear H K1;intro a H;refine bD Kl (cs:=[_,_,_]) H wn rfl rfl (H.hp.dY 0 rfl rfl) rfl ?_;clear H;intro a H;refine jJ aip [_,_,_,_] H wn rfl rfl rfl rfl ?_;clear H;intro a H;refine EM (Li:=[_]) (L:=L) H wn rfl rfl (hcb _ _ _ _ _ ⟨_,NU.head,_,rfl,hv⟩ hGi NU.now (Hp.owns (Li:=[_]) H.hp)) rfl ?_;clear H;rintro v20 DK Fj a w ⟨b20,rfl,hb1,hb2⟩ Bf H;refine kH H (Rn rfl (Kz K3 (Cd rfl ?_ ?_))) <;> clear H K3
 ·intro h21 a H
  try have oK:=dT h21
  refine kP H (SR fun _ K4=>ak K4 rfl ?_);clear H K4;intro a H;refine lr H results97 rfl ?_
  first
   | exact H.hp.gM (L':=Fj) (by repeat (first|exact iD _|apply List.Sublist.cons)) ⟨_,rfl,fun e=>(by cases e),fun _=>hb2 (by simpa using h21)⟩
   | exact H.hp.gM (L':=Fp) (by repeat (first|exact iD _|apply List.Sublist.cons)) ⟨_,rfl,fun e=>(by cases e),fun _=>hb4 (by simpa using AV)⟩
   | exact H.hp.gM (L':=Fq) (by repeat (first|exact iD _|apply List.Sublist.cons)) ⟨_,rfl,fun e=>(by cases e),fun _=>hb6 (by simpa using uy)⟩
   | exact H.hp.gM (L':=Lt) (by repeat (first|exact iD _|apply List.Sublist.cons)) ⟨_,rfl,fun _=>(by rw [iC (by omega),jk] at dX;have:=dX.len;simp only [List.length_nil,sJ] at this;rw [← this];exact dX.now),fun e=>(by cases e)⟩
 intro h21 a H
 try have oK:=dF h21
 refine kP H (Kc K2 (SQ fun _ K5=>SR fun _ K6=>Rm rfl (Rl gI rfl (Rm rfl (Kz K6 (SB ?_))))));clear H K2 K6;intro a H;skip;refine eZ (ι:=Nat × Nat × OL × GH) (Tc:=[(3,_),(6,_),(22,_),(23,_)]) (Lc:=[(_,_)]) (fun gh=>[(24,vi gh.1)]) (fun gh=>[]++gh.2.2.1) (fun gh=>gh.2.2.2) (fun gh=>gh.1≤l.length∧(∀ b o,G b=some o→gh.2.2.2 b=some o)∧Now xs zu J (j0+((jk note t l).length+1)) gh.2.1 (jk note t (l.drop gh.1)) gh.2.2.2 gh.2.2.1) (fun gh=>l.length - gh.1) ((0,j0+1,Fj,DK)) (by exact (H).sub ⟨rfl,rfl,rfl,rfl,rfl,aB⟩) ?_ ?_
 ·exact ⟨by omega,Bf,NU.step (hb1 (by simpa using h21))⟩
 clear H;intro gh a w hI H;obtain ⟨k,j1,Lt,g⟩:=gh;dsimp only at hI H;obtain ⟨hk,hgm,dX⟩:=hI;dsimp only [lca,aZ] at H;refine kP H (SR fun _ K7=>Rc rfl (Kz K7 (SQ fun _ K8=>Cd rfl ?_ ?_))) <;> clear H K7
 ·intro kY a H
  try have p25:=dT kY
  have hk2:k < l.length:=by omega
  obtain ⟨b,o,pA,pn,pc,dA,dn,dc,yA,yn,yc,fA,fn,fc,rA,rn,rc,rfl,hrow,hhd,hfl,hrw⟩:=zw hk2 hg;replace hrow:=fun j u hj=>aK hgm (hrow j u hj);have hrn:=hrw.len;rw [bT] at hrn;subst hrn;have hrs:=H6 l[k].rows;have hsz1:=XR hk2;rw [lG hk2] at dX
  simp only [jk,aiZ] at dX
  refine kP H (Kc K8 (SQ fun _ K9=>SB (SR fun _ aS=>Ri gI dB rfl rfl ?_)));clear H K8;intro a H;refine bD dB (cs:=[_,_,_,_,_,_,_,_,_,_,_]) H wn rfl rfl (fun j v hj=>H.hp.aJ (hrow j v hj)) rfl ?_;clear H;intro a H;refine eU dB H wn rfl ?_;clear H;intro b10 a w F7 H;refine bF dB 0 (vs:=[_,_,_,_,_,_,_,_,_,_,_]) _ H wn rfl rfl rfl rfl rfl rfl rfl rfl ?_;clear H;intro w H;dsimp only [List.set,setRow] at H;refine aS _ _ ?_;clear aS;refine kP H (SR fun _ bA=>aR jh aG 0 rfl rfl (Kz bA (SB (SR fun _ bK=>Rc rfl (ak bK rfl (Cd rfl ?_ ?_)))))) <;> clear H bA bK
  ·intro qh a H
   try have p30:=dT qh
   rw [au p30] at dX;refine kP H (SR fun _ bR=>aR zq aG 0 rfl rfl (aR xR gZ 0 rfl rfl (aR FN aG 1 rfl rfl ?_)));clear H;intro a H;refine jJ Bw [_,_,_] H wn rfl rfl rfl rfl ?_;clear H;intro a H;refine kH H (Rm rfl ?_);clear H;intro a H;refine gN Mx (Li:=[_,_]) (L:=Lt) H wn rfl (ih fv Gi xs J Jx _ _ _ j1 l[k].flow l[k].id false true t _ (fun b o h=>hgm b o (hGi b o h)) hcb uz hJx dX.now (Hp.owns (Li:=[_,_]) H.hp) (hfl.mono hgm) (by omega) ht0 (by omega) dX.part) rfl ?_;clear H;rintro v40 KN Fp a w ⟨b40,rfl,hb3,hb4⟩ Bg H;refine kH H (Rn rfl (Kz bR (Cd rfl ?_ ?_))) <;> clear H bR
   ·intro AV a H
    try have p41:=dT AV
    refine kP H (SR fun _ bP=>ak bP rfl ?_);clear H bP;intro a H;refine lr H results97 rfl ?_
    first
     | exact H.hp.gM (L':=Fj) (by repeat (first|exact iD _|apply List.Sublist.cons)) ⟨_,rfl,fun e=>(by cases e),fun _=>hb2 (by simpa using h21)⟩
     | exact H.hp.gM (L':=Fp) (by repeat (first|exact iD _|apply List.Sublist.cons)) ⟨_,rfl,fun e=>(by cases e),fun _=>hb4 (by simpa using AV)⟩
     | exact H.hp.gM (L':=Fq) (by repeat (first|exact iD _|apply List.Sublist.cons)) ⟨_,rfl,fun e=>(by cases e),fun _=>hb6 (by simpa using uy)⟩
     | exact H.hp.gM (L':=Lt) (by repeat (first|exact iD _|apply List.Sublist.cons)) ⟨_,rfl,fun _=>(by rw [iC (by omega),jk] at dX;have:=dX.len;simp only [List.length_nil,sJ] at this;rw [← this];exact dX.now),fun e=>(by cases e)⟩
   intro AV a H
   try have p41:=dF AV
   refine kP H (Kc K9 (SC (Rd rfl (Rm rfl ?_))));clear H K9;intro a H;refine aH ?_;refine dw ((k+1,j1+((jk true t l[k].flow).length+1),Fp,KN)) (by exact (H.dU (Pl:=[_,_]) (cK:=[_]) [1] (by decide) rfl).sub ⟨rfl,rfl,rfl,rfl,rfl,aB⟩) ?_ ?_
   ·(try dsimp only);exact ⟨by omega,fun b o h=>Bg b o (hgm b o h),dX.jump (hb3 (by simpa using AV))⟩
   first|omega|(dsimp only;omega)
  intro qh a H
  try have p30:=dF qh
  refine kP H (SR fun _ dJ=>Rc rfl (ak dJ rfl (Cd rfl ?_ ?_))) <;> clear H dJ
  ·intro Cy a H
   try have p42:=dT Cy
   rw [ah p30,au p42] at dX;refine kP H (SR fun _ dN=>aR qg qz 0 rfl rfl (Rl mG rfl (Rm rfl (Kz dN (SB ?_)))));clear H dN;intro a H;skip;refine eZ (ι:=Nat × Nat × OL × GH) (Tc:=[(3,_),(6,_),(22,_),(23,_),(24,_),(45,_),(46,_)]) (Lc:=[(_,_),(_,_)]) (fun gh=>[(47,vi gh.1)]) (fun gh=>[]++gh.2.2.1) (fun gh=>gh.2.2.2) (fun gh=>gh.1≤l[k].rows.length∧(∀ b o,G b=some o→gh.2.2.2 b=some o)∧Now xs zu J (j0+((jk note t l).length+1)) gh.2.1 (rC note t (l[k].rows.drop gh.1)++jk note t (l.drop (k+1))) gh.2.2.2 gh.2.2.1) (fun gh=>l[k].rows.length - gh.1) ((0,j1,Lt,g)) (by exact (H).sub ⟨rfl,rfl,rfl,rfl,rfl,rfl,rfl,rfl,aB⟩) ?_ ?_
   ·exact ⟨by omega,hgm,dX⟩
   clear H;intro gh a w hI H;obtain ⟨rk,j3,Lt3,g3⟩:=gh;dsimp only at hI H;obtain ⟨JB,zN,qO⟩:=hI;dsimp only [lca,aZ] at H;refine kP H (SR fun _ dx=>Rc rfl (Kz dx (SQ fun _ eu=>Cd rfl ?_ ?_))) <;> clear H dx
   ·intro h48 a H
    try have p48:=dT h48
    have hk3:rk < l[k].rows.length:=by omega
    obtain ⟨b2,o2,qA,qn,qc,eA,en,ec,zA,zn,zc,cA,cn,cc,rfl,hrow,zR,hcl⟩:=GV hk3 hrw.at_;replace hrow:=fun j u hj=>aK zN (hrow j u hj);have hcn:=hcl.len;rw [bT] at hcn;subst hcn;have hsz2:=KF hk3;have hcs:=Hz l[k].rows[rk].cells;rw [lG hk3] at qO
    simp only [rC,ajb,ou] at qO
    refine kP H (Kc eu (SQ fun _ gy=>SB (SR fun _ fu=>Ri mG jQ rfl rfl ?_)));clear H eu;intro a H;refine bD jQ (cs:=[_,_,_,_,_,_]) H wn rfl rfl (fun j v hj=>H.hp.aJ (hrow j v hj)) rfl ?_;clear H;intro a H;refine eU jQ H wn rfl ?_;clear H;intro b12 a w Bc H;refine bF jQ 0 (vs:=[_,_,_,_,_,_]) _ H wn rfl rfl rfl rfl rfl rfl rfl rfl ?_;clear H;intro w H;dsimp only [List.set,setRow] at H;refine fu _ _ ?_;clear fu;refine kP H (SR fun _ gD=>aR vC vQ 0 rfl rfl (Rl pU rfl (Rm rfl (Kz gD (SB ?_)))));clear H gD;intro a H;skip;refine eZ (ι:=Nat × Nat × OL × GH) (Tc:=[(3,_),(6,_),(22,_),(23,_),(24,_),(45,_),(46,_),(47,_),(52,_),(53,_)]) (Lc:=[(_,_),(_,_),(_,_)]) (fun gh=>[(54,vi gh.1)]) (fun gh=>[]++gh.2.2.1) (fun gh=>gh.2.2.2) (fun gh=>gh.1≤l[k].rows[rk].cells.length∧(∀ b o,G b=some o→gh.2.2.2 b=some o)∧Now xs zu J (j0+((jk note t l).length+1)) gh.2.1 (sw note t (l[k].rows[rk].cells.drop gh.1)++(rC note t (l[k].rows.drop (rk+1))++jk note t (l.drop (k+1)))) gh.2.2.2 gh.2.2.1) (fun gh=>l[k].rows[rk].cells.length - gh.1) ((0,j3,Lt3,g3)) (by exact (H).sub ⟨rfl,rfl,rfl,rfl,rfl,rfl,rfl,rfl,rfl,rfl,rfl,aB⟩) ?_ ?_
    ·exact ⟨by omega,zN,qO⟩
    clear H;intro gh a w hI H;obtain ⟨ck,j4,Lt4,g4⟩:=gh;dsimp only at hI H;obtain ⟨hck,Gd,rV⟩:=hI;dsimp only [lca,aZ] at H;refine kP H (SR fun _ jc=>Rc rfl (Kz jc (SQ fun _ kg=>Cd rfl ?_ ?_))) <;> clear H jc
    ·intro kN a H
     try have p55:=dT kN
     have hk4:ck < l[k].rows[rk].cells.length:=by omega
     obtain ⟨b3,o3,sA,sn,sc,tA,tn,tc,uA,un,uc,gA,gn,gc,rfl,hrow,hch,hcf⟩:=FB hk4 hcl.at_;replace hrow:=fun j u hj=>aK Gd (hrow j u hj);have Oa:=KE hk4;rw [lG hk4] at rV
     simp only [sw,aiX,ou] at rV
     refine kP H (Kc kg (SQ fun _ jR=>SB (SR fun _ jy=>Ri pU lT rfl rfl ?_)));clear H kg;intro a H;refine bD lT (cs:=[_,_,_,_,_,_,_]) H wn rfl rfl (fun j v hj=>H.hp.aJ (hrow j v hj)) rfl ?_;clear H;intro a H;refine eU lT H wn rfl ?_;clear H;intro b14 a w Nt H;refine bF lT 0 (vs:=[_,_,_,_,_,_,_]) _ H wn rfl rfl rfl rfl rfl rfl rfl rfl ?_;clear H;intro w H;dsimp only [List.set,setRow] at H;refine jy _ _ ?_;clear jy;refine kP H (SR fun _ kE=>aR FX aG 0 rfl rfl (aR Ej gZ 0 rfl rfl (aR MB xg 3 rfl rfl (aR FN aG 3 rfl rfl (Rd rfl ?_)))));clear H;intro a H;refine jJ Bw [_,_,_] H wn rfl rfl rfl rfl ?_;clear H;intro a H;refine kH H (Rm rfl ?_);clear H;intro a H;refine gN Mx (Li:=[_,_,_,_]) (L:=Lt4) H wn rfl (ih fv Gi xs J Jx _ _ _ j4 l[k].rows[rk].cells[ck].flow l[k].rows[rk].cells[ck].id false note (t+1) _ (fun b o h=>Gd b o (hGi b o h)) hcb uz hJx rV.now (Hp.owns (Li:=[_,_,_,_]) H.hp) (hcf.mono Gd) (by omega) (by omega) (by omega) rV.part) rfl ?_;clear H;rintro v69 Yw Fq a w ⟨b69,rfl,hb5,hb6⟩ aeS H;refine kH H (Rn rfl (Kz kE (Cd rfl ?_ ?_))) <;> clear H kE
     ·intro uy a H
      try have p70:=dT uy
      refine kP H (SR fun _ kF=>ak kF rfl ?_);clear H kF;intro a H;refine lr H results97 rfl ?_
      first
       | exact H.hp.gM (L':=Fj) (by repeat (first|exact iD _|apply List.Sublist.cons)) ⟨_,rfl,fun e=>(by cases e),fun _=>hb2 (by simpa using h21)⟩
       | exact H.hp.gM (L':=Fp) (by repeat (first|exact iD _|apply List.Sublist.cons)) ⟨_,rfl,fun e=>(by cases e),fun _=>hb4 (by simpa using AV)⟩
       | exact H.hp.gM (L':=Fq) (by repeat (first|exact iD _|apply List.Sublist.cons)) ⟨_,rfl,fun e=>(by cases e),fun _=>hb6 (by simpa using uy)⟩
       | exact H.hp.gM (L':=Lt) (by repeat (first|exact iD _|apply List.Sublist.cons)) ⟨_,rfl,fun _=>(by rw [iC (by omega),jk] at dX;have:=dX.len;simp only [List.length_nil,sJ] at this;rw [← this];exact dX.now),fun e=>(by cases e)⟩
     intro uy a H
     try have p70:=dF uy
     refine kP H (Kc jR (SC (Rd rfl (Rm rfl ?_))));clear H jR;intro a H;refine aH ?_;refine dw ((ck+1,j4+((jk note (t+1) l[k].rows[rk].cells[ck].flow).length+1),Fq,Yw)) (by exact (H.dU (Pl:=[_,_,_,_]) (cK:=[_,_,_]) [1,2,3] (by decide) rfl).sub ⟨rfl,rfl,rfl,rfl,rfl,rfl,rfl,rfl,rfl,rfl,rfl,aB⟩) ?_ ?_
     ·(try dsimp only);exact ⟨by omega,fun b o h=>aeS b o (Gd b o h),rV.jump (hb5 (by simpa using uy))⟩
     first|omega|(dsimp only;omega)
    intro kN a H
    try have p55:=dF kN
    refine dW ?_;refine gy _ _ ?_;clear gy;refine kP H (SC (Rd rfl (Rm rfl ?_)));clear H;intro a H;refine aH ?_;refine dw ((rk+1,j4,Lt4,g4)) (by exact (H.dU (Pl:=[_,_,_]) (cK:=[_,_]) [1,2] (by decide) rfl).sub ⟨rfl,rfl,rfl,rfl,rfl,rfl,rfl,rfl,aB⟩) ?_ ?_
    ·(try dsimp only);exact ⟨by omega,Gd,by rw [iC (by omega),sw,ko] at rV;exact rV⟩
    first|omega|(dsimp only;omega)
   intro h48 a H
   try have p48:=dF h48
   refine dW ?_;refine K9 _ _ ?_;clear K9;refine kP H (SC (Rd rfl (Rm rfl ?_)));clear H;intro a H;refine aH ?_;refine dw ((k+1,j3,Lt3,g3)) (by exact (H.dU (Pl:=[_,_]) (cK:=[_]) [1] (by decide) rfl).sub ⟨rfl,rfl,rfl,rfl,rfl,aB⟩) ?_ ?_
   ·(try dsimp only);exact ⟨by omega,zN,by rw [iC (by omega),rC,ko] at qO;exact qO⟩
   first|omega|(dsimp only;omega)
  intro Cy a H
  try have p42:=dF Cy
  refine kP H (Kc K9 (SC (Rd rfl (Rm rfl ?_))));clear H K9;intro a H;refine aH ?_;refine dw ((k+1,j1,Lt,g)) (by exact (H.dU (Pl:=[_,_]) (cK:=[_]) [1] (by decide) rfl).sub ⟨rfl,rfl,rfl,rfl,rfl,aB⟩) ?_ ?_
  ·(try dsimp only);exact ⟨by omega,hgm,by rw [ah p30,ah p42,ko] at dX;exact dX⟩
  first|omega|(dsimp only;omega)
 intro kY a H
 try have p25:=dF kY
 refine dW ?_;refine K5 _ _ ?_;clear K5;refine kP H (SR fun _ jd=>ak jd rfl ?_);clear H jd;intro a H;refine lr H results97 rfl ?_
 first
  | exact H.hp.gM (L':=Fj) (by repeat (first|exact iD _|apply List.Sublist.cons)) ⟨_,rfl,fun e=>(by cases e),fun _=>hb2 (by simpa using h21)⟩
  | exact H.hp.gM (L':=Fp) (by repeat (first|exact iD _|apply List.Sublist.cons)) ⟨_,rfl,fun e=>(by cases e),fun _=>hb4 (by simpa using AV)⟩
  | exact H.hp.gM (L':=Fq) (by repeat (first|exact iD _|apply List.Sublist.cons)) ⟨_,rfl,fun e=>(by cases e),fun _=>hb6 (by simpa using uy)⟩
  | exact H.hp.gM (L':=Lt) (by repeat (first|exact iD _|apply List.Sublist.cons)) ⟨_,rfl,fun _=>(by rw [iC (by omega),jk] at dX;have:=dX.len;simp only [List.length_nil,sJ] at this;rw [← this];exact dX.now),fun e=>(by cases e)⟩
theorem XE:∀ n:Nat,n≤4294967297→KZ n
 | 0,_=>fun _ _ _ _ _ _ _ _ _ _ _ _ _ _ _ _ _ _ _ _ _ _ h=>absurd h (by omega)
 | n+1,hn=>ajd (XE n (by omega)) (by omega)
def Cw (l:List ay):List jL:=⟨0,l,true,false,0⟩ :: jk false 0 l
theorem adA {G:GH} {ba bl bp:Nat} {l:List ay} {v:aj} {id t:Int} {body note:Bool} (h1:aJ G ba 0=some (vi id)) (h2:aJ G bl 0=some v) (h3:G bp=some (.cells #[.bool body,.bool note,vi t] 106 (0,0))) (hv:av G (.sl 11 (l.map ay.dat)) v) (hz:bg l≤4294967296) (ht0:0≤t) (ht1:t+bg l≤4294967296) :
  Iter prog G (.func (.func 96) #[] #[(aI ba 0),(aI bl 0),(aI bp 0)]) ((⟨id,l,body,note,t⟩ :: jk note t l).map zu):=by
 intro J Jx fv G1 L w0 Uk hGi uz hJx hJ hO hcb;refine lZ (caps:=[(aI ba 0),(aI bl 0),(aI bp 0)]) SV ?_;replace h1:=aK hGi h1;replace h2:=aK hGi h2
 have hrow:∀ j u,[.bool body,.bool note,vi t][j]?=some u→aJ G1 bp (0+j)=some u:=by
  intro j u hj;refine aK hGi ?_
  unfold aJ;rw [h3];simpa using hj
 refine jN (N:=10) (T:=[(0,_),(1,_),(2,_),(3,_)]) func96 rfl ntmps96 rfl rfl hO ?_;intro a H;refine kP H (SC (Rg aG rfl (by assumption) ?_));clear H;intro a H;refine kH H (Rg gZ rfl (by assumption) ?_);clear H;intro a H;refine bD Kl (cs:=[_,_,_]) H wn rfl rfl (fun j v hj=>H.hp.aJ (hrow j v hj)) rfl ?_;clear H;intro a H;refine kH H (Rm rfl ?_);clear H;intro a H;refine gN Mx (Li:=[]) (L:=L) H wn rfl (XE 4294967297 (by omega) _ G1 _ J Jx G1 _ _ 0 l id body note t _ (fun _ _ h=>h) hcb uz hJx hJ (Hp.owns (Li:=[]) H.hp) (hv.mono hGi) (by omega) ht0 ht1 (fun i a h=>by rw [kK,pY,h];rfl)) rfl ?_;clear H;rintro v9 G9 L9 a w ⟨b9,rfl,h1,h2⟩ wI H;refine aH ?_;refine (leave0 H results96 ?_).2
 cases b9
 ·exact H.hp.eB (.inr (h2 rfl))
 exact H.hp.eB (.inl (by simpa using h1 rfl))
theorem adC (G:GH) (w0:World) (hG:Hold G w0) (l:List ay) (v:aj) (id t:Int) (body note:Bool) (hv:av G (.sl 11 (l.map ay.dat)) v) (hz:bg l≤4294967296) (ht0:0≤t) (ht1:t+bg l≤4294967296) :
  Calls prog 62 #[vi id,v,.agg #[.bool body,.bool note,vi t]] w0 (bC w0 G fun u G'=>∃ ba bl bp,u=.func (.func 96) #[] #[(aI ba 0),(aI bl 0),(aI bp 0)]∧Iter prog G' u ((⟨id,l,body,note,t⟩ :: jk note t l).map zu)):=by
 obtain ⟨A,c,rfl,hc1,hc2,hg⟩:=hv.slice;refine eN [(0,_),(1,_),(2,_)] func62 rfl ntmps62 rfl rfl hG ?_;intro a H;refine cO (fun _ K1=>?_);refine fC (cs:=[_]) H wn rfl rfl rfl ?_;clear H;intro b3 a w hb3 H;refine fC (cs:=[_]) H wn rfl rfl rfl ?_;clear H;intro b4 a w hb4 H;refine fC (cs:=[_,_,_]) H wn rfl rfl rfl ?_;clear H;intro b5 a w hb5 H;refine kH H (ak K1 rfl (SR fun _ K2=>?_));clear H K1;intro a H;refine pO H wn rfl rfl ?_;clear H;intro a H;refine kH H (ak K2 rfl ?_);clear H K2;intro a H;refine cu ?_;obtain ⟨G2,hm2,hb5,H⟩:=H.dP;obtain ⟨G3,NJ,hb4,H⟩:=H.dP;obtain ⟨G4,Ev,hb3,H⟩:=H.dP;refine lv H results62 rfl ?_;exact H.rt ⟨b3,b4,b5,rfl,adA (by unfold aJ;rw [hb3];rfl) (aK Ev (by unfold aJ;rw [hb4];rfl)) (Ev _ _ (NJ _ _ hb5)) (hv.mono fun b o h=>Ev _ _ (NJ _ _ (hm2 _ _ h))) hz ht0 ht1⟩
theorem agH (G:GH) (w0:World) (hG:Hold G w0) (D:nK) (l:List ay) (hv:av G (.sl 11 (l.map ay.dat)) (fq D.f)) (hz:bg l≤4294967296) :
  Calls prog 39 #[D.val] w0 (bC w0 G fun u G'=>∃ ba bl bp,u=.func (.func 96) #[] #[(aI ba 0),(aI bl 0),(aI bp 0)]∧Iter prog G' u ((Cw l).map zu)):=by
 refine eN [(0,_)] func39 rfl ntmps39 rfl rfl hG ?_;intro a H;refine cO (fun _ K1=>?_);refine fC (cs:=[_,_,_,_,_,_,_,_,_,_,_]) H wn rfl rfl rfl ?_;clear H;intro b1 a w hb1 H;refine kH H (ak K1 rfl (SR fun _ K2=>aR Cr gZ 0 rfl rfl ?_));clear H K1;intro a H;refine jJ Bw [_,_,_] H wn rfl rfl rfl rfl ?_;clear H;intro a H;refine s_call acg H wn rfl (adC _ _ H.ro l _ 0 0 true false hv hz (by omega) (by omega)) rfl ?_;clear H;rintro v6 G6 a w ⟨ba,bl,bp,rfl,hit⟩ Jq H;exact kH H (ak K2 rfl (LR results39 rfl fun H=>H.rt ⟨ba,bl,bp,rfl,hit⟩))
end
section
open Go.RowKit
theorem ru:Ty prog 38 11 232 [.slice none 0 0,.slice none 0 0,.int .i64 0,.int .i64 0,.slice none 0 0,.slice none 0 0,.slice none 0 0,.slice none 0 0,.slice none 0 0,.slice none 0 0,.slice none 0 0] true:=⟨by kernel_rfl,by kernel_rfl⟩
theorem abU:∀ args w,(callFunc 39 args).run prog w=.ok (.enter 39 args) w:=enters func39 rfl (by kernel_rfl)
theorem Xo:Ty prog 108 4 40 [.slice none 0 0,.bool false,.bool false,.int .i64 0] true:=⟨by kernel_rfl,by kernel_rfl⟩
theorem acU:bV prog 108 0 0:=⟨by kernel_rfl⟩
mutual
theorem aja {note:Bool} {t:Int} {f:jL}:∀ {x:ay},f∈Al note t x→bg f.items < cB x.dat
 | .mk k c i tx h fl r,hf=>by
  have h4:=nZ (.mk k c i tx h fl r)
  simp only [ay.text,ay.head,ay.flow,ay.rows] at h4
  rw [Al] at hf
  split at hf
  ·rcases lX.1 hf with rfl|hf
   ·show bg fl < _;omega
   have:=KC hf;omega
  split at hf
  ·have:=XD hf;omega
  cases hf
theorem KC {note:Bool} {t:Int} {f:jL}:∀ {l:List ay},f∈jk note t l→bg f.items≤bg l
 | [],hf=>by simp [jk] at hf
 | x :: l,hf=>by
  rw [jk] at hf
  simp only [bg,eY,eD]
  rcases lF.1 hf with hf|hf
  ·have:=aja hf;simp only [bg] at this;omega
  have:=KC hf;simp only [bg] at this;omega
theorem XD {note:Bool} {t:Int} {f:jL}:∀ {l:List bO},f∈rC note t l→bg f.items≤gT l
 | [],hf=>by simp [rC] at hf
 | x :: l,hf=>by
  rw [rC] at hf
  simp only [gT,eY,eD]
  rcases lF.1 hf with hf|hf
  ·have:=ajc hf;simp only [bg] at *;omega
  have:=XD hf;simp only [bg,gT] at *;omega
theorem ajc {note:Bool} {t:Int} {f:jL}:∀ {x:bO},f∈Am note t x→bg f.items≤cB x.dat
 | .mk h cs,hf=>by
  have h4:=Ar (.mk h cs)
  simp only [bO.head,bO.cells] at h4
  rw [Am] at hf;have:=XC hf;omega
theorem XC {note:Bool} {t:Int} {f:jL}:∀ {l:List bN},f∈sw note t l→bg f.items≤iZ l
 | [],hf=>by simp [sw] at hf
 | x :: l,hf=>by
  rw [sw] at hf
  simp only [iZ,eY,eD]
  rcases lF.1 hf with hf|hf
  ·have:=aiY hf;simp only [bg] at *;omega
  have:=XC hf;simp only [bg,iZ] at *;omega
theorem aiY {note:Bool} {t:Int} {f:jL}:∀ {x:bN},f∈Ak note t x→bg f.items≤cB x.dat
 | .mk i h fl,hf=>by
  have h4:=Aq (.mk i h fl)
  simp only [bN.head,bN.flow] at h4
  rw [Ak] at hf
  rcases lX.1 hf with rfl|hf
  ·show bg fl≤_;omega
  have:=KC hf;omega
end
theorem adB {f:jL} {l:List ay} (h:f∈Cw l):bg f.items≤bg l:=by
 rcases lX.1 h with rfl|h
 ·exact bU _
 exact KC h
def AQ (l:List ay) (id:Int):Option (List ay):=((Cw l).find? fun f=>decide (f.id=id)).map jL.items
theorem adt {α:Type} {p:α→Bool} {A:List α} {k:Nat} (hk:k < A.length) (h:(A.take k).find? p=none) (hp:p A[k]=false):(A.take (k+1)).find? p=none:=by
 rw [jE hk,List.find?_append,h]
 simp [hp]
theorem adu {α:Type} {p:α→Bool} {A:List α} {k:Nat} (hk:k < A.length) (h:(A.take k).find? p=none) (hp:p A[k]=true):A.find? p=some A[k]:=by
 have e:A.find? p=(A.take k++A.drop k).find? p:=by rw [List.take_append_drop]
 rw [e,List.find?_append,h,lG hk,List.find?_cons,hp]
 rfl
theorem TL {α:Type} {p:α→Bool} {A:List α} (h:(A.take A.length).find? p=none):A.find? p=none:=by rwa [yY] at h
theorem TP {A:List jL} {k:Nat} {args:List aj} {g:GH} (h:tQ (A.map zu) k args g):∃ (hk:k < A.length) (a:Option Addr) (n c:Nat),args=[vi A[k].id,.agg #[.slice a n c,.bool A[k].body,.bool A[k].note,vi A[k].tables]]∧av g (.sl 11 (A[k].items.map ay.dat)) (.slice a n c):=by
 obtain ⟨p,hp,hargs⟩:=h;rw [pY] at hp;obtain ⟨q,hq,rfl⟩:=lD.1 hp;obtain ⟨hk,rfl⟩:=iX.1 hq;obtain ⟨v,h1,h2⟩:=hargs;obtain ⟨a,n,c,rfl⟩:=h2.form;exact ⟨hk,a,n,c,h1,h2⟩
theorem adz (G:GH) (w0:World) (hG:Hold G w0) (D:nK) (l:List ay) (id:Int) (hv:av G (.sl 11 (l.map ay.dat)) (fq D.f)) (hz:bg l≤4294967296) :
  Calls prog 17 #[D.val,vi id] w0 (bC w0 G fun u G'=>∃ v,u=.tuple #[v,.bool (AQ l id).isSome]∧av G' (.sl 11 (((AQ l id).getD []).map ay.dat)) v):=by
 refine eN [(0,_),(1,_)] func17 rfl ntmps17 rfl rfl hG ?_;intro a H;refine cO (fun _ K1=>?_);refine fC (cs:=[_,_,_,_,_,_,_,_,_,_,_]) H wn rfl rfl rfl ?_;clear H;intro b2 a w hb2 H;refine fC (cs:=[_]) H wn rfl rfl rfl ?_;clear H;intro b3 a w hb3 H;refine eU gZ H wn rfl ?_;clear H;intro b4 a w hb4 H;refine eU xg H wn rfl ?_;clear H;intro b5 a w hb5 H;refine K1 _ _ ?_;clear K1;refine bq (fun _ K2=>?_);refine cO (fun _ K3=>?_);refine bD ru (cs:=[_,_,_,_,_,_,_,_,_,_,_]) H wn rfl rfl (H.hp.dY 3 rfl rfl) rfl ?_;clear H;intro a H;refine s_call abU H wn rfl (agH _ _ H.ro D l hv hz) rfl ?_;clear H;rintro v9 G9 a w ⟨ba,bl,bp,rfl,hit⟩ wI H;refine K3 _ _ ?_;clear K3;refine xK ?_;skip;refine RI (ι:=Unit) (κ:=aj) (Lc:=[(_,_),(_,_)]) (fun (k:Nat) (gh:Unit)=>[(b4,.cells #[.slice none 0 0] 22 (0,0)),(b5,.cells #[.bool false] 4 (0,0))]) (fun (k:Nat) (gh:Unit)=>[]) (fun (k:Nat) (gh:Unit) (g:GH)=>((Cw l).take k).find? (fun f=>decide (f.id=id))=none) (fun (gx:aj)=>Code.ret) (fun (gx:aj)=>[(b4,.cells #[gx] 22 (0,0)),(b5,.cells #[.bool true] 4 (0,0))]) (fun (gx:aj)=>[]) (fun (gx:aj) (g:GH)=>∃ f,AQ l id=some f∧av g (.sl 11 (f.map ay.dat)) gx) (()) (by exact H.dU (Pl:=[_,_,_,_]) (cK:=[_,_,_,_]) [2,3,1,0] (by decide) rfl) rfl SV (hit) (fun _ _ h=>h) rfl (fun k args g h=>by obtain ⟨_,_,_,_,rfl,_⟩:=TP h;rfl) (fun _ _ _ _ _ h=>h) (fun x G G' hm h=>let ⟨f,h1,h2⟩:=h;⟨f,h1,h2.mono hm⟩) (rfl) ?_ ?_ ?_
 ·clear H;intro l2 Bp xJ bk k args gh G2 w2 F2 B2 a hk2 hm2 hI Ny Ju UU H;obtain ⟨hk,vA,vn,vc,rfl,hrep⟩:=TP hk2;dsimp only [vW,List.cons_append,List.nil_append] at H;refine kP H (SR fun _ K4=>ak K4 rfl (SC ?_));clear H K4;intro a H;refine eU Xo H wn rfl ?_;clear H;intro b7 a w CO H;refine bF Xo 0 (vs:=[_,_,_,_]) _ H wn rfl rfl rfl rfl rfl rfl rfl rfl ?_;clear H;intro w H;dsimp only [List.set,setRow] at H;refine aH ?_;refine Ny _ _ _ _ _ _ (by exact H.dU (Pl:=[_,_,_,_,_,_]) (cK:=[_,_,_,_,_,_]) [1,0,2,3,4,5] (by decide) rfl) ?_;clear H;intro w H;refine kP H (SB (SR fun _ K5=>Rm rfl (Ro aG 2 rfl (Rc rfl (Kz K5 (Cd rfl ?_ ?_)))))) <;> clear H K5
  ·intro dO a H
   try have lQ:=dT dO
   refine kP H (SR fun _ K6=>aR acU gZ 1 rfl rfl ?_);clear H;intro a H;refine s_call Mr H wn rfl (aam _ _ H.ro _ _ hrep (by have:=adB (iQ hk);omega)) rfl ?_;clear H;rintro v17 yM a w UE qo H;obtain ⟨X4,n17,c17,rfl⟩:=UE.form;refine bF gZ 4 (vs:=[_]) _ H wn rfl rfl rfl rfl rfl rfl rfl rfl ?_;clear H;intro w H;dsimp only [List.set,setRow] at H;refine bF xg 5 (vs:=[_]) _ H wn rfl rfl rfl rfl rfl rfl rfl rfl ?_;clear H;intro w H;dsimp only [List.set,setRow] at H;refine K6 _ _ ?_;clear K6;refine cu ?_;refine (UU (.slice X4 n17 c17) _ _ _ _ _ (by exact H.dU (Pl:=[_,_,_,_,_,_]) (cK:=[_,_,_,_,_]) [0,2,3,4,5] (by decide) rfl) ?_).1 rfl;exact ⟨_,by unfold AQ;rw [adu hk hI dO];rfl,UE⟩
  intro dO a H
  refine fO ?_;refine Ju (()) _ _ _ _ _ (by exact H.dU (Pl:=[_,_,_,_,_,_]) (cK:=[_,_,_,_,_]) [0,2,3,4,5] (by decide) rfl) ?_;exact adt hk hI dO
 ·clear H;intro Qf gh Qn a w hm2 hI H;dsimp only [lca,aZ] at H;refine K2 _ _ ?_;clear K2;refine cO (fun _ K7=>?_);refine bF gZ 3 (vs:=[_]) _ H wn rfl rfl rfl rfl rfl rfl rfl rfl ?_;clear H;intro w H;dsimp only [List.set,setRow] at H;refine bF xg 4 (vs:=[_]) _ H wn rfl rfl rfl rfl rfl rfl rfl rfl ?_;clear H;intro w H;dsimp only [List.set,setRow] at H;refine K7 _ _ ?_;clear K7;refine cu ?_;refine (GK H 0 rfl ?_).1;clear H;intro a w H;dsimp only [List.eraseIdx_cons_succ,List.eraseIdx_cons_zero] at H;refine (eT H results17 (.cons (sj gZ H rfl (H.hp.mY 2 rfl rfl)) (.cons (sj xg H rfl (H.hp.mY 3 rfl rfl)) .nil)) ?_).1;exact H.rt ⟨_,by unfold AQ;rw [TL (by simpa using hI)];rfl,by unfold AQ;rw [TL (by simpa using hI)];exact av.jf rfl (by decide)⟩
 clear H;intro Qf gx Qn a w hm2 hI H;obtain ⟨x,hgh⟩:∃ x,x=gx:=⟨_,rfl⟩;subst hgh;dsimp only [lca,aZ] at H;obtain ⟨f,hf,hrep⟩:=hI;obtain ⟨xA,xn,xc,rfl⟩:=hrep.form;refine cu ?_;refine (GK H 0 rfl ?_).1;clear H;intro a w H;dsimp only [List.eraseIdx_cons_succ,List.eraseIdx_cons_zero] at H;refine (eT H results17 (.cons (sj gZ H rfl (H.hp.mY 2 rfl rfl)) (.cons (sj xg H rfl (H.hp.mY 3 rfl rfl)) .nil)) ?_).1;exact H.rt ⟨_,by rw [hf];rfl,by rw [hf];exact hrep⟩
end
section
open Go.RowKit
def jq (xs:Array aj) (o:Nat):Option Int:=match xs[o]? with|some (.int .i64 n)=>some n|_=>none
def GJ (u:Option TypeDesc):Bool:=match u with|some (.int .i64)=>true|_=>false
structure yK (P:Program) (t:TypeId) (gu:List Nat):Prop where
 und:P.underlying t=some (.struct (P.fieldsOf t))
 held:P.stoodInHeld t=false
 guard:P.eqGuardType P.depth t=false
 sU:(P.fieldsOf t).toList.map (·.offset)=gu
 ok:(P.fieldsOf t).toList.all (fun f=>decide (f.name ≠ "_") && P.plainKey f.type && GJ (P.underlying f.type))=true
theorem O8 {P:Program} {w:World} {d:Nat} {xs ys:Array aj}:∀ fs:List Field,fs.all (fun f=>decide (f.name ≠ "_") && P.plainKey f.type && GJ (P.underlying f.type))=true →
  (fs.map (·.offset)).all (fun o=>(jq xs o).isSome && (jq ys o).isSome)=true→(Op.eqFields (d+1) xs ys fs).run P w=.ok ((fs.map (·.offset)).all fun o=>jq xs o == jq ys o) w
 | [],_,_=>by simp [Op.eqFields]
 | f :: fs,h1,h2=>by
  simp only [List.all_cons,kJ,oq,eY] at h1 h2
  obtain ⟨⟨⟨hn,hp⟩,hi⟩,h1⟩:=h1
  obtain ⟨⟨hx,hy⟩,h2⟩:=h2
  have ih:=O8 (w:=w) (d:=d) fs (by simpa using h1) h2
  unfold GJ at hi
  split at hi
  ·rename_i hu
   unfold jq at hx hy
   split at hx
   ·rename_i m hxm
    split at hy
    ·rename_i m2 hym
     have e1:jq xs f.offset=some m:=by unfold jq;rw [hxm]
     have e2:jq ys f.offset=some m2:=by unfold jq;rw [hym]
     simp only [Op.eqFields,hn,ne_eq,not_false_eq_true,if_true,bX,run_part_plain w hp hxm,run_part_plain w hp hym,jD,run_equalIn_int w d f.type .i64 .i64 m m2 hu,eY,List.all_cons,e1,e2]
     by_cases e:m=m2
     ·subst e;simp [ih,List.all_map]
     ·simp [e]
    ·simp at hy
   ·simp at hx
  ·simp at hi
def jF (xs:Array aj) (o:Nat × Bool):Option (Int × Bool):=match xs[o.1]?,o.2 with|some (.int .i64 n),false=>some (n,false)|some (.bool b),true=>some (0,b)|_,_=>none
def yg (u:Option TypeDesc) (b:Bool):Bool:=match u,b with|some (.int .i64),false=>true|some .bool,true=>true|_,_=>false
structure Ic (P:Program) (t:TypeId) (gu:List (Nat × Bool)):Prop where
 und:P.underlying t=some (.struct (P.fieldsOf t))
 held:P.stoodInHeld t=false
 guard:P.eqGuardType P.depth t=false
 sU:(P.fieldsOf t).toList.map (fun f=>(f.offset,yg (P.underlying f.type) true))=gu
 ok:(P.fieldsOf t).toList.all (fun f=>decide (f.name ≠ "_") && P.plainKey f.type && yg (P.underlying f.type) (yg (P.underlying f.type) true))=true
theorem Wq {P:Program} {w:World} {d:Nat} {xs ys:Array aj}:∀ fs:List Field,fs.all (fun f=>decide (f.name ≠ "_") && P.plainKey f.type && yg (P.underlying f.type) (yg (P.underlying f.type) true))=true →
  (fs.map (fun f=>(f.offset,yg (P.underlying f.type) true))).all (fun o=>(jF xs o).isSome && (jF ys o).isSome)=true→(Op.eqFields (d+1) xs ys fs).run P w=.ok ((fs.map (fun f=>(f.offset,yg (P.underlying f.type) true))).all fun o=>jF xs o == jF ys o) w
 | [],_,_=>by simp [Op.eqFields]
 | f :: fs,h1,h2=>by
  simp only [List.all_cons,kJ,oq,eY] at h1 h2
  obtain ⟨⟨⟨hn,hp⟩,hi⟩,h1⟩:=h1
  obtain ⟨⟨hx,hy⟩,h2⟩:=h2
  have ih:=Wq (w:=w) (d:=d) fs (by simpa using h1) h2
  obtain ⟨kb,hkb⟩:∃ kb,kb=yg (P.underlying f.type) true:=⟨_,rfl⟩
  rw [← hkb] at hi hx hy
  cases kb with
  | false =>
   have hu:P.underlying f.type=some (.int .i64):=by clear hkb ih h1 h2 hx hy;unfold yg at hi;split at hi <;> simp_all
   obtain ⟨m,hxm⟩:∃ m,xs[f.offset]?=some (.int .i64 m):=by clear hkb ih h1 h2 hi hy;unfold jF at hx;split at hx <;> simp_all
   obtain ⟨m2,hym⟩:∃ m,ys[f.offset]?=some (.int .i64 m):=by clear hkb ih h1 h2 hi hx;unfold jF at hy;split at hy <;> simp_all
   have e1:jF xs (f.offset,false)=some (m,false):=by unfold jF;rw [hxm]
   have e2:jF ys (f.offset,false)=some (m2,false):=by unfold jF;rw [hym]
   simp only [Op.eqFields,hn,ne_eq,not_false_eq_true,if_true,bX,run_part_plain w hp hxm,run_part_plain w hp hym,jD,run_equalIn_int w d f.type .i64 .i64 m m2 hu,eY,List.all_cons,← hkb,e1,e2]
   by_cases e:m=m2
   ·subst e;simp [ih,List.all_map]
   ·simp [e]
  | true =>
   have hu:P.underlying f.type=some .bool:=by clear hkb ih h1 h2 hx hy;unfold yg at hi;split at hi <;> simp_all
   obtain ⟨m,hxm⟩:∃ m,xs[f.offset]?=some (.bool m):=by clear hkb ih h1 h2 hi hy;unfold jF at hx;split at hx <;> simp_all
   obtain ⟨m2,hym⟩:∃ m,ys[f.offset]?=some (.bool m):=by clear hkb ih h1 h2 hi hx;unfold jF at hy;split at hy <;> simp_all
   have e1:jF xs (f.offset,true)=some (0,m):=by unfold jF;rw [hxm]
   have e2:jF ys (f.offset,true)=some (0,m2):=by unfold jF;rw [hym]
   simp only [Op.eqFields,hn,ne_eq,not_false_eq_true,if_true,bX,run_part_plain w hp hxm,run_part_plain w hp hym,jD,run_equalIn_bool' w d f.type m m2 hu,eY,List.all_cons,← hkb,e1,e2]
   by_cases e:m=m2
   ·subst e;simp [ih,List.all_map]
   ·simp [e]
section
variable {N:Nat} {D:List Deferred} {w0:World} {F:Nat→Prop} {G0 G:GH} {L:List (Nat × Obj)} {T:List (Nat × aj)}
variable {r:Option Nat} {P:Program} {ops:Array Oper} {Q:Exit→Act→World→Prop} {rest:List Oper} {a:Act} {w:World}
variable {d:Nat} {ty:TypeId} {pos:String} {aM:Array Edge} {g:Option (Nat × Bool)}
theorem Bt {t yt:TypeId} {x y:Operand} {p q:ByteArray} (H:St N D w0 F G0 G L T a w) (hw:Region.wanted ⟨some d,.binOp .eql t x y yt,ty,pos,aM,g⟩ (yielded ops a.tmps)=true) (hx:ev T x=some (.string p)) (hy:ev T y=some (.string q)) (hd:Nat.blt d N=true)
  (k:∀ a',St N D w0 F G0 G L ((d,.bool (p.toList == q.toList)) :: T) a' w→WL r P ops Q rest a' w):WL r P ops Q (⟨some d,.binOp .eql t x y yt,ty,pos,aM,g⟩ :: rest) a w:=by
 refine fF (v:=.bool (p.toList == q.toList)) (w':=w) hw rfl ?_ (k _ (H.put hd _ H.hp))
 simp [execOp,H.ev hx,H.ev hy,bX,eqGuard,binOp,Op.stringOp]
theorem Pn {op:BinOp} {t yt:TypeId} {gu:List (Nat × Bool)} (ho:op=.eql∨op=.neq) (he:Ic P t gu) {x y:Operand} {xs ys:Array aj} (H:St N D w0 F G0 G L T a w) (hw:Region.wanted ⟨some d,.binOp op t x y yt,ty,pos,aM,g⟩ (yielded ops a.tmps)=true) (hx:ev T x=some (.agg xs)) (hy:ev T y=some (.agg ys))
  (hi:gu.all (fun o=>(jF xs o).isSome && (jF ys o).isSome)=true) (hd:Nat.blt d N=true)
  (k:∀ a',St N D w0 F G0 G L ((d,.bool (if op=.eql then gu.all fun o=>jF xs o == jF ys o else !(gu.all fun o=>jF xs o == jF ys o))) :: T) a' w→WL r P ops Q rest a' w):WL r P ops Q (⟨some d,.binOp op t x y yt,ty,pos,aM,g⟩ :: rest) a w:=by
 have h1:=Wq (P:=P) (w:=w) (d:=9998) (xs:=xs) (ys:=ys) _ he.ok (by rw [he.sU];exact hi)
 rw [he.sU] at h1
 rcases ho with rfl|rfl
 ·refine fF (v:=_) (w':=w) hw rfl ?_ (k _ (H.put hd _ H.hp))
  simp only [execOp,H.ev hx,H.ev hy,bX,run_eqGuard_agg w .eql t x y xs ys he.guard,jD,run_eql_struct,run_equalIn_struct w 9999 t xs ys he.und he.held,h1]
  rfl
 ·refine fF (v:=_) (w':=w) hw rfl ?_ (k _ (H.put hd _ H.hp))
  simp only [execOp,H.ev hx,H.ev hy,bX,run_eqGuard_agg w .neq t x y xs ys he.guard,jD,run_neq_struct,run_equalIn_struct w 9999 t xs ys he.und he.held,h1]
  rfl
end
end
section
open Go.RowKit
theorem zV {α:Type} {p:α→Bool} {A:List α} {k:Nat} (hk:k < A.length) (h:(A.take k).findIdx? p=none) (hp:p A[k]=false):(A.take (k+1)).findIdx? p=none:=by
 rw [List.findIdx?_eq_none_iff] at h ⊢;rw [jE hk];intro x hx
 rcases lF.1 hx with hx|hx
 ·exact h x hx
 rw [rG.1 hx];exact hp
theorem tJ {α:Type} {p:α→Bool} {A:List α} {k:Nat} (hk:k < A.length) (h:(A.take k).findIdx? p=none) (hp:p A[k]=true):A.findIdx? p=some k:=by
 have e:A.findIdx? p=(A.take k++A.drop k).findIdx? p:=by rw [List.take_append_drop]
 rw [e,List.findIdx?_append,h,lG hk,List.findIdx?_cons,hp]
 simp;omega
end
section
open Go.RowKit
theorem EO:DT prog 121:=⟨by kernel_rfl⟩
theorem u8B:U8 prog 5:=⟨by kernel_rfl⟩
theorem agb:liesAt prog prog.depth 121 (2 / prog.cellsOf 121) 0 121 1=true:=by kernel_rfl
theorem RO:prog.cellsOf 5=1:=by kernel_rfl
theorem VR (v:aj) (w:World):(callFunc 109 #[v]).run prog w=.ok (.value v) w:=ahu func109 (by kernel_rfl) (by kernel_rfl) (by kernel_rfl) (by kernel_rfl) v w
theorem yH:prog.underlying 118=some (.pointer 121):=by kernel_rfl
theorem Ky:prog.underlying 207=some .unsafePointer:=by kernel_rfl
theorem zm:bV prog 121 0 0:=⟨by kernel_rfl⟩
theorem Ag:Ty prog 118 1 8 [.pointer none] false:=⟨by kernel_rfl,by kernel_rfl⟩
theorem SL:∀ args w,(callFunc 74 args).run prog w=.ok (.enter 74 args) w:=enters func74 rfl (by kernel_rfl)
theorem Aj:prog.underlying 119=some (.slice 5):=by kernel_rfl
theorem xO:bV prog 121 1 1:=⟨by kernel_rfl⟩
theorem yE:Ty prog 119 1 24 [.slice none 0 0] false:=⟨by kernel_rfl,by kernel_rfl⟩
theorem Xq:prog.underlying 162=some (.pointer 5):=by kernel_rfl
abbrev bB (b:Nat) (p v:aj):Nat × Obj:=(b,.cells #[p,v] 121 (0,0))
theorem aax (G:GH) (L:OL) (w0:World) (b:Nat) (A:Option Addr) (n c:Nat) (hO:gW G (bB b (.pointer none) (.slice A n c) :: L) w0) :
  Calls prog 74 #[(aI b 0)] w0 (gF w0 G (bB b (.pointer none) (.slice A n c) :: L) fun u G' L'=>L'=bB b (aI b 0) (.slice A n c) :: L∧G'=G):=by
 refine jN (N:=20) (T:=[(0,_)]) func74 rfl ntmps74 rfl rfl hO ?_;intro a H;refine kP H (SR fun _ K1=>Rm rfl (Rk rfl (aR zm Ag 0 rfl rfl ?_)));clear H;intro a H;refine J6 yH H wn rfl rfl ?_;clear H;intro a H;refine K1 _ _ ?_;clear K1;refine kV H rfl ?_ ?_
 ·intro h6
  refine kP H (SC (Rm rfl (Rm rfl ?_)));clear H;intro a H;refine WM yH Ky EO H wn rfl 0 rfl rfl rfl ?_;clear H;intro a H;refine WE (xs:=[.tmp 9]) (VR _) H wn rfl rfl ?_;clear H;intro a H;refine Wz Ky yH EO H wn rfl 0 rfl agb rfl ?_;clear H;intro a H;refine kH H (Rk rfl (Rf zm rfl ?_));clear H;intro a H;refine bF Ag 0 (vs:=[_]) _ H wn rfl rfl rfl rfl rfl rfl rfl rfl ?_;clear H;intro w H;dsimp only [List.set,setRow] at H;refine aH ?_;refine (leave0 H results74 ?_).2;exact H.hp.eB ⟨rfl,rfl⟩
 intro h6
 exact absurd h6 (by decide)
theorem aay (G:GH) (L:OL) (w0:World) (b:Nat) (A:Option Addr) (n c:Nat) (hO:gW G (bB b (aI b 0) (.slice A n c) :: L) w0) :
  Calls prog 74 #[(aI b 0)] w0 (gF w0 G (bB b (aI b 0) (.slice A n c) :: L) fun u G' L'=>L'=bB b (aI b 0) (.slice A n c) :: L∧G'=G):=by
 refine jN (N:=20) (T:=[(0,_)]) func74 rfl ntmps74 rfl rfl hO ?_;intro a H;refine kP H (SR fun _ K1=>Rm rfl (Rk rfl (aR zm Ag 0 rfl rfl ?_)));clear H;intro a H;refine J6 yH H wn rfl rfl ?_;clear H;intro a H;refine K1 _ _ ?_;clear K1;refine kV H rfl ?_ ?_
 ·intro h6
  exact absurd h6 (by simp)
 intro h6
 refine kP H (SR fun _ K2=>Rm rfl (Rk rfl (aR zm Ag 0 rfl rfl (Rm rfl ?_))));clear H;intro a H;refine WC yH EO H wn rfl rfl rfl ?_;clear H;intro a H;refine K2 _ _ ?_;clear K2;refine kV H rfl ?_ ?_
 ·intro h19
  exact absurd h19 (by decide)
 intro h19
 refine fO ?_;refine (leave0 H results74 ?_).2;exact H.hp.eB ⟨rfl,rfl⟩
theorem aaz (G:GH) (L:OL) (w0:World) (b:Nat) (p:aj) (A:Option Addr) (n c:Nat) (hp:p=.pointer none∨p=(aI b 0)) (hO:gW G (bB b p (.slice A n c) :: L) w0) :
  Calls prog 74 #[(aI b 0)] w0 (gF w0 G (bB b p (.slice A n c) :: L) fun u G' L'=>L'=bB b (aI b 0) (.slice A n c) :: L∧G'=G):=by
 rcases hp with rfl|rfl
 ·exact aax G L w0 b A n c hO
 exact aay G L w0 b A n c hO
theorem ajf (G:GH) (Lo:OL) (w0:World) (b:Nat) (p v:aj) (n:Nat) (xs:List aj) (s:ByteArray) (hp:p=.pointer none∨p=(aI b 0)) (hO:gW G (bB b p v :: Lo) w0) (hrow:dD 5 1 v n xs Lo) (hn:n+s.size≤140737488355328) :
  Calls prog 48 #[(aI b 0),.string s] w0 (gF w0 G (bB b p v :: Lo) fun u G' L'=>∃ v' eO,L'=bB b (aI b 0) v' :: eO∧dD 5 1 v' (n+s.size) (xs++Lib.strCells s) eO∧G'=G):=by
 obtain ⟨A,c,rfl,-,-⟩:=hrow.shape;refine jN (N:=19) (T:=[(0,_),(1,_)]) func48 rfl ntmps48 rfl rfl hO ?_;intro a H;refine kP H (SR fun _ K1=>Ra rfl (ak K1 rfl (SR fun _ K2=>Rm rfl ?_)));clear H K1;intro a H;refine gN SL (Li:=[]) (L:=bB b p _ :: Lo) H wn rfl (aaz _ _ _ b p A n c hp (Hp.owns (Li:=[]) H.hp)) rfl ?_;clear H;rintro v7 _ L7 a w ⟨rfl,rfl⟩ zP H;dsimp only [List.nil_append] at H;refine K2 _ _ ?_;clear K2;refine kP H (SR fun _ K3=>Rm rfl (Rm rfl (Rk rfl (aR xO yE 0 rfl rfl (Rm rfl ?_)))));clear H;intro a H;refine ahz (Li:=[_]) (Lo:=Lo) Aj fP u8B H wn rfl rfl hrow hn rfl ?_;clear H;intro v14 QM a w GD H;obtain ⟨Qb,c14,rfl,-,-⟩:=GD.shape;refine kH H (Rk rfl (Rf xO rfl ?_));clear H;intro a H;refine bF yE 0 (vs:=[_]) _ H wn rfl rfl rfl rfl rfl rfl rfl rfl ?_;clear H;intro w H;dsimp only [List.set,setRow] at H;refine K3 _ _ ?_;clear K3;refine kP H (SR fun _ K4=>Rm rfl (Rv fP rfl (Ra rfl (ak K4 rfl ?_))));clear H K4;intro a H;refine cu ?_;refine (eT H results48 (.cons (aU H rfl) (.cons (aU H rfl) .nil)) ?_).1;exact H.hp.eB ⟨_,_,rfl,GD,rfl⟩
theorem aiy (G:GH) (Lo:OL) (w0:World) (b:Nat) (p v:aj) (l:List UInt8) (hO:gW G (bB b p v :: Lo) w0) (hrow:dD 5 1 v l.length (Lib.byteCells l) Lo) (h0:l≠[]) :
  Calls prog 49 #[(aI b 0)] w0 (gF w0 G (bB b p v :: Lo) fun u G' L'=>u=.string ⟨l.toArray⟩):=by
 rcases hrow.2 with ⟨-,h,-⟩|⟨b2,cap,cur,rfl,rfl,hc1,hc2,hc3,hc4⟩
 ·exact absurd (List.eq_nil_of_length_eq_zero h) h0
 have hl0:l.length≠0:=fun h=>h0 (List.eq_nil_of_length_eq_zero h);have hml:maxLen=9223372036854775807:=rfl;refine jN (N:=14) (T:=[(0,_)]) func49 rfl ntmps49 rfl rfl hO ?_;intro a H;refine kP H (SR fun _ K1=>ak K1 rfl (SQ fun _ K2=>?_));clear H K1;intro a H;have H:=H.sub (T':=[(0,_)]) ⟨rfl,aB⟩;refine dI hmx [[],[0],[0,1],[0,1,2],(ra 0 4),[],[5],[5,6],[5,6,7],(ra 5 4),(ra 0 10),(ra 0 11)] [10,11] (by kernel_rfl) [_,_,_,.slice (some ⟨b2,0,none⟩) l.length cap,(aI b2 0),_,_,_,.slice (some ⟨b2,0,none⟩) l.length cap,_] H (aD (Z0 rfl (Rm rfl)) (Z1 0 3 rfl (Rk rfl)) (Z1 1 4 rfl (Rf xO rfl)) (Z1 2 5 rfl (Ro yE 0 rfl)) (aD ?_ (Z0 rfl (Rm rfl)) (Z1 5 8 rfl (Rk rfl)) (Z1 6 9 rfl (Rf xO rfl)) (aD (Z1 7 10 rfl (Ro yE 0 rfl)) (Z1 8 11 rfl (Rl Aj rfl)) (bL rfl) (bL rfl) bY))) ?_
 ·refine dL 3 6 rfl rfl fun _ a w G1 hG HT H fin=>?_;refine WJ H wn rfl (by omega) rfl ?_;clear H;intro a H;exact fin H iJ rfl
 clear H;intro a w G mJ H hv;have H:=H.aQ (hv 4 7 rfl rfl) rfl;have H:=H.aQ (hv 9 12 rfl rfl) rfl;clear hv;refine WO (i:=1) l Xq RO h0 (by omega) H wn rfl rfl rfl (by rw [← hc4,Nat.mul_one]) rfl ?_;clear H;intro fz a w H;dsimp only [List.set] at H;refine kH H (Ra rfl ?_);clear H;intro a H;refine aH ⟨rfl,?_⟩;refine K2 _ _ ?_;clear K2;refine lr H results49 rfl ?_;exact H.hp.eB rfl
end
section
open Go.RowKit
def wO (p:Nat→Bool):Nat→Nat→Nat→Nat
 | 0,i,_=>i
 | f+1,i,j=>if i < j then (if p ((i+j) / 2) then wO p f i ((i+j) / 2) else wO p f ((i+j) / 2+1) j) else i
theorem afy {p:Nat→Bool} {f i j:Nat} (hf:j - i≤f) (h:i < j):wO p f i j=if p ((i+j) / 2) then wO p (f - 1) i ((i+j) / 2) else wO p (f - 1) ((i+j) / 2+1) j:=by
 match f,hf with
 | 0,hf=>omega
 | f+1,_=>rw [wO,au h];rfl
theorem afw {p:Nat→Bool} {f i j:Nat} (h:¬ i < j):wO p f i j=i:=by
 match f with
 | 0=>rfl
 | f+1=>rw [wO,ah h]
theorem afz {z:Int} (h1:0≤z) (h2:z < 18446744073709551616):IntKind.u64.wrap z=z:=by
 simp only [IntKind.wrap,IntKind.bits,IntKind.signed,tY,Ce,if_false]
 omega
theorem afx (n:Nat):((n:Nat):Int).fdiv (2 ^ 1)=((n / 2:Nat):Int):=by
 rw [Int.fdiv_eq_ediv_of_nonneg _ (by decide)];omega
def zi (a b:Int):Int:=if a < b then -1 else if b < a then 1 else 0
theorem RX {a b:Int}:zi a b < 0↔a < b:=by
 unfold zi
 split
 ·simp [*]
 ·split <;> simp_all
theorem aap {a b:Int}:zi a b=0↔a=b:=by
 unfold zi
 split
 ·omega
 ·split <;> omega
def xI (ks:List Int) (t:Int):Nat:=wO (fun h=>decide (¬ ks.getD h 0 < t)) ks.length 0 ks.length
def Bb (ks:List Int) (t:Int):Bool:=decide (ks[xI ks t]?=some t)
theorem aeg {ks:List Int} {t:Int} (h:Bb ks t=true):xI ks t < ks.length:=by
 have:=rH h
 exact (iX.1 this).1
theorem aef {ks:List Int} {t:Int} {n:Nat} (e:xI ks t=n) (h:n < ks.length):Bb ks t=decide (zi ks[n] t=0):=by
 unfold Bb
 rw [e,gP h]
 simp [aap]
theorem aeh {ks:List Int} {t:Int} {n:Nat} (e:xI ks t=n) (h:¬ n < ks.length):Bb ks t=false:=by
 unfold Bb
 rw [e,List.getElem?_eq_none (by omega)]
 simp
theorem getD_map {α:Type} {f:α→Int} {l:List α} {n:Nat} (h:n < l.length):(l.map f).getD n 0=f l[n]:=by
 simp [List.getD,h]
end
section
open Go.RowKit
structure QY (P:Program) (s n off:Nat):Prop where
 h:(match P.underlying s with|some (.struct fs)=>(fs[n]?).bind fun f=>((P.underlying f.type).map (fun|.struct _=>true|.array _ _=>true|_=>false)).map fun g=>(f.offset,g)|_=>none)=some (off,false)
theorem QY.parts {P:Program} {s n off:Nat} (h:QY P s n off):∃ fs fl u,P.underlying s=some (.struct fs)∧fs[n]?=some fl∧P.underlying fl.type=some u∧(match u with|.struct _=>true|.array _ _=>true|_=>false)=false∧fl.offset=off:=by
 obtain ⟨h⟩:=h
 split at h
 ·rename_i fs hs
  obtain ⟨fl,hf,h2⟩:=Option.bind_eq_some_iff.1 h
  obtain ⟨b,hb,h3⟩:=lD.1 h2
  obtain ⟨u,hu,h4⟩:=lD.1 hb
  simp only [gB] at h3
  refine ⟨fs,fl,u,hs,hf,hu,?_,h3.1⟩
  rw [← h3.2,← h4]
  cases u <;> rfl
 ·cases h
section
variable {N:Nat} {D:List Deferred} {w0:World} {F:Nat→Prop} {G0 G:GH} {L Li Lo:OL} {T:List (Nat × aj)}
variable {r:Option Nat} {P:Program} {ops:Array Oper} {Q:Exit→Act→World→Prop} {rest:List Oper} {a:Act} {w:World}
variable {d:Nat} {ty:TypeId} {pos:String} {aM:Array Edge} {g:Option (Nat × Bool)}
theorem Pv {t:TypeId} {x y:Operand} {s:ByteArray} {ky:IntKind} {p:Int} (lo:Nat) (ht:P.underlying t=some .string) (H:St N D w0 F G0 G L T a w) (hw:Region.wanted ⟨some d,.slice t x (some y) none none,ty,pos,aM,g⟩ (yielded ops a.tmps)=true) (hx:ev T x=some (.string s)) (hy:ev T y=some (.int ky p)) (hp:p=(lo:Int)) (h1:lo≤s.size) (hd:Nat.blt d N=true)
  (k:∀ a',St N D w0 F G0 G L ((d,.string (s.extract lo s.size)) :: T) a' w→WL r P ops Q rest a' w):WL r P ops Q (⟨some d,.slice t x (some y) none none,ty,pos,aM,g⟩ :: rest) a w:=by
 subst hp
 have hr:=run_slice_string_l (P:=P) w t s ht ky (lo:Int) (by omega) (by omega)
 rw [Int.toNat_natCast] at hr
 refine fF (v:=.string (s.extract lo s.size)) (w':=w) hw rfl ?_ (k _ (H.put hd _ H.hp))
 simp only [execOp,H.ev hx,Option.map_some,Option.map_none,H.ev hy,bX,run_sliceAt_string w t _ _ _ _ ht,hr,jD,oV]
end
end
section
open Go.RowKit
theorem Hq:prog.underlying 249=some (.slice 233):=by kernel_rfl
theorem qY:Ty prog 233 6 56 [.int .i64 0,.int .i64 0,.int .i64 0,.int .i64 0,.int .i64 0,.string ⟨#[]⟩] true:=⟨by kernel_rfl,by kernel_rfl⟩
theorem Xd:oU prog 233 [(0,1),(1,1),(2,1),(3,1),(4,1),(5,1)] [.int .i64 0,.int .i64 0,.int .i64 0,.int .i64 0,.int .i64 0,.string ⟨#[]⟩]:=⟨by kernel_rfl,by kernel_rfl⟩
theorem Sq:∀ args w,(callFunc 156 args).run prog w=.ok (.enter 156 args) w:=enters func156 rfl (by kernel_rfl)
structure iW where
 num:Int
 xU:Int
 low:Int
 high:Int
 std:Int
 name:ByteArray
def iW.dat (x:iW):List Dat:=[li x.num,li x.xU,li x.low,li x.high,li x.std,.lf (.string x.name)]
def iW.cells (x:iW):List aj:=[vi x.num,vi x.xU,vi x.low,vi x.high,vi x.std,.string x.name]
def iq.cells (x:iq):List aj:=[vi x.key,vi x.value]
theorem afP (G:GH) (x:iW):aY G x.dat x.cells:=by
 simp only [iW.dat,iW.cells,aY]
 exact ⟨_,_,rfl,by simp [av,Value.oneCell'],_,_,rfl,by simp [av,Value.oneCell'],_,_,rfl,by simp [av,Value.oneCell'],_,_,rfl,by simp [av,Value.oneCell'],_,_,rfl,by simp [av,Value.oneCell'],_,_,rfl,by simp [av,Value.oneCell'],rfl⟩
theorem afO {G:GH} {x:iW} {cs:List aj} (h:aY G x.dat cs):cs=x.cells:=by
 simp only [iW.dat,aY,av] at h
 obtain ⟨v1,_,rfl,⟨rfl,-⟩,v2,_,rfl,⟨rfl,-⟩,v3,_,rfl,⟨rfl,-⟩,v4,_,rfl,⟨rfl,-⟩,v5,_,rfl,⟨rfl,-⟩,v6,_,rfl,⟨rfl,-⟩,rfl⟩:=h
 rfl
theorem OZ {G:GH} {x:iq} {cs:List aj} (h:aY G x.dat cs):cs=x.cells:=by
 simp only [iq.dat,aY,av] at h
 obtain ⟨v1,_,rfl,⟨rfl,-⟩,v2,_,rfl,⟨rfl,-⟩,rfl⟩:=h
 rfl
theorem Vk (G:GH):∀ (B A:List iW),fH G 6 (A.map iW.dat) (A.map iW.cells).flatten→fH G 6 ((A++B).map iW.dat) ((A++B).map iW.cells).flatten
 | [],A,h=>by rw [oW];exact h
 | x :: B,A,h=>by
  have h2:=h.snoc (afP G x) rfl;have h3:=Vk G B (A++[x]) (by simpa using h2)
  simpa using h3
theorem afQ (G:GH) (A:List iW):fH G 6 (A.map iW.dat) (A.map iW.cells).flatten:=Vk G A [] fH.nil
theorem Ov {G:GH} {l:List iW} {A:Option Addr} {n c k:Nat} (hv:av G (.sl 6 (l.map iW.dat)) (.slice A n c)) (hk:k < l.length):∃ b o,A=some ⟨b,o,none⟩∧(∀ j u,[vi l[k].num,vi l[k].xU,vi l[k].low,vi l[k].high,vi l[k].std,.string l[k].name][j]?=some u→aJ G b (o+k*6+j)=some u):=by
 obtain ⟨A',c',he,_,_,hg⟩:=hv.slice
 injection he with e1 e2 e3
 subst e1;obtain ⟨b,o,cs,h1,h2,h3,h4⟩:=hg k l[k].dat (by simp [hk]);obtain rfl:=afO h4;exact ⟨b,o,h1,h3⟩
theorem JW {G:GH} {l:List iq} {A:Option Addr} {n c k:Nat} (hv:av G (.sl 2 (l.map iq.dat)) (.slice A n c)) (hk:k < l.length):∃ b o,A=some ⟨b,o,none⟩∧(∀ j u,[vi l[k].key,vi l[k].value][j]?=some u→aJ G b (o+k*2+j)=some u):=by
 obtain ⟨A',c',he,_,_,hg⟩:=hv.slice
 injection he with e1 e2 e3
 subst e1;obtain ⟨b,o,cs,h1,h2,h3,h4⟩:=hg k l[k].dat (by simp [hk]);obtain rfl:=OZ h4;exact ⟨b,o,h1,h3⟩
def Dc:List iW:=[⟨1,1,0,1073741824,0,⟨#[99,104,97,114,97,99,116,101,114,45,115,116,121,108,101]⟩⟩,⟨2,1,0,1,0,⟨#[98,111,108,100]⟩⟩,⟨3,1,0,1,0,⟨#[105,116,97,108,105,99]⟩⟩,⟨4,1,0,3,0,⟨#[117,110,100,101,114,108,105,110,101]⟩⟩,⟨5,1,2,1638,22,⟨#[115,105,122,101]⟩⟩,⟨6,1,0,16777215,0,⟨#[99,111,108,111,114]⟩⟩,⟨7,1,0,63,0,⟨#[102,111,110,116]⟩⟩,⟨8,1,0,255,0,⟨#[108,97,110,103,117,97,103,101]⟩⟩,⟨9,1,-400,400,0,⟨#[114,97,105,115,101]⟩⟩,⟨10,1,0,1,0,⟨#[104,105,100,100,101,110]⟩⟩,⟨20,2,0,1073741824,0,⟨#[112,97,114,97,103,114,97,112,104,45,115,116,121,108,101]⟩⟩,⟨21,2,0,3,0,⟨#[97,108,105,103,110]⟩⟩,⟨22,2,-31680,31680,0,⟨#[108,101,102,116]⟩⟩,⟨23,2,-31680,31680,0,⟨#[114,105,103,104,116]⟩⟩,⟨24,2,-31680,31680,0,⟨#[102,105,114,115,116]⟩⟩,⟨25,2,0,31680,0,⟨#[98,101,102,111,114,101]⟩⟩,⟨26,2,0,31680,0,⟨#[97,102,116,101,114]⟩⟩,⟨27,2,0,31680,0,⟨#[108,101,97,100,105,110,103]⟩⟩,⟨28,2,0,1,0,⟨#[107,101,101,112,45,110,101,120,116]⟩⟩,⟨29,2,0,1,0,⟨#[107,101,101,112,45,108,105,110,101,115]⟩⟩,⟨30,2,0,1,1,⟨#[119,105,100,111,119]⟩⟩,⟨31,2,0,1,0,⟨#[112,97,103,101,45,98,101,102,111,114,101]⟩⟩,⟨32,2,0,9,0,⟨#[111,117,116,108,105,110,101]⟩⟩,⟨33,2,0,1073741824,0,⟨#[108,105,115,116]⟩⟩,⟨34,2,1,9,1,⟨#[108,101,118,101,108]⟩⟩,⟨35,2,0,32767,0,⟨#[114,101,115,116,97,114,116]⟩⟩,⟨36,2,1,31680,720,⟨#[116,97,98,45,115,116,111,112]⟩⟩,⟨37,2,0,1,0,⟨#[104,121,112,104,101,110,97,116,101]⟩⟩,⟨40,3,720,31680,12240,⟨#[112,97,103,101,45,119,105,100,116,104]⟩⟩,⟨41,3,720,31680,15840,⟨#[112,97,103,101,45,104,101,105,103,104,116]⟩⟩,⟨42,3,0,31680,1440,⟨#[116,111,112]⟩⟩,⟨43,3,0,31680,1440,⟨#[98,111,116,116,111,109]⟩⟩,⟨44,3,0,31680,1440,⟨#[105,110,110,101,114]⟩⟩,⟨45,3,0,31680,1440,⟨#[111,117,116,101,114]⟩⟩,⟨46,3,0,32767,0,⟨#[102,105,114,115,116,45,112,97,103,101]⟩⟩,⟨47,3,1,6,1,⟨#[112,97,103,101,45,102,111,114,109,97,116]⟩⟩,⟨50,4,0,1,0,⟨#[104,101,97,100,101,114]⟩⟩,⟨51,4,0,1,0,⟨#[99,97,110,116,45,115,112,108,105,116]⟩⟩,⟨52,4,0,31680,0,⟨#[114,111,119,45,104,101,105,103,104,116]⟩⟩,⟨60,5,1,32,1,⟨#[99,111,108,117,109,110,45,115,112,97,110]⟩⟩,⟨61,5,0,2,0,⟨#[118,101,114,116,105,99,97,108,45,109,101,114,103,101]⟩⟩,⟨62,5,0,31680,0,⟨#[99,101,108,108,45,119,105,100,116,104]⟩⟩,⟨63,5,0,16777215,16777215,⟨#[115,104,97,100,101]⟩⟩,⟨70,6,0,31680,0,⟨#[116,97,98,108,101,45,119,105,100,116,104]⟩⟩,⟨71,6,0,2,0,⟨#[116,97,98,108,101,45,97,108,105,103,110]⟩⟩]
set_option maxRecDepth 20000 in
theorem afR (G:GH) (w0:World) (hG:Hold G w0):Calls prog 147 #[] w0 (bC w0 G fun u G'=>av G' (.sl 6 (Dc.map iW.dat)) u):=by
 refine eN [] func147 rfl ntmps147 rfl rfl hG ?_;intro a H;refine kP H (SR fun _ K1=>ak K1 rfl (SR fun _ K2=>?_));clear H K1;intro a H;(iterate 45 refine jJ Xd [_,_,_,_,_,_] H wn rfl rfl rfl rfl ?_;clear H;intro a H);refine ahB Hq qY (Dc.map iW.cells) H wn rfl rfl rfl rfl rfl rfl rfl ?_;clear H;intro b46 a w ajH H;refine kH H (ak K2 rfl ?_);clear H K2;intro a H;refine lr H results147 rfl ?_;obtain ⟨Gz,hmz,hbz,H⟩:=H.dP;exact H.rt (av.dZ (n:=45) (cap:=45) hbz rfl (bU _) (show 45≤maxLen by decide) (jA (bU _)) (afQ _ _))
theorem Ve (G:GH) (w0:World) (hG:Hold G w0) (x:Int):Calls prog 156 #[vi x] w0 (bC w0 G fun u G'=>u=.bool false∧G=G'):=by
 refine eN [(0,_)] func156 rfl ntmps156 rfl rfl hG ?_;intro a H;exact kP H (SR fun _ K1=>ak K1 rfl (SR fun _ K2=>Rm rfl (Rm rfl (Rc rfl (ak K2 rfl (LR results156 rfl fun H=>H.rt ⟨by simp,rfl⟩))))))
theorem LQ {x y z:Int} (h:(x < y∧z=-1)∨(y < x∧z=1)∨(x=y∧z=0)):z=zi x y:=by
 unfold zi;split
 ·omega
 split <;> omega
theorem aas (G:GH) (w0:World) (hG:Hold G w0) (x y:Int):Calls prog 150 #[vi x,vi y] w0 (bC w0 G fun u G'=>u=vi (zi x y)):=by
 refine eN [(0,_),(1,_)] func150 rfl ntmps150 rfl rfl hG ?_;intro a H;refine kP H (SR fun _ K1=>ak K1 rfl (SR fun _ K2=>Rm rfl ?_));clear H K1;intro a H;refine s_call Sq H wn rfl (Ve _ _ H.ro x) rfl ?_;clear H;rintro v8 G8 a w ⟨rfl,-⟩ xY H;refine kH H (ak K2 rfl (SR fun _ K3=>Rm rfl ?_));clear H K2;intro a H;refine s_call Sq H wn rfl (Ve _ _ H.ro y) rfl ?_;clear H;rintro v10 uR a w ⟨rfl,-⟩ uD H;refine kH H (ak K3 rfl (SQ fun _ K4=>SR fun _ K5=>Rm rfl (Kz K5 (Cd rfl ?_ ?_)))) <;> clear H K3 K5
 ·intro h11 a H
  cases h11
 intro h11 a H
 try have mZ:=dF h11
 refine kP H (Kc K4 (SQ fun _ K6=>SR fun _ K7=>Rm rfl (Kz K7 (Cd rfl ?_ ?_)))) <;> clear H K4 K7
 ·intro fK a H
  cases fK
 intro fK a H
 try have pK:=dF fK
 refine kP H (Kc K6 (SQ fun _ K8=>SR fun _ K9=>Rm rfl (Rm rfl (Rc rfl (Kz K9 (Cd rfl ?_ ?_)))))) <;> clear H K6 K9
 ·intro h16 a H
  try have p16:=dT h16
  exact kP H (SR fun _ aS=>ak aS rfl (LR results150 rfl fun H=>H.rt (aA vi (LQ (by omega)))))
 intro h16 a H
 try have p16:=dF h16
 refine kP H (Kc K8 (SQ fun _ bA=>SR fun _ bK=>Rm rfl (Rm rfl (Rc rfl (Kz bK (Cd rfl ?_ ?_)))))) <;> clear H K8 bK
 ·intro h19 a H
  try have uK:=dT h19
  exact kP H (SR fun _ bR=>ak bR rfl (LR results150 rfl fun H=>H.rt (aA vi (LQ (by omega)))))
 intro h19 a H
 try have uK:=dF h19
 exact kP H (Kc bA (SR fun _ bP=>ak bP rfl (LR results150 rfl fun H=>H.rt (aA vi (LQ (by omega))))))
end
section
open Go.RowKit
theorem adb:bV prog 233 0 0:=⟨by kernel_rfl⟩
theorem abB:∀ args w,(callFunc 150 args).run prog w=.ok (.enter 150 args) w:=enters func150 rfl (by kernel_rfl)
theorem Xr:prog.underlying 240=some (.int .u64):=by kernel_rfl
theorem abA:∀ args w,(callFunc 149 args).run prog w=.ok (.enter 149 args) w:=enters func149 rfl (by kernel_rfl)
theorem RL (G:GH) (w0:World) (hG:Hold G w0) (x:iW) (t:Int):sD prog (.func (.func 149) #[] #[]) [.agg x.cells.toArray,vi t] w0 (bC w0 G fun u G'=>u=vi (zi x.num t)):=by
 refine lZ (caps:=[]) abA ?_;refine eN [(0,_),(1,_)] func149 rfl ntmps149 rfl rfl hG ?_;intro a H;refine cO (fun _ K1=>?_);refine fC (cs:=[_,_,_,_,_,_]) H wn rfl rfl rfl ?_;clear H;intro b2 a w hb2 H;refine kH H (ak K1 rfl (SR fun _ K2=>aR adb aG 0 rfl rfl (Rm rfl ?_)));clear H K1;intro a H;refine s_call abB H wn rfl (aas _ _ H.ro x.num t) rfl ?_;clear H;rintro v8 G8 a w rfl xY H;exact kH H (ak K2 rfl (LR results149 rfl fun H=>H.rt rfl))
theorem Zq (G:GH) (w0:World) (hG:Hold G w0) (l:List iW) (t:Int) (v:aj) (hv:av G (.sl 6 (l.map iW.dat)) v) (hl:l.length≤4294967296) :
  Calls prog 148 #[v,vi t,.func (.func 149) #[] #[]] w0 (bC w0 G fun u G'=>u=.tuple #[vi (xI (l.map iW.num) t),.bool (Bb (l.map iW.num) t)]):=by
 obtain ⟨A,c,rfl,hc1,hc2,-⟩:=hv.slice;rw [bT] at *;obtain ⟨p,hp⟩:∃ p:Nat→Bool,p=fun h=>decide (¬ (l.map iW.num).getD h 0 < t):=⟨_,rfl⟩
 have hbs:xI (l.map iW.num) t=wO p l.length 0 l.length:=by rw [hp,xI,bT]
 refine eN [(0,_),(1,_),(2,_)] func148 rfl ntmps148 rfl rfl hG ?_;intro a H;refine kP H (SR fun _ K1=>Ra rfl (ak K1 rfl (SR fun _ K2=>Rm rfl (Rl Hq rfl (ak K2 rfl (SR fun _ K3=>Rm rfl (Ra rfl (ak K3 rfl (SQ fun _ K4=>SB ?_)))))))));clear H K1 K2 K3;intro a H;skip;refine eZ (ι:=Nat × Nat × Nat × GH) (Tc:=[(0,_),(1,_),(2,_),(8,_)]) (Lc:=[]) (fun gh=>[(9,vi gh.1),(10,vi gh.2.1)]) (fun gh=>[]) (fun gh=>gh.2.2.2) (fun gh=>gh.1≤gh.2.1∧gh.2.1≤l.length∧gh.2.1 - gh.1≤gh.2.2.1∧wO p gh.2.2.1 gh.1 gh.2.1=xI (l.map iW.num) t∧(∀ b o,G b=some o→gh.2.2.2 b=some o)) (fun gh=>gh.2.1 - gh.1) ((0,l.length,l.length,G)) (by exact (H).sub ⟨rfl,rfl,rfl,rfl,rfl,rfl,aB⟩) ?_ ?_
 ·exact ⟨iK _,bU _,Nat.sub_le _ _,hbs.symm,fun _ _ h=>h⟩
 clear H;intro gh a w hI H;obtain ⟨i,j,f,g⟩:=gh;dsimp only at hI H;obtain ⟨hij,hj,hf1,heq,hgm⟩:=hI;have CZ:=hv.mono hgm;dsimp only [lca,aZ] at H;refine kP H (SQ fun _ K5=>SR fun _ K6=>Rm rfl (Rm rfl (Rc rfl (Kz K6 (Cd rfl ?_ ?_))))) <;> clear H K6
 ·intro dS a H
  try have lS:=dT dS
  have hlt:i < j:=by omega
  rw [afy hf1 hlt] at heq;obtain ⟨m,hm⟩:∃ m,m=(i+j) / 2:=⟨_,rfl⟩;rw [← hm] at heq
  have hml:m < l.length:=by omega
  obtain ⟨b,o,rfl,hrow⟩:=Ov CZ hml
  have hpm:p m=decide (¬ l[m].num < t):=by rw [hp];dsimp only;rw [getD_map hml]
  rw [hpm] at heq;refine kP H (Kc K5 (SB (SR fun _ K7=>Rm rfl (Rm rfl (Rd rfl ?_)))));clear H K5;intro a H;rw [show ((i:Int)+(j:Int))=((i+j:Nat):Int) by push_cast;rfl] at H;refine EN ((i+j:Nat):Int) Xr mU H wn rfl (afz (by omega) (by omega)) rfl ?_;clear H;intro a H;refine WH _ H wn rfl rfl rfl (by decide) rfl ?_;clear H;intro a H;rw [afx,← hm] at H;refine EN (m:Int) mU Xr H wn rfl (GI (by omega) (by omega)) rfl ?_;clear H;intro a H;refine kH H (ak K7 rfl (SR fun _ K8=>Rm rfl (Rm rfl (Rm rfl (Ri Hq qY rfl rfl ?_)))));clear H K7;intro a H;refine bD qY (cs:=[_,_,_,_,_,_]) H wn rfl rfl (fun j v hj=>H.hp.aJ (hrow j v hj)) rfl ?_;clear H;intro a H;refine kH H (Rm rfl ?_);clear H;intro a H;refine oM H wn rfl rfl (RL _ _ H.ro l[m] t) rfl ?_;clear H;rintro v30 BQ a w rfl CU H;refine kH H (Rc rfl (Kz K8 (Cd rfl ?_ ?_))) <;> clear H K8
  ·intro h31 a H
   try have p31:=dT h31
   rw [ah (by simpa using RX.1 p31)] at heq;refine kP H (SC (Rm rfl (Rd rfl (Ra rfl ?_))));clear H;intro a H;refine aH ?_;refine dw ((m+1,j,f - 1,BQ)) (by exact (H).sub ⟨rfl,rfl,rfl,rfl,rfl,rfl,aB⟩) ?_ ?_
   ·(try dsimp only);exact ⟨by omega,hj,by omega,heq,fun b o h=>CU b o (hgm b o h)⟩
   first|omega|(dsimp only;omega)
  intro h31 a H
  try have p31:=dF h31
  rw [au (by simpa using fun h=>p31 (RX.2 h))] at heq;refine kP H (SC (Rm rfl (Ra rfl ?_)));clear H;intro a H;refine aH ?_;refine dw ((i,m,f - 1,BQ)) (by exact (H).sub ⟨rfl,rfl,rfl,rfl,rfl,rfl,aB⟩) ?_ ?_
  ·(try dsimp only);exact ⟨by omega,by omega,by omega,heq,fun b o h=>CU b o (hgm b o h)⟩
  first|omega|(dsimp only;omega)
 intro dS a H
 try have lS:=dF dS
 refine dW ?_;refine K4 _ _ ?_;clear K4;refine bq (fun _ K9=>?_);rw [afw (by omega)] at heq;refine kP H (SC (Rm rfl (Rm rfl (Rm rfl (Rc rfl (Rm rfl (Sp 39 rfl ?_ ?_))))))) <;> clear H
 ·intro kr a H
  try have p39:=dT kr
  have hil:i < l.length:=by omega
  obtain ⟨b,o,rfl,hrow⟩:=Ov CZ hil;refine kH H (YM kr rfl (YM kr rfl (YM kr rfl (YI Hq qY kr rfl rfl ?_))));clear H;intro a H;refine bD qY (cs:=[_,_,_,_,_,_]) H (wg H rfl rfl kr) rfl rfl (fun j v hj=>H.hp.aJ (hrow j v hj)) rfl ?_;clear H;intro a H;refine kH H (YM kr rfl ?_);clear H;intro a H;refine oM H (wg H rfl rfl kr) rfl rfl (RL _ _ H.ro l[i] t) rfl ?_;clear H;rintro v46 Qm a w rfl Gm H;refine kH H (YC kr rfl (Pt kr rfl (Ra rfl (aV K9 rfl ?_))));clear H K9;intro a H;refine cu ?_;refine (eT H results148 (.cons (aU H rfl) (.cons (aU H rfl) .nil)) ?_).1;exact H.rt (by rw [aef heq.symm (by rw [bT];omega),← heq];simp)
 intro kr a H
 try have p39:=dF kr
 refine kH H (aX kr rfl (aX kr rfl (aP kr rfl (Pf kr rfl (Ra rfl (aV K9 rfl ?_))))));clear H K9;intro a H;refine cu ?_;refine (eT H results148 (.cons (aU H rfl) (.cons (aU H rfl) .nil)) ?_).1;exact H.rt (by rw [aeh heq.symm (by rw [bT];omega),← heq])
end
section
open Go.RowKit
end
section
open Go.RowKit
def uT (fv:aj) (G:GH) (d:List Dat) (b:Bool):Prop:=∀ (G1:GH) (w1:World) (cs:List aj),(∀ b o,G b=some o→G1 b=some o)→Hold G1 w1→aY G1 d cs →
 sD prog fv [.agg cs.toArray] w1 (bC w1 G1 fun u G'=>u=.bool b)
def mX (o:Option Nat):Int:=match o with|some i=>i|none=>-1
theorem afC (G:GH) (w0:World) (hG:Hold G w0) (l:List bO) (p:bO→Bool) (v fv:aj) (hv:av G (.sl 6 (l.map bO.dat)) v) (hf:∀ x∈l,uT fv G x.dat (p x)) :
  Calls prog 104 #[v,fv] w0 (bC w0 G fun u G'=>u=vi (mX (l.findIdx? p))):=by
 obtain ⟨A,c,rfl,hc1,hc2,hg⟩:=hv.slice;have hml:maxLen=9223372036854775807:=rfl;rw [bT] at *;refine eN [(0,_),(1,_)] func104 rfl ntmps104 rfl rfl hG ?_;intro a H;refine kP H (SR fun _ K1=>ak K1 rfl (SQ fun _ K2=>SR fun _ K3=>Rm rfl (Rl mG rfl (Rm rfl (Kz K3 (SB ?_))))));clear H K1 K3;intro a H;skip;refine eZ (ι:=Nat × GH) (Tc:=[(0,_),(1,_),(7,_)]) (Lc:=[]) (fun gh=>[(8,vi gh.1)]) (fun gh=>[]) (fun gh=>gh.2) (fun gh=>gh.1≤l.length∧(l.take gh.1).findIdx? p=none∧(∀ b o,G b=some o→gh.2 b=some o)) (fun gh=>l.length - gh.1) ((0,G)) (by exact (H).sub ⟨rfl,rfl,rfl,rfl,aB⟩) ?_ ?_
 ·exact ⟨by omega,rfl,fun _ _ h=>h⟩
 clear H;intro gh a w hI H;obtain ⟨k,g⟩:=gh;dsimp only at hI H;obtain ⟨hk,hno,hgm⟩:=hI;dsimp only [lca,aZ] at H;refine kP H (SR fun _ K4=>Rc rfl (Kz K4 (SQ fun _ K5=>Cd rfl ?_ ?_))) <;> clear H K4
 ·intro h9 a H
  try have p9:=dT h9
  have hk2:k < l.length:=by omega
  obtain ⟨b,o,cs,rfl,hcl,hrow,hrep⟩:=hg k l[k].dat (by simp [hk2]);obtain ⟨pA,pn,pc,dA,dn,dc,yA,yn,yc,fA,fn,fc,rfl,-⟩:=hrep.row;replace hrow:=fun j u hj=>aK hgm (hrow j u hj);refine kP H (Kc K5 (SQ fun _ K6=>SB (SR fun _ K7=>Rm rfl (ak K7 rfl (SR fun _ K8=>Rm rfl (Rm rfl (Rm rfl (Ri mG jQ rfl rfl ?_))))))));clear H K5 K7;intro a H;refine bD jQ (cs:=[_,_,_,_,_,_]) H wn rfl rfl (fun j v hj=>H.hp.aJ (hrow j v hj)) rfl ?_;clear H;intro a H;refine oM H wn rfl rfl (hf _ (iQ hk2) _ _ _ hgm H.ro (hrep.mono hgm)) rfl ?_;clear H;rintro v16 qC a w rfl qM H;refine K8 _ _ ?_;clear K8;refine kV H rfl ?_ ?_
  ·intro h16
   try have p16:=dT h16
   refine kP H (SR fun _ K9=>Rm rfl (ak K9 rfl ?_));clear H K9;intro a H;refine lr H results104 rfl ?_
   first
    | exact H.rt (by rw [tJ hk2 hno h16];rfl)
    | exact H.rt (by rw [show l.take k=l from jA (by omega)] at hno;rw [hno];rfl)
  intro h16
  try have p16:=dF h16
  refine kP H (Kc K6 (SC (Rd rfl (Rm rfl ?_))));clear H K6;intro a H;refine aH ?_;refine dw ((k+1,qC)) (by exact (H).sub ⟨rfl,rfl,rfl,rfl,aB⟩) ?_ ?_
  ·(try dsimp only);exact ⟨by omega,zV hk2 hno h16,fun b o h=>qM b o (hgm b o h)⟩
  first|omega|(dsimp only;omega)
 intro h9 a H
 try have p9:=dF h9
 refine dW ?_;refine K2 _ _ ?_;clear K2;refine kP H (SR fun _ aS=>ak aS rfl ?_);clear H aS;intro a H;refine lr H results104 rfl ?_
 first
  | exact H.rt (by rw [tJ hk2 hno h16];rfl)
  | exact H.rt (by rw [show l.take k=l from jA (by omega)] at hno;rw [hno];rfl)
end
section
open Go.RowKit
theorem aby:∀ args w,(callFunc 147 args).run prog w=.ok (.enter 147 args) w:=enters func147 rfl (by kernel_rfl)
theorem abz:∀ args w,(callFunc 148 args).run prog w=.ok (.enter 148 args) w:=enters func148 rfl (by kernel_rfl)
theorem xu:prog.underlying 68=some (.slice 3):=by kernel_rfl
theorem abC:∀ args w,(callFunc 151 args).run prog w=.ok (.enter 151 args) w:=enters func151 rfl (by kernel_rfl)
theorem Sl:∀ args w,(callFunc 137 args).run prog w=.ok (.enter 137 args) w:=enters func137 rfl (by kernel_rfl)
theorem abq:∀ args w,(callFunc 139 args).run prog w=.ok (.enter 139 args) w:=enters func139 rfl (by kernel_rfl)
theorem ade:bV prog 233 1 1:=⟨by kernel_rfl⟩
theorem abp:∀ args w,(callFunc 138 args).run prog w=.ok (.enter 138 args) w:=enters func138 rfl (by kernel_rfl)
theorem adf:bV prog 233 2 2:=⟨by kernel_rfl⟩
theorem adg:bV prog 233 3 3:=⟨by kernel_rfl⟩
def kz:iW:=⟨0,0,0,0,0,⟨#[]⟩⟩
def Db:List Int:=Dc.map iW.num
def kX (k:Int):iW × Bool:=if Bb Db k=true then (Dc.getD (xI Db k) kz,true) else (kz,false)
theorem find_spec (G:GH) (w0:World) (hG:Hold G w0) (k:Int):Calls prog 137 #[vi k] w0 (bC w0 G fun u G'=>u=.tuple #[.agg (kX k).1.cells.toArray,.bool (kX k).2]):=by
 refine eN [(0,_)] func137 rfl ntmps137 rfl rfl hG ?_;intro a H;refine cO (fun _ K1=>?_);refine eU qY H wn rfl ?_;clear H;intro b2 a w hb2 H;refine kH H (ak K1 rfl (SR fun _ K2=>?_));clear H K1;intro a H;refine s_call aby H wn rfl (afR _ _ H.ro) rfl ?_;clear H;rintro v7 G7 a w hv7 zP H;obtain ⟨A,c,rfl,hc1,hc2,-⟩:=hv7.slice;rw [bT] at *;refine kH H (ak K2 rfl (SR fun _ K3=>Rm rfl (Rm rfl ?_)));clear H K2;intro a H;refine s_call abz H wn rfl (Zq _ _ H.ro Dc k _ hv7 (by decide)) rfl ?_;clear H;rintro v11 vS a w rfl Jm H;have hv7:=hv7.mono Jm;have hkn:Dc.map iW.num=Db:=rfl;rw [hkn] at H;obtain ⟨n,hn⟩:∃ n,n=xI Db k:=⟨_,rfl⟩;obtain ⟨q,hq⟩:∃ q,q=Bb Db k:=⟨_,rfl⟩;rw [← hn,← hq] at H;refine kH H (Rm rfl ?_);clear H;intro a H;(iterate 2 refine lu H wn rfl rfl rfl ?_;clear H;intro a H);refine kH H (Ra rfl (ak K3 rfl (SQ fun _ K4=>SR fun _ K5=>Rm rfl (Rn rfl (Kz K5 (Cd rfl ?_ ?_)))))) <;> clear H K3 K5
 ·intro nG a H
  refine cO (fun _ K6=>?_);refine jJ Xd [_,_,_,_,_,_] H wn rfl rfl rfl rfl ?_;clear H;intro a H;refine bF qY 0 (vs:=[_,_,_,_,_,_]) _ H wn rfl rfl rfl rfl rfl rfl rfl rfl ?_;clear H;intro w H;dsimp only [List.set,setRow] at H;refine kH H (ak K6 rfl ?_);clear H K6;intro a H;refine cu ?_;refine (eT H results137 (.cons (Ab qY (cs:=[_,_,_,_,_,_]) H rfl rfl (H.hp.dY 0 rfl rfl)) (.cons (aU H rfl) .nil)) ?_).1;exact H.rt (by rw [kX,ah (by rw [← hq];simpa using nG)];rfl)
 intro nG a H
 try have rX:=dF nG
 have hlt:n < Dc.length:=by have:=aeg (ks:=Db) (t:=k) (by rw [← hq];simpa using nG);rw [← hn] at this;simpa [Db] using this
 obtain ⟨b,o,rfl,hrow⟩:=Ov hv7 hlt;refine kP H (Kc K4 (SR fun _ K7=>Rm rfl (Rm rfl (Ri Hq qY rfl rfl ?_))));clear H K4;intro a H;refine bD qY (cs:=[_,_,_,_,_,_]) H wn rfl rfl (fun j v hj=>H.hp.aJ (hrow j v hj)) rfl ?_;clear H;intro a H;refine bF qY 0 (vs:=[_,_,_,_,_,_]) _ H wn rfl rfl rfl rfl rfl rfl rfl rfl ?_;clear H;intro w H;dsimp only [List.set,setRow] at H;refine kH H (ak K7 rfl ?_);clear H K7;intro a H;refine cu ?_;refine (eT H results137 (.cons (Ab qY (cs:=[_,_,_,_,_,_]) H rfl rfl (H.hp.dY 0 rfl rfl)) (.cons (aU H rfl) .nil)) ?_).1;exact H.rt (by rw [kX,au (by rw [← hq];simpa using nG),← hn,List.getD_eq_getElem?_getD,gP hlt];rfl)
def dh (e:Int):List Int:=if e=1∨e=4∨e=5∨e=6 then [1] else if e=2 then [1,2] else if e=3 then [3] else if e=7 then [6] else if e=9 then [4] else if e=10 then [5] else []
theorem eG (G:GH) (A:List Int):fH G 1 (A.map fun k=>[li k]) (A.map vi):=by
 refine ⟨A.map fun k=>[vi k],?_,by simp,fun j r cs hr hc=>?_⟩
 ·induction A with
  | nil=>rfl
  | cons a A ih=>simpa using ih
 rw [pY] at hr hc
 cases h:A[j]? with
 | none=>rw [h] at hr;cases hr
 | some x =>
  rw [h] at hr hc
  cases hr;cases hc
  exact ⟨by simp only [aY];exact ⟨_,_,rfl,by simp [av,Value.oneCell'],rfl⟩,rfl⟩
theorem adM (G:GH) (w0:World) (hG:Hold G w0) (e:Int):Calls prog 139 #[vi e] w0 (bC w0 G fun u G'=>av G' (.sl 1 ((dh e).map fun k=>[li k])) u):=by
  refine eN [(0,_)] func139 rfl ntmps139 rfl rfl hG ?_;intro a H;refine kP H (SR fun _ K1=>ak K1 rfl (SQ fun _ K2=>SR fun _ K3=>Rm rfl (Kz K3 (SB (SQ fun _ K4=>SR fun _ K5=>Rc rfl (ak K5 rfl (Cd rfl ?_ ?_))))))) <;> clear H K1 K3 K5
  · intro h4 a H
    try have p4:=dT h4
    refine kP H (Kc K4 (Ct rfl h4 (SR fun _ K6=>?_)));clear H K4;intro a H;refine gQ xu aG [_] [_] H wn rfl rfl rfl rfl rfl (by intro i q h;match i,h with|0,h=>exact h|n+1,h=>simp at h) rfl rfl ?_;clear H;intro b9 a w xW H;refine kH H (ak K6 rfl ?_);clear H K6;intro a H;refine lr H results139 rfl ?_
    first
      | exact H.rt (by rw [dh,ah (by omega),ah (by omega),ah (by omega),ah (by omega),ah (by omega),ah (by omega)];exact av.jf rfl (by decide))
      | (obtain ⟨Gz,hmz,hbz,H⟩:=H.dP
         first
           | exact H.rt (by rw [dh,au (by omega)];exact av.dZ (n:=1) (cap:=1) hbz rfl (bU _) (show 1≤maxLen by decide) rfl (eG _ [1]))
           | exact H.rt (by rw [dh,ah (by omega),au (by omega)];exact av.dZ (n:=2) (cap:=2) hbz rfl (bU _) (show 2≤maxLen by decide) rfl (eG _ [1,2]))
           | exact H.rt (by rw [dh,ah (by omega),ah (by omega),au (by omega)];exact av.dZ (n:=1) (cap:=1) hbz rfl (bU _) (show 1≤maxLen by decide) rfl (eG _ [3]))
           | exact H.rt (by rw [dh,ah (by omega),ah (by omega),ah (by omega),au (by omega)];exact av.dZ (n:=1) (cap:=1) hbz rfl (bU _) (show 1≤maxLen by decide) rfl (eG _ [6]))
           | exact H.rt (by rw [dh,ah (by omega),ah (by omega),ah (by omega),ah (by omega),au (by omega)];exact av.dZ (n:=1) (cap:=1) hbz rfl (bU _) (show 1≤maxLen by decide) rfl (eG _ [4]))
           | exact H.rt (by rw [dh,ah (by omega),ah (by omega),ah (by omega),ah (by omega),ah (by omega),au (by omega)];exact av.dZ (n:=1) (cap:=1) hbz rfl (bU _) (show 1≤maxLen by decide) rfl (eG _ [5])))
  intro h4 a H
  try have p4:=dF h4
  refine kP H (SR fun _ K7=>Rc rfl (ak K7 rfl (Cd rfl ?_ ?_))) <;> clear H K7
  · intro h4 a H
    try have p4:=dT h4
    refine kP H (Kc K4 (Ct rfl h4 (SR fun _ K8=>?_)));clear H K4;intro a H;refine gQ xu aG [_] [_] H wn rfl rfl rfl rfl rfl (by intro i q h;match i,h with|0,h=>exact h|n+1,h=>simp at h) rfl rfl ?_;clear H;intro b9 a w xW H;refine kH H (ak K8 rfl ?_);clear H K8;intro a H;refine lr H results139 rfl ?_
    first
      | exact H.rt (by rw [dh,ah (by omega),ah (by omega),ah (by omega),ah (by omega),ah (by omega),ah (by omega)];exact av.jf rfl (by decide))
      | (obtain ⟨Gz,hmz,hbz,H⟩:=H.dP
         first
           | exact H.rt (by rw [dh,au (by omega)];exact av.dZ (n:=1) (cap:=1) hbz rfl (bU _) (show 1≤maxLen by decide) rfl (eG _ [1]))
           | exact H.rt (by rw [dh,ah (by omega),au (by omega)];exact av.dZ (n:=2) (cap:=2) hbz rfl (bU _) (show 2≤maxLen by decide) rfl (eG _ [1,2]))
           | exact H.rt (by rw [dh,ah (by omega),ah (by omega),au (by omega)];exact av.dZ (n:=1) (cap:=1) hbz rfl (bU _) (show 1≤maxLen by decide) rfl (eG _ [3]))
           | exact H.rt (by rw [dh,ah (by omega),ah (by omega),ah (by omega),au (by omega)];exact av.dZ (n:=1) (cap:=1) hbz rfl (bU _) (show 1≤maxLen by decide) rfl (eG _ [6]))
           | exact H.rt (by rw [dh,ah (by omega),ah (by omega),ah (by omega),ah (by omega),au (by omega)];exact av.dZ (n:=1) (cap:=1) hbz rfl (bU _) (show 1≤maxLen by decide) rfl (eG _ [4]))
           | exact H.rt (by rw [dh,ah (by omega),ah (by omega),ah (by omega),ah (by omega),ah (by omega),au (by omega)];exact av.dZ (n:=1) (cap:=1) hbz rfl (bU _) (show 1≤maxLen by decide) rfl (eG _ [5])))
  intro h4 a H
  try have p4:=dF h4
  refine kP H (SR fun _ K9=>Rc rfl (ak K9 rfl (Cd rfl ?_ ?_))) <;> clear H K9
  · intro h4 a H
    try have p4:=dT h4
    refine kP H (Kc K4 (Ct rfl h4 (SR fun _ aS=>?_)));clear H K4;intro a H;refine gQ xu aG [_] [_] H wn rfl rfl rfl rfl rfl (by intro i q h;match i,h with|0,h=>exact h|n+1,h=>simp at h) rfl rfl ?_;clear H;intro b9 a w xW H;refine kH H (ak aS rfl ?_);clear H aS;intro a H;refine lr H results139 rfl ?_
    first
      | exact H.rt (by rw [dh,ah (by omega),ah (by omega),ah (by omega),ah (by omega),ah (by omega),ah (by omega)];exact av.jf rfl (by decide))
      | (obtain ⟨Gz,hmz,hbz,H⟩:=H.dP
         first
           | exact H.rt (by rw [dh,au (by omega)];exact av.dZ (n:=1) (cap:=1) hbz rfl (bU _) (show 1≤maxLen by decide) rfl (eG _ [1]))
           | exact H.rt (by rw [dh,ah (by omega),au (by omega)];exact av.dZ (n:=2) (cap:=2) hbz rfl (bU _) (show 2≤maxLen by decide) rfl (eG _ [1,2]))
           | exact H.rt (by rw [dh,ah (by omega),ah (by omega),au (by omega)];exact av.dZ (n:=1) (cap:=1) hbz rfl (bU _) (show 1≤maxLen by decide) rfl (eG _ [3]))
           | exact H.rt (by rw [dh,ah (by omega),ah (by omega),ah (by omega),au (by omega)];exact av.dZ (n:=1) (cap:=1) hbz rfl (bU _) (show 1≤maxLen by decide) rfl (eG _ [6]))
           | exact H.rt (by rw [dh,ah (by omega),ah (by omega),ah (by omega),ah (by omega),au (by omega)];exact av.dZ (n:=1) (cap:=1) hbz rfl (bU _) (show 1≤maxLen by decide) rfl (eG _ [4]))
           | exact H.rt (by rw [dh,ah (by omega),ah (by omega),ah (by omega),ah (by omega),ah (by omega),au (by omega)];exact av.dZ (n:=1) (cap:=1) hbz rfl (bU _) (show 1≤maxLen by decide) rfl (eG _ [5])))
  intro h4 a H
  try have p4:=dF h4
  refine kP H (SC (Rc rfl (aV K4 rfl (Cd rfl ?_ ?_)))) <;> clear H K4
  · intro h4 a H
    try have p4:=dT h4
    refine cO (fun _ bA=>?_);refine gQ xu aG [_] [_] H wn rfl rfl rfl rfl rfl (by intro i q h;match i,h with|0,h=>exact h|n+1,h=>simp at h) rfl rfl ?_;clear H;intro b9 a w xW H;refine kH H (ak bA rfl ?_);clear H bA;intro a H;refine lr H results139 rfl ?_
    first
      | exact H.rt (by rw [dh,ah (by omega),ah (by omega),ah (by omega),ah (by omega),ah (by omega),ah (by omega)];exact av.jf rfl (by decide))
      | (obtain ⟨Gz,hmz,hbz,H⟩:=H.dP
         first
           | exact H.rt (by rw [dh,au (by omega)];exact av.dZ (n:=1) (cap:=1) hbz rfl (bU _) (show 1≤maxLen by decide) rfl (eG _ [1]))
           | exact H.rt (by rw [dh,ah (by omega),au (by omega)];exact av.dZ (n:=2) (cap:=2) hbz rfl (bU _) (show 2≤maxLen by decide) rfl (eG _ [1,2]))
           | exact H.rt (by rw [dh,ah (by omega),ah (by omega),au (by omega)];exact av.dZ (n:=1) (cap:=1) hbz rfl (bU _) (show 1≤maxLen by decide) rfl (eG _ [3]))
           | exact H.rt (by rw [dh,ah (by omega),ah (by omega),ah (by omega),au (by omega)];exact av.dZ (n:=1) (cap:=1) hbz rfl (bU _) (show 1≤maxLen by decide) rfl (eG _ [6]))
           | exact H.rt (by rw [dh,ah (by omega),ah (by omega),ah (by omega),ah (by omega),au (by omega)];exact av.dZ (n:=1) (cap:=1) hbz rfl (bU _) (show 1≤maxLen by decide) rfl (eG _ [4]))
           | exact H.rt (by rw [dh,ah (by omega),ah (by omega),ah (by omega),ah (by omega),ah (by omega),au (by omega)];exact av.dZ (n:=1) (cap:=1) hbz rfl (bU _) (show 1≤maxLen by decide) rfl (eG _ [5])))
  intro h4 a H
  try have p4:=dF h4
  refine kP H (SR fun _ bK=>Rc rfl (ak bK rfl (Cd rfl ?_ ?_))) <;> clear H bK
  · intro h10 a H
    try have lg:=dT h10
    refine cO (fun _ bR=>?_);refine gQ xu aG [_,_] [_,_] H wn rfl rfl rfl rfl rfl (by intro i q h;match i,h with|0,h=>exact h|1,h=>exact h|n+2,h=>simp at h) rfl rfl ?_;clear H;intro b12 a w Bc H;refine kH H (ak bR rfl ?_);clear H bR;intro a H;refine lr H results139 rfl ?_
    first
      | exact H.rt (by rw [dh,ah (by omega),ah (by omega),ah (by omega),ah (by omega),ah (by omega),ah (by omega)];exact av.jf rfl (by decide))
      | (obtain ⟨Gz,hmz,hbz,H⟩:=H.dP
         first
           | exact H.rt (by rw [dh,au (by omega)];exact av.dZ (n:=1) (cap:=1) hbz rfl (bU _) (show 1≤maxLen by decide) rfl (eG _ [1]))
           | exact H.rt (by rw [dh,ah (by omega),au (by omega)];exact av.dZ (n:=2) (cap:=2) hbz rfl (bU _) (show 2≤maxLen by decide) rfl (eG _ [1,2]))
           | exact H.rt (by rw [dh,ah (by omega),ah (by omega),au (by omega)];exact av.dZ (n:=1) (cap:=1) hbz rfl (bU _) (show 1≤maxLen by decide) rfl (eG _ [3]))
           | exact H.rt (by rw [dh,ah (by omega),ah (by omega),ah (by omega),au (by omega)];exact av.dZ (n:=1) (cap:=1) hbz rfl (bU _) (show 1≤maxLen by decide) rfl (eG _ [6]))
           | exact H.rt (by rw [dh,ah (by omega),ah (by omega),ah (by omega),ah (by omega),au (by omega)];exact av.dZ (n:=1) (cap:=1) hbz rfl (bU _) (show 1≤maxLen by decide) rfl (eG _ [4]))
           | exact H.rt (by rw [dh,ah (by omega),ah (by omega),ah (by omega),ah (by omega),ah (by omega),au (by omega)];exact av.dZ (n:=1) (cap:=1) hbz rfl (bU _) (show 1≤maxLen by decide) rfl (eG _ [5])))
  intro h10 a H
  try have lg:=dF h10
  refine kP H (SR fun _ bP=>Rc rfl (ak bP rfl (Cd rfl ?_ ?_))) <;> clear H bP
  · intro fK a H
    try have pK:=dT fK
    refine cO (fun _ dJ=>?_);refine gQ xu aG [_] [_] H wn rfl rfl rfl rfl rfl (by intro i q h;match i,h with|0,h=>exact h|n+1,h=>simp at h) rfl rfl ?_;clear H;intro b15 a w ael H;refine kH H (ak dJ rfl ?_);clear H dJ;intro a H;refine lr H results139 rfl ?_
    first
      | exact H.rt (by rw [dh,ah (by omega),ah (by omega),ah (by omega),ah (by omega),ah (by omega),ah (by omega)];exact av.jf rfl (by decide))
      | (obtain ⟨Gz,hmz,hbz,H⟩:=H.dP
         first
           | exact H.rt (by rw [dh,au (by omega)];exact av.dZ (n:=1) (cap:=1) hbz rfl (bU _) (show 1≤maxLen by decide) rfl (eG _ [1]))
           | exact H.rt (by rw [dh,ah (by omega),au (by omega)];exact av.dZ (n:=2) (cap:=2) hbz rfl (bU _) (show 2≤maxLen by decide) rfl (eG _ [1,2]))
           | exact H.rt (by rw [dh,ah (by omega),ah (by omega),au (by omega)];exact av.dZ (n:=1) (cap:=1) hbz rfl (bU _) (show 1≤maxLen by decide) rfl (eG _ [3]))
           | exact H.rt (by rw [dh,ah (by omega),ah (by omega),ah (by omega),au (by omega)];exact av.dZ (n:=1) (cap:=1) hbz rfl (bU _) (show 1≤maxLen by decide) rfl (eG _ [6]))
           | exact H.rt (by rw [dh,ah (by omega),ah (by omega),ah (by omega),ah (by omega),au (by omega)];exact av.dZ (n:=1) (cap:=1) hbz rfl (bU _) (show 1≤maxLen by decide) rfl (eG _ [4]))
           | exact H.rt (by rw [dh,ah (by omega),ah (by omega),ah (by omega),ah (by omega),ah (by omega),au (by omega)];exact av.dZ (n:=1) (cap:=1) hbz rfl (bU _) (show 1≤maxLen by decide) rfl (eG _ [5])))
  intro fK a H
  try have pK:=dF fK
  refine kP H (SR fun _ dN=>Rc rfl (ak dN rfl (Cd rfl ?_ ?_))) <;> clear H dN
  · intro h16 a H
    try have p16:=dT h16
    refine cO (fun _ dx=>?_);refine gQ xu aG [_] [_] H wn rfl rfl rfl rfl rfl (by intro i q h;match i,h with|0,h=>exact h|n+1,h=>simp at h) rfl rfl ?_;clear H;intro b18 a w Jg H;refine kH H (ak dx rfl ?_);clear H dx;intro a H;refine lr H results139 rfl ?_
    first
      | exact H.rt (by rw [dh,ah (by omega),ah (by omega),ah (by omega),ah (by omega),ah (by omega),ah (by omega)];exact av.jf rfl (by decide))
      | (obtain ⟨Gz,hmz,hbz,H⟩:=H.dP
         first
           | exact H.rt (by rw [dh,au (by omega)];exact av.dZ (n:=1) (cap:=1) hbz rfl (bU _) (show 1≤maxLen by decide) rfl (eG _ [1]))
           | exact H.rt (by rw [dh,ah (by omega),au (by omega)];exact av.dZ (n:=2) (cap:=2) hbz rfl (bU _) (show 2≤maxLen by decide) rfl (eG _ [1,2]))
           | exact H.rt (by rw [dh,ah (by omega),ah (by omega),au (by omega)];exact av.dZ (n:=1) (cap:=1) hbz rfl (bU _) (show 1≤maxLen by decide) rfl (eG _ [3]))
           | exact H.rt (by rw [dh,ah (by omega),ah (by omega),ah (by omega),au (by omega)];exact av.dZ (n:=1) (cap:=1) hbz rfl (bU _) (show 1≤maxLen by decide) rfl (eG _ [6]))
           | exact H.rt (by rw [dh,ah (by omega),ah (by omega),ah (by omega),ah (by omega),au (by omega)];exact av.dZ (n:=1) (cap:=1) hbz rfl (bU _) (show 1≤maxLen by decide) rfl (eG _ [4]))
           | exact H.rt (by rw [dh,ah (by omega),ah (by omega),ah (by omega),ah (by omega),ah (by omega),au (by omega)];exact av.dZ (n:=1) (cap:=1) hbz rfl (bU _) (show 1≤maxLen by decide) rfl (eG _ [5])))
  intro h16 a H
  try have p16:=dF h16
  refine kP H (SR fun _ eu=>Rc rfl (ak eu rfl (Cd rfl ?_ ?_))) <;> clear H eu
  · intro h19 a H
    try have uK:=dT h19
    refine cO (fun _ gy=>?_);refine gQ xu aG [_] [_] H wn rfl rfl rfl rfl rfl (by intro i q h;match i,h with|0,h=>exact h|n+1,h=>simp at h) rfl rfl ?_;clear H;intro b21 a w ajB H;refine kH H (ak gy rfl ?_);clear H gy;intro a H;refine lr H results139 rfl ?_
    first
      | exact H.rt (by rw [dh,ah (by omega),ah (by omega),ah (by omega),ah (by omega),ah (by omega),ah (by omega)];exact av.jf rfl (by decide))
      | (obtain ⟨Gz,hmz,hbz,H⟩:=H.dP
         first
           | exact H.rt (by rw [dh,au (by omega)];exact av.dZ (n:=1) (cap:=1) hbz rfl (bU _) (show 1≤maxLen by decide) rfl (eG _ [1]))
           | exact H.rt (by rw [dh,ah (by omega),au (by omega)];exact av.dZ (n:=2) (cap:=2) hbz rfl (bU _) (show 2≤maxLen by decide) rfl (eG _ [1,2]))
           | exact H.rt (by rw [dh,ah (by omega),ah (by omega),au (by omega)];exact av.dZ (n:=1) (cap:=1) hbz rfl (bU _) (show 1≤maxLen by decide) rfl (eG _ [3]))
           | exact H.rt (by rw [dh,ah (by omega),ah (by omega),ah (by omega),au (by omega)];exact av.dZ (n:=1) (cap:=1) hbz rfl (bU _) (show 1≤maxLen by decide) rfl (eG _ [6]))
           | exact H.rt (by rw [dh,ah (by omega),ah (by omega),ah (by omega),ah (by omega),au (by omega)];exact av.dZ (n:=1) (cap:=1) hbz rfl (bU _) (show 1≤maxLen by decide) rfl (eG _ [4]))
           | exact H.rt (by rw [dh,ah (by omega),ah (by omega),ah (by omega),ah (by omega),ah (by omega),au (by omega)];exact av.dZ (n:=1) (cap:=1) hbz rfl (bU _) (show 1≤maxLen by decide) rfl (eG _ [5])))
  intro h19 a H
  try have uK:=dF h19
  refine kP H (SR fun _ fu=>Rc rfl (ak fu rfl (Cd rfl ?_ ?_))) <;> clear H fu
  · intro h22 a H
    try have gV:=dT h22
    refine cO (fun _ gD=>?_);refine gQ xu aG [_] [_] H wn rfl rfl rfl rfl rfl (by intro i q h;match i,h with|0,h=>exact h|n+1,h=>simp at h) rfl rfl ?_;clear H;intro b24 a w ajD H;refine kH H (ak gD rfl ?_);clear H gD;intro a H;refine lr H results139 rfl ?_
    first
      | exact H.rt (by rw [dh,ah (by omega),ah (by omega),ah (by omega),ah (by omega),ah (by omega),ah (by omega)];exact av.jf rfl (by decide))
      | (obtain ⟨Gz,hmz,hbz,H⟩:=H.dP
         first
           | exact H.rt (by rw [dh,au (by omega)];exact av.dZ (n:=1) (cap:=1) hbz rfl (bU _) (show 1≤maxLen by decide) rfl (eG _ [1]))
           | exact H.rt (by rw [dh,ah (by omega),au (by omega)];exact av.dZ (n:=2) (cap:=2) hbz rfl (bU _) (show 2≤maxLen by decide) rfl (eG _ [1,2]))
           | exact H.rt (by rw [dh,ah (by omega),ah (by omega),au (by omega)];exact av.dZ (n:=1) (cap:=1) hbz rfl (bU _) (show 1≤maxLen by decide) rfl (eG _ [3]))
           | exact H.rt (by rw [dh,ah (by omega),ah (by omega),ah (by omega),au (by omega)];exact av.dZ (n:=1) (cap:=1) hbz rfl (bU _) (show 1≤maxLen by decide) rfl (eG _ [6]))
           | exact H.rt (by rw [dh,ah (by omega),ah (by omega),ah (by omega),ah (by omega),au (by omega)];exact av.dZ (n:=1) (cap:=1) hbz rfl (bU _) (show 1≤maxLen by decide) rfl (eG _ [4]))
           | exact H.rt (by rw [dh,ah (by omega),ah (by omega),ah (by omega),ah (by omega),ah (by omega),au (by omega)];exact av.dZ (n:=1) (cap:=1) hbz rfl (bU _) (show 1≤maxLen by decide) rfl (eG _ [5])))
  intro h22 a H
  try have gV:=dF h22
  refine kP H (Kc K2 (SR fun _ jc=>ak jc rfl ?_));clear H K2 jc;intro a H;refine lr H results139 rfl ?_
  first
    | exact H.rt (by rw [dh,ah (by omega),ah (by omega),ah (by omega),ah (by omega),ah (by omega),ah (by omega)];exact av.jf rfl (by decide))
    | (obtain ⟨Gz,hmz,hbz,H⟩:=H.dP
       first
         | exact H.rt (by rw [dh,au (by omega)];exact av.dZ (n:=1) (cap:=1) hbz rfl (bU _) (show 1≤maxLen by decide) rfl (eG _ [1]))
         | exact H.rt (by rw [dh,ah (by omega),au (by omega)];exact av.dZ (n:=2) (cap:=2) hbz rfl (bU _) (show 2≤maxLen by decide) rfl (eG _ [1,2]))
         | exact H.rt (by rw [dh,ah (by omega),ah (by omega),au (by omega)];exact av.dZ (n:=1) (cap:=1) hbz rfl (bU _) (show 1≤maxLen by decide) rfl (eG _ [3]))
         | exact H.rt (by rw [dh,ah (by omega),ah (by omega),ah (by omega),au (by omega)];exact av.dZ (n:=1) (cap:=1) hbz rfl (bU _) (show 1≤maxLen by decide) rfl (eG _ [6]))
         | exact H.rt (by rw [dh,ah (by omega),ah (by omega),ah (by omega),ah (by omega),au (by omega)];exact av.dZ (n:=1) (cap:=1) hbz rfl (bU _) (show 1≤maxLen by decide) rfl (eG _ [4]))
         | exact H.rt (by rw [dh,ah (by omega),ah (by omega),ah (by omega),ah (by omega),ah (by omega),au (by omega)];exact av.dZ (n:=1) (cap:=1) hbz rfl (bU _) (show 1≤maxLen by decide) rfl (eG _ [5])))
theorem afH {G:GH} {l:List Int} {A:Option Addr} {n c k:Nat} (hv:av G (.sl 1 (l.map fun k=>[li k])) (.slice A n c)) (hk:k < l.length):∃ b o,A=some ⟨b,o,none⟩∧aJ G b (o+k*1)=some (vi l[k]):=by
 obtain ⟨A',c',he,_,_,hg⟩:=hv.slice
 injection he with e1 e2 e3
 subst e1;obtain ⟨b,o,cs,h1,h2,h3,h4⟩:=hg k [li l[k]] (by simp [hk])
 simp only [aY,av] at h4
 obtain ⟨v1,_,rfl,⟨rfl,-⟩,rfl⟩:=h4;exact ⟨b,o,h1,h3 0 _ rfl⟩
theorem afD (G:GH) (w0:World) (hG:Hold G w0) (l:List Int) (t:Int) (v:aj) (hv:av G (.sl 1 (l.map fun k=>[li k])) v) :
  Calls prog 151 #[v,vi t] w0 (bC w0 G fun u G'=>u=vi (mX (l.findIdx? fun x=>decide (t=x)))):=by
 obtain ⟨A,c,rfl,hc1,hc2,-⟩:=hv.slice;have hml:maxLen=9223372036854775807:=rfl;rw [bT] at *;refine eN [(0,_),(1,_)] func151 rfl ntmps151 rfl rfl hG ?_;intro a H;refine kP H (SR fun _ K1=>ak K1 rfl (SQ fun _ K2=>SR fun _ K3=>Rm rfl (Rl xu rfl (Rm rfl (Kz K3 (SB ?_))))));clear H K1 K3;intro a H;skip;refine eZ (ι:=Nat) (Tc:=[(0,_),(1,_),(7,_)]) (Lc:=[]) (fun gh=>[(8,vi gh)]) (fun gh=>[]) (fun gh=>G) (fun gh=>gh≤l.length∧(l.take gh).findIdx? (fun x=>decide (t=x))=none) (fun gh=>l.length - gh) (0) (by exact (H).sub ⟨rfl,rfl,rfl,rfl,aB⟩) ?_ ?_
 ·exact ⟨iK _,rfl⟩
 clear H;intro gh a w hI H;obtain ⟨k,hgh⟩:∃ x,x=gh:=⟨_,rfl⟩;subst hgh;obtain ⟨hk,hno⟩:=hI;dsimp only [lca,aZ] at H;refine kP H (SR fun _ K4=>Rc rfl (Kz K4 (SQ fun _ K5=>Cd rfl ?_ ?_))) <;> clear H K4
 ·intro h9 a H
  try have p9:=dT h9
  have hk2:k < l.length:=by omega
  obtain ⟨b,o,rfl,hrow⟩:=afH hv hk2;refine kP H (Kc K5 (SQ fun _ K6=>SB (SR fun _ K7=>Rm rfl (ak K7 rfl (SR fun _ K8=>Rm rfl (Rm rfl (Rm rfl (Ri xu aG rfl rfl (Rg aG rfl (by assumption) ?_)))))))));clear H K5 K7;intro a H;refine kH H (Rc rfl (Kz K8 (Cd rfl ?_ ?_))) <;> clear H K8
  ·intro h16 a H
   try have p16:=dT h16
   exact kP H (SR fun _ K9=>Rm rfl (ak K9 rfl (LR results151 rfl fun H=>H.rt (by rw [tJ hk2 hno (by simpa using p16)];rfl))))
  intro h16 a H
  try have p16:=dF h16
  refine kP H (Kc K6 (SC (Rd rfl (Rm rfl ?_))));clear H K6;intro a H;refine aH ?_;refine dw ((k+1)) (by exact (H).sub ⟨rfl,rfl,rfl,rfl,aB⟩) ?_ ?_
  ·exact ⟨by omega,zV hk2 hno (by simpa using p16)⟩
  first|omega|(dsimp only;omega)
 intro h9 a H
 try have p9:=dF h9
 refine dW ?_;refine K2 _ _ ?_;clear K2;exact kP H (SR fun _ aS=>ak aS rfl (LR results151 rfl fun H=>H.rt (by rw [show l.take k=l from jA (by omega)] at hno;rw [hno];rfl)))
theorem aau (G:GH) (w0:World) (hG:Hold G w0) (l:List Int) (t:Int) (v:aj) (hv:av G (.sl 1 (l.map fun k=>[li k])) v) :
  Calls prog 138 #[v,vi t] w0 (bC w0 G fun u G'=>u=.bool (decide (t∈l))):=by
 obtain ⟨A,c,rfl,hc1,hc2,-⟩:=hv.slice;rw [bT] at *;refine eN [(0,_),(1,_)] func138 rfl ntmps138 rfl rfl hG ?_;intro a H;refine kP H (SR fun _ K1=>ak K1 rfl (SR fun _ K2=>Rm rfl (Rm rfl ?_)));clear H K1;intro a H;refine s_call abC H wn rfl (afD _ _ H.ro l t _ hv) rfl ?_;clear H;rintro v7 G7 a w rfl zP H;refine kH H (Rc rfl (ak K2 rfl ?_));clear H K2;intro a H;refine lr H results138 rfl ?_
 exact H.rt (by
  congr 1
  cases h:l.findIdx? (fun x=>decide (t=x)) with
  | none =>
   rw [List.findIdx?_eq_none_iff] at h;have:t∉l:=fun hm=>absurd (h t hm) (by simp)
   simp [mX,this]
  | some i =>
   obtain ⟨hi,he,-⟩:=List.findIdx?_eq_some_iff_getElem.1 h
   have:t∈l:=by rw [rH he];exact iQ _
   simp [mX,this])
def xS (e k:Int):Bool:=(kX k).2 && decide ((kX k).1.xU∈dh e)
theorem TN (G:GH) (w0:World) (hG:Hold G w0) (e k:Int):Calls prog 125 #[vi e,vi k] w0 (bC w0 G fun u G'=>u=.bool (xS e k)):=by
 refine eN [(0,_),(1,_)] func125 rfl ntmps125 rfl rfl hG ?_;intro a H;refine kP H (SR fun _ K1=>ak K1 rfl (SR fun _ K2=>Rm rfl ?_));clear H K1;intro a H;refine s_call Sl H wn rfl (find_spec _ _ H.ro k) rfl ?_;clear H;rintro v9 G9 a w rfl wI H;dsimp only [iW.cells] at H;refine kH H (Rm rfl ?_);clear H;intro a H;(iterate 2 refine lu H wn rfl rfl rfl ?_;clear H;intro a H);refine eU qY H wn rfl ?_;clear H;intro b5 a w hb5 H;refine bF qY 0 (vs:=[_,_,_,_,_,_]) _ H wn rfl rfl rfl rfl rfl rfl rfl rfl ?_;clear H;intro w H;dsimp only [List.set,setRow] at H;refine kH H (ak K2 rfl (SQ fun _ K3=>?_));clear H K2;intro a H
 by_cases c0:(kX k).2=true
 ·skip
  have nI:∀ (bS:Nat) (v:aj) (G G':GH),(∀ k o,G k=some o→G' k=some o)→(fun (bS:Nat) (v:aj) (G:GH)=>match bS with|0=>v=.bool (kX k).2|1=>v=.bool (decide ((kX k).2=true))|2=>v=vi e|3=>(kX k).2=true→av G (.sl 1 ((dh e).map fun k=>[li k])) v|4=>v=(aI b5 1)|5=>v=vi (kX k).1.xU|6=>v=.bool (decide ((kX k).1.xU∈dh e))|7=>v=.bool (xS e k)|_=>True) bS v G→(fun (bS:Nat) (v:aj) (G:GH)=>match bS with|0=>v=.bool (kX k).2|1=>v=.bool (decide ((kX k).2=true))|2=>v=vi e|3=>(kX k).2=true→av G (.sl 1 ((dh e).map fun k=>[li k])) v|4=>v=(aI b5 1)|5=>v=vi (kX k).1.xU|6=>v=.bool (decide ((kX k).1.xU∈dh e))|7=>v=.bool (xS e k)|_=>True) bS v G':=by
   intro bS v G G' hm h
   match bS,h with
   | 0,h=>exact h
   | 1,h=>exact h
   | 2,h=>exact h
   | 3,h=>exact fun hf=>(h hf).mono hm
   | 4,h=>exact h
   | 5,h=>exact h
   | 6,h=>exact h
   | 7,h=>exact h
   | 8,h=>exact trivial
   | _+9,h=>exact trivial
  refine AA (hmx) [[],[0],[0,1],[0,1,2],[0,1],[0,1,4],(ra 0 6),(ra 0 7),(ra 0 8)] [8] (by kernel_rfl) (by kernel_rfl) (fun (bS:Nat) (v:aj) (G:GH)=>match bS with|0=>v=.bool (kX k).2|1=>v=.bool (decide ((kX k).2=true))|2=>v=vi e|3=>(kX k).2=true→av G (.sl 1 ((dh e).map fun k=>[li k])) v|4=>v=(aI b5 1)|5=>v=vi (kX k).1.xU|6=>v=.bool (decide ((kX k).1.xU∈dh e))|7=>v=.bool (xS e k)|_=>True) nI H ?_ ?_
  ·clear H;refine aD ?_ ?_ ?_ ?_ (aD ?_ ?_ ?_ ?_ (aW (bL rfl) bY))
   ·refine dM [] rfl trivial (by kernel_rfl) nI rfl rfl ?_;intro bQ a w G1 hG HT H fin;exact kH H (Rm rfl fun _ H=>fin H iJ rfl)
   ·refine dM [(0,12,_)] rfl ⟨fun _ _ h=>h,aB⟩ (by kernel_rfl) nI rfl rfl ?_;intro bQ a w G1 hG HT H fin;refine kH H (Rm rfl ?_);clear H;intro a H;exact fin H iJ (by simp)
   ·refine dM [(1,13,_)] rfl ⟨fun _ _ h=>h,aB⟩ (by kernel_rfl) nI rfl rfl ?_;intro bQ a w G1 hG HT H fin;exact kH H (YM (aC c0) rfl fun _ H=>fin H iJ rfl)
   ·refine dM [(2,14,_),(1,13,_)] rfl ⟨fun _ _ h=>h,fun _ _ h=>h,aB⟩ (by kernel_rfl) nI rfl rfl ?_;intro bQ a w G1 hG HT H fin;refine s_call abq H (wg H rfl rfl (aC c0)) rfl (adM _ _ H.ro e) rfl ?_;clear H;rintro v15 BP a w nS zG H;exact fin H zG (by first|exact fun _=>nS|rfl)
   ·refine dM [(1,13,_)] rfl ⟨fun _ _ h=>h,aB⟩ (by kernel_rfl) nI rfl rfl ?_;intro bQ a w G1 hG HT H fin;exact kH H (YF ade (aC c0) rfl fun _ H=>fin H iJ rfl)
   ·refine dM [(4,16,_),(1,13,_)] rfl ⟨fun _ _ h=>h,fun _ _ h=>h,aB⟩ (by kernel_rfl) nI rfl rfl ?_;intro bQ a w G1 hG HT H fin;exact kH H (YO aG 0 (aC c0) rfl fun _ H=>fin H iJ rfl)
   ·intro bQ a w G1 _ bH hc hG HT hv;have H:=HT;clear bH;obtain ⟨u15,Oc,nS⟩:=hv 3 15 (hc 3 (by decide)) rfl;(try dsimp only at nS);have H:=H.jS Oc;have H:=H.aQ (hv 5 17 (hc 5 (by decide)) rfl) rfl;have H:=H.aQ (hv 1 13 (hc 1 (by decide)) rfl) rfl;have Hb:=H.full;have H:=Hb;clear hc;refine s_call abp H (wg H rfl rfl (aC c0)) rfl (aau _ _ H.ro _ _ _ (nS c0)) rfl ?_;clear H;rintro v18 KI a w rfl M7 H;refine aH ⟨rfl,?_⟩;exact jo (by kernel_rfl) nI rfl rfl HT Hb hG hv M7 (rfl) H
   refine dM [(1,13,_),(6,18,_)] rfl ⟨fun _ _ h=>h,fun _ _ h=>h,aB⟩ (by kernel_rfl) nI rfl rfl ?_;intro bQ a w G1 hG HT H fin;refine kH H (Pt (aC c0) rfl ?_);clear H;intro a H;exact fin H iJ (by unfold xS;simp_all)
  clear H;intro a w G zH H hv;have H:=H.aQ (hv 7 19 rfl rfl) rfl;clear hv;refine kH H (Ra rfl ?_);clear H;intro a H;refine aH ⟨rfl,?_⟩;refine K3 _ _ ?_;clear K3;refine lr H results125 rfl ?_;exact H.rt rfl
 skip;refine dI hmx [[],[0],[0,1],[0,1,2],[0,1],[0,1,4],(ra 0 6),(ra 0 7),(ra 0 8)] [8] (by kernel_rfl) [_,.bool (decide ((kX k).2=true)),undef,undef,undef,undef,undef,.bool (xS e k)] H (aD (Z0 rfl (Rm rfl)) ?_ (aL (j:=1) (by kernel_rfl) (fun _ _ _ _ _ h=>h) rfl rfl rfl rfl rfl (fun _ _ h=>aN h (aF (aO c0))) rfl (fun _=>rfl)) ?_ (aD (aL (j:=1) (by kernel_rfl) (fun _ _ _ _ _ h=>h) rfl rfl rfl rfl rfl (fun _ _ h=>aN h (aF (aO c0))) rfl (fun _=>rfl)) (aL (j:=1) (by kernel_rfl) (fun _ _ _ _ _ h=>h) rfl rfl rfl rfl rfl (fun _ _ h=>aN h (aF (aO c0))) rfl (fun _=>rfl)) (aL (j:=1) (by kernel_rfl) (fun _ _ _ _ _ h=>h) rfl rfl rfl rfl rfl (fun _ _ h=>aN h (aF (aO c0))) rfl (fun _=>rfl)) ?_ (aW (bL rfl) bY))) ?_
 ·refine dL 0 12 rfl rfl fun _ a w G1 hG HT H fin=>?_;refine kH H (Rm rfl ?_);clear H;intro a H;exact fin H iJ (by show _=_;simp)
 ·intro bQ a w G1 _ bH hc hG HT hv;have H:=HT;clear bH;have H:=H.aQ (hv 2 14 (hc 2 (by decide)) rfl) rfl;have H:=H.aQ (hv 1 13 (hc 1 (by decide)) rfl) rfl;have Hb:=H.full;have H:=Hb;clear hc;refine kH H (Ks (aO c0) rfl ?_);clear H;intro a H;refine aH ⟨rfl,?_⟩;exact jo (by kernel_rfl) (fun _ _ _ _ _ h=>h) rfl rfl HT Hb hG hv (fun _ _ h=>h) (by first|exact fun _=>nS|rfl) H
 ·refine dz 1 13 6 18 rfl rfl fun _ a w G1 hG HT H fin=>?_;refine kH H (Pf (aO c0) rfl ?_);clear H;intro a H;exact fin H iJ (by show _=_;unfold xS;simp_all)
 clear H;intro a w G zH H hv;have H:=H.aQ (hv 7 19 rfl rfl) rfl;clear hv;refine kH H (Ra rfl ?_);clear H;intro a H;refine aH ⟨rfl,?_⟩;refine K3 _ _ ?_;clear K3;refine lr H results125 rfl ?_;exact H.rt rfl
def sN (k v:Int):Int:=if (kX k).2=false then 4 else if v < (kX k).1.low∨(kX k).1.high < v then 5 else 0
theorem LH (G:GH) (w0:World) (hG:Hold G w0) (k x:Int):Calls prog 126 #[vi k,vi x] w0 (bC w0 G fun u G'=>u=vi (sN k x)):=by
 refine eN [(0,_),(1,_)] func126 rfl ntmps126 rfl rfl hG ?_;intro a H;refine kP H (SR fun _ K1=>ak K1 rfl (SR fun _ K2=>Rm rfl ?_));clear H K1;intro a H;refine s_call Sl H wn rfl (find_spec _ _ H.ro k) rfl ?_;clear H;rintro v9 G9 a w rfl wI H;dsimp only [iW.cells] at H;refine kH H (Rm rfl ?_);clear H;intro a H;(iterate 2 refine lu H wn rfl rfl rfl ?_;clear H;intro a H);refine eU qY H wn rfl ?_;clear H;intro b5 a w hb5 H;refine bF qY 0 (vs:=[_,_,_,_,_,_]) _ H wn rfl rfl rfl rfl rfl rfl rfl rfl ?_;clear H;intro w H;dsimp only [List.set,setRow] at H;refine kH H (ak K2 rfl (SQ fun _ K3=>SB (SR fun _ K4=>Rm rfl (Rn rfl (ak K4 rfl (Cd rfl ?_ ?_)))))) <;> clear H K2 K4
 ·intro h12 a H
  try have oJ:=dT h12
  exact kP H (SR fun _ K5=>ak K5 rfl (LR results126 rfl fun H=>H.rt (by unfold sN;simp_all)))
 intro h12 a H
 try have oJ:=dF h12
 refine kP H (SR fun _ K6=>Rm rfl (aR adf aG 0 rfl rfl (Rc rfl (Rm rfl (Sp 20 rfl ?_ ?_))))) <;> clear H
 ·intro h20 a H
  try have Dp:=dT h20
  exact kH H (aP h20 rfl (aP h20 rfl (Pt h20 rfl (ak K6 rfl (Ct rfl rfl (SR fun _ K7=>ak K7 rfl (LR results126 rfl fun H=>H.rt (by unfold sN;simp_all))))))))
 intro h20 a H
 try have Dp:=dF h20
 refine kH H (YM h20 rfl (YF adg h20 rfl (YO aG 0 h20 rfl (YC h20 rfl (Pf h20 rfl (ak K6 rfl (Cd rfl ?_ ?_))))))) <;> clear H K6
 ·intro nG a H
  try have rX:=dT nG
  exact kP H (SR fun _ K8=>ak K8 rfl (LR results126 rfl fun H=>H.rt (by unfold sN;simp_all)))
 intro nG a H
 try have rX:=dF nG
 exact kP H (Kc K3 (SR fun _ K9=>ak K9 rfl (LR results126 rfl fun H=>H.rt (by unfold sN;simp_all))))
end
section
open Go.RowKit
theorem um:bV prog 187 0 0:=⟨by kernel_rfl⟩
theorem Sj:∀ args w,(callFunc 125 args).run prog w=.ok (.enter 125 args) w:=enters func125 rfl (by kernel_rfl)
theorem Tp:bV prog 187 1 1:=⟨by kernel_rfl⟩
theorem Mf:∀ args w,(callFunc 126 args).run prog w=.ok (.enter 126 args) w:=enters func126 rfl (by kernel_rfl)
def EG (q:Option Int) (k:Int):Bool:=match q with|some j=>decide (k < j)|none=>false
def ze (e:Int):Option Int→List iq→Int
 | _,[]=>0
 | q,p :: r=>if xS e p.key=false then 4 else if q=some p.key then 7 else if EG q p.key=true then 6 else if sN p.key p.value=0 then ze e (some p.key) r else sN p.key p.value
def wV (l:List iq) (k:Nat):Option Int:=if k=0 then none else l[k - 1]?.map iq.key
def gq (e:Int) (l:List iq):Int:=if e < 1∨10 < e then 3 else ze e none l
theorem aac {e:Int} {l:List iq} {k:Nat} (h:k < l.length):ze e (wV l k) (l.drop k)=if xS e l[k].key=false then 4 else if wV l k=some l[k].key then 7 else if EG (wV l k) l[k].key=true then 6 else if sN l[k].key l[k].value=0 then ze e (wV l (k+1)) (l.drop (k+1)) else sN l[k].key l[k].value:=by
 rw [lG h,ze]
 have:wV l (k+1)=some l[k].key:=by rw [wV,ah (by omega),Nat.add_sub_cancel,gP h];rfl
 rw [this]
theorem JU {l:List iq} {k:Nat} (h:k=0):wV l k=none:=au h
theorem V9 (G:GH) (w0:World) (hG:Hold G w0) (e:Int) (l:List iq) (v:aj) (hv:av G (.sl 2 (l.map iq.dat)) v) :
  Calls prog 90 #[vi e,v] w0 (bC w0 G fun u G'=>u=vi (gq e l)):=by
 obtain ⟨A,c,rfl,hc1,hc2,-⟩:=hv.slice;have hml:maxLen=9223372036854775807:=rfl;rw [bT] at *;refine eN [(0,_),(1,_)] func90 rfl ntmps90 rfl rfl hG ?_;intro a H;refine kP H (SR fun _ K1=>ak K1 rfl (SQ fun _ K2=>SR fun _ K3=>Rm rfl (Rc rfl (Rm rfl (Sp 10 rfl ?_ ?_))))) <;> clear H K1
 ·intro h10 a H
  try have lg:=dT h10
  refine kH H (aP h10 rfl (Pt h10 rfl (Kz K3 (Ct rfl rfl (SR fun _ K4=>ak K4 rfl ?_)))));clear H K3 K4;intro a H;refine lr H results90 rfl ?_
  first
   | exact H.rt (aA vi (by rw [ah (by simpa using p61)] at heq;rw [gq,ah (by omega)];exact heq))
   | exact H.rt (aA vi (by rw [au (by simpa using h21)] at heq;rw [gq,ah (by omega)];exact heq))
   | exact H.rt (aA vi (by rw [gq,ah (by omega)];exact heq))
   | exact H.rt (aA vi (by rw [gq,ah (by omega),← heq,show l.drop k=[] from iC (by omega)];rfl))
   | exact H.rt (aA vi (by rw [gq,au (by omega)]))
 intro h10 a H
 try have lg:=dF h10
 refine kH H (YM h10 rfl (YC h10 rfl (Pf h10 rfl (Kz K3 (Cd rfl ?_ ?_))))) <;> clear H K3
 ·intro fK a H
  try have pK:=dT fK
  refine kP H (SR fun _ K5=>ak K5 rfl ?_);clear H K5;intro a H;refine lr H results90 rfl ?_
  first
   | exact H.rt (aA vi (by rw [ah (by simpa using p61)] at heq;rw [gq,ah (by omega)];exact heq))
   | exact H.rt (aA vi (by rw [au (by simpa using h21)] at heq;rw [gq,ah (by omega)];exact heq))
   | exact H.rt (aA vi (by rw [gq,ah (by omega)];exact heq))
   | exact H.rt (aA vi (by rw [gq,ah (by omega),← heq,show l.drop k=[] from iC (by omega)];rfl))
   | exact H.rt (aA vi (by rw [gq,au (by omega)]))
 intro fK a H
 try have pK:=dF fK
 refine kP H (Kc K2 (SQ fun _ K6=>SR fun _ K7=>Rm rfl (Rl nY rfl (Rm rfl (Kz K7 (SB ?_))))));clear H K2 K7;intro a H;skip;refine eZ (ι:=Nat × GH) (Tc:=[(0,_),(1,_),(14,_),(15,_)]) (Lc:=[]) (fun gh=>[(16,vi gh.1)]) (fun gh=>[]) (fun gh=>gh.2) (fun gh=>gh.1≤l.length∧ze e (wV l gh.1) (l.drop gh.1)=ze e none l∧(∀ b o,G b=some o→gh.2 b=some o)) (fun gh=>l.length - gh.1) ((0,G)) (by exact (H).sub ⟨rfl,rfl,rfl,rfl,rfl,aB⟩) ?_ ?_
 ·exact ⟨iK _,rfl,fun _ _ h=>h⟩
 clear H;intro gh a w hI H;obtain ⟨k,g⟩:=gh;dsimp only at hI H;obtain ⟨hk,heq,hgm⟩:=hI;dsimp only [lca,aZ] at H;refine kP H (SR fun _ K8=>Rc rfl (Kz K8 (SQ fun _ K9=>Cd rfl ?_ ?_))) <;> clear H K8
 ·intro dS a H
  try have lS:=dT dS
  have hk2:k < l.length:=by omega
  have CZ:=hv.mono hgm;obtain ⟨b,o,rfl,hrow⟩:=JW CZ hk2
  obtain ⟨pk,hpk⟩:∃ pk,0 < k→aJ g b (o+(k - 1)*2+0)=some (vi pk)∧wV l k=some pk:=by
   by_cases h0:0 < k
   ·obtain ⟨b',o',he,hr'⟩:=JW CZ (show k - 1 < l.length by omega)
    injection he with he
    injection he with e1 e2 e3
    subst e1;subst e2;exact ⟨_,fun _=>⟨hr' 0 _ rfl,by rw [wV,ah (by omega),gP (by omega)];rfl⟩⟩
   exact ⟨0,fun h=>absurd h h0⟩
  rw [aac hk2] at heq;have ajM:=heq;refine kP H (Kc K9 (SQ fun _ aS=>SB (SR fun _ bA=>Rm rfl (Ri nY mQ rfl rfl ?_))));clear H K9;intro a H;refine bD mQ (cs:=[_,_]) H wn rfl rfl (fun j v hj=>H.hp.aJ (hrow j v hj)) rfl ?_;clear H;intro a H;refine eU mQ H wn rfl ?_;clear H;intro b6 a w hb6 H;refine kH H (Ra rfl ?_);clear H;intro a H;refine bF mQ 0 (vs:=[_,_]) _ H wn rfl rfl rfl rfl rfl rfl rfl rfl ?_;clear H;intro w H;dsimp only [List.set,setRow] at H;refine bA _ _ ?_;clear bA;refine qd (ι:=GH) (Tc:=[(0,_),(1,_),(6,_),(14,_),(15,_),(16,_)]) (Lc:=[(_,_)]) (fun gh=>[]) (fun gh=>[]) (fun gh=>gh) (fun gh=>(if sN l[k].key l[k].value=0 then ze e (wV l (k+1)) (l.drop (k+1)) else sN l[k].key l[k].value)=ze e none l∧(∀ b o,g b=some o→gh b=some o)) (by exact (H).sub ⟨rfl,rfl,rfl,rfl,rfl,rfl,aB⟩) ?_ ?_
  ·skip;refine kP H (SB (SR fun _ bK=>Rm rfl (aR um aG 0 rfl rfl ?_)));clear H;intro a H;refine s_call Sj H wn rfl (TN _ _ H.ro e l[k].key) rfl ?_;clear H;rintro v25 Yg a w rfl CQ H;replace hrow:=fun j u hj=>aK CQ (hrow j u hj);refine kH H (Rn rfl (ak bK rfl (Cd rfl ?_ ?_))) <;> clear H bK
   ·intro h21 a H
    try have oK:=dT h21
    refine kP H (SR fun _ bR=>ak bR rfl ?_);clear H bR;intro a H;refine lr H results90 rfl ?_
    first
     | exact H.rt (aA vi (by rw [ah (by simpa using p61)] at heq;rw [gq,ah (by omega)];exact heq))
     | exact H.rt (aA vi (by rw [au (by simpa using h21)] at heq;rw [gq,ah (by omega)];exact heq))
     | exact H.rt (aA vi (by rw [gq,ah (by omega)];exact heq))
     | exact H.rt (aA vi (by rw [gq,ah (by omega),← heq,show l.drop k=[] from iC (by omega)];rfl))
     | exact H.rt (aA vi (by rw [gq,au (by omega)]))
   intro h21 a H
   try have oK:=dF h21
   rw [ah (by simpa using h21)] at heq;refine bq (fun _ bP=>?_)
   by_cases c0:0 < (k:Int)
   ·skip
    by_cases c1:l[k].key=pk
    ·skip;refine dI hmx [[],[0],[0,1],[0,1,2],(ra 0 4),[0,1,2],[0,1,2],[0,1,2,6],[0,1,2,5,6,7],[0,1,2,5,6,7,8],[0,1,2,5,6,7,8,9],(ra 0 11),(ra 0 12),(ra 0 13)] [13] (by kernel_rfl) [_,_,_,_,vi l[k].key,_,_,vi ((k - 1:Nat):Int),_,_,_,_,_] H (aD (Z0 rfl (Rm rfl)) (Z1 0 28 rfl (Rc rfl)) (Z1 1 29 rfl (Rm rfl)) (Z1 2 30 rfl (YF um (aC c0) rfl)) (aD (Z2 3 31 2 30 rfl (YO aG 0 (aC c0) rfl)) (Z1 2 30 rfl (YM (aC c0) rfl)) (Z1 2 30 rfl (YM (aC c0) rfl)) ?_ (aD (Z3 5 33 7 35 2 30 rfl (YI nY mQ (aC c0) rfl rfl)) (Z2 8 36 2 30 rfl (YF um (aC c0) rfl)) (X2 9 37 2 30 rfl fun hG=>YR aG (aC c0) rfl (aK hG (aK CQ (hpk (by omega)).1))) (Z3 4 32 10 38 2 30 rfl (YC (aC c0) rfl)) (aW (Z2 2 30 11 39 rfl (Pt (aC c0) rfl)) (aW (bL rfl) bY))))) ?_
     ·refine dz 6 34 2 30 rfl rfl fun _ a w G1 hG HT H fin=>?_;refine mF _ H (wg H rfl rfl (aC c0)) rfl rfl rfl (by omega) (by omega) rfl ?_;clear H;intro a H;exact fin H iJ (by show _=_;first|rfl|exact aA vi (by omega))
     clear H;intro a w G qK H hv;have H:=H.aQ (hv 12 40 rfl rfl) rfl;clear hv;refine kH H (Ra rfl ?_);clear H;intro a H;refine aH ⟨rfl,?_⟩;refine bP _ _ ?_;clear bP;refine vX H rfl (aC c1) ?_;refine bq (fun _ dJ=>?_);rw [au (by rw [(hpk (by omega)).2,c1])] at heq;refine kP H (SC (aV dJ rfl ?_));clear H dJ;intro a H;refine lr H results90 rfl ?_
     first
      | exact H.rt (aA vi (by rw [ah (by simpa using p61)] at heq;rw [gq,ah (by omega)];exact heq))
      | exact H.rt (aA vi (by rw [au (by simpa using h21)] at heq;rw [gq,ah (by omega)];exact heq))
      | exact H.rt (aA vi (by rw [gq,ah (by omega)];exact heq))
      | exact H.rt (aA vi (by rw [gq,ah (by omega),← heq,show l.drop k=[] from iC (by omega)];rfl))
      | exact H.rt (aA vi (by rw [gq,au (by omega)]))
    skip;refine dI hmx [[],[0],[0,1],[0,1,2],(ra 0 4),[0,1,2],[0,1,2],[0,1,2,6],[0,1,2,5,6,7],[0,1,2,5,6,7,8],[0,1,2,5,6,7,8,9],(ra 0 11),(ra 0 12),(ra 0 13)] [13] (by kernel_rfl) [_,_,_,_,vi l[k].key,_,_,vi ((k - 1:Nat):Int),_,_,_,_,_] H (aD (Z0 rfl (Rm rfl)) (Z1 0 28 rfl (Rc rfl)) (Z1 1 29 rfl (Rm rfl)) (Z1 2 30 rfl (YF um (aC c0) rfl)) (aD (Z2 3 31 2 30 rfl (YO aG 0 (aC c0) rfl)) (Z1 2 30 rfl (YM (aC c0) rfl)) (Z1 2 30 rfl (YM (aC c0) rfl)) ?_ (aD (Z3 5 33 7 35 2 30 rfl (YI nY mQ (aC c0) rfl rfl)) (Z2 8 36 2 30 rfl (YF um (aC c0) rfl)) (X2 9 37 2 30 rfl fun hG=>YR aG (aC c0) rfl (aK hG (aK CQ (hpk (by omega)).1))) (Z3 4 32 10 38 2 30 rfl (YC (aC c0) rfl)) (aW (Z2 2 30 11 39 rfl (Pt (aC c0) rfl)) (aW (bL rfl) bY))))) ?_
    ·refine dz 6 34 2 30 rfl rfl fun _ a w G1 hG HT H fin=>?_;refine mF _ H (wg H rfl rfl (aC c0)) rfl rfl rfl (by omega) (by omega) rfl ?_;clear H;intro a H;exact fin H iJ (by show _=_;first|rfl|exact aA vi (by omega))
    clear H;intro a w G qK H hv;have H:=H.aQ (hv 12 40 rfl rfl) rfl;clear hv;refine kH H (Ra rfl ?_);clear H;intro a H;refine aH ⟨rfl,?_⟩;refine bP _ _ ?_;clear bP;refine kW H rfl (aO c1) ?_;refine bq (fun _ dN=>?_)
    have q1:¬ (0 < (k:Int)∧l[k].key=pk):=by first|exact fun h=>c1 h.2|exact fun h=>c0 h.1
    rw [ah (fun h=>q1 (by
     by_cases h0:0 < k
     ·rw [(hpk h0).2] at h
      injection h with h
      exact ⟨by omega,h.symm⟩
     rw [JU (by omega)] at h
     cases h))] at heq
    by_cases c3:l[k].key < pk
    ·skip;refine dI hmx [[],[0],[0,1],[0,1,2],(ra 0 4),[0,1,2],[0,1,2],[0,1,2,6],[0,1,2,5,6,7],[0,1,2,5,6,7,8],[0,1,2,5,6,7,8,9],(ra 0 11),(ra 0 12),(ra 0 13)] [13] (by kernel_rfl) [_,_,_,_,vi l[k].key,_,_,vi ((k - 1:Nat):Int),_,_,vi pk,_,_] H (aD (Z0 rfl (Rm rfl)) (Z1 0 42 rfl (Rc rfl)) (Z1 1 43 rfl (Rm rfl)) (Z1 2 44 rfl (YF um (aC c0) rfl)) (aD (Z2 3 45 2 44 rfl (YO aG 0 (aC c0) rfl)) (Z1 2 44 rfl (YM (aC c0) rfl)) (Z1 2 44 rfl (YM (aC c0) rfl)) ?_ (aD (Z3 5 47 7 49 2 44 rfl (YI nY mQ (aC c0) rfl rfl)) (Z2 8 50 2 44 rfl (YF um (aC c0) rfl)) ?_ (Z3 4 46 10 52 2 44 rfl (YC (aC c0) rfl)) (aW (Z2 2 44 11 53 rfl (Pt (aC c0) rfl)) (aW (bL rfl) bY))))) ?_
     ·refine dz 6 48 2 44 rfl rfl fun _ a w G1 hG HT H fin=>?_;refine mF _ H (wg H rfl rfl (aC c0)) rfl rfl rfl (by omega) (by omega) rfl ?_;clear H;intro a H;exact fin H iJ (by show _=_;first|rfl|exact aA vi (by omega))
     ·refine dz 9 51 2 44 rfl rfl fun _ a w G1 hG HT H fin=>?_;refine uM aG H (wg H rfl rfl (aC c0)) rfl (H.hp.aJ (aK hG (aK qK (aK CQ (hpk (by omega)).1)))) rfl ?_;clear H;intro a H;exact fin H iJ rfl
     clear H;intro a w G mK H hv;have H:=H.aQ (hv 12 54 rfl rfl) rfl;clear hv;refine kH H (Ra rfl ?_);clear H;intro a H;refine aH ⟨rfl,?_⟩;refine dN _ _ ?_;clear dN;refine vX H rfl (aC c3) ?_;refine bq (fun _ dx=>?_);rw [au (by rw [(hpk (by omega)).2];exact aC c3)] at heq;refine kP H (SC (aV dx rfl ?_));clear H dx;intro a H;refine lr H results90 rfl ?_
     first
      | exact H.rt (aA vi (by rw [ah (by simpa using p61)] at heq;rw [gq,ah (by omega)];exact heq))
      | exact H.rt (aA vi (by rw [au (by simpa using h21)] at heq;rw [gq,ah (by omega)];exact heq))
      | exact H.rt (aA vi (by rw [gq,ah (by omega)];exact heq))
      | exact H.rt (aA vi (by rw [gq,ah (by omega),← heq,show l.drop k=[] from iC (by omega)];rfl))
      | exact H.rt (aA vi (by rw [gq,au (by omega)]))
    skip;refine dI hmx [[],[0],[0,1],[0,1,2],(ra 0 4),[0,1,2],[0,1,2],[0,1,2,6],[0,1,2,5,6,7],[0,1,2,5,6,7,8],[0,1,2,5,6,7,8,9],(ra 0 11),(ra 0 12),(ra 0 13)] [13] (by kernel_rfl) [_,_,_,_,vi l[k].key,_,_,vi ((k - 1:Nat):Int),_,_,vi pk,_,_] H (aD (Z0 rfl (Rm rfl)) (Z1 0 42 rfl (Rc rfl)) (Z1 1 43 rfl (Rm rfl)) (Z1 2 44 rfl (YF um (aC c0) rfl)) (aD (Z2 3 45 2 44 rfl (YO aG 0 (aC c0) rfl)) (Z1 2 44 rfl (YM (aC c0) rfl)) (Z1 2 44 rfl (YM (aC c0) rfl)) ?_ (aD (Z3 5 47 7 49 2 44 rfl (YI nY mQ (aC c0) rfl rfl)) (Z2 8 50 2 44 rfl (YF um (aC c0) rfl)) ?_ (Z3 4 46 10 52 2 44 rfl (YC (aC c0) rfl)) (aW (Z2 2 44 11 53 rfl (Pt (aC c0) rfl)) (aW (bL rfl) bY))))) ?_
    ·refine dz 6 48 2 44 rfl rfl fun _ a w G1 hG HT H fin=>?_;refine mF _ H (wg H rfl rfl (aC c0)) rfl rfl rfl (by omega) (by omega) rfl ?_;clear H;intro a H;exact fin H iJ (by show _=_;first|rfl|exact aA vi (by omega))
    ·refine dz 9 51 2 44 rfl rfl fun _ a w G1 hG HT H fin=>?_;refine uM aG H (wg H rfl rfl (aC c0)) rfl (H.hp.aJ (aK hG (aK qK (aK CQ (hpk (by omega)).1)))) rfl ?_;clear H;intro a H;exact fin H iJ rfl
    clear H;intro a w G mK H hv;have H:=H.aQ (hv 12 54 rfl rfl) rfl;clear hv;refine kH H (Ra rfl ?_);clear H;intro a H;refine aH ⟨rfl,?_⟩;refine dN _ _ ?_;clear dN;refine kW H rfl (aO c3) ?_;refine fO ?_;refine ⟨_,by exact (H).sub ⟨rfl,rfl,rfl,rfl,rfl,rfl,aB⟩,?_⟩
    have q2:¬ (0 < (k:Int)∧l[k].key < pk):=by first|exact fun h=>c3 h.2|exact fun h=>c0 h.1
    rw [ah (fun h=>q2 (by
     by_cases h0:0 < k
     ·rw [(hpk h0).2] at h;exact ⟨by omega,rH h⟩
     rw [JU (by omega)] at h
     cases h))] at heq
    exact ⟨heq,fun b o h=>mK b o (qK b o (CQ b o h))⟩
   skip;refine dI hmx [[],[0],[0,1],[0,1,2],(ra 0 4),[0,1,2],[0,1,2],[0,1,2,6],[0,1,2,5,6,7],[0,1,2,5,6,7,8],[0,1,2,5,6,7,8,9],(ra 0 11),(ra 0 12),(ra 0 13)] [13] (by kernel_rfl) [_,_,_,undef,undef,undef,undef,undef,undef,undef,undef,undef,_] H (aD (Z0 rfl (Rm rfl)) (Z1 0 28 rfl (Rc rfl)) (Z1 1 29 rfl (Rm rfl)) (aL (j:=2) (by kernel_rfl) (fun _ _ _ _ _ h=>h) rfl rfl rfl rfl rfl (fun _ _ h=>aN h (aF (aO c0))) rfl (fun _=>rfl)) (aD (aL (j:=2) (by kernel_rfl) (fun _ _ _ _ _ h=>h) rfl rfl rfl rfl rfl (fun _ _ h=>aN h (aF (aO c0))) rfl (fun _=>rfl)) (aL (j:=2) (by kernel_rfl) (fun _ _ _ _ _ h=>h) rfl rfl rfl rfl rfl (fun _ _ h=>aN h (aF (aO c0))) rfl (fun _=>rfl)) (aL (j:=2) (by kernel_rfl) (fun _ _ _ _ _ h=>h) rfl rfl rfl rfl rfl (fun _ _ h=>aN h (aF (aO c0))) rfl (fun _=>rfl)) (aL (j:=2) (by kernel_rfl) (fun _ _ _ _ _ h=>h) rfl rfl rfl rfl rfl (fun _ _ h=>aN h (aF (aO c0))) rfl (fun _=>rfl)) (aD (aL (j:=2) (by kernel_rfl) (fun _ _ _ _ _ h=>h) rfl rfl rfl rfl rfl (fun _ _ h=>aN h (aF (aO c0))) rfl (fun _=>rfl)) (aL (j:=2) (by kernel_rfl) (fun _ _ _ _ _ h=>h) rfl rfl rfl rfl rfl (fun _ _ h=>aN h (aF (aO c0))) rfl (fun _=>rfl)) (aL (j:=2) (by kernel_rfl) (fun _ _ _ _ _ h=>h) rfl rfl rfl rfl rfl (fun _ _ h=>aN h (aF (aO c0))) rfl (fun _=>rfl)) (aL (j:=2) (by kernel_rfl) (fun _ _ _ _ _ h=>h) rfl rfl rfl rfl rfl (fun _ _ h=>aN h (aF (aO c0))) rfl (fun _=>rfl)) (aW (Z2 2 30 11 39 rfl (Pf (aO c0) rfl)) (aW (bL rfl) bY))))) ?_
   clear H;intro a w G qK H hv;have H:=H.aQ (hv 12 40 rfl rfl) rfl;clear hv;refine kH H (Ra rfl ?_);clear H;intro a H;refine aH ⟨rfl,?_⟩;refine bP _ _ ?_;clear bP;refine kW H rfl rfl ?_;refine bq (fun _ eu=>?_)
   have q1:¬ (0 < (k:Int)∧l[k].key=pk):=by first|exact fun h=>c1 h.2|exact fun h=>c0 h.1
   rw [ah (fun h=>q1 (by
    by_cases h0:0 < k
    ·rw [(hpk h0).2] at h
     injection h with h
     exact ⟨by omega,h.symm⟩
    rw [JU (by omega)] at h
    cases h))] at heq
   refine dI hmx [[],[0],[0,1],[0,1,2],(ra 0 4),[0,1,2],[0,1,2],[0,1,2,6],[0,1,2,5,6,7],[0,1,2,5,6,7,8],[0,1,2,5,6,7,8,9],(ra 0 11),(ra 0 12),(ra 0 13)] [13] (by kernel_rfl) [_,_,_,undef,undef,undef,undef,undef,undef,undef,undef,undef,_] H (aD (Z0 rfl (Rm rfl)) (Z1 0 42 rfl (Rc rfl)) (Z1 1 43 rfl (Rm rfl)) (aL (j:=2) (by kernel_rfl) (fun _ _ _ _ _ h=>h) rfl rfl rfl rfl rfl (fun _ _ h=>aN h (aF (aO c0))) rfl (fun _=>rfl)) (aD (aL (j:=2) (by kernel_rfl) (fun _ _ _ _ _ h=>h) rfl rfl rfl rfl rfl (fun _ _ h=>aN h (aF (aO c0))) rfl (fun _=>rfl)) (aL (j:=2) (by kernel_rfl) (fun _ _ _ _ _ h=>h) rfl rfl rfl rfl rfl (fun _ _ h=>aN h (aF (aO c0))) rfl (fun _=>rfl)) (aL (j:=2) (by kernel_rfl) (fun _ _ _ _ _ h=>h) rfl rfl rfl rfl rfl (fun _ _ h=>aN h (aF (aO c0))) rfl (fun _=>rfl)) (aL (j:=2) (by kernel_rfl) (fun _ _ _ _ _ h=>h) rfl rfl rfl rfl rfl (fun _ _ h=>aN h (aF (aO c0))) rfl (fun _=>rfl)) (aD (aL (j:=2) (by kernel_rfl) (fun _ _ _ _ _ h=>h) rfl rfl rfl rfl rfl (fun _ _ h=>aN h (aF (aO c0))) rfl (fun _=>rfl)) (aL (j:=2) (by kernel_rfl) (fun _ _ _ _ _ h=>h) rfl rfl rfl rfl rfl (fun _ _ h=>aN h (aF (aO c0))) rfl (fun _=>rfl)) (aL (j:=2) (by kernel_rfl) (fun _ _ _ _ _ h=>h) rfl rfl rfl rfl rfl (fun _ _ h=>aN h (aF (aO c0))) rfl (fun _=>rfl)) (aL (j:=2) (by kernel_rfl) (fun _ _ _ _ _ h=>h) rfl rfl rfl rfl rfl (fun _ _ h=>aN h (aF (aO c0))) rfl (fun _=>rfl)) (aW (Z2 2 44 11 53 rfl (Pf (aO c0) rfl)) (aW (bL rfl) bY))))) ?_
   clear H;intro a w G mK H hv;have H:=H.aQ (hv 12 54 rfl rfl) rfl;clear hv;refine kH H (Ra rfl ?_);clear H;intro a H;refine aH ⟨rfl,?_⟩;refine eu _ _ ?_;clear eu;refine kW H rfl rfl ?_;refine fO ?_;refine ⟨_,by exact (H).sub ⟨rfl,rfl,rfl,rfl,rfl,rfl,aB⟩,?_⟩
   have q2:¬ (0 < (k:Int)∧l[k].key < pk):=by first|exact fun h=>c3 h.2|exact fun h=>c0 h.1
   rw [ah (fun h=>q2 (by
    by_cases h0:0 < k
    ·rw [(hpk h0).2] at h;exact ⟨by omega,rH h⟩
    rw [JU (by omega)] at h
    cases h))] at heq
   exact ⟨heq,fun b o h=>mK b o (qK b o (CQ b o h))⟩
  clear H;intro gh a w hI H;obtain ⟨g2,hgh⟩:∃ x,x=gh:=⟨_,rfl⟩;subst hgh;obtain ⟨heq,nR⟩:=hI;replace hrow:=fun j u hj=>aK nR (hrow j u hj);dsimp only [lca,aZ] at H;refine kP H (SR fun _ gy=>aR um aG 0 rfl rfl (aR Tp aG 0 rfl rfl ?_));clear H;intro a H;refine s_call Mf H wn rfl (LH _ _ H.ro l[k].key l[k].value) rfl ?_;clear H;rintro v59 Yp a w rfl aeP H;refine kH H (ak gy rfl (SR fun _ fu=>Rm rfl (Rc rfl (Kz fu (Cd rfl ?_ ?_))))) <;> clear H gy fu
  ·intro Cz a H
   try have p61:=dT Cz
   refine kP H (SR fun _ gD=>Rm rfl (ak gD rfl ?_));clear H gD;intro a H;refine lr H results90 rfl ?_
   first
    | exact H.rt (aA vi (by rw [ah (by simpa using p61)] at heq;rw [gq,ah (by omega)];exact heq))
    | exact H.rt (aA vi (by rw [au (by simpa using h21)] at heq;rw [gq,ah (by omega)];exact heq))
    | exact H.rt (aA vi (by rw [gq,ah (by omega)];exact heq))
    | exact H.rt (aA vi (by rw [gq,ah (by omega),← heq,show l.drop k=[] from iC (by omega)];rfl))
    | exact H.rt (aA vi (by rw [gq,au (by omega)]))
  intro Cz a H
  try have p61:=dF Cz
  refine kP H (Kc aS (SC (Rd rfl (Rm rfl ?_))));clear H aS;intro a H;refine aH ?_;refine dw ((k+1,Yp)) (by exact (H.dU (Pl:=[_]) (cK:=[]) [] (by decide) rfl).sub ⟨rfl,rfl,rfl,rfl,rfl,aB⟩) ?_ ?_
  ·(try dsimp only);exact ⟨by omega,by rw [au (by simpa using p61)] at heq;exact heq,fun b o h=>aeP b o (nR b o (hgm b o h))⟩
  first|omega|(dsimp only;omega)
 intro dS a H
 try have lS:=dF dS
 refine dW ?_;refine K6 _ _ ?_;clear K6;refine kP H (SR fun _ jc=>ak jc rfl ?_);clear H jc;intro a H;refine lr H results90 rfl ?_
 first
  | exact H.rt (aA vi (by rw [ah (by simpa using p61)] at heq;rw [gq,ah (by omega)];exact heq))
  | exact H.rt (aA vi (by rw [au (by simpa using h21)] at heq;rw [gq,ah (by omega)];exact heq))
  | exact H.rt (aA vi (by rw [gq,ah (by omega)];exact heq))
  | exact H.rt (aA vi (by rw [gq,ah (by omega),← heq,show l.drop k=[] from iC (by omega)];rfl))
  | exact H.rt (aA vi (by rw [gq,au (by omega)]))
end
section
open Go.RowKit
theorem fV:Ty prog 56 1 8 [.int .i64 0] false:=⟨by kernel_rfl,by kernel_rfl⟩
theorem nJ:prog.underlying 168=some (.slice 56):=by kernel_rfl
theorem uj:∀ args w,(callFunc 89 args).run prog w=.ok (.enter 89 args) w:=enters func89 rfl (by kernel_rfl)
theorem uF (G:GH) (w0:World) (hG:Hold G w0) (n l h:Int):Calls prog 89 #[vi n,vi l,vi h] w0 (bC w0 G fun u G'=>u=.bool (decide (l≤n∧n≤h))∧G=G'):=by
 refine eN [(0,_),(1,_),(2,_)] func89 rfl ntmps89 rfl rfl hG ?_;intro a H;refine kP H (SR fun _ K1=>ak K1 rfl (SR fun _ K2=>Rm rfl (Rm rfl (Rc rfl (Rm rfl (Sp 10 rfl ?_ ?_)))))) <;> clear H K1
 ·intro h10 a H
  try have lg:=dT h10
  exact kH H (YM h10 rfl (YM h10 rfl (YC h10 rfl (Pt h10 rfl (ak K2 rfl (LR results89 rfl fun H=>H.rt ⟨aF (by first|(simp_all;done)|(simp_all;omega)),rfl⟩))))))
 intro h10 a H
 try have lg:=dF h10
 exact kH H (aX h10 rfl (Pf h10 rfl (ak K2 rfl (LR results89 rfl fun H=>H.rt ⟨aF (by first|(simp_all;done)|(simp_all;omega)),rfl⟩))))
def bW (b:Bool) (e:Int):Int:=if b=true then e else 0
theorem iN (G:GH) (w0:World) (hG:Hold G w0) (b:Bool) (e:Int):Calls prog 59 #[.bool b,vi e] w0 (bC w0 G fun u G'=>u=vi (bW b e)∧G=G'):=by
 refine eN [(0,_),(1,_)] func59 rfl ntmps59 rfl rfl hG ?_;intro a H;refine kP H (SR fun _ K1=>ak K1 rfl (SQ fun _ K2=>SR fun _ K3=>Rm rfl (Kz K3 (Cd rfl ?_ ?_)))) <;> clear H K1 K3
 ·intro h5 a H
  try have p5:=dT h5
  exact kP H (SR fun _ K4=>Rm rfl (ak K4 rfl (LR results59 rfl fun H=>H.rt ⟨aA vi (by simp_all [bW]),rfl⟩)))
 intro h5 a H
 try have p5:=dF h5
 exact kP H (Kc K2 (SR fun _ K5=>ak K5 rfl (LR results59 rfl fun H=>H.rt ⟨aA vi (by simp_all [bW]),rfl⟩)))
def cZ:List Int→Int
 | []=>0
 | e :: r=>if e≠0 then e else cZ r
theorem I7 {l:List Int} {k:Nat} (h:k < l.length):cZ (l.drop k)=if l[k]≠0 then l[k] else cZ (l.drop (k+1)):=by
 rw [lG h,cZ]
theorem oF (G:GH) (w0:World) (hG:Hold G w0) (l:List Int) (v:aj) (hv:av G (.sl 1 (l.map fun k=>[li k])) v) :
  Calls prog 54 #[v] w0 (bC w0 G fun u G'=>u=vi (cZ l)∧G=G'):=by
 obtain ⟨A,c,rfl,hc1,hc2,hg⟩:=hv.slice;have hml:maxLen=9223372036854775807:=rfl;rw [bT] at *;refine eN [(0,_)] func54 rfl ntmps54 rfl rfl hG ?_;intro a H;refine kP H (SR fun _ K1=>ak K1 rfl (SQ fun _ K2=>SR fun _ K3=>Rm rfl (Rl nJ rfl (Rm rfl (Kz K3 (SB ?_))))));clear H K1 K3;intro a H;skip;refine eZ (ι:=Nat) (Tc:=[(5,_),(6,_)]) (Lc:=[]) (fun gh=>[(7,vi gh)]) (fun gh=>[]) (fun gh=>G) (fun gh=>gh≤l.length∧cZ (l.drop gh)=cZ l) (fun gh=>l.length - gh) (0) (by exact (H).sub ⟨rfl,rfl,rfl,aB⟩) ?_ ?_
 ·exact ⟨iK _,rfl⟩
 clear H;intro gh a w hI H;obtain ⟨k,hgh⟩:∃ x,x=gh:=⟨_,rfl⟩;subst hgh;obtain ⟨hk,he⟩:=hI;dsimp only [lca,aZ] at H;refine kP H (SR fun _ K4=>Rc rfl (Kz K4 (SQ fun _ K5=>Cd rfl ?_ ?_))) <;> clear H K4
 ·intro h8 a H
  try have p8:=dT h8
  have hk2:k < l.length:=by omega
  obtain ⟨b,o,cs,rfl,hcl,hrow,hr⟩:=hg k [li l[k]] (by simp [hk2]);obtain ⟨v1,_,rfl,⟨rfl,-⟩,rfl⟩:∃ v vs,cs=v :: vs∧av G (li l[k]) v∧aY G [] vs:=hr
  have hcell:aJ G b (o+k*1)=some (vi l[k]):=by simpa using hrow 0 _ rfl
  refine kP H (Kc K5 (SQ fun _ K6=>SB (SR fun _ K7=>Ri nJ fV rfl rfl (Rg fV rfl hcell (ak K7 rfl (SR fun _ K8=>Rm rfl (Rc rfl (Kz K8 (Cd rfl ?_ ?_))))))))) <;> clear H K5 K7 K8
  ·intro h12 a H
   try have oJ:=dT h12
   exact kP H (SR fun _ K9=>Rm rfl (ak K9 rfl (LR results54 rfl fun H=>H.rt ⟨aA vi (by rw [I7 hk2,au oJ] at he;exact he),rfl⟩)))
  intro h12 a H
  try have oJ:=dF h12
  refine kP H (Kc K6 (SC (Rd rfl (Rm rfl ?_))));clear H K6;intro a H;refine aH ?_;refine dw ((k+1)) (by exact (H).sub ⟨rfl,rfl,rfl,aB⟩) ?_ ?_
  ·exact ⟨by omega,by rw [I7 hk2,ah oJ] at he;exact he⟩
  first|omega|(dsimp only;omega)
 intro h8 a H
 try have p8:=dF h8
 refine dW ?_;refine K2 _ _ ?_;clear K2;exact kP H (SR fun _ aS=>ak aS rfl (LR results54 rfl fun H=>H.rt ⟨aA vi (by rw [iC (by omega)] at he;exact he),rfl⟩))
def qD (fv:aj) (Gi:GH) (n:Nat) (E:Nat→Int):Prop:=∀ i,i < n→∀ (G1:GH) (w1:World),(∀ b o,Gi b=some o→G1 b=some o)→Hold G1 w1→sD prog fv [vi i] w1 (bC w1 G1 fun u G'=>u=vi (E i))
theorem qD.mono {fv:aj} {G G':GH} {n:Nat} {E:Nat→Int} (h:qD fv G n E) (hm:∀ b o,G b=some o→G' b=some o):qD fv G' n E:=fun i hi G1 w1 hG1=>h i hi G1 w1 fun b o hb=>hG1 b o (hm b o hb)
def jM (E:Nat→Int) (n:Nat):Int:=cZ ((List.range n).map E)
theorem Ch {E:Nat→Int} {n k:Nat} (h:k < n):cZ (((List.range n).map E).drop k)=if E k≠0 then E k else cZ (((List.range n).map E).drop (k+1)):=by
 rw [I7 (by simpa using h)];simp
theorem Fx (G:GH) (w0:World) (hG:Hold G w0) (n:Nat) (E:Nat→Int) (fv:aj) (hn:n≤4611686018427387904) (hf:qD fv G n E) :
  Calls prog 84 #[vi n,fv] w0 (bC w0 G fun u G'=>u=vi (jM E n)):=by
 refine eN [(0,_),(1,_)] func84 rfl ntmps84 rfl rfl hG ?_;intro a H;refine kP H (SR fun _ K1=>ak K1 rfl (SQ fun _ K2=>SR fun _ K3=>Rm rfl (Rm rfl (Kz K3 (SB ?_)))));clear H K1 K3;intro a H;skip;refine eZ (ι:=Nat × GH) (Tc:=[(1,_),(7,_)]) (Lc:=[]) (fun gh=>[(8,vi gh.1)]) (fun gh=>[]) (fun gh=>gh.2) (fun gh=>gh.1≤n∧cZ (((List.range n).map E).drop gh.1)=jM E n∧(∀ b o,G b=some o→gh.2 b=some o)) (fun gh=>n - gh.1) ((0,G)) (by exact (H).sub ⟨rfl,rfl,rfl,aB⟩) ?_ ?_
 ·exact ⟨iK _,rfl,fun _ _ h=>h⟩
 clear H;intro gh a w hI H;obtain ⟨k,g⟩:=gh;dsimp only at hI H;obtain ⟨hk,he,hgm⟩:=hI;dsimp only [lca,aZ] at H;refine kP H (SR fun _ K4=>Rc rfl (Kz K4 (SQ fun _ K5=>Cd rfl ?_ ?_))) <;> clear H K4
 ·intro h9 a H
  try have p9:=dT h9
  have hk2:k < n:=by omega
  refine kP H (Kc K5 (SQ fun _ K6=>SB (SR fun _ K7=>Rm rfl (ak K7 rfl (SR fun _ K8=>Rm rfl (Rm rfl ?_))))));clear H K5 K7;intro a H;refine oM H wn rfl rfl (hf k hk2 _ _ hgm H.ro) rfl ?_;clear H;rintro v13 DJ a w rfl Gg H;refine kH H (ak K8 rfl (SR fun _ K9=>Rm rfl (Rc rfl (Kz K9 (Cd rfl ?_ ?_))))) <;> clear H K8 K9
  ·intro nG a H
   try have rX:=dT nG
   exact kP H (SR fun _ aS=>Rm rfl (ak aS rfl (LR results84 rfl fun H=>H.rt (aA vi (by rw [Ch hk2,au rX] at he;exact he)))))
  intro nG a H
  try have rX:=dF nG
  refine kP H (Kc K6 (SC (Rd rfl (Rm rfl ?_))));clear H K6;intro a H;refine aH ?_;refine dw ((k+1,DJ)) (by exact (H).sub ⟨rfl,rfl,rfl,aB⟩) ?_ ?_
  ·(try dsimp only);exact ⟨by omega,by rw [Ch hk2,ah rX] at he;exact he,fun b o h=>Gg b o (hgm b o h)⟩
  first|omega|(dsimp only;omega)
 intro h9 a H
 try have p9:=dF h9
 refine dW ?_;refine K2 _ _ ?_;clear K2;exact kP H (SR fun _ bA=>ak bA rfl (LR results84 rfl fun H=>H.rt (aA vi (by rw [iC (by simp;omega)] at he;exact he))))
def nT (id:Nat→Int) (i:Nat):Int:=if ¬ (1≤id i∧id i≤1073741824) then 18 else if 0 < i∧id i=id (i - 1) then 7 else if 0 < i∧id i < id (i - 1) then 6 else 0
theorem Ol (G:GH) (w0:World) (hG:Hold G w0) (i:Nat) (id:Nat→Int) (fv:aj) (hn:i≤4611686018427387904) (hf:qD fv G (i+1) id) :
  Calls prog 86 #[vi i,fv] w0 (bC w0 G fun u G'=>u=vi (nT id i)):=by
 refine eN [(0,_),(1,_)] func86 rfl ntmps86 rfl rfl hG ?_;intro a H;refine kP H (SR fun _ K1=>ak K1 rfl (SQ fun _ K2=>SB (SR fun _ K3=>Rm rfl (Rm rfl ?_))));clear H K1;intro a H;refine oM H wn rfl rfl (hf i (Nat.lt_succ_self _) _ _ (fun _ _ h=>h) H.ro) rfl ?_;clear H;rintro v8 G8 a w rfl xY H;refine s_call uj H wn rfl (uF _ _ H.ro (id i) 1 1073741824) rfl ?_;clear H;rintro v9 _ a w ⟨rfl,rfl⟩ - H;refine kH H (Rn rfl (ak K3 rfl (Cd rfl ?_ ?_))) <;> clear H K3
 ·intro h5 a H
  try have p5:=dT h5
  refine kP H (SR fun _ K4=>ak K4 rfl ?_);clear H K4;intro a H;refine lr H results86 rfl ?_
  exact H.rt (aA vi (by unfold nT;(repeat' split) <;> first|rfl|(exfalso;simp_all;done)|(exfalso;simp_all;omega)))
 intro h5 a H
 try have p5:=dF h5
 refine kP H (SR fun _ K5=>Rm rfl (Rc rfl (Rm rfl (Sp 14 rfl ?_ ?_)))) <;> clear H
 ·intro dO a H
  try have lQ:=dT dO
  refine kH H (YM dO rfl (YM dO rfl ?_));clear H;intro a H;refine oM H (wg H rfl rfl dO) rfl rfl (hf i (Nat.lt_succ_self _) _ _ xY H.ro) rfl ?_;clear H;rintro v17 yM a w rfl qo H;refine kH H (YM dO rfl (YM dO rfl ?_));clear H;intro a H;refine mF _ H (wg H rfl rfl dO) rfl rfl rfl (by omega) (by omega) rfl ?_;clear H;intro a H;rw [show ((i:Int) - 1)=((i - 1:Nat):Int) by omega] at H;refine oM H (wg H rfl rfl dO) rfl rfl (hf (i - 1) (by omega) _ _ (fun b o h=>qo b o (xY b o h)) H.ro) rfl ?_;clear H;rintro v21 KJ a w rfl wH H;refine kH H (YC dO rfl (Pt dO rfl (ak K5 rfl (Cd rfl ?_ ?_)))) <;> clear H K5
  ·intro h11 a H
   try have mZ:=dT h11
   refine kP H (SR fun _ K6=>ak K6 rfl ?_);clear H K6;intro a H;refine lr H results86 rfl ?_
   exact H.rt (aA vi (by unfold nT;(repeat' split) <;> first|rfl|(exfalso;simp_all;done)|(exfalso;simp_all;omega)))
  intro h11 a H
  try have mZ:=dF h11
  refine kP H (SR fun _ K7=>Rm rfl (Rc rfl (Rm rfl (Sp 27 rfl ?_ ?_)))) <;> clear H
  ·intro h27 a H
   try have p27:=dT h27
   refine kH H (YM h27 rfl (YM h27 rfl ?_));clear H;intro a H;refine oM H (wg H rfl rfl h27) rfl rfl (hf i (Nat.lt_succ_self _) _ _ (fun b o h=>by first|exact wH b o (qo b o (xY b o h))|(exfalso;omega)) H.ro) rfl ?_;clear H;rintro v30 BQ a w rfl CU H;refine kH H (YM h27 rfl (YM h27 rfl ?_));clear H;intro a H;refine mF _ H (wg H rfl rfl h27) rfl rfl rfl (by omega) (by omega) rfl ?_;clear H;intro a H;rw [show ((i:Int) - 1)=((i - 1:Nat):Int) by omega] at H;refine oM H (wg H rfl rfl h27) rfl rfl (hf (i - 1) (by omega) _ _ (fun b o h=>by first|exact CU b o (wH b o (qo b o (xY b o h)))|(exfalso;omega)) H.ro) rfl ?_;clear H;rintro v34 Yj a w rfl Ur H;refine kH H (YC h27 rfl (Pt h27 rfl (ak K7 rfl (Cd rfl ?_ ?_)))) <;> clear H K7
   ·intro dQ a H
    try have jO:=dT dQ
    refine kP H (SR fun _ K8=>ak K8 rfl ?_);clear H K8;intro a H;refine lr H results86 rfl ?_
    exact H.rt (aA vi (by unfold nT;(repeat' split) <;> first|rfl|(exfalso;simp_all;done)|(exfalso;simp_all;omega)))
   intro dQ a H
   try have jO:=dF dQ
   refine kP H (Kc K2 (SR fun _ K9=>ak K9 rfl ?_));clear H K2 K9;intro a H;refine lr H results86 rfl ?_
   exact H.rt (aA vi (by unfold nT;(repeat' split) <;> first|rfl|(exfalso;simp_all;done)|(exfalso;simp_all;omega)))
  intro h27 a H
  try have p27:=dF h27
  refine kH H (aX h27 rfl (aX h27 rfl (aP h27 rfl (Pf h27 rfl (ak K7 rfl (Cf rfl rfl (Kc K2 (SR fun _ aS=>ak aS rfl ?_))))))));clear H K7 K2 aS;intro a H;refine lr H results86 rfl ?_
  exact H.rt (aA vi (by unfold nT;(repeat' split) <;> first|rfl|(exfalso;simp_all;done)|(exfalso;simp_all;omega)))
 intro dO a H
 try have lQ:=dF dO
 refine kH H (aX dO rfl (aX dO rfl (aP dO rfl (Pf dO rfl (ak K5 rfl (Cf rfl rfl (SR fun _ bA=>Rm rfl (Rc rfl (Rm rfl (Sp 27 rfl ?_ ?_)))))))))) <;> clear H K5
 ·intro h27 a H
  try have p27:=dT h27
  refine kH H (YM h27 rfl (YM h27 rfl ?_));clear H;intro a H;refine oM H (wg H rfl rfl h27) rfl rfl (hf i (Nat.lt_succ_self _) _ _ (fun b o h=>by first|exact wH b o (qo b o (xY b o h))|(exfalso;omega)) H.ro) rfl ?_;clear H;rintro v30 BQ a w rfl CU H;refine kH H (YM h27 rfl (YM h27 rfl ?_));clear H;intro a H;refine mF _ H (wg H rfl rfl h27) rfl rfl rfl (by omega) (by omega) rfl ?_;clear H;intro a H;rw [show ((i:Int) - 1)=((i - 1:Nat):Int) by omega] at H;refine oM H (wg H rfl rfl h27) rfl rfl (hf (i - 1) (by omega) _ _ (fun b o h=>by first|exact CU b o (wH b o (qo b o (xY b o h)))|(exfalso;omega)) H.ro) rfl ?_;clear H;rintro v34 Yj a w rfl Ur H;refine kH H (YC h27 rfl (Pt h27 rfl (ak bA rfl (Cd rfl ?_ ?_)))) <;> clear H bA
  ·intro dQ a H
   try have jO:=dT dQ
   refine kP H (SR fun _ bK=>ak bK rfl ?_);clear H bK;intro a H;refine lr H results86 rfl ?_
   exact H.rt (aA vi (by unfold nT;(repeat' split) <;> first|rfl|(exfalso;simp_all;done)|(exfalso;simp_all;omega)))
  intro dQ a H
  try have jO:=dF dQ
  refine kP H (Kc K2 (SR fun _ bR=>ak bR rfl ?_));clear H K2 bR;intro a H;refine lr H results86 rfl ?_
  exact H.rt (aA vi (by unfold nT;(repeat' split) <;> first|rfl|(exfalso;simp_all;done)|(exfalso;simp_all;omega)))
 intro h27 a H
 try have p27:=dF h27
 refine kH H (aX h27 rfl (aX h27 rfl (aP h27 rfl (Pf h27 rfl (ak bA rfl (Cf rfl rfl (Kc K2 (SR fun _ bP=>ak bP rfl ?_))))))));clear H bA K2 bP;intro a H;refine lr H results86 rfl ?_
 exact H.rt (aA vi (by unfold nT;(repeat' split) <;> first|rfl|(exfalso;simp_all;done)|(exfalso;simp_all;omega)))
end
section
open Go.RowKit
theorem iL:∀ args w,(callFunc 59 args).run prog w=.ok (.enter 59 args) w:=enters func59 rfl (by kernel_rfl)
theorem oD:∀ args w,(callFunc 54 args).run prog w=.ok (.enter 54 args) w:=enters func54 rfl (by kernel_rfl)
def uW (s:ByteArray):Bool:=decide (1≤s.size∧s.size≤40) && oN s
theorem Rt (G:GH) (w0:World) (hG:Hold G w0) (s:ByteArray) (hs:s.size < 4611686018427387904):Calls prog 88 #[.string s] w0 (bC w0 G fun u G'=>u=.bool (uW s)∧G=G'):=by
 refine eN [(0,_)] func88 rfl ntmps88 rfl rfl hG ?_;intro a H;refine kP H (SR fun _ K1=>ak K1 rfl (SR fun _ K2=>Rm rfl (Rv fP rfl (Rc rfl (Rm rfl (Sp 6 rfl ?_ ?_)))))) <;> clear H K1
 ·intro h6 a H
  try have p6:=dT h6
  refine kH H (YM h6 rfl ?_);clear H;intro a H;refine Bv fP H (wg H rfl rfl h6) rfl rfl ?_;clear H;intro a H;refine kH H (YC h6 rfl (Pt h6 rfl (Rm rfl (Sp 11 rfl ?_ ?_)))) <;> clear H
  ·intro h11 a H
   try have mZ:=dT h11
   refine kH H (YM h11 rfl ?_);clear H;intro a H;refine s_call FM H (wg H rfl rfl h11) rfl (Hw _ _ H.ro s hs) rfl ?_;clear H;rintro v13 _ a w ⟨rfl,rfl⟩ - H;exact kH H (Pt h11 rfl (ak K2 rfl (LR results88 rfl fun H=>H.rt ⟨aF (by unfold uW;first|(simp_all;done)|(simp_all;omega)),rfl⟩)))
  intro h11 a H
  try have mZ:=dF h11
  exact kH H (aP h11 rfl (Pf h11 rfl (ak K2 rfl (LR results88 rfl fun H=>H.rt ⟨aF (by unfold uW;first|(simp_all;done)|(simp_all;omega)),rfl⟩))))
 intro h6 a H
 try have p6:=dF h6
 exact kH H (aX h6 rfl (Pf h6 rfl (Rm rfl (aP rfl rfl (Pf rfl rfl (ak K2 rfl (LR results88 rfl fun H=>H.rt ⟨aF (by unfold uW;first|(simp_all;done)|(simp_all;omega)),rfl⟩)))))))
def Af (s:ByteArray):Int:=cZ [bW (!oN s) 12,bW (decide (1024 < (s.size:Int))) 10]
theorem vN {G:GH} {b:Nat} {x y:Int} (h:G b=some (.cells #[vi x,vi y] 56 (0,0))):av G (.sl 1 ([x,y].map fun k=>[li k])) (.slice (some ⟨b,0,none⟩) 2 2) :=
 av.dZ (n:=2) (cap:=2) h rfl (bU _) (show 2≤maxLen by decide) (jA (bU _)) (eG G [x,y])
theorem PS (G:GH) (w0:World) (hG:Hold G w0) (s:ByteArray) (hs:s.size < 4611686018427387904):Calls prog 122 #[.string s] w0 (bC w0 G fun u G'=>u=vi (Af s)):=by
 refine eN [(0,_)] func122 rfl ntmps122 rfl rfl hG ?_;intro a H;refine kP H (SR fun _ K1=>ak K1 rfl (SR fun _ K2=>Rm rfl ?_));clear H K1;intro a H;refine s_call FM H wn rfl (Hw _ _ H.ro s hs) rfl ?_;clear H;rintro v4 _ a w ⟨rfl,rfl⟩ - H;refine kH H (Rn rfl ?_);clear H;intro a H;refine s_call iL H wn rfl (iN _ _ H.ro _ 12) rfl ?_;clear H;rintro v6 _ a w ⟨rfl,rfl⟩ - H;refine kH H (Rm rfl (Rv fP rfl (Rc rfl ?_)));clear H;intro a H;refine s_call iL H wn rfl (iN _ _ H.ro _ 10) rfl ?_;clear H;rintro v10 _ a w ⟨rfl,rfl⟩ - H;refine gQ nJ fV [_,_] [_,_] H wn rfl rfl rfl rfl rfl (by intro i q h;match i,h with|0,h=>exact h|1,h=>exact h|n+2,h=>simp at h) rfl rfl ?_;clear H;intro b11 a w Jf H;obtain ⟨vS,Jm,Er,H⟩:=H.dP;refine s_call oD H wn rfl (oF _ _ H.ro _ _ (vN Er)) rfl ?_;clear H;rintro v12 _ a w ⟨rfl,rfl⟩ - H;exact kH H (ak K2 rfl (LR results122 rfl fun H=>H.rt rfl))
def JJ (c:Int):Bool:=decide (97≤sM .or .u8 c 32) && decide (sM .or .u8 c 32≤122)
def Dn (c:Int):Bool:=(decide (48≤c) && decide (c≤57)) || decide (c=45) || decide (c=95)
def yw (s:ByteArray) (k:Nat):Bool:=JJ (gG s k) || (decide (k≠0) && Dn (gG s k))
def oC (s:ByteArray):Bool:=decide (1≤s.size∧s.size≤40) && (List.range s.size).all (yw s)
theorem LV (G:GH) (w0:World) (hG:Hold G w0) (s:ByteArray) (hs:s.size < 4611686018427387904):Calls prog 124 #[.string s] w0 (bC w0 G fun u G'=>u=.bool (oC s)∧G=G'):=by
 refine eN [(0,_)] func124 rfl ntmps124 rfl rfl hG ?_;intro a H;refine kP H (SR fun _ K1=>ak K1 rfl (SQ fun _ K2=>SR fun _ K3=>Rm rfl (Rv fP rfl (Rc rfl (Rm rfl (Sp 10 rfl ?_ ?_)))))) <;> clear H K1
 ·intro h10 a H
  try have lg:=dT h10
  exact kH H (aX h10 rfl (Pt h10 rfl (Kz K3 (Ct rfl rfl (SR fun _ K4=>ak K4 rfl (LR results124 rfl fun H=>H.rt ⟨aF (by unfold oC;rw [jm (by omega)];rfl),rfl⟩))))))
 intro h10 a H
 try have lg:=dF h10
 refine kH H (YM h10 rfl ?_);clear H;intro a H;refine Bv fP H (wg H rfl rfl h10) rfl rfl ?_;clear H;intro a H;refine kH H (YC h10 rfl (Pf h10 rfl (Kz K3 (Cd rfl ?_ ?_)))) <;> clear H K3
 ·intro dO a H
  try have lQ:=dT dO
  exact kP H (SR fun _ K5=>ak K5 rfl (LR results124 rfl fun H=>H.rt ⟨aF (by unfold oC;rw [jm (by omega)];rfl),rfl⟩))
 intro dO a H
 try have lQ:=dF dO
 refine kP H (Kc K2 (SQ fun _ K6=>SR fun _ K7=>Rm rfl (Rv fP rfl (Rm rfl (Kz K7 (SB ?_))))));clear H K2 K7;intro a H;skip;refine eZ (ι:=Nat) (Tc:=[(0,_),(16,_)]) (Lc:=[]) (fun gh=>[(17,vi gh)]) (fun gh=>[]) (fun gh=>G) (fun gh=>gh≤s.size∧(List.range gh).all (yw s)=true) (fun gh=>s.size - gh) (0) (by exact (H).sub ⟨rfl,rfl,rfl,aB⟩) ?_ ?_
 ·exact ⟨iK _,rfl⟩
 clear H;intro gh a w hI H;obtain ⟨k,hgh⟩:∃ x,x=gh:=⟨_,rfl⟩;subst hgh;obtain ⟨hk,hall⟩:=hI;dsimp only [lca,aZ] at H;refine kP H (SR fun _ K8=>Rc rfl (Kz K8 (SQ fun _ K9=>Cd rfl ?_ ?_))) <;> clear H K8
 ·intro h18 a H
  try have vK:=dT h18
  have hk2:k < s.size:=by omega
  refine kP H (Kc K9 (SQ fun _ aS=>SB (SR fun _ bA=>Rm rfl (ak bA rfl (SR fun _ bK=>Rm rfl (Rm rfl ?_))))));clear H K9 bA;intro a H;refine nk k fP H wn rfl rfl rfl (by omega) rfl ?_;clear H;intro a H;rw [← kU] at H;refine J5 rfl H wn rfl rfl rfl ?_;clear H;intro a H;refine kH H (ak bK rfl ?_);clear H bK;intro a H;refine qd (ι:=Bool) (Tc:=[(0,_),(3,_),(16,_),(17,_)]) (Lc:=[]) (fun gh=>[(5,.bool gh)]) (fun gh=>[]) (fun gh=>G) (fun gh=>gh=JJ (gG s k)) (by exact (H).sub ⟨rfl,rfl,rfl,rfl,aB⟩) ?_ ?_
  ·skip;refine kP H (SC (Rm rfl (Rc rfl (Rm rfl (Sp 26 rfl ?_ ?_))))) <;> clear H
   ·intro gK a H
    try have p26:=dT gK
    refine kH H (YM gK rfl (YC gK rfl (Pt gK rfl (Ra rfl ?_))));clear H;intro a H;refine aH ?_;refine ⟨_,by exact (H).sub ⟨rfl,rfl,rfl,rfl,rfl,aB⟩,?_⟩
    unfold JJ;first|(simp_all;done)|(simp_all;omega)
   intro gK a H
   try have p26:=dF gK
   refine kH H (aP gK rfl (Pf gK rfl (Ra rfl ?_)));clear H;intro a H;refine aH ?_;refine ⟨_,by exact (H).sub ⟨rfl,rfl,rfl,rfl,rfl,aB⟩,?_⟩
   unfold JJ;first|(simp_all;done)|(simp_all;omega)
  clear H;intro gh a w hI H;obtain ⟨lt,hgh⟩:∃ x,x=gh:=⟨_,rfl⟩;subst hgh;have hlt:=hI;dsimp only [lca,aZ] at H;refine qd (ι:=Bool) (Tc:=[(0,_),(3,_),(5,_),(16,_),(17,_)]) (Lc:=[]) (fun gh=>[(6,.bool gh)]) (fun gh=>[]) (fun gh=>G) (fun gh=>gh=Dn (gG s k)) (by exact (H).sub ⟨rfl,rfl,rfl,rfl,rfl,aB⟩) ?_ ?_
  ·skip;refine kP H (SC (Rm rfl (Rm rfl ?_)));clear H;intro a H;refine nk k fP H wn rfl rfl rfl (by omega) rfl ?_;clear H;intro a H;rw [← kU] at H;refine kH H (Rc rfl (Rm rfl (Sp 34 rfl ?_ ?_))) <;> clear H
   ·intro fM a H
    try have p34:=dT fM
    refine kH H (YM fM rfl (YM fM rfl ?_));clear H;intro a H;refine nk k fP H (wg H rfl rfl fM) rfl rfl rfl (by omega) rfl ?_;clear H;intro a H;rw [← kU] at H;refine kH H (YC fM rfl (Pt fM rfl (Rm rfl (Sp 40 rfl ?_ ?_)))) <;> clear H
    ·intro kM a H
     try have p40:=dT kM
     refine kH H (aP kM rfl (aP kM rfl (Pt kM rfl (Rm rfl (aP rfl rfl (aP rfl rfl (Pt rfl rfl (Ra rfl ?_))))))));clear H;intro a H;refine aH ?_;refine ⟨_,by exact (H).sub ⟨rfl,rfl,rfl,rfl,rfl,rfl,aB⟩,?_⟩
     unfold Dn;first|(simp_all;done)|(simp_all;omega)
    intro kM a H
    try have p40:=dF kM
    refine kH H (YM kM rfl (YM kM rfl ?_));clear H;intro a H;refine nk k fP H (wg H rfl rfl kM) rfl rfl rfl (by omega) rfl ?_;clear H;intro a H;rw [← kU] at H;refine kH H (YC kM rfl (Pf kM rfl (Rm rfl (Sp 46 rfl ?_ ?_)))) <;> clear H
    ·intro h46 a H
     try have p46:=dT h46
     refine kH H (aP h46 rfl (aP h46 rfl (Pt h46 rfl (Ra rfl ?_))));clear H;intro a H;refine aH ?_;refine ⟨_,by exact (H).sub ⟨rfl,rfl,rfl,rfl,rfl,rfl,aB⟩,?_⟩
     unfold Dn;first|(simp_all;done)|(simp_all;omega)
    intro h46 a H
    try have p46:=dF h46
    refine kH H (YM h46 rfl (YM h46 rfl ?_));clear H;intro a H;refine nk k fP H (wg H rfl rfl h46) rfl rfl rfl (by omega) rfl ?_;clear H;intro a H;rw [← kU] at H;refine kH H (YC h46 rfl (Pf h46 rfl (Ra rfl ?_)));clear H;intro a H;refine aH ?_;refine ⟨_,by exact (H).sub ⟨rfl,rfl,rfl,rfl,rfl,rfl,aB⟩,?_⟩
    unfold Dn;first|(simp_all;done)|(simp_all;omega)
   intro fM a H
   try have p34:=dF fM
   refine kH H (aP fM rfl (aP fM rfl (Pf fM rfl (Rm rfl ?_))));clear H;intro a H;(iterate 2 refine GZ H (wg H rfl rfl rfl) rfl rfl ?_;clear H;intro a H);refine nk k fP H (wg H rfl rfl rfl) rfl rfl rfl (by omega) rfl ?_;clear H;intro a H;rw [← kU] at H;refine GX H (wg H rfl rfl rfl) rfl rfl rfl rfl ?_;clear H;intro a H;refine kH H (Pf rfl rfl (Rm rfl (Sp 46 rfl ?_ ?_))) <;> clear H
   ·intro h46 a H
    try have p46:=dT h46
    refine kH H (aP h46 rfl (aP h46 rfl (Pt h46 rfl (Ra rfl ?_))));clear H;intro a H;refine aH ?_;refine ⟨_,by exact (H).sub ⟨rfl,rfl,rfl,rfl,rfl,rfl,aB⟩,?_⟩
    unfold Dn;first|(simp_all;done)|(simp_all;omega)
   intro h46 a H
   try have p46:=dF h46
   refine kH H (YM h46 rfl (YM h46 rfl ?_));clear H;intro a H;refine nk k fP H (wg H rfl rfl h46) rfl rfl rfl (by omega) rfl ?_;clear H;intro a H;rw [← kU] at H;refine kH H (YC h46 rfl (Pf h46 rfl (Ra rfl ?_)));clear H;intro a H;refine aH ?_;refine ⟨_,by exact (H).sub ⟨rfl,rfl,rfl,rfl,rfl,rfl,aB⟩,?_⟩
   unfold Dn;first|(simp_all;done)|(simp_all;omega)
  clear H;intro gh a w hI H;obtain ⟨ot,hgh⟩:∃ x,x=gh:=⟨_,rfl⟩;subst hgh;have hot:=hI;dsimp only [lca,aZ] at H;refine kP H (SR fun _ bR=>Rm rfl (Rn rfl (Rm rfl (Sp 54 rfl ?_ ?_)))) <;> clear H
  ·intro gU a H
   try have p54:=dT gU
   refine kH H (YM gU rfl (YC gU rfl (YM gU rfl (Sp 57 rfl ?_ ?_)))) <;> clear H
   ·intro h57 a H
    try have p57:=dT h57
    refine kH H (aP h57 rfl (PT gU h57 rfl (Pt gU rfl (Kz bR (Ct rfl rfl (SR fun _ bP=>ak bP rfl ?_))))));clear H bR bP;intro a H;refine lr H results124 rfl ?_
    first
     | exact H.rt ⟨aF (by
       unfold oC
       rw [show k=s.size by omega] at hall
       rw [hall,jT (by omega)];rfl),rfl⟩
     | exact H.rt ⟨aF (by
       unfold oC
       rw [show (List.range s.size).all (yw s)=false from List.all_eq_false.2 ⟨k,by simpa using hk2,by unfold yw;simp_all⟩,Bool.and_false]),rfl⟩
   intro h57 a H
   try have p57:=dF h57
   refine kH H (YM h57 rfl (YN h57 rfl (PF gU h57 rfl (Pt gU rfl (Kz bR (Cd rfl ?_ ?_)))))) <;> clear H bR
   ·intro Cz a H
    try have p61:=dT Cz
    refine kP H (SR fun _ dJ=>ak dJ rfl ?_);clear H dJ;intro a H;refine lr H results124 rfl ?_
    first
     | exact H.rt ⟨aF (by
       unfold oC
       rw [show k=s.size by omega] at hall
       rw [hall,jT (by omega)];rfl),rfl⟩
     | exact H.rt ⟨aF (by
       unfold oC
       rw [show (List.range s.size).all (yw s)=false from List.all_eq_false.2 ⟨k,by simpa using hk2,by unfold yw;simp_all⟩,Bool.and_false]),rfl⟩
   intro Cz a H
   try have p61:=dF Cz
   refine kP H (Kc aS (SC (Rd rfl (Rm rfl ?_))));clear H aS;intro a H;refine aH ?_;refine dw ((k+1)) (by exact (H).sub ⟨rfl,rfl,rfl,aB⟩) ?_ ?_
   ·exact ⟨by omega,by rw [List.range_succ,List.all_append,hall];simp [yw];simp_all⟩
   first|omega|(dsimp only;omega)
  intro gU a H
  try have p54:=dF gU
  refine kH H (aX gU rfl (Ku rfl (Ku rfl (Ks gU rfl (Pf gU rfl (Kz bR (Cf rfl rfl (Kc aS (SC (Rd rfl (Rm rfl ?_)))))))))));clear H bR aS;intro a H;refine aH ?_;refine dw ((k+1)) (by exact (H).sub ⟨rfl,rfl,rfl,aB⟩) ?_ ?_
  ·exact ⟨by omega,by rw [List.range_succ,List.all_append,hall];simp [yw];simp_all⟩
  first|omega|(dsimp only;omega)
 intro h18 a H
 try have vK:=dF h18
 refine dW ?_;refine K6 _ _ ?_;clear K6;refine kP H (SR fun _ dN=>ak dN rfl ?_);clear H dN;intro a H;refine lr H results124 rfl ?_
 first
  | exact H.rt ⟨aF (by
    unfold oC
    rw [show k=s.size by omega] at hall
    rw [hall,jT (by omega)];rfl),rfl⟩
  | exact H.rt ⟨aF (by
    unfold oC
    rw [show (List.range s.size).all (yw s)=false from List.all_eq_false.2 ⟨k,by simpa using hk2,by unfold yw;simp_all⟩,Bool.and_false]),rfl⟩
end
section
open Go.RowKit
section
variable {N:Nat} {D:List Deferred} {w0:World} {F:Nat→Prop} {G0 G:GH} {L:OL} {T:List (Nat × aj)}
variable {r:Option Nat} {P:Program} {ops:Array Oper} {Q:Exit→Act→World→Prop} {rest:List Oper} {a:Act} {w:World}
variable {d:Nat} {ty:TypeId} {pos:String} {aM:Array Edge} {g:Option (Nat × Bool)}
end
end
section
open Go.RowKit
section
variable {N:Nat} {D:List Deferred} {w0:World} {F:Nat→Prop} {G0 G:GH} {L:OL} {T T':List (Nat × aj)}
variable {r:Option Nat} {P:Program} {Q:Exit→Act→World→Prop} {l:List Oper} {a a':Act} {w w':World} {ε:Type}
def DV (l:List Oper) (pr:ε→Nat→aj→Prop) (T:List (Nat × aj)) (S:Nat→Bool) (E:ε) (T':List (Nat × aj)):Prop :=
 (∀ t v,lk T t=some v→lk T' t=some v)∧∀ i d,S i=true→dR l i=some d→∃ v,lk T' d=some v∧pr E i v
theorem DV.put {pr:ε→Nat→aj→Prop} {S:Nat→Bool} {E E':ε} {i d:Nat} {v:aj} (h:DV l pr T S E T') (hok:L8 l T=true) (hi:dR l i=some d) (hv:pr E' i v) (hE:∀ j u,j≠i→pr E j u→pr E' j u):DV l pr T (dG S i) E' ((d,v) :: T'):=by
 have hil:=vg hi
 have hok1:=kI.1 hok i (nN.2 hil)
 rw [mh,hi] at hok1
 simp only [kJ,Option.isNone_iff_eq_none,kI,nN] at hok1
 refine ⟨fun t u ht=>?_,fun j e hj he=>?_⟩
 ·rw [eH (fun e=>by subst e;rw [hok1.1] at ht;cases ht)];exact h.1 t u ht
 ·by_cases hji:j=i
  ·subst hji;rw [hi] at he;cases he;exact ⟨v,jI _ _ _,hv⟩
  ·have hSj:S j=true:=by unfold dG at hj;rwa [ah hji] at hj
   obtain ⟨u,hu1,hu2⟩:=h.2 j e hSj he
   have hne:d≠e:=by
    intro e';subst e'
    have h2:=hok1.2 j (vg he)
    have hb:Nat.beq i j=false:=uX (fun h=>hji h.symm)
    rw [hb,he] at h2
    simp at h2
   exact ⟨u,by rw [eH hne];exact hu1,hE j u hji hu2⟩
theorem DV.add {pr:ε→Nat→aj→Prop} {S:Nat→Bool} {E:ε} (h:DV l pr T S E T') {t:Nat} {u:aj} (hu:lk T' t=some u):DV l pr T S E ((t,u) :: T'):=by
 have e:∀ s v,lk T' s=some v→lk ((t,u) :: T') s=some v:=fun s v hs=>by
  by_cases hst:t=s
  ·subst hst;rw [hu] at hs;cases hs;exact jI _ _ _
  ·rw [eH hst];exact hs
 exact ⟨fun s v hs=>e s v (h.1 s v hs),fun i d hi hd=>by
  obtain ⟨v,h1,h2⟩:=h.2 i d hi hd
  exact ⟨v,e d v h1,h2⟩⟩
end
end
section
open Go.RowKit
section
variable {N:Nat} {D:List Deferred} {w0:World} {F:Nat→Prop} {G0 G G1 G2:GH} {L L1:OL} {T Xs:List (Nat × aj)}
variable {r:Option Nat} {P:Program} {Q:Exit→Act→World→Prop} {l:List Oper} {a a':Act} {w w':World}
theorem RG {id:Nat} (hm:P.follows .mixedOrders=true) (bG:List (List Nat)) (B:List Nat) (hk:xM l bG=true) (hB:yD l bG B=true) (X:(Nat→Bool)→Act→World→Prop) (h0:X (fun _=>false) a w.drew)
  (hstep:∀ i o S a w,l[i]?=some o→B.contains i=false→S i=false→(∀ j∈bG.getD i [],S j=true)→(∀ j,j < l.length→i∈bG.getD j []→S j=false)→X S a w→WL r P l.toArray (fun e a' w'=>e=.normal∧X (dG S i) a' w') [o] a w)
  (hend:∀ S a w,(∀ i,i < l.length→B.contains i=false→S i=true)→(∀ i,B.contains i=true→S i=false)→X S a w→WL r P l.toArray (fun e a w=>e=.normal∧Q .normal a w) (pJ l B) a w):WP r P (.region id l.toArray true) Q a w:=by
 have hB1:∀ p b,B[p]?=some b→b < l.length∧∀ i,i < l.length→(B.contains i=false∨(B.take p).contains i=true)→i∈bG.getD b []:=by
  intro p b hp
  simp only [yD,kJ] at hB
  have h1:=kI.1 hB.1 p (nN.2 (iX.1 hp).1)
  rw [hp] at h1
  simp only [kJ,kI,nN] at h1
  refine ⟨Eq.mp Nat.blt_eq h1.1,fun i hi hor=>?_⟩
  have h2:=h1.2 i hi
  rcases hor with h3|h3
  ·have h4:i∉B:=by simpa using h3
   simpa [h4] using h2
  ·have h4:i∈B.take p:=by simpa using h3
   simpa [h4] using h2
 have hB2:∀ i,i < l.length→B.contains i=false→∀ j∈bG.getD i [],B.contains j=false:=by
  intro i hi hb j hj
  simp only [yD,kJ] at hB
  have h1:=kI.1 hB.2 i (nN.2 hi)
  rw [hb] at h1
  simp only [Bool.false_or,kI] at h1
  simpa using h1 j hj
 refine LC hm bG hk (fun S a w=>((∀ i,B.contains i=true→S i=false)∧X S a w) ∨
   ∃ p,(∀ i,i < l.length→B.contains i=false→S i=true)∧(∀ i,(B.take p).contains i=true→S i=true)∧(∀ q b,B[q]?=some b→p≤q→S b=false)∧WL r P l.toArray (fun e a w=>e=.normal∧Q .normal a w) (pJ l (B.drop p)) a w)
  (.inl ⟨fun _ _=>rfl,h0⟩) ?_ ?_
 ·intro i o S a w ho hX bH kZ hdesc
  have hil:i < l.length:=(iX.1 ho).1
  by_cases hbi:B.contains i=true
  ·-- an operation of the tail: all that stands ahead of it is done
   obtain ⟨p0,hp0⟩:=List.getElem?_of_mem (by simpa using hbi:i∈B)
   have hall:∀ j,j < l.length→B.contains j=false→S j=true:=fun j hj hb=>kZ j ((hB1 p0 i hp0).2 j hj (.inl hb))
   have NZ:∃ p,(∀ i,(B.take p).contains i=true→S i=true)∧(∀ q b,B[q]?=some b→p≤q→S b=false)∧WL r P l.toArray (fun e a w=>e=.normal∧Q .normal a w) (pJ l (B.drop p)) a w:=by
    rcases hX with ⟨h1,hD⟩|⟨p,_,h2,h3,h4⟩
    ·exact ⟨0,by simp,fun q b hq _=>h1 b (by simpa using kT hq),hend S a w hall h1 hD⟩
    ·exact ⟨p,h2,h3,h4⟩
   obtain ⟨p,h2,h3,h4⟩:=NZ
   -- i is the next one
   have hpp:p≤p0:=by
    rcases Nat.lt_or_ge p0 p with hlt|hge
    ·have:(B.take p).contains i=true:=by
      simp only [uU]
      exact kT (i:=p0) (by rw [sI,au hlt];exact hp0)
     rw [h2 i this] at bH;cases bH
    ·exact hge
   have CV:p < B.length:=by have:=(iX.1 hp0).1;omega
   have hbp:B[p]?=some B[p]:=gP CV
   have heq:B[p]=i:=by
    rcases Nat.lt_or_ge p p0 with hlt|hge
    ·exfalso
     have hin:B[p]∈bG.getD i []:=(hB1 p0 i hp0).2 _ (hB1 p _ hbp).1 (.inr (by
      simp only [uU]
      exact kT (i:=p) (by rw [sI,au hlt];exact hbp)))
     have:=kZ _ hin
     rw [h3 p _ hbp (bU _)] at this;cases this
    ·have:p=p0:=by omega
     subst this
     rw [hbp] at hp0;simpa using hp0
   have hdrop:B.drop p=i :: B.drop (p+1):=by rw [lG CV,heq]
   have hops:pJ l (B.drop p)=o :: pJ l (B.drop (p+1)):=by rw [hdrop];simp [pJ,ho]
   rw [hops] at h4
   refine XK (fun a' w' h5=>.inr ⟨p+1,fun j hj hb=>?_,fun j hj=>?_,fun q b hq hpq=>?_,h5⟩) h4
   ·unfold dG;split
    ·rfl
    ·exact hall j hj hb
   ·unfold dG;split
    ·rfl
    ·rename_i hne
     refine h2 j ?_
     simp only [uU] at hj ⊢
     rw [jE CV,lF] at hj
     rcases hj with hj|hj
     ·exact hj
     ·simp only [rG] at hj;exact absurd (hj.trans heq) hne
   ·unfold dG
    rw [ah ?_]
    ·exact h3 q b hq (by omega)
    ·rintro rfl
     -- i would stand twice in B: it would come ahead of itself
     have h6:=(hB1 q b hq).2 b (hB1 q b hq).1 (.inr (by
      simp only [uU]
      exact kT (i:=p) (by rw [sI,au (by omega)];rw [hbp,heq])))
     rw [kZ _ h6] at bH;cases bH
  ·have wG:B.contains i=false:=by cases h:B.contains i with|false=>rfl|true=>exact absurd h hbi
   rcases hX with ⟨h1,hX⟩|⟨p,h0,_,_,_⟩
   ·refine pV (fun e a' w' ⟨he,hD⟩=>⟨he,.inl ⟨fun j hj=>?_,hD⟩⟩) (hstep i o S a w ho wG bH kZ hdesc hX)
    unfold dG
    rw [ah (by rintro rfl;rw [wG] at hj;cases hj)]
    exact h1 j hj
   ·rw [h0 i hil wG] at bH;cases bH
 ·intro S a w hall hX
  rcases hX with ⟨h1,hD⟩|⟨p,_,_,h3,h4⟩
  ·have hnil:B=[]:=by
    cases B with
    | nil=>rfl
    | cons b B=>have h5:=h1 b (by simp);rw [hall b (hB1 0 b rfl).1] at h5;cases h5
   subst hnil
   exact (hend S a w (fun j hj _=>hall j hj) h1 hD).2
  ·have hnil:B.drop p=[]:=by
    cases hd:B.drop p with
    | nil=>rfl
    | cons b B' =>
     have hb:B[p]?=some b:=by
      have:=aA (fun x:List Nat=>x[0]?) hd
      simpa using this
     have h5:=h3 p b hb (bU _)
     rw [hall b (hB1 p b hb).1] at h5;cases h5
   rw [hnil] at h4
   exact h4.2
theorem LZ {pr:Nat→aj→GH→Prop} {S:Nat→Bool} {i d:Nat} {v:aj} (hok:mh l T i=true) (hi:dR l i=some d) 
  (HT:St N D w0 F G0 G1 L T a w) (Hb:St N D w0 F G0 G1 L (Xs++full N a) a w) (hG:∀ k o,G k=some o→G1 k=some o) (hv:∀ j d,j≠i→S j=true→dR l j=some d→∃ v,a.tmps[d]?=some v∧pr j v G1)
  (hp:pr i v G1) (H:St N D w0 F G0 G1 L1 ((d,v) :: (Xs++full N a)) a' w'):DX N D w0 F G0 G L1 T l pr (dG S i) a' w':=by
 have hil:i < l.length:=vg hi
 have hok1:=hok
 rw [mh,hi] at hok1
 simp only [kJ,Option.isNone_iff_eq_none,kI,nN] at hok1
 have hsame:∀ t,t≠d→a'.tmps[t]?=a.tmps[t]?:=by
  intro t ht
  by_cases hlt:t < N
  ·have h1:∃ u,lk (Xs++full N a) t=some u:=by
    rw [Dh]
    cases lk Xs t with
    | some u=>exact ⟨u,rfl⟩
    | none=>exact ⟨_,JI a hlt⟩
   obtain ⟨u,hu⟩:=h1
   rw [Hb.get t u hu,H.get t u (by rw [eH (Ne.symm ht)];exact hu)]
  ·rw [Array.getElem?_eq_none (by rw [H.kL];omega),Array.getElem?_eq_none (by rw [Hb.kL];omega)]
 refine ⟨G1,hG,⟨H.kL,fun t u ht=>?_,H.pz,H.hp⟩,fun j e hj he=>?_⟩
 ·rw [hsame t (fun e=>by rw [e,hok1.1] at ht;cases ht)]
  exact HT.get t u ht
 ·by_cases hji:j=i
  ·subst hji
   rw [hi] at he
   simp only [mV] at he
   subst he
   exact ⟨v,H.get d v (jI _ _ _),hp⟩
  ·have hSj:S j=true:=by unfold dG at hj;rwa [ah hji] at hj
   obtain ⟨u,hu1,hu2⟩:=hv j e hji hSj he
   have hne:e≠d:=by
    intro e'
    subst e'
    have h2:=hok1.2 j (vg he)
    rw [uX (fun h=>hji h.symm),he] at h2
    simp at h2
   exact ⟨u,by rw [hsame e hne];exact hu1,hu2⟩
end
end
section
open Go.RowKit
section
variable {N:Nat} {D:List Deferred} {w0:World} {F:Nat→Prop} {G0 G:GH} {L:OL} {T:List (Nat × aj)}
variable {r:Option Nat} {P:Program} {ops:Array Oper} {Q:Exit→Act→World→Prop} {rest:List Oper} {a:Act} {w:World}
variable {d:Nat} {ty:TypeId} {pos:String} {aM:Array Edge} {g:Option (Nat × Bool)}
theorem Dt {t:TypeId} (H:St N D w0 F G0 G L T a w) (hw:Region.wanted ⟨some d,.makeMap t none,ty,pos,aM,g⟩ (yielded ops a.tmps)=true) (hd:Nat.blt d N=true)
  (k:∀ b a' w',w0.heap.size≤b→St N D w0 F G0 G ((b,.map #[] 0) :: L) ((d,.map (some b)) :: T) a' w'→WL r P ops Q rest a' w'):WL r P ops Q (⟨some d,.makeMap t none,ty,pos,aM,g⟩ :: rest) a w:=by
 refine fF (v:=.map (some w.heap.size)) (w':=w.alloc (.map #[] 0)) hw rfl ?_ (k _ _ _ H.hp.size (H.put hd _ (H.hp.alloc _)))
 simp [execOp,Instr.makeMap,newObj,Sem.run,bX]
def zX (an:Option (Nat × aj)) (zv:aj):aj × Bool:=match an with|some (_,v)=>(v,true)|none=>(zv,false)
theorem ahE {t kt et:TypeId} {kd:TypeDesc} {x y:Operand} {b i clock:Nat} {es:Array MapEntry} {ky zv:aj} (an:Option (Nat × aj)) (hm:P.underlying t=some (.map kt et)) (hk:P.underlying kt=some kd) (hz:(P.info? et).map (fun i=>i.zero)=some (some zv)) (H:St N D w0 F G0 G L T a w)
  (hw:Region.wanted ⟨some d,.lookup t x y true,ty,pos,aM,g⟩ (yielded ops a.tmps)=true) (hx:ev T x=some (.map (some b))) (hy:ev T y=some ky) (hi:L[i]?=some (b,.map es clock)) (hky:MapKept.IsKey kd ky) (hf:Instr.findNow kd ky es.toList 0=some an) (hd:Nat.blt d N=true)
  (k:∀ a',St N D w0 F G0 G L ((d,.tuple #[(zX an zv).1,.bool (zX an zv).2]) :: T) a' w→WL r P ops Q rest a' w):WL r P ops Q (⟨some d,.lookup t x y true,ty,pos,aM,g⟩ :: rest) a w:=by
 have hb:w.heap[b]?=some (.map es clock):=H.hp.own _ (kT hi)
 obtain ⟨inf,hi1,hi2⟩:=lD.1 hz
 refine fF (v:=.tuple #[(zX an zv).1,.bool (zX an zv).2]) (w':=w) hw rfl ?_ (k _ (H.put hd _ H.hp))
 have h1:=MapKept.run_checkKey (w:=w) hk hky es.isEmpty 9999
 have h2:=MapKept.run_findKey (w:=w) hk hf
 cases an with
 | none=>simp [execOp,Instr.lookup,H.ev hx,H.ev hy,bX,lq hm,MapKept.run_getObj_map hb,h1,h2,Result.andThen,zeroValue,zZ hi1,hi2,zX]
 | some q=>simp [execOp,Instr.lookup,H.ev hx,H.ev hy,bX,lq hm,MapKept.run_getObj_map hb,h1,h2,Result.andThen,zX]
theorem Xy {w:World} {b clock:Nat} {es:Array MapEntry} {o:Obj} (h:w.heap[b]?=some (.map es clock)):sH b o w { w with heap:=w.heap.setIfInBounds b o }:=by
 have hlt:b < w.heap.size:=(Array.getElem?_eq_some_iff.1 h).1
 refine ⟨rfl,rfl,rfl,by simp,by simp [hlt],fun k hk=>?_⟩
 simp only
 rw [Array.getElem?_setIfInBounds_ne (Ne.symm hk)]
theorem WB {t kt et:TypeId} {kd:TypeDesc} {x y z:Operand} {b i clock:Nat} {es:Array MapEntry} {ky v:aj} (hm:P.underlying t=some (.map kt et)) (hk:P.underlying kt=some kd) (H:St N D w0 F G0 G L T a w)
  (hw:Region.wanted ⟨none,.mapUpdate t x y z,ty,pos,aM,g⟩ (yielded ops a.tmps)=true) (hx:ev T x=some (.map (some b))) (hy:ev T y=some ky) (hzv:ev T z=some v) (hi:L[i]?=some (b,.map es clock)) (hky:MapKept.IsKey kd ky) (hf:Instr.findNow kd ky es.toList 0=some none)
  (k:∀ w',St N D w0 F G0 G (L.set i (b,.map (es.push ⟨ky,v,clock⟩) (clock+1))) T a w'→WL r P ops Q rest a w'):WL r P ops Q (⟨none,.mapUpdate t x y z,ty,pos,aM,g⟩ :: rest) a w:=by
 have hb:w.heap[b]?=some (.map es clock):=H.hp.own _ (kT hi)
 have h1:=MapKept.run_checkKey (w:=w) hk hky false 9999
 have h2:=MapKept.run_findKey (w:=w) hk hf
 refine P9 (w':={ w with heap:=w.heap.setIfInBounds b (.map (es.push ⟨ky,v,clock⟩) (clock+1)) }) hw rfl ?_ (k _ (H.move (H.hp.upd hi (Xy hb))))
 simp [execOp,Instr.mapUpdate,H.ev hx,H.ev hy,H.ev hzv,bX,lq hm,MapKept.run_getObj_map hb,h1,h2,MapKept.run_setObj_map _ hb,Result.andThen]
theorem ahH {t yt:TypeId} {x y:Operand} {p q:ByteArray} (H:St N D w0 F G0 G L T a w) (hw:Region.wanted ⟨some d,.binOp .neq t x y yt,ty,pos,aM,g⟩ (yielded ops a.tmps)=true) (hx:ev T x=some (.string p)) (hy:ev T y=some (.string q)) (hd:Nat.blt d N=true)
  (k:∀ a',St N D w0 F G0 G L ((d,.bool (!(p.toList == q.toList))) :: T) a' w→WL r P ops Q rest a' w):WL r P ops Q (⟨some d,.binOp .neq t x y yt,ty,pos,aM,g⟩ :: rest) a w:=by
 refine fF (v:=.bool (!(p.toList == q.toList))) (w':=w) hw rfl ?_ (k _ (H.put hd _ H.hp))
 simp [execOp,H.ev hx,H.ev hy,bX,eqGuard,binOp,Op.stringOp]
theorem Hp.VB (h:Hp w0 F G0 G L w) {b o:Nat} {c:Array aj} {e:TypeId} {fz:Nat × Nat} {v:aj} (hm:(b,Obj.cells c e fz)∈L) (hv:c[o]?=some v):w.cell? ⟨b,o,none⟩=some v:=by
 have:=h.own _ hm
 simp only [World.cell?,this]
 exact hv
end
end
section
open Go.RowKit
section
variable {N:Nat} {D:List Deferred} {w0:World} {F:Nat→Prop} {G0 G G1 G2:GH} {L L1:OL} {T Xs:List (Nat × aj)}
variable {r:Option Nat} {P:Program} {Q:Exit→Act→World→Prop} {l:List Oper} {a a':Act} {w w':World}
end
end
section
open Go.RowKit
section
variable {N:Nat} {D:List Deferred} {w0:World} {F:Nat→Prop} {G0 G G1 G2:GH} {L L1 L2:OL} {T Xs:List (Nat × aj)}
variable {r:Option Nat} {P:Program} {Q:Exit→Act→World→Prop} {l:List Oper} {a a':Act} {w w':World}
theorem aaH {pr:Nat→aj→GH→Prop} {S:Nat→Bool} {i:Nat} (hi:dR l i=none) (HT:St N D w0 F G0 G1 L T a w) (hG:∀ k o,G k=some o→G1 k=some o) (hv:∀ i d,S i=true→dR l i=some d→∃ v,a.tmps[d]?=some v∧pr i v G1)
  (H:St N D w0 F G0 G1 L2 (Xs++full N a) a w'):DX N D w0 F G0 G L2 T l pr (dG S i) a w' :=
 ⟨G1,hG,HT.move H.hp,fun j e hj he=>hv j e (by
  unfold dG at hj
  by_cases hji:j=i
  ·subst hji;rw [hi] at he;cases he
  ·rwa [ah hji] at hj) he⟩
end
end
section
open Go.RowKit
theorem agc:liesAt prog prog.depth 259 (7 / prog.cellsOf 259) 2 121 1=true:=by kernel_rfl
theorem Kt:Ty prog 5 1 1 [.int .u8 0] false:=⟨by kernel_rfl,by kernel_rfl⟩
abbrev fU (b:Nat) (s:ByteArray) (i:Int) (p v q:aj) (pl e:Int):Nat × Obj:=(b,.cells #[.string s,vi i,p,v,q,vi pl,vi e] 259 (0,0))
theorem ahP (G:GH) (L:OL) (w0:World) (b:Nat) (s:ByteArray) (i:Int) (A:Option Addr) (n c:Nat) (B:Option Addr) (m d:Nat) (pl e:Int) (hO:gW G (fU b s i (.pointer none) (.slice A n c) (.slice B m d) pl e :: L) w0) :
  Calls prog 74 #[(aI b 2)] w0 (gF w0 G (fU b s i (.pointer none) (.slice A n c) (.slice B m d) pl e :: L) fun u G' L'=>L'=fU b s i (aI b 2) (.slice A n c) (.slice B m d) pl e :: L∧G'=G):=by
 refine jN (N:=20) (T:=[(0,_)]) func74 rfl ntmps74 rfl rfl hO ?_;intro a H;refine kP H (SR fun _ K1=>Rm rfl (Rk rfl (aR zm Ag 0 rfl rfl ?_)));clear H;intro a H;refine J6 yH H wn rfl rfl ?_;clear H;intro a H;refine K1 _ _ ?_;clear K1;refine kV H rfl ?_ ?_
 ·intro h6
  refine kP H (SC (Rm rfl (Rm rfl ?_)));clear H;intro a H;refine WM yH Ky EO H wn rfl 0 rfl rfl rfl ?_;clear H;intro a H;refine WE (xs:=[.tmp 9]) (VR _) H wn rfl rfl ?_;clear H;intro a H;refine Wz Ky yH EO H wn rfl 0 rfl agc rfl ?_;clear H;intro a H;refine kH H (Rk rfl (Rf zm rfl ?_));clear H;intro a H;refine bF Ag 0 (vs:=[_]) _ H wn rfl rfl rfl rfl rfl rfl rfl rfl ?_;clear H;intro w H;dsimp only [List.set,setRow] at H;refine aH ?_;refine (leave0 H results74 ?_).2;exact H.hp.eB ⟨rfl,rfl⟩
 intro h6
 exact absurd h6 (by decide)
theorem ahQ (G:GH) (L:OL) (w0:World) (b:Nat) (s:ByteArray) (i:Int) (A:Option Addr) (n c:Nat) (B:Option Addr) (m d:Nat) (pl e:Int) (hO:gW G (fU b s i (aI b 2) (.slice A n c) (.slice B m d) pl e :: L) w0) :
  Calls prog 74 #[(aI b 2)] w0 (gF w0 G (fU b s i (aI b 2) (.slice A n c) (.slice B m d) pl e :: L) fun u G' L'=>L'=fU b s i (aI b 2) (.slice A n c) (.slice B m d) pl e :: L∧G'=G):=by
 refine jN (N:=20) (T:=[(0,_)]) func74 rfl ntmps74 rfl rfl hO ?_;intro a H;refine kP H (SR fun _ K1=>Rm rfl (Rk rfl (aR zm Ag 0 rfl rfl ?_)));clear H;intro a H;refine J6 yH H wn rfl rfl ?_;clear H;intro a H;refine K1 _ _ ?_;clear K1;refine kV H rfl ?_ ?_
 ·intro h6
  exact absurd h6 (by simp)
 intro h6
 refine kP H (SR fun _ K2=>Rm rfl (Rk rfl (aR zm Ag 0 rfl rfl (Rm rfl ?_))));clear H;intro a H;refine WC yH EO H wn rfl rfl rfl ?_;clear H;intro a H;refine K2 _ _ ?_;clear K2;refine kV H rfl ?_ ?_
 ·intro h19
  exact absurd h19 (by decide)
 intro h19
 refine fO ?_;refine (leave0 H results74 ?_).2;exact H.hp.eB ⟨rfl,rfl⟩
theorem ahR (G:GH) (L:OL) (w0:World) (b:Nat) (s:ByteArray) (i:Int) (p:aj) (A:Option Addr) (n c:Nat) (B:Option Addr) (m d:Nat) (pl e:Int) (hp:p=.pointer none∨p=(aI b 2)) (hO:gW G (fU b s i p (.slice A n c) (.slice B m d) pl e :: L) w0) :
  Calls prog 74 #[(aI b 2)] w0 (gF w0 G (fU b s i p (.slice A n c) (.slice B m d) pl e :: L) fun u G' L'=>L'=fU b s i (aI b 2) (.slice A n c) (.slice B m d) pl e :: L∧G'=G):=by
 rcases hp with rfl|rfl
 ·exact ahP G L w0 b s i A n c B m d pl e hO
 exact ahQ G L w0 b s i A n c B m d pl e hO
theorem XF (G:GH) (Lp Lo:OL) (w0:World) (b:Nat) (s:ByteArray) (i:Int) (p v:aj) (B:Option Addr) (m d:Nat) (pl e:Int) (n:Nat) (xs:List aj) (c:Int) (hp:p=.pointer none∨p=(aI b 2)) (hO:gW G (fU b s i p v (.slice B m d) pl e :: (Lp++Lo)) w0) (hrow:dD 5 1 v n xs Lo) (hn:n≤4294967296) :
  Calls prog 159 #[(aI b 2),.int .u8 c] w0 (gF w0 G (fU b s i p v (.slice B m d) pl e :: (Lp++Lo)) fun u G' L'=>∃ v' eO,L'=fU b s i (aI b 2) v' (.slice B m d) pl e :: (Lp++eO)∧dD 5 1 v' (n+1) (xs++[.int .u8 c]) eO∧G'=G):=by
 have hml:maxLen=9223372036854775807:=rfl;obtain ⟨A,c0,rfl,-,-⟩:=hrow.shape;obtain ⟨Lt,nH⟩:∃ x,x=Lp++Lo:=⟨_,rfl⟩;rw [← nH] at hO ⊢;refine jN (N:=17) (T:=[(0,_),(1,_)]) func159 rfl ntmps159 rfl rfl hO ?_;intro a H;refine kP H (SR fun _ K1=>ak K1 rfl (SR fun _ K2=>Rm rfl ?_));clear H K1;intro a H;refine gN SL (Li:=[]) (L:=fU b s i p _ (.slice B m d) pl e :: Lt) H wn rfl (ahR _ _ _ b s i p A n c0 B m d pl e hp (Hp.owns (Li:=[]) H.hp)) rfl ?_;clear H;rintro v6 _ L6 a w ⟨rfl,rfl⟩ Jq H;dsimp only [List.nil_append] at H;refine K2 _ _ ?_;clear K2;refine kP H (SR fun _ K3=>Rm rfl (Rm rfl (Rk rfl (aR xO yE 0 rfl rfl (Rm rfl ?_)))));clear H;intro a H;refine gQ Aj Kt [_] [_] H wn rfl rfl rfl rfl rfl (by intro i q h;match i,h with|0,h=>exact h|n+1,h=>simp at h) rfl rfl ?_;clear H;intro b13 a w Ns H;subst nH;have H:=St.un (A:=[_,_]) (B:=Lp) (C:=Lo) H;refine oL (Li:=[_,_]++Lp) (Lo:=Lo) (news:=[.int .u8 c]) Aj Kt rfl rfl H wn rfl rfl hrow rfl (H.hp.dY 0 rfl rfl) rfl (by omega) (by omega) rfl ?_;clear H;intro v14 QM a w GD H;obtain ⟨Qb,c14,rfl,-,-⟩:=GD.shape;have H:=H.assoc;dsimp only [lca,aZ] at H;refine kH H (Rk rfl (Rf xO rfl ?_));clear H;intro a H;refine bF yE 1 (vs:=[_]) _ H wn rfl rfl rfl rfl rfl rfl rfl rfl ?_;clear H;intro w H;dsimp only [List.set,setRow] at H;refine K3 _ _ ?_;clear K3;exact kP H (SR fun _ K4=>ak K4 rfl (LR results159 rfl fun H=>H.hp.gM (L':=fU b s i _ _ _ pl e :: (Lp++QM)) (yV _ _) ⟨_,_,rfl,GD,rfl⟩))
theorem aik (G:GH) (L:OL) (w0:World) (b:Nat) (s:ByteArray) (i:Int) (p:aj) (A:Option Addr) (n c:Nat) (B:Option Addr) (m d:Nat) (pl e:Int) (hO:gW G (fU b s i p (.slice A n c) (.slice B m d) pl e :: L) w0) :
  Calls prog 164 #[(aI b 2)] w0 (gF w0 G (fU b s i p (.slice A n c) (.slice B m d) pl e :: L) fun u G' L'=>u=vi n∧L'=fU b s i p (.slice A n c) (.slice B m d) pl e :: L∧G'=G):=by
 refine jN (N:=8) (T:=[(0,_)]) func164 rfl ntmps164 rfl rfl hO ?_;intro a H;exact kP H (SR fun _ K1=>ak K1 rfl (SR fun _ K2=>Rm rfl (Rk rfl (aR xO yE 0 rfl rfl (Rl Aj rfl (ak K2 rfl (LR results164 rfl fun H=>H.hp.eB ⟨rfl,rfl,rfl⟩)))))))
theorem aiw (G:GH) (L:OL) (w0:World) (b:Nat) (s:ByteArray) (i:Int) (p:aj) (A:Option Addr) (n c:Nat) (B:Option Addr) (m d:Nat) (pl e:Int) (hO:gW G (fU b s i p (.slice A n c) (.slice B m d) pl e :: L) w0) :
  Calls prog 165 #[(aI b 2)] w0 (gF w0 G (fU b s i p (.slice A n c) (.slice B m d) pl e :: L) fun u G' L'=>L'=fU b s i (.pointer none) (.slice none 0 0) (.slice B m d) pl e :: L∧G'=G):=by
 refine jN (N:=8) (T:=[(0,_)]) func165 rfl ntmps165 rfl rfl hO ?_;intro a H;refine kP H (SR fun _ K1=>Rm rfl (Rk rfl (Rf zm rfl ?_)));clear H;intro a H;refine bF Ag 0 (vs:=[_]) _ H wn rfl rfl rfl rfl rfl rfl rfl rfl ?_;clear H;intro w H;dsimp only [List.set,setRow] at H;refine K1 _ _ ?_;clear K1;refine kP H (SC (Rm rfl (Rk rfl (Rf xO rfl ?_))));clear H;intro a H;refine bF yE 0 (vs:=[_]) _ H wn rfl rfl rfl rfl rfl rfl rfl rfl ?_;clear H;intro w H;dsimp only [List.set,setRow] at H;refine aH ?_;refine (leave0 H results165 ?_).2;exact H.hp.eB ⟨rfl,rfl⟩
theorem aix (G:GH) (Lp Lo:OL) (w0:World) (b:Nat) (s:ByteArray) (i:Int) (p v:aj) (B:Option Addr) (m d:Nat) (pl e:Int) (l:List UInt8) (hO:gW G (fU b s i p v (.slice B m d) pl e :: (Lp++Lo)) w0) (hrow:dD 5 1 v l.length (Lib.byteCells l) Lo) (h0:l≠[]) :
  Calls prog 49 #[(aI b 2)] w0 (gF w0 G (fU b s i p v (.slice B m d) pl e :: (Lp++Lo)) fun u G' L'=>u=.string ⟨l.toArray⟩∧L'=fU b s i p v (.slice B m d) pl e :: Lp):=by
 rcases hrow.2 with ⟨-,h,-⟩|⟨b2,cap,cur,rfl,rfl,hc1,hc2,hc3,hc4⟩
 ·exact absurd (List.eq_nil_of_length_eq_zero h) h0
 have hl0:l.length≠0:=fun h=>h0 (List.eq_nil_of_length_eq_zero h);have hml:maxLen=9223372036854775807:=rfl;obtain ⟨Lt,nH⟩:∃ x,x=Lp++[(b2,Obj.cells cur 5 (0,0))]:=⟨_,rfl⟩;rw [← nH] at hO ⊢;refine jN (N:=14) (T:=[(0,_)]) func49 rfl ntmps49 rfl rfl hO ?_;intro a H;refine kP H (SR fun _ K1=>ak K1 rfl (SQ fun _ K2=>?_));clear H K1;intro a H;have H:=H.sub (T':=[(0,_)]) ⟨rfl,aB⟩;refine dI hmx [[],[0],[0,1],[0,1,2],(ra 0 4),[],[5],[5,6],[5,6,7],(ra 5 4),(ra 0 10),(ra 0 11)] [10,11] (by kernel_rfl) [_,_,_,.slice (some ⟨b2,0,none⟩) l.length cap,(aI b2 0),_,_,_,.slice (some ⟨b2,0,none⟩) l.length cap,_] H (aD (Z0 rfl (Rm rfl)) (Z1 0 3 rfl (Rk rfl)) (Z1 1 4 rfl (Rf xO rfl)) (Z1 2 5 rfl (Ro yE 0 rfl)) (aD ?_ (Z0 rfl (Rm rfl)) (Z1 5 8 rfl (Rk rfl)) (Z1 6 9 rfl (Rf xO rfl)) (aD (Z1 7 10 rfl (Ro yE 0 rfl)) (Z1 8 11 rfl (Rl Aj rfl)) (bL rfl) (bL rfl) bY))) ?_
 ·refine dL 3 6 rfl rfl fun _ a w G1 hG HT H fin=>?_;refine WJ H wn rfl (by omega) rfl ?_;clear H;intro a H;exact fin H iJ rfl
 clear H;intro a w G mJ H hv;have H:=H.aQ (hv 4 7 rfl rfl) rfl;have H:=H.aQ (hv 9 12 rfl rfl) rfl;clear hv;subst nH;have H:=H.perm (List.Perm.cons _ yX);dsimp only [lca,aZ] at H;refine WO (i:=1) l Xq RO h0 (by omega) H wn rfl rfl rfl (by rw [← hc4,Nat.mul_one]) rfl ?_;clear H;intro fz a w H;dsimp only [List.set] at H;refine kH H (Ra rfl ?_);clear H;intro a H;refine aH ⟨rfl,?_⟩;refine K2 _ _ ?_;clear K2;refine lr H results49 rfl ?_;exact H.hp.gM (L':=fU b s i _ _ _ pl e :: Lp) (List.Sublist.cons_cons _ (yV _ _)) ⟨rfl,rfl⟩
end
section
open Go.RowKit
section
variable {N:Nat} {D:List Deferred} {w0:World} {F:Nat→Prop} {G0 G G1 G2:GH} {L L1 L2:OL} {T Xs:List (Nat × aj)}
variable {r:Option Nat} {P:Program} {Q:Exit→Act→World→Prop} {l:List Oper} {a a':Act} {w w':World}
end
end
section
open Go.RowKit
section
variable {N:Nat} {D:List Deferred} {w0:World} {F:Nat→Prop} {G0 G G1 G2:GH} {L L1 L2:OL} {T Xs:List (Nat × aj)}
variable {r:Option Nat} {P:Program} {Q:Exit→Act→World→Prop} {l:List Oper} {a a':Act} {w w':World}
theorem aaI {pr:Nat→aj→GH→Prop} {S:Nat→Bool} {i d:Nat} {v:aj} (hok:mh l T i=true) (iF:∀ i v (G G':GH),(∀ k o,G k=some o→G' k=some o)→pr i v G→pr i v G') (hi:dR l i=some d)
  (HT:St N D w0 F G0 G1 L T a w) (Hb:St N D w0 F G0 G1 L (Xs++full N a) a w) (hG:∀ k o,G k=some o→G1 k=some o) (hv:∀ j d,j≠i→S j=true→dR l j=some d→∃ v,a.tmps[d]?=some v∧pr j v G1)
  (hG2:∀ k o,G1 k=some o→G2 k=some o) (hp:pr i v G2) (H:St N D w0 F G0 G2 L1 ((d,v) :: (Xs++full N a)) a' w'):DX N D w0 F G0 G L1 T l pr (dG S i) a' w':=by
 have hok1:=hok
 rw [mh,hi] at hok1
 simp only [kJ,Option.isNone_iff_eq_none,kI,nN] at hok1
 have hsame:∀ t,t≠d→a'.tmps[t]?=a.tmps[t]?:=by
  intro t ht
  by_cases hlt:t < N
  ·have h1:∃ u,lk (Xs++full N a) t=some u:=by
    rw [Dh]
    cases lk Xs t with
    | some u=>exact ⟨u,rfl⟩
    | none=>exact ⟨_,JI a hlt⟩
   obtain ⟨u,hu⟩:=h1
   rw [Hb.get t u hu,H.get t u (by rw [eH (Ne.symm ht)];exact hu)]
  ·rw [Array.getElem?_eq_none (by rw [H.kL];omega),Array.getElem?_eq_none (by rw [Hb.kL];omega)]
 refine ⟨G2,fun k o hk=>hG2 k o (hG k o hk),⟨H.kL,fun t u ht=>?_,H.pz,H.hp⟩,fun j e hj he=>?_⟩
 ·rw [hsame t (fun e=>by rw [e,hok1.1] at ht;cases ht)]
  exact HT.get t u ht
 ·by_cases hji:j=i
  ·subst hji
   rw [hi] at he
   simp only [mV] at he
   subst he
   exact ⟨v,H.get d v (jI _ _ _),hp⟩
  ·have hSj:S j=true:=by unfold dG at hj;rwa [ah hji] at hj
   obtain ⟨u,hu1,hu2⟩:=hv j e hji hSj he
   have hne:e≠d:=by
    intro e'
    subst e'
    have h2:=hok1.2 j (vg he)
    rw [uX (fun h=>hji h.symm),he] at h2
    simp at h2
   exact ⟨u,by rw [hsame e hne];exact hu1,iF j u _ _ hG2 hu2⟩
theorem Zw {id:Nat} {κ:Type} (k0:κ) (hm:P.follows .mixedOrders=true) (bG:List (List Nat)) (B:List Nat) (hk:xM l bG=true) (hB:yD l bG B=true) (m1 m2 m3:Nat) (aeT:B.contains m1=false) (Uw:B.contains m2=false) (aeU:B.contains m3=false) (hne:Nat.beq m1 m2=false) (UC:Nat.beq m2 m3=false) (hne1:Nat.beq m1 m3=false) (h12:(bG.getD m2 []).contains m1=true) (fK:(bG.getD m3 []).contains m1=true) (h23:(bG.getD m3 []).contains m2=true)
  (C L2:OL) (ob:Obj) (L3:Nat→κ→OL) (hC:∀ x,x∈C→x∈L) (hC2:∀ x,x∈C→x∈L2) (hC3:∀ b k x,x∈C→x∈L3 b k) (pr:Nat→κ→Nat→aj→GH→Prop)
  (afh:∀ b b' k i v G,Nat.beq i m2=false→(bG.getD i []).contains m2=false→pr b k i v G→pr b' k i v G)
  (afi:∀ b k k' i v G,Nat.beq i m3=false→(bG.getD i []).contains m3=false→pr b k i v G→pr b k' i v G)
  (H:St N D w0 F G0 G L T a w)
  (hstep:allI (fun i o=>∀ b k L' S a w G1,(∀ x,x∈C→x∈L')→B.contains i=false→Nat.beq i m1=false→Nat.beq i m2=false→Nat.beq i m3=false→S i=false→(∀ j∈bG.getD i [],S j=true)→(∀ k o,G k=some o→G1 k=some o)→St N D w0 F G0 G1 L' T a w→(∀ i d,S i=true→dR l i=some d→∃ v,a.tmps[d]?=some v∧pr b k i v G1) →
   WL r P l.toArray (fun e a' w'=>e=.normal∧DX N D w0 F G0 G L' T l (pr b k) (dG S i) a' w') [o] a w) 0 l)
  (NQ:∀ o b k S a w G1,l[m1]?=some o→S m1=false→(∀ j∈bG.getD m1 [],S j=true)→(∀ k o,G k=some o→G1 k=some o)→St N D w0 F G0 G1 L T a w→(∀ i d,i≠m1→S i=true→dR l i=some d→∃ v,a.tmps[d]?=some v∧pr b k i v G1) →
   WL r P l.toArray (fun e a' w'=>e=.normal∧DX N D w0 F G0 G L2 T l (pr b k) (dG S m1) a' w') [o] a w)
  (NR:∀ o k S a w G1,l[m2]?=some o→S m2=false→(∀ j∈bG.getD m2 [],S j=true)→(∀ k o,G k=some o→G1 k=some o)→St N D w0 F G0 G1 L2 T a w→(∀ b i d,i≠m2→S i=true→dR l i=some d→∃ v,a.tmps[d]?=some v∧pr b k i v G1) →
   WL r P l.toArray (fun e a' w'=>e=.normal∧∃ b,DX N D w0 F G0 G ((b,ob) :: L2) T l (pr b k) (dG S m2) a' w') [o] a w)
  (aeV:∀ o b S a w G1,l[m3]?=some o→S m3=false→(∀ j∈bG.getD m3 [],S j=true)→(∀ k o,G k=some o→G1 k=some o)→St N D w0 F G0 G1 ((b,ob) :: L2) T a w→(∀ k i d,i≠m3→S i=true→dR l i=some d→∃ v,a.tmps[d]?=some v∧pr b k i v G1) →
   WL r P l.toArray (fun e a' w'=>e=.normal∧∃ k,DX N D w0 F G0 G (L3 b k) T l (pr b k) (dG S m3) a' w') [o] a w)
  (hend:∀ b k a w G1,(∀ k o,G k=some o→G1 k=some o)→St N D w0 F G0 G1 (L3 b k) T a w→(∀ i d,B.contains i=false→dR l i=some d→∃ v,a.tmps[d]?=some v∧pr b k i v G1)→WL r P l.toArray (fun e a w=>e=.normal∧Q .normal a w) (pJ l B) a w)
  (Gq:Nat.blt m2 l.length=true) (NS:Nat.blt m3 l.length=true):WP r P (.region id l.toArray true) Q a w:=by
 have VN:m1≠m2:=fun e=>by subst e;rw [Nat.beq_refl] at hne;cases hne
 have VP:m2≠m3:=fun e=>by subst e;rw [Nat.beq_refl] at UC;cases UC
 have VO:m1≠m3:=fun e=>by subst e;rw [Nat.beq_refl] at hne1;cases hne1
 refine RG hm bG B hk hB (fun S a w=>(S m2=true→S m1=true)∧(S m3=true→S m2=true)∧∃ b k L',L'=(bif S m3 then L3 b k else bif S m2 then (b,ob) :: L2 else bif S m1 then L2 else L)∧DX N D w0 F G0 G L' T l (pr b k) S a w)
  ⟨fun h=>h,fun h=>h,0,k0,L,rfl,G,fun _ _ h=>h,H.move H.hp.drew,fun _ _ h=>absurd (show false=true from h) (by decide)⟩ ?_ ?_
 ·rintro i o S a w ho hb bH kZ hdesc ⟨Gw,afa,b,k,L',hL,G1,hG,HS,hv⟩
  have hsub:∀ x,x∈C→x∈L':=fun x hx=>by
   rw [hL]
   cases S m3 with
   | true=>exact hC3 b k x hx
   | false=>cases S m2 with
    | true=>exact jU _ (hC2 x hx)
    | false=>cases S m1 with
     | true=>exact hC2 x hx
     | false=>exact hC x hx
  have hno:∀ j,j < l.length→S j=true→(bG.getD j []).contains i=false:=fun j hjl hj=>by
   cases hc:(bG.getD j []).contains i with
   | false=>rfl
   | true =>
    have:=hdesc j hjl (by simpa using hc)
    rw [this] at hj;cases hj
  by_cases h1:i=m1
  ·subst h1
   have hS2:S m2=false:=hdesc m2 (Eq.mp Nat.blt_eq Gq) (by simpa using h12)
   have En:S m3=false:=hdesc m3 (Eq.mp Nat.blt_eq NS) (by simpa using fK)
   rw [En,hS2,bH] at hL
   subst hL
   have h:=NQ o b k S a w G1 ho bH kZ hG HS fun j d hj hSj hd=>hv j d hSj hd
   have e2:dG S i m2=S m2:=ah (fun e=>VN e.symm)
   have e3:dG S i m3=S m3:=ah (fun e=>VO e.symm)
   refine pV (fun e a' w' ⟨he,hD⟩=>⟨he,fun _=>au rfl,fun h=>(by rw [e3,En] at h;cases h),b,k,_,?_,hD⟩) h
   rw [show dG S i i=true from au rfl,e2,e3,hS2,En]
   rfl
  ·by_cases h2:i=m2
   ·subst h2
    have hS1:S m1=true:=kZ m1 (by simpa using h12)
    have En:S m3=false:=hdesc m3 (Eq.mp Nat.blt_eq NS) (by simpa using h23)
    rw [En,bH,hS1] at hL
    subst hL
    have e1:dG S i m1=S m1:=ah VN
    have e3:dG S i m3=S m3:=ah (fun e=>VP e.symm)
    have h:=NR o k S a w G1 ho bH kZ hG HS fun b' j d hj hSj hd=>by
     obtain ⟨v,hv1,hv2⟩:=hv j d hSj hd
     exact ⟨v,hv1,afh b b' k j v _ (uX hj) (hno j (vg hd) hSj) hv2⟩
    refine pV (fun e a' w' ⟨he,b',hD⟩=>⟨he,fun _=>by rw [e1];exact hS1,fun _=>au rfl,b',k,_,?_,hD⟩) h
    rw [show dG S i i=true from au rfl,e3,En];rfl
   ·by_cases h3:i=m3
    ·subst h3
     have hS1:S m1=true:=kZ m1 (by simpa using fK)
     have hS2:S m2=true:=kZ m2 (by simpa using h23)
     rw [bH,hS2] at hL
     subst hL
     have e1:dG S i m1=S m1:=ah VO
     have e2:dG S i m2=S m2:=ah VP
     have h:=aeV o b S a w G1 ho bH kZ hG HS fun k' j d hj hSj hd=>by
      obtain ⟨v,hv1,hv2⟩:=hv j d hSj hd
      exact ⟨v,hv1,afi b k k' j v _ (uX hj) (hno j (vg hd) hSj) hv2⟩
     refine pV (fun e a' w' ⟨he,k',hD⟩=>⟨he,fun _=>by rw [e1];exact hS1,fun _=>by rw [e2];exact hS2,b,k',_,?_,hD⟩) h
     rw [show dG S i i=true from au rfl];rfl
    ·have h:=DY hstep i o ho
     rw [kK] at h
     have e1:dG S i m1=S m1:=ah (fun e=>h1 e.symm)
     have e2:dG S i m2=S m2:=ah (fun e=>h2 e.symm)
     have e3:dG S i m3=S m3:=ah (fun e=>h3 e.symm)
     refine pV (fun e a' w' ⟨he,hD⟩=>⟨he,by rw [e1,e2];exact Gw,by rw [e2,e3];exact afa,b,k,L',?_,hD⟩) (h b k L' S a w G1 hsub hb (uX h1) (uX h2) (uX h3) bH kZ hG HS hv)
     rw [e1,e2,e3];exact hL
 ·rintro S a w hall hnB ⟨_,_,b,k,L',hL,G1,hG,HS,hv⟩
  have hs3:S m3=true:=hall m3 (Eq.mp Nat.blt_eq NS) aeU
  rw [hs3] at hL
  subst hL
  exact hend b k a w G1 hG HS fun j d hb hd=>hv j d (hall j (vg hd) hb) hd
end
theorem aiJ {z:Int} (h1:0≤z) (h2:z < 256):IntKind.u8.wrap z=z:=by
 simp only [IntKind.wrap,IntKind.bits,IntKind.signed,tY,Ce,if_false]
 omega
section
variable {N:Nat} {D:List Deferred} {w0:World} {F:Nat→Prop} {G0 G:GH} {L:OL} {T:List (Nat × aj)}
variable {r:Option Nat} {P:Program} {ops:Array Oper} {Q:Exit→Act→World→Prop} {rest:List Oper} {a:Act} {w:World}
variable {d:Nat} {ty:TypeId} {pos:String} {aM:Array Edge} {g:Option (Nat × Bool)}
theorem ahN {x y:Operand} {t yt:TypeId} {p q:Int} (H:St N D w0 F G0 G L T a w) (hw:Region.wanted ⟨some d,.binOp .sub t x y yt,ty,pos,aM,g⟩ (yielded ops a.tmps)=true) (hx:ev T x=some (.int .u8 p)) (hy:ev T y=some (.int .u8 q)) (h1:0≤p - q) (h2:p - q < 256) (hd:Nat.blt d N=true)
  (k:∀ a',St N D w0 F G0 G L ((d,.int .u8 (p - q)) :: T) a' w→WL r P ops Q rest a' w):WL r P ops Q (⟨some d,.binOp .sub t x y yt,ty,pos,aM,g⟩ :: rest) a w :=
 fF (v:=.int .u8 (p - q)) (w':=w) hw rfl (by simp [execOp,eqGuard,binOp,Op.intArith,H.ev hx,H.ev hy,bX,aiJ h1 h2]) (k _ (H.put hd _ H.hp))
end
end
end Go.Proofs.YteopmoocmoigcaaGreat
