/-
  What the claim stands on, part 2: Run Rg Pos Pq Doc Dq Eq Idx Bld Hv Ut Prk Prp Plc Plr Prq Prc Fst Nam Pn De Dj Mp Dk Dw Lsc Dm Dl.
-/
import Derived.Test.YteopmoocmoigcaaGreatWya
import Derived.Laws.StructEq
import Derived.ChangeKeysEq
import Derived.Lib.OthersKept
import Derived.Laws.IdiomStrings
import Derived.Laws.Cover4
import Derived.Laws.Slices
import Derived.Laws.Strings2
import Derived.MapKept
namespace Go.Proofs.YteopmoocmoigcaaGreat
open Go.Proofs.Tryz
section
open Go.RowKit
theorem hmx:prog.follows .mixedOrders=true:=by kernel_rfl
theorem gV:cB prog 63 0 0:=⟨by kernel_rfl⟩
theorem aH:Ty prog 3 1 8 [.int .i64 0] false:=⟨by kernel_rfl,by kernel_rfl⟩
theorem pG:cB prog 63 3 3:=⟨by kernel_rfl⟩
theorem fV:Ty prog 9 1 16 [.string ⟨#[]⟩] false:=⟨by kernel_rfl,by kernel_rfl⟩
theorem OV:∀ args w,(callFunc 61 args).run prog w=.ok (.enter 61 args) w:=enters func61 rfl (by kernel_rfl)
theorem dZ:prog.underlying 22=some (.slice 63):=by kernel_rfl
theorem bW:Ty prog 63 11 176 [.int .i64 0,.int .i64 0,.int .i64 0,.string ⟨#[]⟩,.slice none 0 0,.int .i64 0,.int .i64 0,.slice none 0 0,.slice none 0 0,.slice none 0 0,.slice none 0 0] true:=⟨by kernel_rfl,by kernel_rfl⟩
theorem OT:∀ args w,(callFunc 41 args).run prog w=.ok (.enter 41 args) w:=enters func41 rfl (by kernel_rfl)
theorem qd:prog.underlying 23=some (.slice 187):=by kernel_rfl
theorem nT:Ty prog 187 2 16 [.int .i64 0,.int .i64 0] true:=⟨by kernel_rfl,by kernel_rfl⟩
theorem qX:prog.underlying 24=some (.slice 190):=by kernel_rfl
theorem wH:Ty prog 190 2 16 [.int .i64 0,.int .i64 0] true:=⟨by kernel_rfl,by kernel_rfl⟩
theorem vI:prog.underlying 25=some (.slice 199):=by kernel_rfl
theorem wI:Ty prog 199 4 32 [.int .i64 0,.int .i64 0,.int .i64 0,.bool false] true:=⟨by kernel_rfl,by kernel_rfl⟩
theorem mE:Ty prog 29 5 88 [.slice none 0 0,.int .i64 0,.int .i64 0,.slice none 0 0,.slice none 0 0] true:=⟨by kernel_rfl,by kernel_rfl⟩
theorem D5:cB prog 29 0 0:=⟨by kernel_rfl⟩
theorem BP:Ty prog 23 1 24 [.slice none 0 0] false:=⟨by kernel_rfl,by kernel_rfl⟩
theorem afr:∀ args w,(callFunc 98 args).run prog w=.ok (.enter 98 args) w:=enters func98 rfl (by kernel_rfl)
theorem uS:cB prog 29 1 1:=⟨by kernel_rfl⟩
theorem xk:cB prog 27 2 2:=⟨by kernel_rfl⟩
theorem xL:Ty prog 24 1 24 [.slice none 0 0] false:=⟨by kernel_rfl,by kernel_rfl⟩
theorem afs:∀ args w,(callFunc 99 args).run prog w=.ok (.enter 99 args) w:=enters func99 rfl (by kernel_rfl)
theorem DZ:cB prog 27 3 3:=⟨by kernel_rfl⟩
theorem EU:Ty prog 25 1 24 [.slice none 0 0] false:=⟨by kernel_rfl,by kernel_rfl⟩
theorem adL:∀ args w,(callFunc 100 args).run prog w=.ok (.enter 100 args) w:=enters func100 rfl (by kernel_rfl)
theorem lD:prog.underlying 61=some (.slice 96):=by kernel_rfl
theorem jM:Ty prog 96 6 112 [.slice none 0 0,.int .i64 0,.int .i64 0,.slice none 0 0,.slice none 0 0,.slice none 0 0] true:=⟨by kernel_rfl,by kernel_rfl⟩
theorem oP:prog.underlying 94=some (.slice 98):=by kernel_rfl
theorem ku:Ty prog 98 7 120 [.int .i64 0,.slice none 0 0,.int .i64 0,.int .i64 0,.slice none 0 0,.slice none 0 0,.slice none 0 0] true:=⟨by kernel_rfl,by kernel_rfl⟩
theorem D8:cB prog 98 0 0:=⟨by kernel_rfl⟩
theorem Pj:cB prog 98 1 1:=⟨by kernel_rfl⟩
theorem DW:∀ args w,(callFunc 65 args).run prog w=.ok (.enter 65 args) w:=enters func65 rfl (by kernel_rfl)
theorem Cm:cB prog 98 2 6:=⟨by kernel_rfl⟩
theorem gT:Ty prog 22 1 24 [.slice none 0 0] false:=⟨by kernel_rfl,by kernel_rfl⟩
theorem OQ:∀ args w,(callFunc 40 args).run prog w=.ok (.enter 40 args) w:=enters func40 rfl (by kernel_rfl)
theorem aaj:qJ prog 98 [(0,1),(1,5),(6,1)] [.int .i64 0,.slice none 0 0,.int .i64 0,.int .i64 0,.slice none 0 0,.slice none 0 0,.slice none 0 0]:=⟨by kernel_rfl,by kernel_rfl⟩
theorem Ph:cB prog 96 0 0:=⟨by kernel_rfl⟩
theorem sK:cB prog 96 1 5:=⟨by kernel_rfl⟩
theorem tH:Ty prog 94 1 24 [.slice none 0 0] false:=⟨by kernel_rfl,by kernel_rfl⟩
theorem Vr:∀ args w,(callFunc 101 args).run prog w=.ok (.enter 101 args) w:=enters func101 rfl (by kernel_rfl)
theorem aai:qJ prog 96 [(0,5),(5,1)] [.slice none 0 0,.int .i64 0,.int .i64 0,.slice none 0 0,.slice none 0 0,.slice none 0 0]:=⟨by kernel_rfl,by kernel_rfl⟩
theorem uU:cB prog 63 4 4:=⟨by kernel_rfl⟩
theorem vX:cB prog 63 5 9:=⟨by kernel_rfl⟩
theorem nG:cB prog 63 6 10:=⟨by kernel_rfl⟩
theorem nU:Ty prog 61 1 24 [.slice none 0 0] false:=⟨by kernel_rfl,by kernel_rfl⟩
theorem OW:∀ args w,(callFunc 66 args).run prog w=.ok (.enter 66 args) w:=enters func66 rfl (by kernel_rfl)
theorem aeY:∀ args w,(callFunc 63 args).run prog w=.ok (.enter 63 args) w:=enters func63 rfl (by kernel_rfl)
theorem adM:∀ args w,(callFunc 102 args).run prog w=.ok (.enter 102 args) w:=enters func102 rfl (by kernel_rfl)
theorem afa:∀ args w,(callFunc 67 args).run prog w=.ok (.enter 67 args) w:=enters func67 rfl (by kernel_rfl)
theorem aeZ:∀ args w,(callFunc 64 args).run prog w=.ok (.enter 64 args) w:=enters func64 rfl (by kernel_rfl)
def dG (x:au):Nat:=if x.kind=1 then mH x.text else 1
def rZ (x:au):Int:=if x.kind=1 then Hq x.text else 0
theorem SL (G:GH) (w0:World) (hG:Hold G w0) (x:au) (i2 i3:Int) (p i5 i6 d l f r:aj) (hs:x.text.size < 4611686018427387904) :
  Calls prog 41 #[.agg #[vi x.kind,vi i2,vi i3,.string x.text,p,i5,i6,d,l,f,r]] w0 (bq w0 G fun v G'=>v=.tuple #[vi (dG x),vi (rZ x)]∧G=G'):=by
 refine eN [(0,_)] func41 rfl ntmps41 rfl rfl hG ?_;intro a H;refine dH (fun _ K1=>?_);refine fC (cs:=[_,_,_,_,_,_,_,_,_,_,_]) H wn rfl rfl rfl ?_;clear H;intro b1 a w hb1 H;refine kH H (Ra rfl (ak K1 rfl (SQ fun _ K2=>SR fun _ K3=>aT gV aH 0 rfl rfl (Rc rfl (Kz K3 (Cd rfl ?_ ?_)))))) <;> clear H K1 K3
 ·intro h6 a H
  try have p6:=dT h6
  refine kP H (SR fun _ K4=>Ra rfl (ak K4 rfl ?_));clear H K4;intro a H;refine cK ?_;refine (eG H results41 (.cons (aS H rfl) (.cons (aS H rfl) .nil)) ?_).1;exact H.rt ⟨by simp only [dG,rZ,ah p6];rfl,rfl⟩
 intro h6 a H
 try have p6:=dF h6
 refine kP H (Kc K2 (SR fun _ K5=>aT pG fV 0 rfl rfl ?_));clear H K2;intro a H;refine s_call OV H wn rfl (Ot _ _ H.ro _ hs) rfl ?_;clear H;rintro v9 _ a w ⟨rfl,rfl⟩ - H;(iterate 2 refine jc H wn rfl rfl rfl ?_;clear H;intro a H);refine kH H (Ra rfl (ak K5 rfl ?_));clear H K5;intro a H;refine cK ?_;refine (eG H results41 (.cons (aS H rfl) (.cons (aS H rfl) .nil)) ?_).1;exact H.rt ⟨by rw [mW] at p6;simp only [dG,rZ,av p6],rfl⟩
def vT (l:List au):Bool:=l.all fun x=>decide (rZ x=0)
def bY:List au→Nat
 | []=>0
 | x :: l=>dG x+bY l
def wC (l:List au):Int:=if vT l then bY l else 0
def uy (l:List au):Int:=if vT l then 0 else 12
def jL:List au→Nat
 | []=>0
 | x :: l=>x.text.size+1+jL l
theorem Sr:∀ l:List au,bY l≤jL l
 | []=>bT _
 | x :: l=>by
  have:=Sr l;have h2:=FH x.text
  simp only [bY,jL,dG];split <;> omega
theorem aaq {x:au}:∀ {l:List au},x∈l→x.text.size < jL l
 | [],h=>by cases h
 | y :: l,h=>by
  simp only [jL]
  rcases kK.1 h with rfl|h
  ·omega
  have:=aaq h;omega
theorem amy (l m:List au):bY (l++m)=bY l+bY m:=by
 induction l with
 | nil=>simp [bY]
 | cons x l ih=>simp [bY,ih];omega
theorem amB {l:List au} {k:Nat} (h:k < l.length):bY (l.take (k+1))=bY (l.take k)+dG l[k]:=by
 rw [jg h,amy];simp [bY]
theorem Ad (l m:List au):jL (l++m)=jL l+jL m:=by
 induction l with
 | nil=>simp [jL]
 | cons x l ih=>simp [jL,ih];omega
theorem ES (l:List au) (k:Nat):jL (l.take k)≤jL l:=by
 have:=Ad (l.take k) (l.drop k);rw [List.take_append_drop] at this;omega
theorem vY {G:GH} {l:List au} {A:Option Addr} {k:Nat} (hk:k < l.length) (hg:∀ k r,(l.map au.dat)[k]?=some r→∃ b o cs,A=some ⟨b,o,none⟩∧cs.length=11∧(∀ j u,cs[j]?=some u→aJ G b (o+k*11+j)=some u)∧aY G r cs) :
  ∃ b o pA pn pc dA dn dc yA yn yc fA fn fc rA rn rc,A=some ⟨b,o,none⟩∧(∀ j u,[vi l[k].kind,vi l[k].code,vi l[k].id,.string l[k].text,.slice pA pn pc,vi l[k].head.marks.ins,vi l[k].head.marks.move,.slice dA dn dc,.slice yA yn yc,.slice fA fn fc,.slice rA rn rc][j]?=some u→aJ G b (o+k*11+j)=some u) ∧
   iR G l[k].head (.slice pA pn pc) (.slice dA dn dc) (.slice yA yn yc)∧ay G (.sl 11 (l[k].flow.map au.dat)) (.slice fA fn fc)∧ay G (.sl 6 (l[k].rows.map bD.dat)) (.slice rA rn rc):=by
 obtain ⟨b,o,cs,h1,h2,h3,h4⟩:=hg k l[k].dat (by simp [hk]);obtain ⟨pA,pn,pc,dA,dn,dc,yA,yn,yc,fA,fn,fc,rA,rn,rc,rfl,h5,h6,h7⟩:=h4.item;exact ⟨b,o,pA,pn,pc,dA,dn,dc,yA,yn,yc,fA,fn,fc,rA,rn,rc,h1,h3,h5,h6,h7⟩
theorem adD {l:List au} {k:Nat} (h:k < l.length):vT (l.take (k+1))=(vT (l.take k) && decide (rZ l[k]=0)):=by
 unfold vT
 rw [jg h,List.all_append];simp
theorem adC {l:List au} {k:Nat} (h:k < l.length) (hn:¬ rZ l[k]=0):vT l=false:=by
 unfold vT
 rw [List.all_eq_false];exact ⟨l[k],iF h,by simpa using hn⟩
theorem Gn:∀ l:List au,l.length≤jL l
 | []=>bT _
 | x :: l=>by have:=Gn l;simp only [nZ,jL];omega
theorem ER:∀ l:List au,jL l≤bg l
 | []=>bT _
 | x :: l=>by
  have:=ER l;have h2:=oF x
  simp only [jL,bg,fu,eZ] at *;omega
theorem Yp (G:GH) (w0:World) (hG:Hold G w0) (l:List au) (v:aj) (hv:ay G (.sl 11 (l.map au.dat)) v) (hz:bg l≤4294967296) :
  Calls prog 18 #[v] w0 (bq w0 G fun v G'=>v=.tuple #[vi (wC l),vi (uy l)]∧G=G'):=by
 obtain ⟨A,c,rfl,hc1,hc2,hg⟩:=hv.slice;rw [bV] at *;have hll:=Gn l;have htz:=ER l;refine eN [(0,_)] func18 rfl ntmps18 rfl rfl hG ?_;intro a H;refine kP H (SR fun _ K1=>Ra rfl (ak K1 rfl (SR fun _ K2=>ak K2 rfl (SQ fun _ K3=>SR fun _ K4=>Rm rfl (Rl dZ rfl (Rm rfl (Kz K4 (SB ?_))))))));clear H K1 K2 K4;intro a H;skip;refine eU (ι:=Nat) (Tc:=[(9,_),(10,_)]) (Lc:=[]) (fun gh=>[(4,vi (bY (l.take gh))),(11,vi gh)]) (fun gh=>[]) (fun gh=>G) (fun gh=>gh≤l.length∧vT (l.take gh)=true) (fun gh=>l.length - gh) (0) (by exact (H).sub ⟨rfl,rfl,rfl,rfl,aB⟩) ?_ ?_
 ·exact ⟨by omega,by simp [vT]⟩
 clear H;intro gh a w hI H;obtain ⟨k,hgh⟩:∃ x,x=gh:=⟨_,rfl⟩;subst hgh;obtain ⟨hk,hd⟩:=hI;dsimp only [lca,bG] at H;refine kP H (SR fun _ K5=>Rc rfl (Kz K5 (SQ fun _ K6=>Cd rfl ?_ ?_))) <;> clear H K5
 ·intro h12 a H
  try have qE:=dT h12
  have hk2:k < l.length:=by omega
  obtain ⟨b,o,pA,pn,pc,dA,dn,dc,yA,yn,yc,fA,fn,fc,rA,rn,rc,rfl,hrow,-⟩:=vY hk2 hg;have hsm:=amB hk2;have hle:=Sr (l.take (k+1));have hle2:=ES l (k+1);refine kP H (Kc K6 (SQ fun _ K7=>SB (SR fun _ K8=>Ri dZ bW rfl rfl ?_)));clear H K6;intro a H;refine bJ bW (cs:=[_,_,_,_,_,_,_,_,_,_,_]) H wn rfl rfl (fun j v hj=>H.hp.aJ (hrow j v hj)) rfl ?_;clear H;intro a H;refine eB bW H wn rfl ?_;clear H;intro b6 a w hb6 H;refine bM bW 0 (vs:=[_,_,_,_,_,_,_,_,_,_,_]) _ H wn rfl rfl rfl rfl rfl rfl rfl rfl ?_;clear H;intro w H;dsimp only [List.set,setRow] at H;refine K8 _ _ ?_;clear K8;refine dH (fun _ K9=>?_);refine bJ bW (cs:=[_,_,_,_,_,_,_,_,_,_,_]) H wn rfl rfl (H.hp.dL 0 rfl rfl) rfl ?_;clear H;intro a H;refine s_call OT H wn rfl (SL _ _ H.ro _ _ _ _ _ _ _ _ _ _ (by have:=aaq (iF hk2);omega)) rfl ?_;clear H;rintro v17 _ a w ⟨rfl,rfl⟩ - H;refine kH H (Rm rfl ?_);clear H;intro a H;(iterate 2 refine jc H wn rfl rfl rfl ?_;clear H;intro a H);refine kH H (Ra rfl (ak K9 rfl (SQ fun _ aQ=>SR fun _ bH=>Rm rfl (Rc rfl (Kz bH (Cd rfl ?_ ?_)))))) <;> clear H K9 bH
  ·intro h21 a H
   try have oN:=dT h21
   refine kP H (SR fun _ bL=>Ra rfl (ak bL rfl ?_));clear H bL;intro a H;refine cK ?_;refine (eG H results18 (.cons (aS H rfl) (.cons (aS H rfl) .nil)) ?_).1;exact H.rt ⟨by simp [wC,uy,adC hk2 oN],rfl⟩
  intro h21 a H
  try have oN:=dF h21
  refine kP H (Kc aQ (SC (Rm rfl (Rm rfl (Rd rfl ?_)))));clear H aQ;intro a H;rw [← Int.natCast_add,← hsm] at H;refine kH H (aU K7 rfl (SC (Rd rfl (Rm rfl ?_))));clear H K7;intro a H;refine aG ?_;refine dh ((k+1)) (by exact (H.dP (Pl:=[_]) (dD:=[]) [] (by decide) rfl).sub ⟨rfl,rfl,rfl,rfl,aB⟩) ?_ ?_
  ·exact ⟨by omega,by rw [adD hk2,hd];simpa using oN⟩
  first|omega|(dsimp only;omega)
 intro h12 a H
 try have qE:=dF h12
 refine dW ?_;refine K3 _ _ ?_;clear K3;refine kP H (SR fun _ bR=>Rm rfl (Ra rfl (ak bR rfl ?_)));clear H bR;intro a H;refine cK ?_;refine (eG H results18 (.cons (aS H rfl) (.cons (aS H rfl) .nil)) ?_).1;exact H.rt ⟨by rw [show l.take k=l from jF (by omega)] at hd ⊢;simp [wC,uy,hd],rfl⟩
theorem ade (G:GH) (w0:World) (hG:Hold G w0) (rows:List (List Dat)) (A:Option Addr) (n c:Nat) (hv:ay G (.sl 2 rows) (.slice A n c)) (hz:rows.length≤4294967296) :
  Calls prog 98 #[.slice A n c] w0 (bq w0 G fun v G'=>ay G' (.sl 2 rows) v):=by
 obtain ⟨hn,hc1,hc2,hnil,hx⟩:=hv.cells;refine eN [(0,_)] func98 rfl ntmps98 rfl rfl hG ?_;intro a H;refine kP H (SR fun _ K1=>ak K1 rfl (SQ fun _ K2=>SR fun _ K3=>Rm rfl ?_));clear H K1;intro a H;refine R7 qd H wn rfl rfl ?_;clear H;intro a H;refine K3 _ _ ?_;clear K3;refine kS H rfl ?_ ?_
 ·intro h4
  exact kP H (SR fun _ K4=>ak K4 rfl (LR results98 rfl fun H=>H.rt (by rw [hnil (by simpa using h4)];exact ay.jH rfl (by simp [maxLen]))))
 intro h4
 try have p4:=dF h4
 refine fZ ?_;refine K2 _ _ ?_;clear K2;refine bK (fun _ K5=>?_)
 have hA:¬ A=none:=by intro e;rw [e] at h4;cases h4
 refine oH ?_;refine R5 qd nT H wn rfl ?_;clear H;intro b5 a w hb5 H;refine kH H (Rm rfl ?_);clear H;intro a H
 by_cases hr0:rows=[]
 ·have hn0:n=0:=by rw [hn,hr0];rfl
  subst hn0;refine MW qd nT H wn rfl rfl (bT _) rfl ?_;clear H;intro a H;exact kH H (aU K5 rfl (LR results98 rfl fun H=>H.rt (by rw [hr0];exact ay.jH rfl (by simp [maxLen]))))
 obtain ⟨b,o,xs,rfl,hxl,hxc,hx1,jr⟩:=hx hr0;refine oz (Li:=[]) (Lo:=[_]) (news:=xs) qd nT rfl rfl H wn rfl rfl dz.empty hxl (fun j u hj=>H.hp.aJ (hxc j u hj)) hx1 (by omega) (by omega) rfl ?_;clear H;intro v7 Lo a w hrow H;obtain ⟨G',hm,hrep,H⟩:=H.um hrow (rows:=rows) (by omega) (by simpa using jr)
 try clear hG
 obtain ⟨G2,hG2⟩:∃ g,g=G':=⟨_,rfl⟩;subst hG2;exact kH H (aU K5 rfl (LR results98 rfl fun H=>H.rt hrep))
theorem ada (G:GH) (w0:World) (hG:Hold G w0) (rows:List (List Dat)) (A:Option Addr) (n c:Nat) (hv:ay G (.sl 2 rows) (.slice A n c)) (hz:rows.length≤4294967296) :
  Calls prog 99 #[.slice A n c] w0 (bq w0 G fun v G'=>ay G' (.sl 2 rows) v):=by
 obtain ⟨hn,hc1,hc2,hnil,hx⟩:=hv.cells;refine eN [(0,_)] func99 rfl ntmps99 rfl rfl hG ?_;intro a H;refine kP H (SR fun _ K1=>ak K1 rfl (SQ fun _ K2=>SR fun _ K3=>Rm rfl ?_));clear H K1;intro a H;refine R7 qX H wn rfl rfl ?_;clear H;intro a H;refine K3 _ _ ?_;clear K3;refine kS H rfl ?_ ?_
 ·intro h4
  exact kP H (SR fun _ K4=>ak K4 rfl (LR results99 rfl fun H=>H.rt (by rw [hnil (by simpa using h4)];exact ay.jH rfl (by simp [maxLen]))))
 intro h4
 try have p4:=dF h4
 refine fZ ?_;refine K2 _ _ ?_;clear K2;refine bK (fun _ K5=>?_)
 have hA:¬ A=none:=by intro e;rw [e] at h4;cases h4
 refine oH ?_;refine R5 qX wH H wn rfl ?_;clear H;intro b5 a w hb5 H;refine kH H (Rm rfl ?_);clear H;intro a H
 by_cases hr0:rows=[]
 ·have hn0:n=0:=by rw [hn,hr0];rfl
  subst hn0;refine MW qX wH H wn rfl rfl (bT _) rfl ?_;clear H;intro a H;exact kH H (aU K5 rfl (LR results99 rfl fun H=>H.rt (by rw [hr0];exact ay.jH rfl (by simp [maxLen]))))
 obtain ⟨b,o,xs,rfl,hxl,hxc,hx1,jr⟩:=hx hr0;refine oz (Li:=[]) (Lo:=[_]) (news:=xs) qX wH rfl rfl H wn rfl rfl dz.empty hxl (fun j u hj=>H.hp.aJ (hxc j u hj)) hx1 (by omega) (by omega) rfl ?_;clear H;intro v7 Lo a w hrow H;obtain ⟨G',hm,hrep,H⟩:=H.um hrow (rows:=rows) (by omega) (by simpa using jr)
 try clear hG
 obtain ⟨G2,hG2⟩:∃ g,g=G':=⟨_,rfl⟩;subst hG2;exact kH H (aU K5 rfl (LR results99 rfl fun H=>H.rt hrep))
theorem adb (G:GH) (w0:World) (hG:Hold G w0) (rows:List (List Dat)) (A:Option Addr) (n c:Nat) (hv:ay G (.sl 4 rows) (.slice A n c)) (hz:rows.length≤4294967296) :
  Calls prog 100 #[.slice A n c] w0 (bq w0 G fun v G'=>ay G' (.sl 4 rows) v):=by
 obtain ⟨hn,hc1,hc2,hnil,hx⟩:=hv.cells;refine eN [(0,_)] func100 rfl ntmps100 rfl rfl hG ?_;intro a H;refine kP H (SR fun _ K1=>ak K1 rfl (SQ fun _ K2=>SR fun _ K3=>Rm rfl ?_));clear H K1;intro a H;refine R7 vI H wn rfl rfl ?_;clear H;intro a H;refine K3 _ _ ?_;clear K3;refine kS H rfl ?_ ?_
 ·intro h4
  exact kP H (SR fun _ K4=>ak K4 rfl (LR results100 rfl fun H=>H.rt (by rw [hnil (by simpa using h4)];exact ay.jH rfl (by simp [maxLen]))))
 intro h4
 try have p4:=dF h4
 refine fZ ?_;refine K2 _ _ ?_;clear K2;refine bK (fun _ K5=>?_)
 have hA:¬ A=none:=by intro e;rw [e] at h4;cases h4
 refine oH ?_;refine R5 vI wI H wn rfl ?_;clear H;intro b5 a w hb5 H;refine kH H (Rm rfl ?_);clear H;intro a H
 by_cases hr0:rows=[]
 ·have hn0:n=0:=by rw [hn,hr0];rfl
  subst hn0;refine MW vI wI H wn rfl rfl (bT _) rfl ?_;clear H;intro a H;exact kH H (aU K5 rfl (LR results100 rfl fun H=>H.rt (by rw [hr0];exact ay.jH rfl (by simp [maxLen]))))
 obtain ⟨b,o,xs,rfl,hxl,hxc,hx1,jr⟩:=hx hr0;refine oz (Li:=[]) (Lo:=[_]) (news:=xs) vI wI rfl rfl H wn rfl rfl dz.empty hxl (fun j u hj=>H.hp.aJ (hxc j u hj)) hx1 (by omega) (by omega) rfl ?_;clear H;intro v7 Lo a w hrow H;obtain ⟨G',hm,hrep,H⟩:=H.um hrow (rows:=rows) (by omega) (by simpa using jr)
 try clear hG
 obtain ⟨G2,hG2⟩:∃ g,g=G':=⟨_,rfl⟩;subst hG2;exact kH H (aU K5 rfl (LR results100 rfl fun H=>H.rt hrep))
theorem DU (G:GH) (w0:World) (hG:Hold G w0) (h:iE) (pA dA yA:Option Addr) (pn pc dn dc yn yc:Nat) (hv:iR G h (.slice pA pn pc) (.slice dA dn dc) (.slice yA yn yc)) (hz:qG h≤4294967296) :
  Calls prog 65 #[.agg #[.slice pA pn pc,vi h.marks.ins,vi h.marks.move,.slice dA dn dc,.slice yA yn yc]] w0 (bq w0 G fun v G'=>∃ p d l,v=.agg #[p,vi h.marks.ins,vi h.marks.move,d,l]∧iR G' h p d l):=by
 have he:=J8 h;have h1:=tu (h.props.map iL.dat);have h2:=tu (h.marks.dw.map jN.dat);have h3:=tu (h.marks.layers.map jw.dat);refine eN [(0,_)] func65 rfl ntmps65 rfl rfl hG ?_;intro a H;refine dH (fun _ K1=>?_);refine fC (cs:=[_,_,_,_,_]) H wn rfl rfl rfl ?_;clear H;intro b1 a w hb1 H;refine eB mE H wn rfl ?_;clear H;intro b2 a w hb2 H;refine K1 _ _ ?_;clear K1;refine kP H (SR fun _ K2=>aT D5 BP 1 rfl rfl ?_);clear H;intro a H;refine s_call afr H wn rfl (ade _ _ H.ro _ _ _ _ hv.props (by omega)) rfl ?_;clear H;rintro v5 G5 a w rP Qv H;obtain ⟨A5,n5,c5,rfl⟩:=rP.form;refine kH H (Rf D5 rfl ?_);clear H;intro a H;refine bM BP 1 (vs:=[_]) _ H wn rfl rfl rfl rfl rfl rfl rfl rfl ?_;clear H;intro w H;dsimp only [List.set,setRow] at H;refine K2 _ _ ?_;clear K2;refine bK (fun _ K3=>?_);obtain ⟨hvp,hvd,hvy⟩:=hv.mono Qv;clear hv
 have oL:∀ (bE:Nat) (v:aj) (G G':GH),(∀ k o,G k=some o→G' k=some o)→(fun (bE:Nat) (v:aj) (G:GH)=>match bE with|0=>v=(aI b1 1)|1=>v=(aI b1 3)|2=>v=.slice dA dn dc|3=>ay G (.sl 2 (h.marks.dw.map jN.dat)) v|4=>v=(aI b1 1)|5=>v=(aI b1 4)|6=>v=.slice yA yn yc|7=>ay G (.sl 4 (h.marks.layers.map jw.dat)) v|8=>v=(aI b1 1)|9=>v=(aI b1 3)|_=>True) bE v G→(fun (bE:Nat) (v:aj) (G:GH)=>match bE with|0=>v=(aI b1 1)|1=>v=(aI b1 3)|2=>v=.slice dA dn dc|3=>ay G (.sl 2 (h.marks.dw.map jN.dat)) v|4=>v=(aI b1 1)|5=>v=(aI b1 4)|6=>v=.slice yA yn yc|7=>ay G (.sl 4 (h.marks.layers.map jw.dat)) v|8=>v=(aI b1 1)|9=>v=(aI b1 3)|_=>True) bE v G':=by
  intro bE v G G' hm h
  match bE,h with
  | 0,h=>exact h
  | 1,h=>exact h
  | 2,h=>exact h
  | 3,h=>exact ay.mono hm h
  | 4,h=>exact h
  | 5,h=>exact h
  | 6,h=>exact h
  | 7,h=>exact ay.mono hm h
  | 8,h=>exact h
  | 9,h=>exact h
  | 10,h=>exact trivial
  | 11,h=>exact trivial
  | 12,h=>exact trivial
  | 13,h=>exact trivial
  | _+14,h=>exact trivial
 refine xZ (hmx) [[],[0],[0,1],[0,1,2],[],[4],[4,5],(ra 0 7),(ra 0 7),(ra 0 7++[8]),(ra 0 10),(ra 0 11),(ra 0 12),(ra 0 13)] (ra 10 4) (by kernel_rfl) (by kernel_rfl) (fun (bE:Nat) (v:aj) (G:GH)=>match bE with|0=>v=(aI b1 1)|1=>v=(aI b1 3)|2=>v=.slice dA dn dc|3=>ay G (.sl 2 (h.marks.dw.map jN.dat)) v|4=>v=(aI b1 1)|5=>v=(aI b1 4)|6=>v=.slice yA yn yc|7=>ay G (.sl 4 (h.marks.layers.map jw.dat)) v|8=>v=(aI b1 1)|9=>v=(aI b1 3)|_=>True) oL H ?_ ?_
 ·clear H;refine aD ?_ ?_ ?_ ?_ (aD ?_ ?_ ?_ ?_ (aD ?_ ?_ (bN rfl) (bN rfl) (aZ (bN rfl) (aZ (bN rfl) cu))))
  ·refine bX [] rfl trivial (by kernel_rfl) oL rfl rfl ?_;intro aV a w G1 hG HT H fin;exact kH H (Rf uS rfl fun _ H=>fin H iJ rfl)
  ·refine bX [(0,7,_)] rfl ⟨fun _ _ h=>h,aB⟩ (by kernel_rfl) oL rfl rfl ?_;intro aV a w G1 hG HT H fin;exact kH H (Rf xk rfl fun _ H=>fin H iJ rfl)
  ·refine bX [(1,8,_)] rfl ⟨fun _ _ h=>h,aB⟩ (by kernel_rfl) oL rfl rfl ?_;intro aV a w G1 hG HT H fin;exact kH H (Ro xL 1 rfl fun _ H=>fin H iJ rfl)
  ·refine bX [(2,9,_)] rfl ⟨fun _ _ h=>h,aB⟩ (by kernel_rfl) oL rfl rfl ?_;intro aV a w G1 hG HT H fin;refine s_call afs H wn rfl (ada _ _ H.ro _ _ _ _ (hvd.mono hG) (by omega)) rfl ?_;clear H;rintro v10 wO a w rO kW H;exact fin H kW (rO)
  ·refine bX [] rfl trivial (by kernel_rfl) oL rfl rfl ?_;intro aV a w G1 hG HT H fin;exact kH H (Rf uS rfl fun _ H=>fin H iJ rfl)
  ·refine bX [(4,11,_)] rfl ⟨fun _ _ h=>h,aB⟩ (by kernel_rfl) oL rfl rfl ?_;intro aV a w G1 hG HT H fin;exact kH H (Rf DZ rfl fun _ H=>fin H iJ rfl)
  ·refine bX [(5,12,_)] rfl ⟨fun _ _ h=>h,aB⟩ (by kernel_rfl) oL rfl rfl ?_;intro aV a w G1 hG HT H fin;exact kH H (Ro EU 1 rfl fun _ H=>fin H iJ rfl)
  ·refine bX [(6,13,_)] rfl ⟨fun _ _ h=>h,aB⟩ (by kernel_rfl) oL rfl rfl ?_;intro aV a w G1 hG HT H fin;refine s_call adL H wn rfl (adb _ _ H.ro _ _ _ _ (hvy.mono hG) (by omega)) rfl ?_;clear H;rintro v14 Hy a w Ji IQ H;exact fin H IQ (Ji)
  ·refine bX [] rfl trivial (by kernel_rfl) oL rfl rfl ?_;intro aV a w G1 hG HT H fin;exact kH H (Rf uS rfl fun _ H=>fin H iJ rfl)
  refine bX [(8,15,_)] rfl ⟨fun _ _ h=>h,aB⟩ (by kernel_rfl) oL rfl rfl ?_;intro aV a w G1 hG HT H fin;exact kH H (Rf xk rfl fun _ H=>fin H iJ rfl)
 clear H;intro a w G Bc H hv;obtain ⟨u10,Ju,rO⟩:=hv 3 10 (by decide) rfl;(try dsimp only at rO);obtain ⟨Td,n10,c10,rfl⟩:=rO.form;have H:=H.iT Ju;obtain ⟨u14,aiu,Ji⟩:=hv 7 14 (by decide) rfl;(try dsimp only at Ji);obtain ⟨Tf,n14,c14,rfl⟩:=Ji.form;have H:=H.iT aiu;have H:=H.aP (hv 9 16 rfl rfl) rfl;clear hv;refine bM xL 1 (vs:=[_]) _ H wn rfl rfl rfl rfl rfl rfl rfl rfl ?_;clear H;intro w H;dsimp only [List.set,setRow] at H;refine kH H (Rf uS rfl (Rf DZ rfl ?_));clear H;intro a H;refine bM EU 1 (vs:=[_]) _ H wn rfl rfl rfl rfl rfl rfl rfl rfl ?_;clear H;intro w H;dsimp only [List.set,setRow] at H;refine aG ⟨rfl,?_⟩;refine K3 _ _ ?_;clear K3;refine dH (fun _ K4=>?_);refine bJ mE (cs:=[_,_,_,_,_]) H wn rfl rfl (H.hp.dL 1 rfl rfl) rfl ?_;clear H;intro a H;refine bM mE 0 (vs:=[_,_,_,_,_]) _ H wn rfl rfl rfl rfl rfl rfl rfl rfl ?_;clear H;intro w H;dsimp only [List.set,setRow] at H;refine K4 _ _ ?_;clear K4;refine cK ?_;refine (leave1 H results65 (.cons (ze mE (cs:=[_,_,_,_,_]) H rfl rfl (H.hp.dL 0 rfl rfl)) .nil) ?_).1;exact H.rt ⟨_,_,_,rfl,rP.mono Bc,rO,Ji⟩
def Fe (fv:aj) (w0:World) (G:GH) (d d':List Dat):Prop:=∀ (G1:GH) (w1:World) (cs:List aj),(∀ b o,G b=some o→G1 b=some o)→Hold G1 w1→aY G1 d cs →
 uG prog fv [.agg cs.toArray] w1 (bq w1 G1 fun u G'=>∃ cs',u=.agg cs'.toArray∧aY G' d' cs')
abbrev Fb (fv:aj) (w0:World) (G:GH) (d:List Dat):Prop:=Fe fv w0 G d d
theorem adJ (φ:au→au) (G:GH) (w0:World) (hG:Hold G w0) (l:List au) (v fv:aj) (hv:ay G (.sl 11 (l.map au.dat)) v) (hz:l.length≤4294967296) (hf:∀ x∈l,Fe fv w0 G x.dat (φ x).dat) :
  Calls prog 63 #[v,fv] w0 (bq w0 G fun u G'=>ay G' (.sl 11 (l.map fun x=>(φ x).dat)) u):=by
 obtain ⟨A,c,rfl,hc1,hc2,hg⟩:=hv.slice
 have hml:4294967297≤maxLen:=by decide
 rw [bV] at *;refine eN [(0,_),(1,_)] func63 rfl ntmps63 rfl rfl hG ?_;intro a H;refine kP H (SR fun _ K1=>ak K1 rfl (SR fun _ K2=>ak K2 rfl (SQ fun _ K3=>SR fun _ K4=>Rm rfl (Rl dZ rfl (Rm rfl (Kz K4 (SB ?_)))))));clear H K1 K2 K4;intro a H;skip;refine eU (ι:=Nat × aj × List aj × OL × GH) (Tc:=[(1,_),(8,_),(9,_)]) (Lc:=[]) (fun gh=>[(5,gh.2.1),(10,vi gh.1)]) (fun gh=>[]++gh.2.2.2.1) (fun gh=>gh.2.2.2.2) (fun gh=>gh.1≤l.length∧dz 63 11 gh.2.1 gh.1 gh.2.2.1 gh.2.2.2.1∧eY gh.2.2.2.2 11 ((l.map fun x=>(φ x).dat).take gh.1) gh.2.2.1∧(∀ b o,G b=some o→gh.2.2.2.2 b=some o)) (fun gh=>l.length - gh.1) ((0,.slice none 0 0,[],[],G)) (by exact (H).sub ⟨rfl,rfl,rfl,rfl,rfl,aB⟩) ?_ ?_
 ·exact ⟨by omega,dz.nil,by simpa using eY.nil,fun _ _ h=>h⟩
 clear H;intro gh a w hI H;obtain ⟨k,v,xs,Lo,g⟩:=gh;dsimp only at hI H;obtain ⟨hk,hrw,jr,hgm⟩:=hI;dsimp only [lca,bG] at H;refine kP H (SR fun _ K5=>Rc rfl (Kz K5 (SQ fun _ K6=>Cd rfl ?_ ?_))) <;> clear H K5
 ·intro h11 a H
  try have nN:=dT h11
  have hk2:k < l.length:=by omega
  obtain ⟨b,o,cs,rfl,hcl,hrow,hrep⟩:=hg k l[k].dat (by simp [hk2]);obtain ⟨pA,pn,pc,dA,dn,dc,yA,yn,yc,fA,fn,fc,rA,rn,rc,rfl,-⟩:=hrep.item;replace hrow:=fun j u hj=>aO hgm (hrow j u hj);refine kP H (Kc K6 (SQ fun _ K7=>SB (SR fun _ K8=>Ri dZ bW rfl rfl ?_)));clear H K6;intro a H;refine bJ bW (cs:=[_,_,_,_,_,_,_,_,_,_,_]) H wn rfl rfl (fun j v hj=>H.hp.aJ (hrow j v hj)) rfl ?_;clear H;intro a H;refine eB bW H wn rfl ?_;clear H;intro b7 a w Em H;refine bM bW 0 (vs:=[_,_,_,_,_,_,_,_,_,_,_]) _ H wn rfl rfl rfl rfl rfl rfl rfl rfl ?_;clear H;intro w H;dsimp only [List.set,setRow] at H;refine K8 _ _ ?_;clear K8;refine kP H (SC (Rm rfl (Rm rfl ?_)));clear H;intro a H;refine bJ bW (cs:=[_,_,_,_,_,_,_,_,_,_,_]) H wn rfl rfl (H.hp.dL 0 rfl rfl) rfl ?_;clear H;intro a H;refine qF H wn rfl rfl (hf _ (iF hk2) _ _ _ hgm H.ro (hrep.mono hgm)) rfl ?_;clear H;rintro v17 zw a w ⟨yg,rfl,eF⟩ pQ H;obtain ⟨cs,hcs⟩:∃ cs,cs=yg:=⟨_,rfl⟩;obtain ⟨pA,pn,pc,dA,dn,dc,yA,yn,yc,fA,fn,fc,rA,rn,rc,uZ,-⟩:=eF.item;rw [uZ] at H;refine gX dZ bW [_,_,_,_,_,_,_,_,_,_,_] [_,_,_,_,_,_,_,_,_,_,_] H wn rfl rfl rfl rfl rfl (by intro i q h;match i,h with|0,h=>exact h|n+1,h=>simp at h) rfl rfl ?_;clear H;intro b18 a w LV H;refine oz (Li:=[_,_]) (Lo:=Lo) (news:=yg) dZ bW rfl rfl H wn rfl rfl hrw (by rw [uZ];rfl) (by rw [uZ];exact H.hp.dL 0 rfl rfl) eF.one (by omega) (by omega) rfl ?_;clear H;intro v19 DC a w xE H;refine kH H (aU K7 rfl (SC (Rd rfl (Rm rfl ?_))));clear H K7;intro a H;refine aG ?_;refine dh ((k+1,v19,xs++yg,DC,zw)) (by exact (H.dP (Pl:=[_,_]) (dD:=[]) [] (by decide) rfl).sub ⟨rfl,rfl,rfl,rfl,rfl,aB⟩) ?_ ?_
  ·(try dsimp only);refine ⟨by omega,xE,?_,fun b o h=>pQ b o (hgm b o h)⟩;rw [jg (by simpa using hk2)];exact (jr.mono pQ).snoc (by simpa using eF) (by rw [uZ];rfl)
  first|omega|(dsimp only;omega)
 intro h11 a H
 try have nN:=dF h11
 refine dW ?_;refine K3 _ _ ?_;clear K3;refine bK (fun _ K9=>?_);obtain ⟨G',hm,hrep,H⟩:=H.um (Li:=[]) hrw (rows:=l.map fun x=>(φ x).dat) (by simp;omega) (by rw [jF (by simp;omega)] at jr;exact jr);exact kP H (SC (Rm rfl (aU K9 rfl (LR results63 rfl fun H=>H.rt hrep))))
theorem adI (G:GH) (w0:World) (hG:Hold G w0) (l:List au) (v fv:aj) (hv:ay G (.sl 11 (l.map au.dat)) v) (hz:l.length≤4294967296) (hf:∀ x∈l,Fb fv w0 G x.dat) :
  Calls prog 63 #[v,fv] w0 (bq w0 G fun u G'=>ay G' (.sl 11 (l.map au.dat)) u):=adJ (fun x=>x) G w0 hG l v fv hv hz hf
theorem Vq (φ:bD→bD) (G:GH) (w0:World) (hG:Hold G w0) (l:List bD) (v fv:aj) (hv:ay G (.sl 6 (l.map bD.dat)) v) (hz:l.length≤4294967296) (hf:∀ x∈l,Fe fv w0 G x.dat (φ x).dat) :
  Calls prog 66 #[v,fv] w0 (bq w0 G fun u G'=>ay G' (.sl 6 (l.map fun x=>(φ x).dat)) u):=by
 obtain ⟨A,c,rfl,hc1,hc2,hg⟩:=hv.slice
 have hml:4294967297≤maxLen:=by decide
 rw [bV] at *;refine eN [(0,_),(1,_)] func66 rfl ntmps66 rfl rfl hG ?_;intro a H;refine kP H (SR fun _ K1=>ak K1 rfl (SR fun _ K2=>ak K2 rfl (SQ fun _ K3=>SR fun _ K4=>Rm rfl (Rl lD rfl (Rm rfl (Kz K4 (SB ?_)))))));clear H K1 K2 K4;intro a H;skip;refine eU (ι:=Nat × aj × List aj × OL × GH) (Tc:=[(1,_),(8,_),(9,_)]) (Lc:=[]) (fun gh=>[(5,gh.2.1),(10,vi gh.1)]) (fun gh=>[]++gh.2.2.2.1) (fun gh=>gh.2.2.2.2) (fun gh=>gh.1≤l.length∧dz 96 6 gh.2.1 gh.1 gh.2.2.1 gh.2.2.2.1∧eY gh.2.2.2.2 6 ((l.map fun x=>(φ x).dat).take gh.1) gh.2.2.1∧(∀ b o,G b=some o→gh.2.2.2.2 b=some o)) (fun gh=>l.length - gh.1) ((0,.slice none 0 0,[],[],G)) (by exact (H).sub ⟨rfl,rfl,rfl,rfl,rfl,aB⟩) ?_ ?_
 ·exact ⟨by omega,dz.nil,by simpa using eY.nil,fun _ _ h=>h⟩
 clear H;intro gh a w hI H;obtain ⟨k,v,xs,Lo,g⟩:=gh;dsimp only at hI H;obtain ⟨hk,hrw,jr,hgm⟩:=hI;dsimp only [lca,bG] at H;refine kP H (SR fun _ K5=>Rc rfl (Kz K5 (SQ fun _ K6=>Cd rfl ?_ ?_))) <;> clear H K5
 ·intro h11 a H
  try have nN:=dT h11
  have hk2:k < l.length:=by omega
  obtain ⟨b,o,cs,rfl,hcl,hrow,hrep⟩:=hg k l[k].dat (by simp [hk2]);obtain ⟨pA,pn,pc,dA,dn,dc,yA,yn,yc,fA,fn,fc,rfl,-⟩:=hrep.row;replace hrow:=fun j u hj=>aO hgm (hrow j u hj);refine kP H (Kc K6 (SQ fun _ K7=>SB (SR fun _ K8=>Ri lD jM rfl rfl ?_)));clear H K6;intro a H;refine bJ jM (cs:=[_,_,_,_,_,_]) H wn rfl rfl (fun j v hj=>H.hp.aJ (hrow j v hj)) rfl ?_;clear H;intro a H;refine eB jM H wn rfl ?_;clear H;intro b7 a w Em H;refine bM jM 0 (vs:=[_,_,_,_,_,_]) _ H wn rfl rfl rfl rfl rfl rfl rfl rfl ?_;clear H;intro w H;dsimp only [List.set,setRow] at H;refine K8 _ _ ?_;clear K8;refine kP H (SC (Rm rfl (Rm rfl ?_)));clear H;intro a H;refine bJ jM (cs:=[_,_,_,_,_,_]) H wn rfl rfl (H.hp.dL 0 rfl rfl) rfl ?_;clear H;intro a H;refine qF H wn rfl rfl (hf _ (iF hk2) _ _ _ hgm H.ro (hrep.mono hgm)) rfl ?_;clear H;rintro v17 zw a w ⟨yg,rfl,eF⟩ pQ H;obtain ⟨cs,hcs⟩:∃ cs,cs=yg:=⟨_,rfl⟩;obtain ⟨pA,pn,pc,dA,dn,dc,yA,yn,yc,fA,fn,fc,uZ,-⟩:=eF.row;rw [uZ] at H;refine gX lD jM [_,_,_,_,_,_] [_,_,_,_,_,_] H wn rfl rfl rfl rfl rfl (by intro i q h;match i,h with|0,h=>exact h|n+1,h=>simp at h) rfl rfl ?_;clear H;intro b18 a w LV H;refine oz (Li:=[_,_]) (Lo:=Lo) (news:=yg) lD jM rfl rfl H wn rfl rfl hrw (by rw [uZ];rfl) (by rw [uZ];exact H.hp.dL 0 rfl rfl) eF.one (by omega) (by omega) rfl ?_;clear H;intro v19 DC a w xE H;refine kH H (aU K7 rfl (SC (Rd rfl (Rm rfl ?_))));clear H K7;intro a H;refine aG ?_;refine dh ((k+1,v19,xs++yg,DC,zw)) (by exact (H.dP (Pl:=[_,_]) (dD:=[]) [] (by decide) rfl).sub ⟨rfl,rfl,rfl,rfl,rfl,aB⟩) ?_ ?_
  ·(try dsimp only);refine ⟨by omega,xE,?_,fun b o h=>pQ b o (hgm b o h)⟩;rw [jg (by simpa using hk2)];exact (jr.mono pQ).snoc (by simpa using eF) (by rw [uZ];rfl)
  first|omega|(dsimp only;omega)
 intro h11 a H
 try have nN:=dF h11
 refine dW ?_;refine K3 _ _ ?_;clear K3;refine bK (fun _ K9=>?_);obtain ⟨G',hm,hrep,H⟩:=H.um (Li:=[]) hrw (rows:=l.map fun x=>(φ x).dat) (by simp;omega) (by rw [jF (by simp;omega)] at jr;exact jr);exact kP H (SC (Rm rfl (aU K9 rfl (LR results66 rfl fun H=>H.rt hrep))))
theorem Vo (G:GH) (w0:World) (hG:Hold G w0) (l:List bD) (v fv:aj) (hv:ay G (.sl 6 (l.map bD.dat)) v) (hz:l.length≤4294967296) (hf:∀ x∈l,Fb fv w0 G x.dat) :
  Calls prog 66 #[v,fv] w0 (bq w0 G fun u G'=>ay G' (.sl 6 (l.map bD.dat)) u):=Vq (fun x=>x) G w0 hG l v fv hv hz hf
theorem Vp (φ:bF→bF) (G:GH) (w0:World) (hG:Hold G w0) (l:List bF) (v fv:aj) (hv:ay G (.sl 7 (l.map bF.dat)) v) (hz:l.length≤4294967296) (hf:∀ x∈l,Fe fv w0 G x.dat (φ x).dat) :
  Calls prog 101 #[v,fv] w0 (bq w0 G fun u G'=>ay G' (.sl 7 (l.map fun x=>(φ x).dat)) u):=by
 obtain ⟨A,c,rfl,hc1,hc2,hg⟩:=hv.slice
 have hml:4294967297≤maxLen:=by decide
 rw [bV] at *;refine eN [(0,_),(1,_)] func101 rfl ntmps101 rfl rfl hG ?_;intro a H;refine kP H (SR fun _ K1=>ak K1 rfl (SR fun _ K2=>ak K2 rfl (SQ fun _ K3=>SR fun _ K4=>Rm rfl (Rl oP rfl (Rm rfl (Kz K4 (SB ?_)))))));clear H K1 K2 K4;intro a H;skip;refine eU (ι:=Nat × aj × List aj × OL × GH) (Tc:=[(1,_),(8,_),(9,_)]) (Lc:=[]) (fun gh=>[(5,gh.2.1),(10,vi gh.1)]) (fun gh=>[]++gh.2.2.2.1) (fun gh=>gh.2.2.2.2) (fun gh=>gh.1≤l.length∧dz 98 7 gh.2.1 gh.1 gh.2.2.1 gh.2.2.2.1∧eY gh.2.2.2.2 7 ((l.map fun x=>(φ x).dat).take gh.1) gh.2.2.1∧(∀ b o,G b=some o→gh.2.2.2.2 b=some o)) (fun gh=>l.length - gh.1) ((0,.slice none 0 0,[],[],G)) (by exact (H).sub ⟨rfl,rfl,rfl,rfl,rfl,aB⟩) ?_ ?_
 ·exact ⟨by omega,dz.nil,by simpa using eY.nil,fun _ _ h=>h⟩
 clear H;intro gh a w hI H;obtain ⟨k,v,xs,Lo,g⟩:=gh;dsimp only at hI H;obtain ⟨hk,hrw,jr,hgm⟩:=hI;dsimp only [lca,bG] at H;refine kP H (SR fun _ K5=>Rc rfl (Kz K5 (SQ fun _ K6=>Cd rfl ?_ ?_))) <;> clear H K5
 ·intro h11 a H
  try have nN:=dT h11
  have hk2:k < l.length:=by omega
  obtain ⟨b,o,cs,rfl,hcl,hrow,hrep⟩:=hg k l[k].dat (by simp [hk2]);obtain ⟨pA,pn,pc,dA,dn,dc,yA,yn,yc,fA,fn,fc,rfl,-⟩:=hrep.cell;replace hrow:=fun j u hj=>aO hgm (hrow j u hj);refine kP H (Kc K6 (SQ fun _ K7=>SB (SR fun _ K8=>Ri oP ku rfl rfl ?_)));clear H K6;intro a H;refine bJ ku (cs:=[_,_,_,_,_,_,_]) H wn rfl rfl (fun j v hj=>H.hp.aJ (hrow j v hj)) rfl ?_;clear H;intro a H;refine eB ku H wn rfl ?_;clear H;intro b7 a w Em H;refine bM ku 0 (vs:=[_,_,_,_,_,_,_]) _ H wn rfl rfl rfl rfl rfl rfl rfl rfl ?_;clear H;intro w H;dsimp only [List.set,setRow] at H;refine K8 _ _ ?_;clear K8;refine kP H (SC (Rm rfl (Rm rfl ?_)));clear H;intro a H;refine bJ ku (cs:=[_,_,_,_,_,_,_]) H wn rfl rfl (H.hp.dL 0 rfl rfl) rfl ?_;clear H;intro a H;refine qF H wn rfl rfl (hf _ (iF hk2) _ _ _ hgm H.ro (hrep.mono hgm)) rfl ?_;clear H;rintro v17 zw a w ⟨yg,rfl,eF⟩ pQ H;obtain ⟨cs,hcs⟩:∃ cs,cs=yg:=⟨_,rfl⟩;obtain ⟨pA,pn,pc,dA,dn,dc,yA,yn,yc,fA,fn,fc,uZ,-⟩:=eF.cell;rw [uZ] at H;refine gX oP ku [_,_,_,_,_,_,_] [_,_,_,_,_,_,_] H wn rfl rfl rfl rfl rfl (by intro i q h;match i,h with|0,h=>exact h|n+1,h=>simp at h) rfl rfl ?_;clear H;intro b18 a w LV H;refine oz (Li:=[_,_]) (Lo:=Lo) (news:=yg) oP ku rfl rfl H wn rfl rfl hrw (by rw [uZ];rfl) (by rw [uZ];exact H.hp.dL 0 rfl rfl) eF.one (by omega) (by omega) rfl ?_;clear H;intro v19 DC a w xE H;refine kH H (aU K7 rfl (SC (Rd rfl (Rm rfl ?_))));clear H K7;intro a H;refine aG ?_;refine dh ((k+1,v19,xs++yg,DC,zw)) (by exact (H.dP (Pl:=[_,_]) (dD:=[]) [] (by decide) rfl).sub ⟨rfl,rfl,rfl,rfl,rfl,aB⟩) ?_ ?_
  ·(try dsimp only);refine ⟨by omega,xE,?_,fun b o h=>pQ b o (hgm b o h)⟩;rw [jg (by simpa using hk2)];exact (jr.mono pQ).snoc (by simpa using eF) (by rw [uZ];rfl)
  first|omega|(dsimp only;omega)
 intro h11 a H
 try have nN:=dF h11
 refine dW ?_;refine K3 _ _ ?_;clear K3;refine bK (fun _ K9=>?_);obtain ⟨G',hm,hrep,H⟩:=H.um (Li:=[]) hrw (rows:=l.map fun x=>(φ x).dat) (by simp;omega) (by rw [jF (by simp;omega)] at jr;exact jr);exact kP H (SC (Rm rfl (aU K9 rfl (LR results101 rfl fun H=>H.rt hrep))))
theorem adH (G:GH) (w0:World) (hG:Hold G w0) (l:List bF) (v fv:aj) (hv:ay G (.sl 7 (l.map bF.dat)) v) (hz:l.length≤4294967296) (hf:∀ x∈l,Fb fv w0 G x.dat) :
  Calls prog 101 #[v,fv] w0 (bq w0 G fun u G'=>ay G' (.sl 7 (l.map bF.dat)) u):=Vp (fun x=>x) G w0 hG l v fv hv hz hf
def Dn (n:Nat):Prop:=∀ (G:GH) (w0:World),Hold G w0→∀ (l:List au) (v:aj),ay G (.sl 11 (l.map au.dat)) v→bg l < n →
 Calls prog 40 #[v] w0 (bq w0 G fun u G'=>ay G' (.sl 11 (l.map au.dat)) u)
theorem acZ {n:Nat} (ih:Dn n) (hn:n≤4294967296) (G:GH) (w0:World) (hG:Hold G w0) (x:bF) (cs:List aj) (hv:aY G x.dat cs) (hz:dx x.dat < n+1) :
  Calls prog 102 #[.agg cs.toArray] w0 (bq w0 G fun u G'=>∃ cs',u=.agg cs'.toArray∧aY G' x.dat cs'):=by
 have he:=Aj x;obtain ⟨pA,pn,pc,dA,dn,dc,yA,yn,yc,fA,fn,fc,rfl,hh,hf⟩:=hv.cell;refine eN [(0,_)] func102 rfl ntmps102 rfl rfl hG ?_;intro a H;refine dH (fun _ K1=>?_);refine fC (cs:=[_,_,_,_,_,_,_]) H wn rfl rfl rfl ?_;clear H;intro b1 a w hb1 H;refine eB ku H wn rfl ?_;clear H;intro b2 a w hb2 H;refine K1 _ _ ?_;clear K1;refine bK (fun _ K2=>?_)
 have fQ:∀ (bE:Nat) (v:aj) (G G':GH),(∀ k o,G k=some o→G' k=some o)→(fun (bE:Nat) (v:aj) (G:GH)=>match bE with|0=>v=(aI b1 0)|1=>v=vi x.id|2=>v=(aI b1 1)|3=>v=.agg #[.slice pA pn pc,vi x.head.marks.ins,vi x.head.marks.move,.slice dA dn dc,.slice yA yn yc]|4=>∃ p d l,v=.agg #[p,vi x.head.marks.ins,vi x.head.marks.move,d,l]∧iR G x.head p d l|5=>v=(aI b1 6)|6=>v=.slice fA fn fc|7=>ay G (.sl 11 (x.flow.map au.dat)) v|_=>True) bE v G→(fun (bE:Nat) (v:aj) (G:GH)=>match bE with|0=>v=(aI b1 0)|1=>v=vi x.id|2=>v=(aI b1 1)|3=>v=.agg #[.slice pA pn pc,vi x.head.marks.ins,vi x.head.marks.move,.slice dA dn dc,.slice yA yn yc]|4=>∃ p d l,v=.agg #[p,vi x.head.marks.ins,vi x.head.marks.move,d,l]∧iR G x.head p d l|5=>v=(aI b1 6)|6=>v=.slice fA fn fc|7=>ay G (.sl 11 (x.flow.map au.dat)) v|_=>True) bE v G':=by
  intro bE v G G' hm h
  match bE,h with
  | 0,h=>exact h
  | 1,h=>exact h
  | 2,h=>exact h
  | 3,h=>exact h
  | 4,h=>exact let ⟨p,d,l,h1,h2⟩:=h;⟨p,d,l,h1,h2.mono hm⟩
  | 5,h=>exact h
  | 6,h=>exact h
  | 7,h=>exact ay.mono hm h
  | 8,h=>exact trivial
  | 9,h=>exact trivial
  | _+10,h=>exact trivial
 refine xZ (hmx) [[],[0],[],[2],[2,3],[],[5],(ra 2 5),(ra 0 8),(ra 0 9)] [8,9] (by kernel_rfl) (by kernel_rfl) (fun (bE:Nat) (v:aj) (G:GH)=>match bE with|0=>v=(aI b1 0)|1=>v=vi x.id|2=>v=(aI b1 1)|3=>v=.agg #[.slice pA pn pc,vi x.head.marks.ins,vi x.head.marks.move,.slice dA dn dc,.slice yA yn yc]|4=>∃ p d l,v=.agg #[p,vi x.head.marks.ins,vi x.head.marks.move,d,l]∧iR G x.head p d l|5=>v=(aI b1 6)|6=>v=.slice fA fn fc|7=>ay G (.sl 11 (x.flow.map au.dat)) v|_=>True) fQ H ?_ ?_
 ·clear H;refine aD ?_ ?_ ?_ ?_ (aD ?_ ?_ ?_ ?_ (aZ (bN rfl) (aZ (bN rfl) cu)))
  ·refine bX [] rfl trivial (by kernel_rfl) fQ rfl rfl ?_;intro aV a w G1 hG HT H fin;exact kH H (Rf D8 rfl fun _ H=>fin H iJ rfl)
  ·refine bX [(0,3,_)] rfl ⟨fun _ _ h=>h,aB⟩ (by kernel_rfl) fQ rfl rfl ?_;intro aV a w G1 hG HT H fin;exact kH H (Ro aH 1 rfl fun _ H=>fin H iJ rfl)
  ·refine bX [] rfl trivial (by kernel_rfl) fQ rfl rfl ?_;intro aV a w G1 hG HT H fin;exact kH H (Rf Pj rfl fun _ H=>fin H iJ rfl)
  ·refine bX [(2,5,_)] rfl ⟨fun _ _ h=>h,aB⟩ (by kernel_rfl) fQ rfl rfl ?_;intro aV a w G1 hG HT H fin;refine bJ mE (cs:=[_,_,_,_,_]) H wn rfl rfl (H.hp.dL 1 rfl rfl) rfl ?_;clear H;intro a H;exact fin H iJ rfl
  ·refine bX [(3,6,_)] rfl ⟨fun _ _ h=>h,aB⟩ (by kernel_rfl) fQ rfl rfl ?_;intro aV a w G1 hG HT H fin;refine s_call DW H wn rfl (DU _ _ H.ro x.head _ _ _ _ _ _ _ _ _ (hh.mono hG) (by omega)) rfl ?_;clear H;rintro v7 G7 a w Bq vZ H;exact fin H vZ (Bq)
  ·refine bX [] rfl trivial (by kernel_rfl) fQ rfl rfl ?_;intro aV a w G1 hG HT H fin;exact kH H (Rf Cm rfl fun _ H=>fin H iJ rfl)
  ·refine bX [(5,8,_)] rfl ⟨fun _ _ h=>h,aB⟩ (by kernel_rfl) fQ rfl rfl ?_;intro aV a w G1 hG HT H fin;exact kH H (Ro gT 1 rfl fun _ H=>fin H iJ rfl)
  refine bX [(6,9,_)] rfl ⟨fun _ _ h=>h,aB⟩ (by kernel_rfl) fQ rfl rfl ?_;intro aV a w G1 hG HT H fin;refine s_call OQ H wn rfl (ih _ _ H.ro x.flow _ (hf.mono hG) (by omega)) rfl ?_;clear H;rintro v10 wO a w rO kW H;exact fin H kW (rO)
 clear H;intro a w G mh H hv;have H:=H.aP (hv 1 4 rfl rfl) rfl;obtain ⟨u7,QK,Bq⟩:=hv 4 7 (by decide) rfl;(try dsimp only at Bq);obtain ⟨p7,d7,l7,rfl,Bn⟩:=Bq;obtain ⟨a1,a2,a3,rfl⟩:=Bn.props.form;obtain ⟨a4,a5,a6,rfl⟩:=Bn.dw.form;obtain ⟨a7,a8,a9,rfl⟩:=Bn.layers.form;have H:=H.iT QK;obtain ⟨u10,Ju,rO⟩:=hv 7 10 (by decide) rfl;(try dsimp only at rO);obtain ⟨Td,n10,c10,rfl⟩:=rO.form;have H:=H.iT Ju;clear hv;refine jR aaj [_,_,_,_,_,_,_] H wn rfl rfl rfl rfl ?_;clear H;intro a H;refine bM ku 0 (vs:=[_,_,_,_,_,_,_]) _ H wn rfl rfl rfl rfl rfl rfl rfl rfl ?_;clear H;intro w H;dsimp only [List.set,setRow] at H;refine aG ⟨rfl,?_⟩;refine K2 _ _ ?_;clear K2;refine cK ?_;refine (leave1 H results102 (.cons (ze ku (cs:=[_,_,_,_,_,_,_]) H rfl rfl (H.hp.dL 0 rfl rfl)) .nil) ?_).1;exact H.rt ⟨_,rfl,aY.Q9 Bn rO⟩
theorem acY {n:Nat} (ih:Dn n) (hn:n≤4294967296) {G:GH} {w0:World} (x:bF) (hz:dx x.dat < n+1):Fb (.func (.func 102) #[] #[]) w0 G x.dat:=by
 intro G1 w1 cs hm1 hG1 hr;have h:=acZ ih hn _ _ hG1 x cs hr hz;have h2:=lN (P:=prog) (caps:=[]) (args:=[.agg cs.toArray]) adM h;exact h2
theorem adg {n:Nat} (ih:Dn n) (hn:n≤4294967296) (G:GH) (w0:World) (hG:Hold G w0) (x:bD) (cs:List aj) (hv:aY G x.dat cs) (hz:dx x.dat < n+1) :
  Calls prog 67 #[.agg cs.toArray] w0 (bq w0 G fun u G'=>∃ cs',u=.agg cs'.toArray∧aY G' x.dat cs'):=by
 have he:=Al x;have hl:=E5 x.cells;obtain ⟨pA,pn,pc,dA,dn,dc,yA,yn,yc,fA,fn,fc,rfl,hh,hf⟩:=hv.row;refine eN [(0,_)] func67 rfl ntmps67 rfl rfl hG ?_;intro a H;refine dH (fun _ K1=>?_);refine fC (cs:=[_,_,_,_,_,_]) H wn rfl rfl rfl ?_;clear H;intro b1 a w hb1 H;refine eB jM H wn rfl ?_;clear H;intro b2 a w hb2 H;refine K1 _ _ ?_;clear K1;refine bK (fun _ K2=>?_)
 have fQ:∀ (bE:Nat) (v:aj) (G G':GH),(∀ k o,G k=some o→G' k=some o)→(fun (bE:Nat) (v:aj) (G:GH)=>match bE with|0=>v=(aI b1 0)|1=>v=.agg #[.slice pA pn pc,vi x.head.marks.ins,vi x.head.marks.move,.slice dA dn dc,.slice yA yn yc]|2=>∃ p d l,v=.agg #[p,vi x.head.marks.ins,vi x.head.marks.move,d,l]∧iR G x.head p d l|3=>v=(aI b1 5)|4=>v=.slice fA fn fc|5=>ay G (.sl 7 (x.cells.map bF.dat)) v|_=>True) bE v G→(fun (bE:Nat) (v:aj) (G:GH)=>match bE with|0=>v=(aI b1 0)|1=>v=.agg #[.slice pA pn pc,vi x.head.marks.ins,vi x.head.marks.move,.slice dA dn dc,.slice yA yn yc]|2=>∃ p d l,v=.agg #[p,vi x.head.marks.ins,vi x.head.marks.move,d,l]∧iR G x.head p d l|3=>v=(aI b1 5)|4=>v=.slice fA fn fc|5=>ay G (.sl 7 (x.cells.map bF.dat)) v|_=>True) bE v G':=by
  intro bE v G G' hm h
  match bE,h with
  | 0,h=>exact h
  | 1,h=>exact h
  | 2,h=>exact let ⟨p,d,l,h1,h2⟩:=h;⟨p,d,l,h1,h2.mono hm⟩
  | 3,h=>exact h
  | 4,h=>exact h
  | 5,h=>exact ay.mono hm h
  | 6,h=>exact trivial
  | 7,h=>exact trivial
  | _+8,h=>exact trivial
 refine xZ (hmx) [[],[0],[0,1],[],[3],(ra 0 5),(ra 0 6),(ra 0 7)] [6,7] (by kernel_rfl) (by kernel_rfl) (fun (bE:Nat) (v:aj) (G:GH)=>match bE with|0=>v=(aI b1 0)|1=>v=.agg #[.slice pA pn pc,vi x.head.marks.ins,vi x.head.marks.move,.slice dA dn dc,.slice yA yn yc]|2=>∃ p d l,v=.agg #[p,vi x.head.marks.ins,vi x.head.marks.move,d,l]∧iR G x.head p d l|3=>v=(aI b1 5)|4=>v=.slice fA fn fc|5=>ay G (.sl 7 (x.cells.map bF.dat)) v|_=>True) fQ H ?_ ?_
 ·clear H;refine aD ?_ ?_ ?_ ?_ (aD ?_ ?_ (bN rfl) (bN rfl) cu)
  ·refine bX [] rfl trivial (by kernel_rfl) fQ rfl rfl ?_;intro aV a w G1 hG HT H fin;exact kH H (Rf Ph rfl fun _ H=>fin H iJ rfl)
  ·refine bX [(0,3,_)] rfl ⟨fun _ _ h=>h,aB⟩ (by kernel_rfl) fQ rfl rfl ?_;intro aV a w G1 hG HT H fin;refine bJ mE (cs:=[_,_,_,_,_]) H wn rfl rfl (H.hp.dL 1 rfl rfl) rfl ?_;clear H;intro a H;exact fin H iJ rfl
  ·refine bX [(1,4,_)] rfl ⟨fun _ _ h=>h,aB⟩ (by kernel_rfl) fQ rfl rfl ?_;intro aV a w G1 hG HT H fin;refine s_call DW H wn rfl (DU _ _ H.ro x.head _ _ _ _ _ _ _ _ _ (hh.mono hG) (by omega)) rfl ?_;clear H;rintro v5 G5 a w rP zP H;exact fin H zP (rP)
  ·refine bX [] rfl trivial (by kernel_rfl) fQ rfl rfl ?_;intro aV a w G1 hG HT H fin;exact kH H (Rf sK rfl fun _ H=>fin H iJ rfl)
  ·refine bX [(3,6,_)] rfl ⟨fun _ _ h=>h,aB⟩ (by kernel_rfl) fQ rfl rfl ?_;intro aV a w G1 hG HT H fin;exact kH H (Ro tH 1 rfl fun _ H=>fin H iJ rfl)
  refine bX [(4,7,_)] rfl ⟨fun _ _ h=>h,aB⟩ (by kernel_rfl) fQ rfl rfl ?_;intro aV a w G1 hG HT H fin;refine s_call Vr H wn rfl (adH _ _ H.ro x.cells _ _ (hf.mono hG) (by omega) (fun y hy=>acY ih hn y (by have:=aaS hy;omega))) rfl ?_;clear H;rintro v8 G8 a w rQ qP H;exact fin H qP (rQ)
 clear H;intro a w G mh H hv;obtain ⟨u5,Jv,rP⟩:=hv 2 5 (by decide) rfl;(try dsimp only at rP);obtain ⟨p5,d5,l5,rfl,vk⟩:=rP;obtain ⟨a1,a2,a3,rfl⟩:=vk.props.form;obtain ⟨a4,a5,a6,rfl⟩:=vk.dw.form;obtain ⟨a7,a8,a9,rfl⟩:=vk.layers.form;have H:=H.iT Jv;obtain ⟨u8,Jw,rQ⟩:=hv 5 8 (by decide) rfl;(try dsimp only at rQ);obtain ⟨A8,n8,c8,rfl⟩:=rQ.form;have H:=H.iT Jw;clear hv;refine jR aai [_,_,_,_,_,_] H wn rfl rfl rfl rfl ?_;clear H;intro a H;refine bM jM 0 (vs:=[_,_,_,_,_,_]) _ H wn rfl rfl rfl rfl rfl rfl rfl rfl ?_;clear H;intro w H;dsimp only [List.set,setRow] at H;refine aG ⟨rfl,?_⟩;refine K2 _ _ ?_;clear K2;refine cK ?_;refine (leave1 H results67 (.cons (ze jM (cs:=[_,_,_,_,_,_]) H rfl rfl (H.hp.dL 0 rfl rfl)) .nil) ?_).1;exact H.rt ⟨_,rfl,aY.Rh vk rQ⟩
theorem adf {n:Nat} (ih:Dn n) (hn:n≤4294967296) {G:GH} {w0:World} (x:bD) (hz:dx x.dat < n+1):Fb (.func (.func 67) #[] #[]) w0 G x.dat:=by
 intro G1 w1 cs hm1 hG1 hr;have h:=adg ih hn _ _ hG1 x cs hr hz;have h2:=lN (P:=prog) (caps:=[]) (args:=[.agg cs.toArray]) afa h;exact h2
theorem acX {n:Nat} (ih:Dn n) (hn:n≤4294967296) (G:GH) (w0:World) (hG:Hold G w0) (x:au) (cs:List aj) (hv:aY G x.dat cs) (hz:dx x.dat < n+1) :
  Calls prog 64 #[.agg cs.toArray] w0 (bq w0 G fun u G'=>∃ cs',u=.agg cs'.toArray∧aY G' x.dat cs'):=by
 have he:=oF x;have hl:=E9 x.rows;obtain ⟨pA,pn,pc,dA,dn,dc,yA,yn,yc,fA,fn,fc,rA,rn,rc,rfl,hh,hf,hr⟩:=hv.item;refine eN [(0,_)] func64 rfl ntmps64 rfl rfl hG ?_;intro a H;refine dH (fun _ K1=>?_);refine fC (cs:=[_,_,_,_,_,_,_,_,_,_,_]) H wn rfl rfl rfl ?_;clear H;intro b1 a w hb1 H;refine eB bW H wn rfl ?_;clear H;intro b2 a w hb2 H;refine K1 _ _ ?_;clear K1;refine bK (fun _ K2=>?_)
 have fQ:∀ (bE:Nat) (v:aj) (G G':GH),(∀ k o,G k=some o→G' k=some o)→(fun (bE:Nat) (v:aj) (G:GH)=>match bE with|0=>v=(aI b1 4)|1=>v=.agg #[.slice pA pn pc,vi x.head.marks.ins,vi x.head.marks.move,.slice dA dn dc,.slice yA yn yc]|2=>∃ p d l,v=.agg #[p,vi x.head.marks.ins,vi x.head.marks.move,d,l]∧iR G x.head p d l|3=>v=(aI b1 9)|4=>v=.slice fA fn fc|5=>ay G (.sl 11 (x.flow.map au.dat)) v|6=>v=(aI b1 10)|7=>v=.slice rA rn rc|8=>ay G (.sl 6 (x.rows.map bD.dat)) v|9=>v=(aI b1 4)|_=>True) bE v G→(fun (bE:Nat) (v:aj) (G:GH)=>match bE with|0=>v=(aI b1 4)|1=>v=.agg #[.slice pA pn pc,vi x.head.marks.ins,vi x.head.marks.move,.slice dA dn dc,.slice yA yn yc]|2=>∃ p d l,v=.agg #[p,vi x.head.marks.ins,vi x.head.marks.move,d,l]∧iR G x.head p d l|3=>v=(aI b1 9)|4=>v=.slice fA fn fc|5=>ay G (.sl 11 (x.flow.map au.dat)) v|6=>v=(aI b1 10)|7=>v=.slice rA rn rc|8=>ay G (.sl 6 (x.rows.map bD.dat)) v|9=>v=(aI b1 4)|_=>True) bE v G':=by
  intro bE v G G' hm h
  match bE,h with
  | 0,h=>exact h
  | 1,h=>exact h
  | 2,h=>exact let ⟨p,d,l,h1,h2⟩:=h;⟨p,d,l,h1,h2.mono hm⟩
  | 3,h=>exact h
  | 4,h=>exact h
  | 5,h=>exact ay.mono hm h
  | 6,h=>exact h
  | 7,h=>exact h
  | 8,h=>exact ay.mono hm h
  | 9,h=>exact h
  | 10,h=>exact trivial
  | 11,h=>exact trivial
  | 12,h=>exact trivial
  | 13,h=>exact trivial
  | 14,h=>exact trivial
  | _+15,h=>exact trivial
 refine xZ (hmx) [[],[0],[0,1],[],[3],(ra 0 5),[],[6],(ra 0 8),[0,1,2,3,4,6,7],(ra 0 10),(ra 0 11),(ra 0 12),(ra 0 13),(ra 0 14)] (ra 10 5) (by kernel_rfl) (by kernel_rfl) (fun (bE:Nat) (v:aj) (G:GH)=>match bE with|0=>v=(aI b1 4)|1=>v=.agg #[.slice pA pn pc,vi x.head.marks.ins,vi x.head.marks.move,.slice dA dn dc,.slice yA yn yc]|2=>∃ p d l,v=.agg #[p,vi x.head.marks.ins,vi x.head.marks.move,d,l]∧iR G x.head p d l|3=>v=(aI b1 9)|4=>v=.slice fA fn fc|5=>ay G (.sl 11 (x.flow.map au.dat)) v|6=>v=(aI b1 10)|7=>v=.slice rA rn rc|8=>ay G (.sl 6 (x.rows.map bD.dat)) v|9=>v=(aI b1 4)|_=>True) fQ H ?_ ?_
 ·clear H;refine aD ?_ ?_ ?_ ?_ (aD ?_ ?_ ?_ ?_ (aD ?_ ?_ (bN rfl) (bN rfl) (aZ (bN rfl) (aZ (bN rfl) (aZ (bN rfl) cu)))))
  ·refine bX [] rfl trivial (by kernel_rfl) fQ rfl rfl ?_;intro aV a w G1 hG HT H fin;exact kH H (Rf uU rfl fun _ H=>fin H iJ rfl)
  ·refine bX [(0,3,_)] rfl ⟨fun _ _ h=>h,aB⟩ (by kernel_rfl) fQ rfl rfl ?_;intro aV a w G1 hG HT H fin;refine bJ mE (cs:=[_,_,_,_,_]) H wn rfl rfl (H.hp.dL 1 rfl rfl) rfl ?_;clear H;intro a H;exact fin H iJ rfl
  ·refine bX [(1,4,_)] rfl ⟨fun _ _ h=>h,aB⟩ (by kernel_rfl) fQ rfl rfl ?_;intro aV a w G1 hG HT H fin;refine s_call DW H wn rfl (DU _ _ H.ro x.head _ _ _ _ _ _ _ _ _ (hh.mono hG) (by omega)) rfl ?_;clear H;rintro v5 G5 a w rP zP H;exact fin H zP (rP)
  ·refine bX [] rfl trivial (by kernel_rfl) fQ rfl rfl ?_;intro aV a w G1 hG HT H fin;exact kH H (Rf vX rfl fun _ H=>fin H iJ rfl)
  ·refine bX [(3,6,_)] rfl ⟨fun _ _ h=>h,aB⟩ (by kernel_rfl) fQ rfl rfl ?_;intro aV a w G1 hG HT H fin;exact kH H (Ro gT 1 rfl fun _ H=>fin H iJ rfl)
  ·refine bX [(4,7,_)] rfl ⟨fun _ _ h=>h,aB⟩ (by kernel_rfl) fQ rfl rfl ?_;intro aV a w G1 hG HT H fin;refine s_call OQ H wn rfl (ih _ _ H.ro x.flow _ (hf.mono hG) (by omega)) rfl ?_;clear H;rintro v8 G8 a w rQ qP H;exact fin H qP (rQ)
  ·refine bX [] rfl trivial (by kernel_rfl) fQ rfl rfl ?_;intro aV a w G1 hG HT H fin;exact kH H (Rf nG rfl fun _ H=>fin H iJ rfl)
  ·refine bX [(6,9,_)] rfl ⟨fun _ _ h=>h,aB⟩ (by kernel_rfl) fQ rfl rfl ?_;intro aV a w G1 hG HT H fin;exact kH H (Ro nU 1 rfl fun _ H=>fin H iJ rfl)
  ·refine bX [(7,10,_)] rfl ⟨fun _ _ h=>h,aB⟩ (by kernel_rfl) fQ rfl rfl ?_;intro aV a w G1 hG HT H fin;refine s_call OW H wn rfl (Vo _ _ H.ro x.rows _ _ (hr.mono hG) (by omega) (fun y hy=>adf ih hn y (by have:=aaX hy;omega))) rfl ?_;clear H;rintro v11 xP a w Bp iN H;exact fin H iN (Bp)
  refine bX [] rfl trivial (by kernel_rfl) fQ rfl rfl ?_;intro aV a w G1 hG HT H fin;exact kH H (Rf uU rfl fun _ H=>fin H iJ rfl)
 clear H;intro a w G mh H hv;obtain ⟨u5,Jv,rP⟩:=hv 2 5 (by decide) rfl;(try dsimp only at rP);obtain ⟨p5,d5,l5,rfl,vk⟩:=rP;obtain ⟨a1,a2,a3,rfl⟩:=vk.props.form;obtain ⟨a4,a5,a6,rfl⟩:=vk.dw.form;obtain ⟨a7,a8,a9,rfl⟩:=vk.layers.form;have H:=H.iT Jv;obtain ⟨u8,Jw,rQ⟩:=hv 5 8 (by decide) rfl;(try dsimp only at rQ);obtain ⟨A8,n8,c8,rfl⟩:=rQ.form;have H:=H.iT Jw;obtain ⟨u11,QH,Bp⟩:=hv 8 11 (by decide) rfl;(try dsimp only at Bp);obtain ⟨Te,n11,c11,rfl⟩:=Bp.form;have H:=H.iT QH;have H:=H.aP (hv 9 12 rfl rfl) rfl;clear hv;refine bM mE 1 (vs:=[_,_,_,_,_]) _ H wn rfl rfl rfl rfl rfl rfl rfl rfl ?_;clear H;intro w H;dsimp only [List.set,setRow] at H;refine kH H (Rf vX rfl ?_);clear H;intro a H;refine bM gT 1 (vs:=[_]) _ H wn rfl rfl rfl rfl rfl rfl rfl rfl ?_;clear H;intro w H;dsimp only [List.set,setRow] at H;refine kH H (Rf nG rfl ?_);clear H;intro a H;refine bM nU 1 (vs:=[_]) _ H wn rfl rfl rfl rfl rfl rfl rfl rfl ?_;clear H;intro w H;dsimp only [List.set,setRow] at H;refine aG ⟨rfl,?_⟩;refine K2 _ _ ?_;clear K2;refine dH (fun _ K3=>?_);refine bJ bW (cs:=[_,_,_,_,_,_,_,_,_,_,_]) H wn rfl rfl (H.hp.dL 1 rfl rfl) rfl ?_;clear H;intro a H;refine bM bW 0 (vs:=[_,_,_,_,_,_,_,_,_,_,_]) _ H wn rfl rfl rfl rfl rfl rfl rfl rfl ?_;clear H;intro w H;dsimp only [List.set,setRow] at H;refine K3 _ _ ?_;clear K3;refine cK ?_;refine (leave1 H results64 (.cons (ze bW (cs:=[_,_,_,_,_,_,_,_,_,_,_]) H rfl rfl (H.hp.dL 0 rfl rfl)) .nil) ?_).1;exact H.rt ⟨_,rfl,aY.mkItem vk rQ Bp⟩
theorem acW {n:Nat} (ih:Dn n) (hn:n≤4294967296) {G:GH} {w0:World} (x:au) (hz:dx x.dat < n+1):Fb (.func (.func 64) #[] #[]) w0 G x.dat:=by
 intro G1 w1 cs hm1 hG1 hr;have h:=acX ih hn _ _ hG1 x cs hr hz;have h2:=lN (P:=prog) (caps:=[]) (args:=[.agg cs.toArray]) aeZ h;exact h2
theorem U9:∀ n:Nat,n≤4294967297→Dn n
 | 0,_=>fun _ _ _ _ _ _ h=>absurd h (by omega)
 | n+1,hn=>by
  intro G w0 hG l v hv hz;have ih:=U9 n (by omega);have hl:=Ak l;refine eN [(0,_)] func40 rfl ntmps40 rfl rfl hG ?_;intro a H;refine kP H (SR fun _ K1=>ak K1 rfl (SR fun _ K2=>Rm rfl ?_));clear H K1;intro a H;refine s_call aeY H wn rfl (adI _ _ H.ro l _ _ hv (by omega) (fun y hy=>acW ih (by omega) y (by have:=Hu hy;omega))) rfl ?_;clear H;rintro v4 G4 a w hp4 Bd H;exact kH H (ak K2 rfl (LR results40 rfl fun H=>H.rt hp4))
theorem adh (G:GH) (w0:World) (hG:Hold G w0) (l:List au) (v:aj) (hv:ay G (.sl 11 (l.map au.dat)) v) (hz:bg l≤4294967296) :
  Calls prog 40 #[v] w0 (bq w0 G fun u G'=>ay G' (.sl 11 (l.map au.dat)) u):=U9 4294967297 (by omega) G w0 hG l v hv (by omega)
end
section
open Go.RowKit
section
variable {P:Program} {N:Nat} {D:List Deferred} {w0 w w':World} {F:Nat→Prop} {G0 G G':GH} {L L' Li Lo:OL} {T:List (Nat × aj)} {a a':Act} {Q:Exit→Act→World→Prop}
theorem St.cast (h:St N D w0 F G0 G L T a w) (e:L=L'):St N D w0 F G0 G L' T a w:=e ▸ h
theorem St.assoc {A B C:OL} (h:St N D w0 F G0 G ((A++B)++C) T a w):St N D w0 F G0 G (A++(B++C)) T a w:=h.cast (nE _ _ _)
theorem St.un {A B C:OL} (h:St N D w0 F G0 G (A++(B++C)) T a w):St N D w0 F G0 G ((A++B)++C) T a w:=h.cast (nE _ _ _).symm
theorem St.Y4 {A B:OL} (h:St N D w0 F G0 G (A++B) T a w):St N D w0 F G0 G (A++(B++[])) T a w:=h.cast (by rw [jA])
theorem U0 {ι κ:Type} {Lc:OL} {yx:Operand} {ps:List Nat} {assign body:Code} {gf:FuncId} {caps:List aj} {xs:List AP} {Gi:GH}
  (Lv:Nat→ι→OL) (Lt:Nat→ι→OL) (inv:Nat→ι→GH→Prop) (cx:κ→Code) (Lx DI:κ→OL) (yQ:κ→GH→Prop) (i0:ι)
  (H:St N D w0 F G0 G (Lc++Lv 0 i0++Lt 0 i0) T a w) (hg:ev T yx=some (.func (.func gf) #[] caps.toArray)) (en:∀ args w,(callFunc gf args).run P w=.ok (.enter gf args) w) (hit:Iter P Gi (.func (.func gf) #[] caps.toArray) xs) (hGi:∀ b o,Gi b=some o→G b=some o)
  (hps:ps.all (Nat.blt · N)=true) (hlen:∀ k args g,vJ xs k args g→args.length=ps.length) (hinv:∀ k i (G G':GH),(∀ b o,G b=some o→G' b=some o)→inv k i G→inv k i G') (Qr:∀ x (G G':GH),(∀ b o,G b=some o→G' b=some o)→yQ x G→yQ x G') (h0:inv 0 i0 G)
  (round:∀ (l:Nat) (CZ zH:Obj) (bk:OL) (k:Nat) (args:List aj) (i:ι) (G1:GH) (w1:World) (F1:Nat→Prop) (B1:Code→Exit→Act→World→Prop) (a1:Act),vJ xs k args G1→(∀ b o,G b=some o→G1 b=some o)→inv k i G1 →
   (∀ T' G2 L2 a2 w2 c,St N [] w1 F1 G1 G2 ((l,CZ) :: L2) T' a2 w2→(∀ w3,St N [] w1 F1 G1 G2 ((l,zH) :: L2) T' a2 w3→WP (some l) P c (B1 c) a2 w3)→Exit.then (fun a2 w2=>∃ w3,(Instr.beginRound l).run P w2=.ok () w3∧c.wpIn (FW (some l)) 0 P (B1 c) a2 w3) (fun _ _ _=>False) .normal a2 w2) →
   (∀ i' T' G2 a2 w2 c,St N [] w1 F1 G1 G2 ((l,zH) :: (Lc++Lv (k+1) i'++(bk++Lt (k+1) i'))) T' a2 w2→inv (k+1) i' G2→B1 c .normal a2 w2) →
   (∀ x T' G2 a2 w2 c,St N [] w1 F1 G1 G2 ((l,zH) :: (Lc++Lx x++(bk++DI x))) T' a2 w2→yQ x G2→(cx x=.ret→B1 c .ret a2 w2)∧∀ n,cx x=.exit n→B1 c (.exit n) a2 w2) →
   St N [] w1 F1 G1 G1 ((l,CZ) :: (Lc++Lv k i++(bk++Lt k i))) (xW ps args T) a1 w1 →
   WP (some l) P assign (Exit.then (fun a2 w2=>∃ w3,(Instr.beginRound l).run P w2=.ok () w3∧body.wpIn (FW (some l)) 0 P (B1 body) a2 w3) (fun _ _ _=>False)) a1 w1)
  (hdone:∀ Dk i G1 a1 w1,(∀ b o,G b=some o→G1 b=some o)→inv xs.length i G1→St N ({ target:=.collected Dk,args:=#[] } :: D) w0 F G0 G1 ((Dk,.deferred (some [])) :: (Lc++Lv xs.length i++Lt xs.length i)) T a1 w1→Q .normal a1 w1)
  (hstop:∀ Dk x G1 a1 w1,(∀ b o,G b=some o→G1 b=some o)→yQ x G1→St N ({ target:=.collected Dk,args:=#[] } :: D) w0 F G0 G1 ((Dk,.deferred (some [])) :: (Lc++Lx x++DI x)) T a1 w1→WP none P (cx x) Q a1 w1) :
  WP none P (.rangeFunc yx ps.toArray assign body) Q a w:=by
 refine acp (J:=fun k g L=>∃ i,L=Lc++Lv k i++Lt k i∧inv k i g) (Jx:=fun c g L=>∃ x,c=cx x∧L=Lc++Lx x++DI x∧yQ x g) H hg en hit hGi hps hlen (fun k G G' L hm ⟨i,e,h⟩=>⟨i,e,hinv k i G G' hm h⟩) (fun c G G' L hm ⟨x,e1,e2,h⟩=>⟨x,e1,e2,Qr x G G' hm h⟩) ⟨i0,rfl,h0⟩ ?_ ?_ ?_
 ·rintro l q bk k args G1 L1 w1 a1 hk hm ⟨i,rfl,hi⟩ H1
  have pm:∀ A B:OL,(bk++(A++B)).Perm (A++(bk++B)):=fun A B=>by
   rw [← nE,← nE]
   exact List.Perm.append_right B Ay
  refine round l (q.at .ready none) (q.at .busy none) bk k args i G1 w1 _ (fun _=>roundPost P l _) a1 hk hm hi ?_ ?_ ?_ (H1.perm (List.Perm.cons _ (pm _ _)))
  ·intro T' G2 L2 a2 w2 c H2 h
   exact UW H2 h
  ·intro i' T' G2 a2 w2 c H2 h2
   exact GI none (H2.perm (List.Perm.cons _ (pm _ _).symm)) ⟨_,rfl,i',rfl,h2⟩
  ·intro x T' G2 a2 w2 c H2 h2
   have H3:=H2.perm (List.Perm.cons _ (pm _ _).symm)
   refine ⟨fun e=>?_,fun n e=>?_⟩
   ·exact GI (some .ret) H3 ⟨_,_,rfl,x,e.symm,rfl,h2⟩
   ·exact GI (some (.exit n)) H3 ⟨_,_,rfl,x,e.symm,rfl,h2⟩
 ·rintro Dk G1 L1 a1 w1 hm ⟨i,rfl,hi⟩ H1
  exact hdone Dk i G1 a1 w1 hm hi H1
 ·rintro Dk c G1 L1 a1 w1 hm ⟨x,rfl,rfl,hx⟩ H1
  exact hstop Dk x G1 a1 w1 hm hx H1
def Rb (ds:List Nat):List Deferred:=ds.map fun b=>{ target:=.collected b,args:=#[] }
def EH (ds:List Nat):OL:=ds.map fun b=>(b,.deferred (some []))
theorem aco {r:Option Nat} {ι:Type} {c:Code} {Tc:List (Nat × aj)} {Lc:List (Nat × Obj)} (Dv:ι→List Deferred) (Tv:ι→List (Nat × aj)) (Lv:ι→List (Nat × Obj)) (Gv:ι→GH) (Pr:ι→Prop) (m:ι→Nat) (i0:ι)
  (H:St N (Dv i0) w0 F G0 (Gv i0) (Lc++Lv i0) (Tv i0++Tc) a w) (hP:Pr i0)
  (round:∀ i a w,Pr i→St N (Dv i) w0 F G0 (Gv i) (Lc++Lv i) (Tv i++Tc) a w →
   WP r P c (Exit.then (fun a' w'=>∃ i',(St N (Dv i') w0 F G0 (Gv i') (Lc++Lv i') (Tv i'++Tc) a' w'∧Pr i')∧m i' < m i) Q) a w):WP r P (.loop c) Q a w :=
 UZ (fun i a w=>St N (Dv i) w0 F G0 (Gv i) (Lc++Lv i) (Tv i++Tc) a w∧Pr i) m i0 ⟨H,hP⟩ fun i a w hI=>round i a w hI.2 hI.1
theorem ajs {ι:Type} {Dv:ι→List Deferred} {Tc:List (Nat × aj)} {Lc:List (Nat × Obj)} {Tv:ι→List (Nat × aj)} {Lv:ι→List (Nat × Obj)} {Gv:ι→GH} {Pr:ι→Prop} {m:ι→Nat} {i:ι} (i':ι)
  (H:St N (Dv i') w0 F G0 (Gv i') (Lc++Lv i') (Tv i'++Tc) a w) (hP:Pr i') (hm:m i' < m i) :
  ∃ i',(St N (Dv i') w0 F G0 (Gv i') (Lc++Lv i') (Tv i'++Tc) a w∧Pr i')∧m i' < m i:=⟨i',⟨H,hP⟩,hm⟩
theorem Q0 {fn:Func} {R:Ending→World→Prop} {Lh Lt:OL}:∀ (ds:List Nat) {a:Act} {w:World},St N (Rb ds) w0 F G0 G (Lh++(EH ds++Lt)) T a w →
  (∀ a' w',St N [] w0 F G0 G (Lh++Lt) T a' w'→bodyPostM (FW none) 0 P fn R .ret a' w')→bodyPostM (FW none) 0 P fn R .ret a w∧bodyPostM (FW none) 0 P fn R .normal a w
 | [],a,w,H,k=>⟨k a w H,k a w H⟩
 | b :: ds,a,w,H,k=>by
  refine JF (b:=b) (D:=Rb ds) H Lh.length (by rw [tT (bT _),Nat.sub_self];rfl) fun a' w' H'=>?_
  refine (Q0 ds (Lh:=Lh) (Lt:=Lt) (H'.cast ?_) k).1
  rw [List.eraseIdx_append_of_length_le (bT _),Nat.sub_self];rfl
end
end
section
open Go.RowKit
def n1 (x:au):Nat:=if rZ x=0 then dG x else 0
theorem ajj (x:au):wC [x]=n1 x:=by
 simp only [wC,vT,n1,bY,List.all_cons,List.all_nil,Bool.and_true,qo]
 split <;> simp_all
mutual
/-- The positions of a flow and of those within it, from an item on. -/
def Dl (flow:Int) (at_:Nat):au→List (Int × Int)
 | .mk k c i t h f r=>(List.range (n1 (.mk k c i t h f r))).map (fun q=>(flow,((at_+q:Nat):Int)))++((if k=6 then wJ i 0 f else [])++tJ r)
def wJ (flow:Int):Nat→List au→List (Int × Int)
 | at_,[]=>[(flow,(at_:Int))]
 | at_,x :: l=>Dl flow at_ x++wJ flow (at_+n1 x) l
def tJ:List bD→List (Int × Int)
 | []=>[]
 | r :: l=>Dm r++tJ l
def Dm:bD→List (Int × Int)
 | .mk _ cs=>zu cs
def zu:List bF→List (Int × Int)
 | []=>[]
 | c :: l=>Dj c++zu l
def Dj:bF→List (Int × Int)
 | .mk i _ f=>wJ i 0 f
end
theorem ay.len {G:GH} {sz:Nat} {rows:List (List Dat)} {A:Option Addr} {n c:Nat} (h:ay G (.sl sz rows) (.slice A n c)):n=rows.length:=h.cells.1
theorem ay.at_ {G:GH} {sz:Nat} {rows:List (List Dat)} {A:Option Addr} {n c:Nat} (h:ay G (.sl sz rows) (.slice A n c)):∀ k r,rows[k]?=some r→∃ b o cs,A=some ⟨b,o,none⟩∧cs.length=sz∧(∀ j u,cs[j]?=some u→aJ G b (o+k*sz+j)=some u)∧aY G r cs:=by
 obtain ⟨A2,c2,e,_,_,hg⟩:=h.slice
 cases e;exact hg
theorem GJ {G:GH} {l:List bD} {A:Option Addr} {k:Nat} (hk:k < l.length) (hg:∀ k r,(l.map bD.dat)[k]?=some r→∃ b o cs,A=some ⟨b,o,none⟩∧cs.length=6∧(∀ j u,cs[j]?=some u→aJ G b (o+k*6+j)=some u)∧aY G r cs) :
  ∃ b o pA pn pc dA dn dc yA yn yc cA cn cc,A=some ⟨b,o,none⟩∧(∀ j u,[.slice pA pn pc,vi l[k].head.marks.ins,vi l[k].head.marks.move,.slice dA dn dc,.slice yA yn yc,.slice cA cn cc][j]?=some u→aJ G b (o+k*6+j)=some u) ∧
   iR G l[k].head (.slice pA pn pc) (.slice dA dn dc) (.slice yA yn yc)∧ay G (.sl 7 (l[k].cells.map bF.dat)) (.slice cA cn cc):=by
 obtain ⟨b,o,cs,h1,h2,h3,h4⟩:=hg k l[k].dat (by simp [hk]);obtain ⟨pA,pn,pc,dA,dn,dc,yA,yn,yc,cA,cn,cc,rfl,h5,h6⟩:=h4.row;exact ⟨b,o,pA,pn,pc,dA,dn,dc,yA,yn,yc,cA,cn,cc,h1,h3,h5,h6⟩
theorem FC {G:GH} {l:List bF} {A:Option Addr} {k:Nat} (hk:k < l.length) (hg:∀ k r,(l.map bF.dat)[k]?=some r→∃ b o cs,A=some ⟨b,o,none⟩∧cs.length=7∧(∀ j u,cs[j]?=some u→aJ G b (o+k*7+j)=some u)∧aY G r cs) :
  ∃ b o pA pn pc dA dn dc yA yn yc fA fn fc,A=some ⟨b,o,none⟩∧(∀ j u,[vi l[k].id,.slice pA pn pc,vi l[k].head.marks.ins,vi l[k].head.marks.move,.slice dA dn dc,.slice yA yn yc,.slice fA fn fc][j]?=some u→aJ G b (o+k*7+j)=some u) ∧
   iR G l[k].head (.slice pA pn pc) (.slice dA dn dc) (.slice yA yn yc)∧ay G (.sl 11 (l[k].flow.map au.dat)) (.slice fA fn fc):=by
 obtain ⟨b,o,cs,h1,h2,h3,h4⟩:=hg k l[k].dat (by simp [hk]);obtain ⟨pA,pn,pc,dA,dn,dc,yA,yn,yc,fA,fn,fc,rfl,h5,h6⟩:=h4.cell;exact ⟨b,o,pA,pn,pc,dA,dn,dc,yA,yn,yc,fA,fn,fc,h1,h3,h5,h6⟩
end
section
open Go.RowKit
structure nA where
 (f p d y r s1 s2 s3 s4:Option Addr × Nat × Nat)
 (ins move:Int)
abbrev fD (x:Option Addr × Nat × Nat):aj:=.slice x.1 x.2.1 x.2.2
abbrev nA.cells (D:nA):List aj:=[fD D.f,fD D.p,vi D.ins,vi D.move,fD D.d,fD D.y,fD D.r,fD D.s1,fD D.s2,fD D.s3,fD D.s4]
abbrev nA.val (D:nA):aj:=.agg D.cells.toArray
end
section
open Go.RowKit
theorem O1:∀ args w,(callFunc 97 args).run prog w=.ok (.enter 97 args) w:=enters func97 rfl (by kernel_rfl)
theorem Nc:Ty prog 106 3 16 [.bool false,.bool false,.int .i64 0] true:=⟨by kernel_rfl,by kernel_rfl⟩
theorem amm:qJ prog 108 [(0,1),(1,3)] [.slice none 0 0,.bool false,.bool false,.int .i64 0]:=⟨by kernel_rfl,by kernel_rfl⟩
theorem zL:cB prog 63 2 2:=⟨by kernel_rfl⟩
theorem IC:cB prog 106 2 2:=⟨by kernel_rfl⟩
theorem C9:qJ prog 106 [(0,1),(1,1),(2,1)] [.bool false,.bool false,.int .i64 0]:=⟨by kernel_rfl,by kernel_rfl⟩
theorem O7:cB prog 106 1 1:=⟨by kernel_rfl⟩
theorem zm:Ty prog 4 1 1 [.bool false] false:=⟨by kernel_rfl,by kernel_rfl⟩
theorem Ci:cB prog 38 0 0:=⟨by kernel_rfl⟩
theorem aeX:∀ args w,(callFunc 62 args).run prog w=.ok (.enter 62 args) w:=enters func62 rfl (by kernel_rfl)
theorem VT:∀ args w,(callFunc 96 args).run prog w=.ok (.enter 96 args) w:=enters func96 rfl (by kernel_rfl)
structure jf where
 id:Int
 items:List au
 body:Bool
 note:Bool
 tables:Int
mutual
def wL (note:Bool) (t:Int):au→List jf
 | .mk k _ i _ _ f r=>if k=6 then ⟨i,f,false,true,t⟩ :: jd true t f else if k=7 then oQ note t r else []
def jd (note:Bool) (t:Int):List au→List jf
 | []=>[]
 | x :: l=>wL note t x++jd note t l
def oQ (note:Bool) (t:Int):List bD→List jf
 | []=>[]
 | r :: l=>wM note t r++oQ note t l
def wM (note:Bool) (t:Int):bD→List jf
 | .mk _ cs=>qg note t cs
def qg (note:Bool) (t:Int):List bF→List jf
 | []=>[]
 | c :: l=>wK note t c++qg note t l
def wK (note:Bool) (t:Int):bF→List jf
 | .mk i _ f=>⟨i,f,false,note,t+1⟩ :: jd note (t+1) f
end
theorem amY (note:Bool) (t:Int) (x:au):wL note t x=if x.kind=6 then ⟨x.id,x.flow,false,true,t⟩ :: jd true t x.flow else if x.kind=7 then oQ note t x.rows else []:=by cases x;rw [wL];rfl
theorem ana (note:Bool) (t:Int) (x:bD):wM note t x=qg note t x.cells:=by cases x;rw [wM];rfl
theorem amW (note:Bool) (t:Int) (x:bF):wK note t x=⟨x.id,x.flow,false,note,t+1⟩ :: jd note (t+1) x.flow:=by cases x;rw [wK];rfl
def AV (a:jf):AP:=fun args g=>∃ v,args=[vi a.id,.agg #[v,.bool a.body,.bool a.note,vi a.tables]]∧ay g (.sl 11 (a.items.map au.dat)) v
def NT (n:Nat):Prop:=∀ (fv:aj) (Gi:GH) (xs:List AP) (J:Nat→GH→OL→Prop) (Jx:GH→OL→Prop) (G:GH) (L:OL) (w0:World) (j:Nat) (l:List au) (id:Int) (body note:Bool) (t:Int) (v:aj),
 (∀ b o,Gi b=some o→G b=some o)→Hw prog fv Gi xs J Jx→Dx J→Fw Jx→J j G L→gZ G L w0→ay G (.sl 11 (l.map au.dat)) v→bg l < n→0≤t→t+bg l≤4294967296→(∀ i a,(⟨id,l,body,note,t⟩ :: jd note t l)[i]?=some a→xs[j+i]?=some (AV a)) →
 Calls prog 97 #[vi id,v,.agg #[.bool body,.bool note,vi t],fv] w0 (gI w0 G L fun u G' L'=>∃ b,u=.bool b∧(b=true→J (j+((jd note t l).length+1)) G' L')∧(b=false→Jx G' L'))
set_option maxHeartbeats 1000000 in
theorem anc {n:Nat} (ih:NT n) (hn:n≤4294967296):NT (n+1):=by
 intro fv Gi xs J Jx G L w0 j0 l id body note t v hGi hcb wh hJx hJ0 hO hv hz ht0 ht1 hx0;obtain ⟨A,c,rfl,hc1,hc2,hg⟩:=hv.slice;rw [bV] at *;have hll:=Ak l;have Qz:Now xs AV J (j0+((jd note t l).length+1)) j0 (⟨id,l,body,note,t⟩ :: jd note t l) G L:=⟨hJ0,hx0,rfl⟩;refine jZ (N:=74) (T:=[(0,_),(1,_),(2,_),(3,_)]) func97 rfl ntmps97 rfl rfl hO ?_;intro a H;refine dH (fun _ K1=>?_);refine fC (cs:=[_,_,_]) H wn rfl rfl rfl ?_;clear H;intro b6 a w hb6 H;refine kH H (ak K1 rfl (SQ fun _ K2=>SR fun _ K3=>Rm rfl (Rm rfl (Rm rfl ?_))));clear H K1;intro a H;refine bJ Nc (cs:=[_,_,_]) H wn rfl rfl (H.hp.dL 0 rfl rfl) rfl ?_;clear H;intro a H;refine jR amm [_,_,_,_] H wn rfl rfl rfl rfl ?_;clear H;intro a H;refine GN (Li:=[_]) (L:=L) H wn rfl rfl (hcb _ _ _ _ _ ⟨_,Qz.head,_,rfl,hv⟩ hGi Qz.now (Hp.owns (Li:=[_]) H.hp)) rfl ?_;clear H;rintro v20 Fg Ia a w ⟨b20,rfl,hb1,hb2⟩ Cy H;refine kH H (Rn rfl (Kz K3 (Cd rfl ?_ ?_))) <;> clear H K3
 ·intro h21 a H
  try have oN:=dT h21
  refine kP H (SR fun _ K4=>ak K4 rfl ?_);clear H K4;intro a H;refine lr H results97 rfl ?_
  first
   | exact H.hp.iy (L':=Ia) (by repeat (first|exact iV _|apply List.Sublist.cons)) ⟨_,rfl,fun e=>(by cases e),fun _=>hb2 (by simpa using h21)⟩
   | exact H.hp.iy (L':=Ib) (by repeat (first|exact iV _|apply List.Sublist.cons)) ⟨_,rfl,fun e=>(by cases e),fun _=>hb4 (by simpa using qO)⟩
   | exact H.hp.iy (L':=Ic) (by repeat (first|exact iV _|apply List.Sublist.cons)) ⟨_,rfl,fun e=>(by cases e),fun _=>hb6 (by simpa using rH)⟩
   | exact H.hp.iy (L':=Lt) (by repeat (first|exact iV _|apply List.Sublist.cons)) ⟨_,rfl,fun _=>(by rw [ig (by omega),jd] at eP;have:=eP.len;simp only [List.length_nil,tQ] at this;rw [← this];exact eP.now),fun e=>(by cases e)⟩
 intro h21 a H
 try have oN:=dF h21
 refine kP H (Kc K2 (SQ fun _ K5=>SR fun _ K6=>Rm rfl (Rl dZ rfl (Rm rfl (Kz K6 (SB ?_))))));clear H K2 K6;intro a H;skip;refine eU (ι:=Nat × Nat × OL × GH) (Tc:=[(3,_),(6,_),(22,_),(23,_)]) (Lc:=[(_,_)]) (fun gh=>[(24,vi gh.1)]) (fun gh=>[]++gh.2.2.1) (fun gh=>gh.2.2.2) (fun gh=>gh.1≤l.length∧(∀ b o,G b=some o→gh.2.2.2 b=some o)∧Now xs AV J (j0+((jd note t l).length+1)) gh.2.1 (jd note t (l.drop gh.1)) gh.2.2.2 gh.2.2.1) (fun gh=>l.length - gh.1) ((0,j0+1,Ia,Fg)) (by exact (H).sub ⟨rfl,rfl,rfl,rfl,rfl,aB⟩) ?_ ?_
 ·exact ⟨by omega,Cy,Qz.step (hb1 (by simpa using h21))⟩
 clear H;intro gh a w hI H;obtain ⟨k,j1,Lt,g⟩:=gh;dsimp only at hI H;obtain ⟨hk,hgm,eP⟩:=hI;dsimp only [lca,bG] at H;refine kP H (SR fun _ K7=>Rc rfl (Kz K7 (SQ fun _ K8=>Cd rfl ?_ ?_))) <;> clear H K7
 ·intro mg a H
  try have p25:=dT mg
  have hk2:k < l.length:=by omega
  obtain ⟨b,o,pA,pn,pc,dA,dn,dc,yA,yn,yc,fA,fn,fc,rA,rn,rc,rfl,hrow,hhd,hfl,hrw⟩:=vY hk2 hg;replace hrow:=fun j u hj=>aO hgm (hrow j u hj);have hrn:=hrw.len;rw [bV] at hrn;subst hrn;have hrs:=E9 l[k].rows;have hsz1:=Ns hk2;rw [kZ hk2] at eP
  simp only [jd,amY] at eP
  refine kP H (Kc K8 (SQ fun _ K9=>SB (SR fun _ aQ=>Ri dZ bW rfl rfl ?_)));clear H K8;intro a H;refine bJ bW (cs:=[_,_,_,_,_,_,_,_,_,_,_]) H wn rfl rfl (fun j v hj=>H.hp.aJ (hrow j v hj)) rfl ?_;clear H;intro a H;refine eB bW H wn rfl ?_;clear H;intro b10 a w Qi H;refine bM bW 0 (vs:=[_,_,_,_,_,_,_,_,_,_,_]) _ H wn rfl rfl rfl rfl rfl rfl rfl rfl ?_;clear H;intro w H;dsimp only [List.set,setRow] at H;refine aQ _ _ ?_;clear aQ;refine kP H (SR fun _ bH=>aT gV aH 0 rfl rfl (Kz bH (SB (SR fun _ bL=>Rc rfl (ak bL rfl (Cd rfl ?_ ?_)))))) <;> clear H bH bL
  ·intro rF a H
   try have p30:=dT rF
   rw [av p30] at eP;refine kP H (SR fun _ bR=>aT zL aH 0 rfl rfl (aT vX gT 0 rfl rfl (aT IC aH 1 rfl rfl ?_)));clear H;intro a H;refine jR C9 [_,_,_] H wn rfl rfl rfl rfl ?_;clear H;intro a H;refine kH H (Rm rfl ?_);clear H;intro a H;refine gY O1 (Li:=[_,_]) (L:=Lt) H wn rfl (ih fv Gi xs J Jx _ _ _ j1 l[k].flow l[k].id false true t _ (fun b o h=>hgm b o (hGi b o h)) hcb wh hJx eP.now (Hp.owns (Li:=[_,_]) H.hp) (hfl.mono hgm) (by omega) ht0 (by omega) eP.part) rfl ?_;clear H;rintro v40 Nz Ib a w ⟨b40,rfl,hb3,hb4⟩ Er H;refine kH H (Rn rfl (Kz bR (Cd rfl ?_ ?_))) <;> clear H bR
   ·intro qO a H
    try have p41:=dT qO
    refine kP H (SR fun _ bQ=>ak bQ rfl ?_);clear H bQ;intro a H;refine lr H results97 rfl ?_
    first
     | exact H.hp.iy (L':=Ia) (by repeat (first|exact iV _|apply List.Sublist.cons)) ⟨_,rfl,fun e=>(by cases e),fun _=>hb2 (by simpa using h21)⟩
     | exact H.hp.iy (L':=Ib) (by repeat (first|exact iV _|apply List.Sublist.cons)) ⟨_,rfl,fun e=>(by cases e),fun _=>hb4 (by simpa using qO)⟩
     | exact H.hp.iy (L':=Ic) (by repeat (first|exact iV _|apply List.Sublist.cons)) ⟨_,rfl,fun e=>(by cases e),fun _=>hb6 (by simpa using rH)⟩
     | exact H.hp.iy (L':=Lt) (by repeat (first|exact iV _|apply List.Sublist.cons)) ⟨_,rfl,fun _=>(by rw [ig (by omega),jd] at eP;have:=eP.len;simp only [List.length_nil,tQ] at this;rw [← this];exact eP.now),fun e=>(by cases e)⟩
   intro qO a H
   try have p41:=dF qO
   refine kP H (Kc K9 (SC (Rd rfl (Rm rfl ?_))));clear H K9;intro a H;refine aG ?_;refine dh ((k+1,j1+((jd true t l[k].flow).length+1),Ib,Nz)) (by exact (H.dP (Pl:=[_,_]) (dD:=[_]) [1] (by decide) rfl).sub ⟨rfl,rfl,rfl,rfl,rfl,aB⟩) ?_ ?_
   ·(try dsimp only);exact ⟨by omega,fun b o h=>Er b o (hgm b o h),eP.jump (hb3 (by simpa using qO))⟩
   first|omega|(dsimp only;omega)
  intro rF a H
  try have p30:=dF rF
  refine kP H (SR fun _ dJ=>Rc rfl (ak dJ rfl (Cd rfl ?_ ?_))) <;> clear H dJ
  ·intro oI a H
   try have p42:=dT oI
   rw [ah p30,av p42] at eP;refine kP H (SR fun _ dO=>aT nG nU 0 rfl rfl (Rl lD rfl (Rm rfl (Kz dO (SB ?_)))));clear H dO;intro a H;skip;refine eU (ι:=Nat × Nat × OL × GH) (Tc:=[(3,_),(6,_),(22,_),(23,_),(24,_),(45,_),(46,_)]) (Lc:=[(_,_),(_,_)]) (fun gh=>[(47,vi gh.1)]) (fun gh=>[]++gh.2.2.1) (fun gh=>gh.2.2.2) (fun gh=>gh.1≤l[k].rows.length∧(∀ b o,G b=some o→gh.2.2.2 b=some o)∧Now xs AV J (j0+((jd note t l).length+1)) gh.2.1 (oQ note t (l[k].rows.drop gh.1)++jd note t (l.drop (k+1))) gh.2.2.2 gh.2.2.1) (fun gh=>l[k].rows.length - gh.1) ((0,j1,Lt,g)) (by exact (H).sub ⟨rfl,rfl,rfl,rfl,rfl,rfl,rfl,rfl,aB⟩) ?_ ?_
   ·exact ⟨by omega,hgm,eP⟩
   clear H;intro gh a w hI H;obtain ⟨rk,j3,Lt3,g3⟩:=gh;dsimp only at hI H;obtain ⟨Jo,Bl,sP⟩:=hI;dsimp only [lca,bG] at H;refine kP H (SR fun _ dK=>Rc rfl (Kz dK (SQ fun _ eO=>Cd rfl ?_ ?_))) <;> clear H dK
   ·intro h48 a H
    try have p48:=dT h48
    have hk3:rk < l[k].rows.length:=by omega
    obtain ⟨b2,o2,qA,qn,qc,eA,en,ec,zA,zn,zc,cA,cn,cc,rfl,hrow,yL,hcl⟩:=GJ hk3 hrw.at_;replace hrow:=fun j u hj=>aO Bl (hrow j u hj);have hcn:=hcl.len;rw [bV] at hcn;subst hcn;have hsz2:=J9 hk3;have hcs:=E5 l[k].rows[rk].cells;rw [kZ hk3] at sP
    simp only [oQ,ana,nE] at sP
    refine kP H (Kc eO (SQ fun _ gH=>SB (SR fun _ fE=>Ri lD jM rfl rfl ?_)));clear H eO;intro a H;refine bJ jM (cs:=[_,_,_,_,_,_]) H wn rfl rfl (fun j v hj=>H.hp.aJ (hrow j v hj)) rfl ?_;clear H;intro a H;refine eB jM H wn rfl ?_;clear H;intro b12 a w Bg H;refine bM jM 0 (vs:=[_,_,_,_,_,_]) _ H wn rfl rfl rfl rfl rfl rfl rfl rfl ?_;clear H;intro w H;dsimp only [List.set,setRow] at H;refine fE _ _ ?_;clear fE;refine kP H (SR fun _ gL=>aT sK tH 0 rfl rfl (Rl oP rfl (Rm rfl (Kz gL (SB ?_)))));clear H gL;intro a H;skip;refine eU (ι:=Nat × Nat × OL × GH) (Tc:=[(3,_),(6,_),(22,_),(23,_),(24,_),(45,_),(46,_),(47,_),(52,_),(53,_)]) (Lc:=[(_,_),(_,_),(_,_)]) (fun gh=>[(54,vi gh.1)]) (fun gh=>[]++gh.2.2.1) (fun gh=>gh.2.2.2) (fun gh=>gh.1≤l[k].rows[rk].cells.length∧(∀ b o,G b=some o→gh.2.2.2 b=some o)∧Now xs AV J (j0+((jd note t l).length+1)) gh.2.1 (qg note t (l[k].rows[rk].cells.drop gh.1)++(oQ note t (l[k].rows.drop (rk+1))++jd note t (l.drop (k+1)))) gh.2.2.2 gh.2.2.1) (fun gh=>l[k].rows[rk].cells.length - gh.1) ((0,j3,Lt3,g3)) (by exact (H).sub ⟨rfl,rfl,rfl,rfl,rfl,rfl,rfl,rfl,rfl,rfl,rfl,aB⟩) ?_ ?_
    ·exact ⟨by omega,Bl,sP⟩
    clear H;intro gh a w hI H;obtain ⟨ck,j4,Lt4,g4⟩:=gh;dsimp only at hI H;obtain ⟨hck,I7,uq⟩:=hI;dsimp only [lca,bG] at H;refine kP H (SR fun _ jl=>Rc rfl (Kz jl (SQ fun _ kC=>Cd rfl ?_ ?_))) <;> clear H jl
    ·intro lU a H
     try have p55:=dT lU
     have hk4:ck < l[k].rows[rk].cells.length:=by omega
     obtain ⟨b3,o3,sA,sn,sc,tA,tn,tc,uA,un,uc,gA,gn,gc,rfl,hrow,hch,hcf⟩:=FC hk4 hcl.at_;replace hrow:=fun j u hj=>aO I7 (hrow j u hj);have Jt:=J7 hk4;rw [kZ hk4] at uq
     simp only [qg,amW,nE] at uq
     refine kP H (Kc kC (SQ fun _ jY=>SB (SR fun _ jJ=>Ri oP ku rfl rfl ?_)));clear H kC;intro a H;refine bJ ku (cs:=[_,_,_,_,_,_,_]) H wn rfl rfl (fun j v hj=>H.hp.aJ (hrow j v hj)) rfl ?_;clear H;intro a H;refine eB ku H wn rfl ?_;clear H;intro b14 a w LU H;refine bM ku 0 (vs:=[_,_,_,_,_,_,_]) _ H wn rfl rfl rfl rfl rfl rfl rfl rfl ?_;clear H;intro w H;dsimp only [List.set,setRow] at H;refine jJ _ _ ?_;clear jJ;refine kP H (SR fun _ kJ=>aT D8 aH 0 rfl rfl (aT Cm gT 0 rfl rfl (aT O7 zm 3 rfl rfl (aT IC aH 3 rfl rfl (Rd rfl ?_)))));clear H;intro a H;refine jR C9 [_,_,_] H wn rfl rfl rfl rfl ?_;clear H;intro a H;refine kH H (Rm rfl ?_);clear H;intro a H;refine gY O1 (Li:=[_,_,_,_]) (L:=Lt4) H wn rfl (ih fv Gi xs J Jx _ _ _ j4 l[k].rows[rk].cells[ck].flow l[k].rows[rk].cells[ck].id false note (t+1) _ (fun b o h=>I7 b o (hGi b o h)) hcb wh hJx uq.now (Hp.owns (Li:=[_,_,_,_]) H.hp) (hcf.mono I7) (by omega) (by omega) (by omega) uq.part) rfl ?_;clear H;rintro v69 G69 Ic a w ⟨b69,rfl,hb5,hb6⟩ ahQ H;refine kH H (Rn rfl (Kz kJ (Cd rfl ?_ ?_))) <;> clear H kJ
     ·intro rH a H
      try have p70:=dT rH
      refine kP H (SR fun _ lF=>ak lF rfl ?_);clear H lF;intro a H;refine lr H results97 rfl ?_
      first
       | exact H.hp.iy (L':=Ia) (by repeat (first|exact iV _|apply List.Sublist.cons)) ⟨_,rfl,fun e=>(by cases e),fun _=>hb2 (by simpa using h21)⟩
       | exact H.hp.iy (L':=Ib) (by repeat (first|exact iV _|apply List.Sublist.cons)) ⟨_,rfl,fun e=>(by cases e),fun _=>hb4 (by simpa using qO)⟩
       | exact H.hp.iy (L':=Ic) (by repeat (first|exact iV _|apply List.Sublist.cons)) ⟨_,rfl,fun e=>(by cases e),fun _=>hb6 (by simpa using rH)⟩
       | exact H.hp.iy (L':=Lt) (by repeat (first|exact iV _|apply List.Sublist.cons)) ⟨_,rfl,fun _=>(by rw [ig (by omega),jd] at eP;have:=eP.len;simp only [List.length_nil,tQ] at this;rw [← this];exact eP.now),fun e=>(by cases e)⟩
     intro rH a H
     try have p70:=dF rH
     refine kP H (Kc jY (SC (Rd rfl (Rm rfl ?_))));clear H jY;intro a H;refine aG ?_;refine dh ((ck+1,j4+((jd note (t+1) l[k].rows[rk].cells[ck].flow).length+1),Ic,G69)) (by exact (H.dP (Pl:=[_,_,_,_]) (dD:=[_,_,_]) [1,2,3] (by decide) rfl).sub ⟨rfl,rfl,rfl,rfl,rfl,rfl,rfl,rfl,rfl,rfl,rfl,aB⟩) ?_ ?_
     ·(try dsimp only);exact ⟨by omega,fun b o h=>ahQ b o (I7 b o h),uq.jump (hb5 (by simpa using rH))⟩
     first|omega|(dsimp only;omega)
    intro lU a H
    try have p55:=dF lU
    refine dW ?_;refine gH _ _ ?_;clear gH;refine kP H (SC (Rd rfl (Rm rfl ?_)));clear H;intro a H;refine aG ?_;refine dh ((rk+1,j4,Lt4,g4)) (by exact (H.dP (Pl:=[_,_,_]) (dD:=[_,_]) [1,2] (by decide) rfl).sub ⟨rfl,rfl,rfl,rfl,rfl,rfl,rfl,rfl,aB⟩) ?_ ?_
    ·(try dsimp only);exact ⟨by omega,I7,by rw [ig (by omega),qg,jP] at uq;exact uq⟩
    first|omega|(dsimp only;omega)
   intro h48 a H
   try have p48:=dF h48
   refine dW ?_;refine K9 _ _ ?_;clear K9;refine kP H (SC (Rd rfl (Rm rfl ?_)));clear H;intro a H;refine aG ?_;refine dh ((k+1,j3,Lt3,g3)) (by exact (H.dP (Pl:=[_,_]) (dD:=[_]) [1] (by decide) rfl).sub ⟨rfl,rfl,rfl,rfl,rfl,aB⟩) ?_ ?_
   ·(try dsimp only);exact ⟨by omega,Bl,by rw [ig (by omega),oQ,jP] at sP;exact sP⟩
   first|omega|(dsimp only;omega)
  intro oI a H
  try have p42:=dF oI
  refine kP H (Kc K9 (SC (Rd rfl (Rm rfl ?_))));clear H K9;intro a H;refine aG ?_;refine dh ((k+1,j1,Lt,g)) (by exact (H.dP (Pl:=[_,_]) (dD:=[_]) [1] (by decide) rfl).sub ⟨rfl,rfl,rfl,rfl,rfl,aB⟩) ?_ ?_
  ·(try dsimp only);exact ⟨by omega,hgm,by rw [ah p30,ah p42,jP] at eP;exact eP⟩
  first|omega|(dsimp only;omega)
 intro mg a H
 try have p25:=dF mg
 refine dW ?_;refine K5 _ _ ?_;clear K5;refine kP H (SR fun _ jK=>ak jK rfl ?_);clear H jK;intro a H;refine lr H results97 rfl ?_
 first
  | exact H.hp.iy (L':=Ia) (by repeat (first|exact iV _|apply List.Sublist.cons)) ⟨_,rfl,fun e=>(by cases e),fun _=>hb2 (by simpa using h21)⟩
  | exact H.hp.iy (L':=Ib) (by repeat (first|exact iV _|apply List.Sublist.cons)) ⟨_,rfl,fun e=>(by cases e),fun _=>hb4 (by simpa using qO)⟩
  | exact H.hp.iy (L':=Ic) (by repeat (first|exact iV _|apply List.Sublist.cons)) ⟨_,rfl,fun e=>(by cases e),fun _=>hb6 (by simpa using rH)⟩
  | exact H.hp.iy (L':=Lt) (by repeat (first|exact iV _|apply List.Sublist.cons)) ⟨_,rfl,fun _=>(by rw [ig (by omega),jd] at eP;have:=eP.len;simp only [List.length_nil,tQ] at this;rw [← this];exact eP.now),fun e=>(by cases e)⟩
theorem aaI:∀ n:Nat,n≤4294967297→NT n
 | 0,_=>fun _ _ _ _ _ _ _ _ _ _ _ _ _ _ _ _ _ _ _ _ _ _ h=>absurd h (by omega)
 | n+1,hn=>anc (aaI n (by omega)) (by omega)
def AX (l:List au):List jf:=⟨0,l,true,false,0⟩ :: jd false 0 l
theorem agr {G:GH} {ba bl bp:Nat} {l:List au} {v:aj} {id t:Int} {body note:Bool} (h1:aJ G ba 0=some (vi id)) (h2:aJ G bl 0=some v) (h3:G bp=some (.cells #[.bool body,.bool note,vi t] 106 (0,0))) (hv:ay G (.sl 11 (l.map au.dat)) v) (hz:bg l≤4294967296) (ht0:0≤t) (ht1:t+bg l≤4294967296) :
  Iter prog G (.func (.func 96) #[] #[(aI ba 0),(aI bl 0),(aI bp 0)]) ((⟨id,l,body,note,t⟩ :: jd note t l).map AV):=by
 intro J Jx fv G1 L w0 Xe hGi wh hJx hJ hO hcb;refine lN (caps:=[(aI ba 0),(aI bl 0),(aI bp 0)]) VT ?_;replace h1:=aO hGi h1;replace h2:=aO hGi h2
 have hrow:∀ j u,[.bool body,.bool note,vi t][j]?=some u→aJ G1 bp (0+j)=some u:=by
  intro j u hj;refine aO hGi ?_
  unfold aJ;rw [h3];simpa using hj
 refine jZ (N:=10) (T:=[(0,_),(1,_),(2,_),(3,_)]) func96 rfl ntmps96 rfl rfl hO ?_;intro a H;refine kP H (SC (Rg aH rfl (by assumption) ?_));clear H;intro a H;refine kH H (Rg gT rfl (by assumption) ?_);clear H;intro a H;refine bJ Nc (cs:=[_,_,_]) H wn rfl rfl (fun j v hj=>H.hp.aJ (hrow j v hj)) rfl ?_;clear H;intro a H;refine kH H (Rm rfl ?_);clear H;intro a H;refine gY O1 (Li:=[]) (L:=L) H wn rfl (aaI 4294967297 (by omega) _ G1 _ J Jx G1 _ _ 0 l id body note t _ (fun _ _ h=>h) hcb wh hJx hJ (Hp.owns (Li:=[]) H.hp) (hv.mono hGi) (by omega) ht0 ht1 (fun i a h=>by rw [jh,qm,h];rfl)) rfl ?_;clear H;rintro v9 G9 L9 a w ⟨b9,rfl,h1,h2⟩ yK H;refine aG ?_;refine (leave0 H results96 ?_).2
 cases b9
 ·exact H.hp.eX (.inr (h2 rfl))
 exact H.hp.eX (.inl (by simpa using h1 rfl))
theorem ags (G:GH) (w0:World) (hG:Hold G w0) (l:List au) (v:aj) (id t:Int) (body note:Bool) (hv:ay G (.sl 11 (l.map au.dat)) v) (hz:bg l≤4294967296) (ht0:0≤t) (ht1:t+bg l≤4294967296) :
  Calls prog 62 #[vi id,v,.agg #[.bool body,.bool note,vi t]] w0 (bq w0 G fun u G'=>∃ ba bl bp,u=.func (.func 96) #[] #[(aI ba 0),(aI bl 0),(aI bp 0)]∧Iter prog G' u ((⟨id,l,body,note,t⟩ :: jd note t l).map AV)):=by
 obtain ⟨A,c,rfl,hc1,hc2,hg⟩:=hv.slice;refine eN [(0,_),(1,_),(2,_)] func62 rfl ntmps62 rfl rfl hG ?_;intro a H;refine dH (fun _ K1=>?_);refine fC (cs:=[_]) H wn rfl rfl rfl ?_;clear H;intro b3 a w hb3 H;refine fC (cs:=[_]) H wn rfl rfl rfl ?_;clear H;intro b4 a w hb4 H;refine fC (cs:=[_,_,_]) H wn rfl rfl rfl ?_;clear H;intro b5 a w hb5 H;refine kH H (ak K1 rfl (SR fun _ K2=>?_));clear H K1;intro a H;refine qW H wn rfl rfl ?_;clear H;intro a H;refine kH H (ak K2 rfl ?_);clear H K2;intro a H;refine cK ?_;obtain ⟨G2,hm2,hb5,H⟩:=H.eu;obtain ⟨G3,Qt,hb4,H⟩:=H.eu;obtain ⟨G4,F5,hb3,H⟩:=H.eu;refine lv H results62 rfl ?_;exact H.rt ⟨b3,b4,b5,rfl,agr (by unfold aJ;rw [hb3];rfl) (aO F5 (by unfold aJ;rw [hb4];rfl)) (F5 _ _ (Qt _ _ hb5)) (hv.mono fun b o h=>F5 _ _ (Qt _ _ (hm2 _ _ h))) hz ht0 ht1⟩
theorem akn (G:GH) (w0:World) (hG:Hold G w0) (D:nA) (l:List au) (hv:ay G (.sl 11 (l.map au.dat)) (fD D.f)) (hz:bg l≤4294967296) :
  Calls prog 39 #[D.val] w0 (bq w0 G fun u G'=>∃ ba bl bp,u=.func (.func 96) #[] #[(aI ba 0),(aI bl 0),(aI bp 0)]∧Iter prog G' u ((AX l).map AV)):=by
 refine eN [(0,_)] func39 rfl ntmps39 rfl rfl hG ?_;intro a H;refine dH (fun _ K1=>?_);refine fC (cs:=[_,_,_,_,_,_,_,_,_,_,_]) H wn rfl rfl rfl ?_;clear H;intro b1 a w hb1 H;refine kH H (ak K1 rfl (SR fun _ K2=>aT Ci gT 0 rfl rfl ?_));clear H K1;intro a H;refine jR C9 [_,_,_] H wn rfl rfl rfl rfl ?_;clear H;intro a H;refine s_call aeX H wn rfl (ags _ _ H.ro l _ 0 0 true false hv hz (by omega) (by omega)) rfl ?_;clear H;rintro v6 G6 a w ⟨ba,bl,bp,rfl,hit⟩ hm6 H;exact kH H (ak K2 rfl (LR results39 rfl fun H=>H.rt ⟨ba,bl,bp,rfl,hit⟩))
end
section
open Go.RowKit
theorem rY:Ty prog 38 11 232 [.slice none 0 0,.slice none 0 0,.int .i64 0,.int .i64 0,.slice none 0 0,.slice none 0 0,.slice none 0 0,.slice none 0 0,.slice none 0 0,.slice none 0 0,.slice none 0 0] true:=⟨by kernel_rfl,by kernel_rfl⟩
theorem aeP:∀ args w,(callFunc 39 args).run prog w=.ok (.enter 39 args) w:=enters func39 rfl (by kernel_rfl)
theorem aas:Ty prog 108 4 40 [.slice none 0 0,.bool false,.bool false,.int .i64 0] true:=⟨by kernel_rfl,by kernel_rfl⟩
theorem afL:cB prog 108 0 0:=⟨by kernel_rfl⟩
mutual
theorem amZ {note:Bool} {t:Int} {f:jf}:∀ {x:au},f∈wL note t x→bg f.items < dx x.dat
 | .mk k c i tx h fl r,hf=>by
  have h4:=oF (.mk k c i tx h fl r)
  simp only [au.text,au.head,au.flow,au.rows] at h4
  rw [wL] at hf
  split at hf
  ·rcases kK.1 hf with rfl|hf
   ·show bg fl < _;omega
   have:=Nq hf;omega
  split at hf
  ·have:=aaH hf;omega
  cases hf
theorem Nq {note:Bool} {t:Int} {f:jf}:∀ {l:List au},f∈jd note t l→bg f.items≤bg l
 | [],hf=>by simp [jd] at hf
 | x :: l,hf=>by
  rw [jd] at hf
  simp only [bg,fu,eZ]
  rcases jS.1 hf with hf|hf
  ·have:=amZ hf;simp only [bg] at this;omega
  have:=Nq hf;simp only [bg] at this;omega
theorem aaH {note:Bool} {t:Int} {f:jf}:∀ {l:List bD},f∈oQ note t l→bg f.items≤iD l
 | [],hf=>by simp [oQ] at hf
 | x :: l,hf=>by
  rw [oQ] at hf
  simp only [iD,fu,eZ]
  rcases jS.1 hf with hf|hf
  ·have:=anb hf;simp only [bg] at *;omega
  have:=aaH hf;simp only [bg,iD] at *;omega
theorem anb {note:Bool} {t:Int} {f:jf}:∀ {x:bD},f∈wM note t x→bg f.items≤dx x.dat
 | .mk h cs,hf=>by
  have h4:=Al (.mk h cs)
  simp only [bD.head,bD.cells] at h4
  rw [wM] at hf;have:=aaG hf;omega
theorem aaG {note:Bool} {t:Int} {f:jf}:∀ {l:List bF},f∈qg note t l→bg f.items≤jI l
 | [],hf=>by simp [qg] at hf
 | x :: l,hf=>by
  rw [qg] at hf
  simp only [jI,fu,eZ]
  rcases jS.1 hf with hf|hf
  ·have:=amX hf;simp only [bg] at *;omega
  have:=aaG hf;simp only [bg,jI] at *;omega
theorem amX {note:Bool} {t:Int} {f:jf}:∀ {x:bF},f∈wK note t x→bg f.items≤dx x.dat
 | .mk i h fl,hf=>by
  have h4:=Aj (.mk i h fl)
  simp only [bF.head,bF.flow] at h4
  rw [wK] at hf
  rcases kK.1 hf with rfl|hf
  ·show bg fl≤_;omega
  have:=Nq hf;omega
end
theorem WI {f:jf} {l:List au} (h:f∈AX l):bg f.items≤bg l:=by
 rcases kK.1 h with rfl|h
 ·exact bT _
 exact Nq h
def qy (l:List au) (id:Int):Option (List au):=((AX l).find? fun f=>decide (f.id=id)).map jf.items
theorem WG {f:List au} {l:List au} {id:Int} (h:qy l id=some f):bg f≤bg l:=by
 obtain ⟨a,ha,rfl⟩:=lY.1 h;exact WI (List.mem_of_find?_eq_some ha)
theorem agj {α:Type} {p:α→Bool} {A:List α} {k:Nat} (hk:k < A.length) (h:(A.take k).find? p=none) (hp:p A[k]=false):(A.take (k+1)).find? p=none:=by
 rw [jg hk,List.find?_append,h]
 simp [hp]
theorem agk {α:Type} {p:α→Bool} {A:List α} {k:Nat} (hk:k < A.length) (h:(A.take k).find? p=none) (hp:p A[k]=true):A.find? p=some A[k]:=by
 have e:A.find? p=(A.take k++A.drop k).find? p:=by rw [List.take_append_drop]
 rw [e,List.find?_append,h,kZ hk,List.find?_cons,hp]
 rfl
theorem Wx {α:Type} {p:α→Bool} {A:List α} (h:(A.take A.length).find? p=none):A.find? p=none:=by rwa [wS] at h
theorem WC {A:List jf} {k:Nat} {args:List aj} {g:GH} (h:vJ (A.map AV) k args g):∃ (hk:k < A.length) (a:Option Addr) (n c:Nat),args=[vi A[k].id,.agg #[.slice a n c,.bool A[k].body,.bool A[k].note,vi A[k].tables]]∧ay g (.sl 11 (A[k].items.map au.dat)) (.slice a n c):=by
 obtain ⟨p,hp,hargs⟩:=h;rw [qm] at hp;obtain ⟨q,hq,rfl⟩:=lY.1 hp;obtain ⟨hk,rfl⟩:=jm.1 hq;obtain ⟨v,h1,h2⟩:=hargs;obtain ⟨a,n,c,rfl⟩:=h2.form;exact ⟨hk,a,n,c,h1,h2⟩
theorem WH (G:GH) (w0:World) (hG:Hold G w0) (D:nA) (l:List au) (id:Int) (hv:ay G (.sl 11 (l.map au.dat)) (fD D.f)) (hz:bg l≤4294967296) :
  Calls prog 17 #[D.val,vi id] w0 (bq w0 G fun u G'=>∃ v,u=.tuple #[v,.bool (qy l id).isSome]∧ay G' (.sl 11 (((qy l id).getD []).map au.dat)) v):=by
 refine eN [(0,_),(1,_)] func17 rfl ntmps17 rfl rfl hG ?_;intro a H;refine dH (fun _ K1=>?_);refine fC (cs:=[_,_,_,_,_,_,_,_,_,_,_]) H wn rfl rfl rfl ?_;clear H;intro b2 a w hb2 H;refine fC (cs:=[_]) H wn rfl rfl rfl ?_;clear H;intro b3 a w hb3 H;refine eB gT H wn rfl ?_;clear H;intro b4 a w hb4 H;refine eB zm H wn rfl ?_;clear H;intro b5 a w hb5 H;refine K1 _ _ ?_;clear K1;refine bK (fun _ K2=>?_);refine dH (fun _ K3=>?_);refine bJ rY (cs:=[_,_,_,_,_,_,_,_,_,_,_]) H wn rfl rfl (H.hp.dL 3 rfl rfl) rfl ?_;clear H;intro a H;refine s_call aeP H wn rfl (akn _ _ H.ro D l hv hz) rfl ?_;clear H;rintro v9 G9 a w ⟨ba,bl,bp,rfl,hit⟩ yK H;refine K3 _ _ ?_;clear K3;refine xX ?_;skip;refine U0 (ι:=Unit) (κ:=aj) (Lc:=[(_,_),(_,_)]) (fun (k:Nat) (gh:Unit)=>[(b4,.cells #[.slice none 0 0] 22 (0,0)),(b5,.cells #[.bool false] 4 (0,0))]) (fun (k:Nat) (gh:Unit)=>[]) (fun (k:Nat) (gh:Unit) (g:GH)=>((AX l).take k).find? (fun f=>decide (f.id=id))=none) (fun (gx:aj)=>Code.ret) (fun (gx:aj)=>[(b4,.cells #[gx] 22 (0,0)),(b5,.cells #[.bool true] 4 (0,0))]) (fun (gx:aj)=>[]) (fun (gx:aj) (g:GH)=>∃ f,qy l id=some f∧ay g (.sl 11 (f.map au.dat)) gx) (()) (by exact H.dP (Pl:=[_,_,_,_]) (dD:=[_,_,_,_]) [2,3,1,0] (by decide) rfl) rfl VT (hit) (fun _ _ h=>h) rfl (fun k args g h=>by obtain ⟨_,_,_,_,rfl,_⟩:=WC h;rfl) (fun _ _ _ _ _ h=>h) (fun x G G' hm h=>let ⟨f,h1,h2⟩:=h;⟨f,h1,h2.mono hm⟩) (rfl) ?_ ?_ ?_
 ·clear H;intro l2 CZ zH bk k args gh G2 w2 F2 B2 a hk2 hm2 hI Qm Mf XM H;obtain ⟨hk,vA,vn,vc,rfl,hrep⟩:=WC hk2;dsimp only [xW,List.cons_append,List.nil_append] at H;refine kP H (SR fun _ K4=>ak K4 rfl (SC ?_));clear H K4;intro a H;refine eB aas H wn rfl ?_;clear H;intro b7 a w Em H;refine bM aas 0 (vs:=[_,_,_,_]) _ H wn rfl rfl rfl rfl rfl rfl rfl rfl ?_;clear H;intro w H;dsimp only [List.set,setRow] at H;refine aG ?_;refine Qm _ _ _ _ _ _ (by exact H.dP (Pl:=[_,_,_,_,_,_]) (dD:=[_,_,_,_,_,_]) [1,0,2,3,4,5] (by decide) rfl) ?_;clear H;intro w H;refine kP H (SB (SR fun _ K5=>Rm rfl (Ro aH 2 rfl (Rc rfl (Kz K5 (Cd rfl ?_ ?_)))))) <;> clear H K5
  ·intro dY a H
   try have lC:=dT dY
   refine kP H (SR fun _ K6=>aT afL gT 1 rfl rfl ?_);clear H;intro a H;refine s_call OQ H wn rfl (adh _ _ H.ro _ _ hrep (by have:=WI (iF hk);omega)) rfl ?_;clear H;rintro v17 zw a w Xz pQ H;obtain ⟨A17,n17,c17,rfl⟩:=Xz.form;refine bM gT 4 (vs:=[_]) _ H wn rfl rfl rfl rfl rfl rfl rfl rfl ?_;clear H;intro w H;dsimp only [List.set,setRow] at H;refine bM zm 5 (vs:=[_]) _ H wn rfl rfl rfl rfl rfl rfl rfl rfl ?_;clear H;intro w H;dsimp only [List.set,setRow] at H;refine K6 _ _ ?_;clear K6;refine cK ?_;refine (XM (.slice A17 n17 c17) _ _ _ _ _ (by exact H.dP (Pl:=[_,_,_,_,_,_]) (dD:=[_,_,_,_,_]) [0,2,3,4,5] (by decide) rfl) ?_).1 rfl;exact ⟨_,by unfold qy;rw [agk hk hI dY];rfl,Xz⟩
  intro dY a H
  refine fZ ?_;refine Mf (()) _ _ _ _ _ (by exact H.dP (Pl:=[_,_,_,_,_,_]) (dD:=[_,_,_,_,_]) [0,2,3,4,5] (by decide) rfl) ?_;exact agj hk hI dY
 ·clear H;intro Tj gh TA a w hm2 hI H;dsimp only [lca,bG] at H;refine K2 _ _ ?_;clear K2;refine dH (fun _ K7=>?_);refine bM gT 3 (vs:=[_]) _ H wn rfl rfl rfl rfl rfl rfl rfl rfl ?_;clear H;intro w H;dsimp only [List.set,setRow] at H;refine bM zm 4 (vs:=[_]) _ H wn rfl rfl rfl rfl rfl rfl rfl rfl ?_;clear H;intro w H;dsimp only [List.set,setRow] at H;refine K7 _ _ ?_;clear K7;refine cK ?_;refine (JF H 0 rfl ?_).1;clear H;intro a w H;dsimp only [List.eraseIdx_cons_succ,List.eraseIdx_cons_zero] at H;refine (eG H results17 (.cons (uD gT H rfl (H.hp.nM 2 rfl rfl)) (.cons (uD zm H rfl (H.hp.nM 3 rfl rfl)) .nil)) ?_).1;exact H.rt ⟨_,by unfold qy;rw [Wx (by simpa using hI)];rfl,by unfold qy;rw [Wx (by simpa using hI)];exact ay.jH rfl (by decide)⟩
 clear H;intro Tj gx TA a w hm2 hI H;obtain ⟨x,hgh⟩:∃ x,x=gx:=⟨_,rfl⟩;subst hgh;dsimp only [lca,bG] at H;obtain ⟨f,hf,hrep⟩:=hI;obtain ⟨xA,xn,xc,rfl⟩:=hrep.form;refine cK ?_;refine (JF H 0 rfl ?_).1;clear H;intro a w H;dsimp only [List.eraseIdx_cons_succ,List.eraseIdx_cons_zero] at H;refine (eG H results17 (.cons (uD gT H rfl (H.hp.nM 2 rfl rfl)) (.cons (uD zm H rfl (H.hp.nM 3 rfl rfl)) .nil)) ?_).1;exact H.rt ⟨_,by rw [hf];rfl,by rw [hf];exact hrep⟩
end
section
open Go.RowKit
def jQ (xs:Array aj) (o:Nat):Option Int:=match xs[o]? with|some (.int .i64 n)=>some n|_=>none
def JB (u:Option TypeDesc):Bool:=match u with|some (.int .i64)=>true|_=>false
structure Am (P:Program) (t:TypeId) (fM:List Nat):Prop where
 und:P.underlying t=some (.struct (P.fieldsOf t))
 held:P.stoodInHeld t=false
 guard:P.eqGuardType P.depth t=false
 uX:(P.fieldsOf t).toList.map (·.offset)=fM
 ok:(P.fieldsOf t).toList.all (fun f=>decide (f.name ≠ "_") && P.plainKey f.type && JB (P.underlying f.type))=true
theorem RU {P:Program} {w:World} {d:Nat} {xs ys:Array aj}:∀ fs:List Field,fs.all (fun f=>decide (f.name ≠ "_") && P.plainKey f.type && JB (P.underlying f.type))=true →
  (fs.map (·.offset)).all (fun o=>(jQ xs o).isSome && (jQ ys o).isSome)=true→(Op.eqFields (d+1) xs ys fs).run P w=.ok ((fs.map (·.offset)).all fun o=>jQ xs o == jQ ys o) w
 | [],_,_=>by simp [Op.eqFields]
 | f :: fs,h1,h2=>by
  simp only [List.all_cons,lK,qo,fu] at h1 h2
  obtain ⟨⟨⟨hn,hp⟩,hi⟩,h1⟩:=h1
  obtain ⟨⟨hx,hy⟩,h2⟩:=h2
  have ih:=RU (w:=w) (d:=d) fs (by simpa using h1) h2
  unfold JB at hi
  split at hi
  ·rename_i hu
   unfold jQ at hx hy
   split at hx
   ·rename_i m hxm
    split at hy
    ·rename_i m2 hym
     have e1:jQ xs f.offset=some m:=by unfold jQ;rw [hxm]
     have e2:jQ ys f.offset=some m2:=by unfold jQ;rw [hym]
     simp only [Op.eqFields,hn,ne_eq,not_false_eq_true,if_true,cZ,run_part_plain w hp hxm,run_part_plain w hp hym,jT,run_equalIn_int w d f.type .i64 .i64 m m2 hu,fu,List.all_cons,e1,e2]
     by_cases e:m=m2
     ·subst e;simp [ih,List.all_map]
     ·simp [e]
    ·simp at hy
   ·simp at hx
  ·simp at hi
def kE (xs:Array aj) (o:Nat × Bool):Option (Int × Bool):=match xs[o.1]?,o.2 with|some (.int .i64 n),false=>some (n,false)|some (.bool b),true=>some (0,b)|_,_=>none
def zS (u:Option TypeDesc) (b:Bool):Bool:=match u,b with|some (.int .i64),false=>true|some .bool,true=>true|_,_=>false
structure Kh (P:Program) (t:TypeId) (fM:List (Nat × Bool)):Prop where
 und:P.underlying t=some (.struct (P.fieldsOf t))
 held:P.stoodInHeld t=false
 guard:P.eqGuardType P.depth t=false
 uX:(P.fieldsOf t).toList.map (fun f=>(f.offset,zS (P.underlying f.type) true))=fM
 ok:(P.fieldsOf t).toList.all (fun f=>decide (f.name ≠ "_") && P.plainKey f.type && zS (P.underlying f.type) (zS (P.underlying f.type) true))=true
theorem ZA {P:Program} {w:World} {d:Nat} {xs ys:Array aj}:∀ fs:List Field,fs.all (fun f=>decide (f.name ≠ "_") && P.plainKey f.type && zS (P.underlying f.type) (zS (P.underlying f.type) true))=true →
  (fs.map (fun f=>(f.offset,zS (P.underlying f.type) true))).all (fun o=>(kE xs o).isSome && (kE ys o).isSome)=true→(Op.eqFields (d+1) xs ys fs).run P w=.ok ((fs.map (fun f=>(f.offset,zS (P.underlying f.type) true))).all fun o=>kE xs o == kE ys o) w
 | [],_,_=>by simp [Op.eqFields]
 | f :: fs,h1,h2=>by
  simp only [List.all_cons,lK,qo,fu] at h1 h2
  obtain ⟨⟨⟨hn,hp⟩,hi⟩,h1⟩:=h1
  obtain ⟨⟨hx,hy⟩,h2⟩:=h2
  have ih:=ZA (w:=w) (d:=d) fs (by simpa using h1) h2
  obtain ⟨kb,hkb⟩:∃ kb,kb=zS (P.underlying f.type) true:=⟨_,rfl⟩
  rw [← hkb] at hi hx hy
  cases kb with
  | false =>
   have hu:P.underlying f.type=some (.int .i64):=by clear hkb ih h1 h2 hx hy;unfold zS at hi;split at hi <;> simp_all
   obtain ⟨m,hxm⟩:∃ m,xs[f.offset]?=some (.int .i64 m):=by clear hkb ih h1 h2 hi hy;unfold kE at hx;split at hx <;> simp_all
   obtain ⟨m2,hym⟩:∃ m,ys[f.offset]?=some (.int .i64 m):=by clear hkb ih h1 h2 hi hx;unfold kE at hy;split at hy <;> simp_all
   have e1:kE xs (f.offset,false)=some (m,false):=by unfold kE;rw [hxm]
   have e2:kE ys (f.offset,false)=some (m2,false):=by unfold kE;rw [hym]
   simp only [Op.eqFields,hn,ne_eq,not_false_eq_true,if_true,cZ,run_part_plain w hp hxm,run_part_plain w hp hym,jT,run_equalIn_int w d f.type .i64 .i64 m m2 hu,fu,List.all_cons,← hkb,e1,e2]
   by_cases e:m=m2
   ·subst e;simp [ih,List.all_map]
   ·simp [e]
  | true =>
   have hu:P.underlying f.type=some .bool:=by clear hkb ih h1 h2 hx hy;unfold zS at hi;split at hi <;> simp_all
   obtain ⟨m,hxm⟩:∃ m,xs[f.offset]?=some (.bool m):=by clear hkb ih h1 h2 hi hy;unfold kE at hx;split at hx <;> simp_all
   obtain ⟨m2,hym⟩:∃ m,ys[f.offset]?=some (.bool m):=by clear hkb ih h1 h2 hi hx;unfold kE at hy;split at hy <;> simp_all
   have e1:kE xs (f.offset,true)=some (0,m):=by unfold kE;rw [hxm]
   have e2:kE ys (f.offset,true)=some (0,m2):=by unfold kE;rw [hym]
   simp only [Op.eqFields,hn,ne_eq,not_false_eq_true,if_true,cZ,run_part_plain w hp hxm,run_part_plain w hp hym,jT,run_equalIn_bool' w d f.type m m2 hu,fu,List.all_cons,← hkb,e1,e2]
   by_cases e:m=m2
   ·subst e;simp [ih,List.all_map]
   ·simp [e]
section
variable {N:Nat} {D:List Deferred} {w0:World} {F:Nat→Prop} {G0 G:GH} {L:List (Nat × Obj)} {T:List (Nat × aj)}
variable {r:Option Nat} {P:Program} {ops:Array Oper} {Q:Exit→Act→World→Prop} {rest:List Oper} {a:Act} {w:World}
variable {d:Nat} {ty:TypeId} {pos:String} {aM:Array Edge} {g:Option (Nat × Bool)}
theorem xI {t yt:TypeId} {x y:Operand} {p q:ByteArray} (H:St N D w0 F G0 G L T a w) (hw:Region.wanted ⟨some d,.binOp .eql t x y yt,ty,pos,aM,g⟩ (yielded ops a.tmps)=true) (hx:ev T x=some (.string p)) (hy:ev T y=some (.string q)) (hd:Nat.blt d N=true)
  (k:∀ a',St N D w0 F G0 G L ((d,.bool (p.toList == q.toList)) :: T) a' w→WL r P ops Q rest a' w):WL r P ops Q (⟨some d,.binOp .eql t x y yt,ty,pos,aM,g⟩ :: rest) a w:=by
 refine fq (v:=.bool (p.toList == q.toList)) (w':=w) hw rfl ?_ (k _ (H.put hd _ H.hp))
 simp [execOp,H.ev hx,H.ev hy,cZ,eqGuard,binOp,Op.stringOp]
theorem R8 {op:BinOp} {t yt:TypeId} {fM:List (Nat × Bool)} (ho:op=.eql∨op=.neq) (he:Kh P t fM) {x y:Operand} {xs ys:Array aj} (H:St N D w0 F G0 G L T a w) (hw:Region.wanted ⟨some d,.binOp op t x y yt,ty,pos,aM,g⟩ (yielded ops a.tmps)=true) (hx:ev T x=some (.agg xs)) (hy:ev T y=some (.agg ys))
  (hi:fM.all (fun o=>(kE xs o).isSome && (kE ys o).isSome)=true) (hd:Nat.blt d N=true)
  (k:∀ a',St N D w0 F G0 G L ((d,.bool (if op=.eql then fM.all fun o=>kE xs o == kE ys o else !(fM.all fun o=>kE xs o == kE ys o))) :: T) a' w→WL r P ops Q rest a' w):WL r P ops Q (⟨some d,.binOp op t x y yt,ty,pos,aM,g⟩ :: rest) a w:=by
 have h1:=ZA (P:=P) (w:=w) (d:=9998) (xs:=xs) (ys:=ys) _ he.ok (by rw [he.uX];exact hi)
 rw [he.uX] at h1
 rcases ho with rfl|rfl
 ·refine fq (v:=_) (w':=w) hw rfl ?_ (k _ (H.put hd _ H.hp))
  simp only [execOp,H.ev hx,H.ev hy,cZ,run_eqGuard_agg w .eql t x y xs ys he.guard,jT,run_eql_struct,run_equalIn_struct w 9999 t xs ys he.und he.held,h1]
  rfl
 ·refine fq (v:=_) (w':=w) hw rfl ?_ (k _ (H.put hd _ H.hp))
  simp only [execOp,H.ev hx,H.ev hy,cZ,run_eqGuard_agg w .neq t x y xs ys he.guard,jT,run_neq_struct,run_equalIn_struct w 9999 t xs ys he.und he.held,h1]
  rfl
end
end
section
open Go.RowKit
theorem Bw {α:Type} {p:α→Bool} {A:List α} {k:Nat} (hk:k < A.length) (h:(A.take k).findIdx? p=none) (hp:p A[k]=false):(A.take (k+1)).findIdx? p=none:=by
 rw [List.findIdx?_eq_none_iff] at h ⊢;rw [jg hk];intro x hx
 rcases jS.1 hx with hx|hx
 ·exact h x hx
 rw [qK.1 hx];exact hp
theorem vD {α:Type} {p:α→Bool} {A:List α} {k:Nat} (hk:k < A.length) (h:(A.take k).findIdx? p=none) (hp:p A[k]=true):A.findIdx? p=some k:=by
 have e:A.findIdx? p=(A.take k++A.drop k).findIdx? p:=by rw [List.take_append_drop]
 rw [e,List.findIdx?_append,h,kZ hk,List.findIdx?_cons,hp]
 simp;omega
end
section
open Go.RowKit
theorem GV:Fq prog 121:=⟨by kernel_rfl⟩
theorem u8B:U8 prog 5:=⟨by kernel_rfl⟩
theorem ajm:liesAt prog prog.depth 121 (2 / prog.cellsOf 121) 0 121 1=true:=by kernel_rfl
theorem U4:prog.cellsOf 5=1:=by kernel_rfl
theorem Y5 (v:aj) (w:World):(callFunc 109 #[v]).run prog w=.ok (.value v) w:=alf func109 (by kernel_rfl) (by kernel_rfl) (by kernel_rfl) (by kernel_rfl) v w
theorem Ag:prog.underlying 118=some (.pointer 121):=by kernel_rfl
theorem Nl:prog.underlying 207=some .unsafePointer:=by kernel_rfl
theorem AO:cB prog 121 0 0:=⟨by kernel_rfl⟩
theorem BO:Ty prog 118 1 8 [.pointer none] false:=⟨by kernel_rfl,by kernel_rfl⟩
theorem VP:∀ args w,(callFunc 74 args).run prog w=.ok (.enter 74 args) w:=enters func74 rfl (by kernel_rfl)
theorem vH:prog.underlying 119=some (.slice 5):=by kernel_rfl
theorem wY:cB prog 121 1 1:=⟨by kernel_rfl⟩
theorem xK:Ty prog 119 1 24 [.slice none 0 0] false:=⟨by kernel_rfl,by kernel_rfl⟩
theorem SI:prog.underlying 162=some (.pointer 5):=by kernel_rfl
abbrev bB (b:Nat) (p v:aj):Nat × Obj:=(b,.cells #[p,v] 121 (0,0))
theorem adt (G:GH) (L:OL) (w0:World) (b:Nat) (A:Option Addr) (n c:Nat) (hO:gZ G (bB b (.pointer none) (.slice A n c) :: L) w0) :
  Calls prog 74 #[(aI b 0)] w0 (gI w0 G (bB b (.pointer none) (.slice A n c) :: L) fun u G' L'=>L'=bB b (aI b 0) (.slice A n c) :: L∧G'=G):=by
 refine jZ (N:=20) (T:=[(0,_)]) func74 rfl ntmps74 rfl rfl hO ?_;intro a H;refine kP H (SR fun _ K1=>Rm rfl (Rk rfl (aT AO BO 0 rfl rfl ?_)));clear H;intro a H;refine MX Ag H wn rfl rfl ?_;clear H;intro a H;refine K1 _ _ ?_;clear K1;refine kS H rfl ?_ ?_
 ·intro h6
  refine kP H (SC (Rm rfl (Rm rfl ?_)));clear H;intro a H;refine ZV Ag Nl GV H wn rfl 0 rfl rfl rfl ?_;clear H;intro a H;refine ZO (xs:=[.tmp 9]) (Y5 _) H wn rfl rfl ?_;clear H;intro a H;refine ZK Nl Ag GV H wn rfl 0 rfl ajm rfl ?_;clear H;intro a H;refine kH H (Rk rfl (Rf AO rfl ?_));clear H;intro a H;refine bM BO 0 (vs:=[_]) _ H wn rfl rfl rfl rfl rfl rfl rfl rfl ?_;clear H;intro w H;dsimp only [List.set,setRow] at H;refine aG ?_;refine (leave0 H results74 ?_).2;exact H.hp.eX ⟨rfl,rfl⟩
 intro h6
 exact absurd h6 (by decide)
theorem adu (G:GH) (L:OL) (w0:World) (b:Nat) (A:Option Addr) (n c:Nat) (hO:gZ G (bB b (aI b 0) (.slice A n c) :: L) w0) :
  Calls prog 74 #[(aI b 0)] w0 (gI w0 G (bB b (aI b 0) (.slice A n c) :: L) fun u G' L'=>L'=bB b (aI b 0) (.slice A n c) :: L∧G'=G):=by
 refine jZ (N:=20) (T:=[(0,_)]) func74 rfl ntmps74 rfl rfl hO ?_;intro a H;refine kP H (SR fun _ K1=>Rm rfl (Rk rfl (aT AO BO 0 rfl rfl ?_)));clear H;intro a H;refine MX Ag H wn rfl rfl ?_;clear H;intro a H;refine K1 _ _ ?_;clear K1;refine kS H rfl ?_ ?_
 ·intro h6
  exact absurd h6 (by simp)
 intro h6
 refine kP H (SR fun _ K2=>Rm rfl (Rk rfl (aT AO BO 0 rfl rfl (Rm rfl ?_))));clear H;intro a H;refine ZN Ag GV H wn rfl rfl rfl ?_;clear H;intro a H;refine K2 _ _ ?_;clear K2;refine kS H rfl ?_ ?_
 ·intro h19
  exact absurd h19 (by decide)
 intro h19
 refine fZ ?_;refine (leave0 H results74 ?_).2;exact H.hp.eX ⟨rfl,rfl⟩
theorem adv (G:GH) (L:OL) (w0:World) (b:Nat) (p:aj) (A:Option Addr) (n c:Nat) (hp:p=.pointer none∨p=(aI b 0)) (hO:gZ G (bB b p (.slice A n c) :: L) w0) :
  Calls prog 74 #[(aI b 0)] w0 (gI w0 G (bB b p (.slice A n c) :: L) fun u G' L'=>L'=bB b (aI b 0) (.slice A n c) :: L∧G'=G):=by
 rcases hp with rfl|rfl
 ·exact adt G L w0 b A n c hO
 exact adu G L w0 b A n c hO
theorem aaP (G:GH) (Lo:OL) (w0:World) (b:Nat) (p v:aj) (n:Nat) (xs:List aj) (s:ByteArray) (hp:p=.pointer none∨p=(aI b 0)) (hO:gZ G (bB b p v :: Lo) w0) (hrow:dz 5 1 v n xs Lo) (hn:n+s.size≤140737488355328) :
  Calls prog 48 #[(aI b 0),.string s] w0 (gI w0 G (bB b p v :: Lo) fun u G' L'=>∃ v' fG,L'=bB b (aI b 0) v' :: fG∧dz 5 1 v' (n+s.size) (xs++Lib.strCells s) fG∧G'=G):=by
 obtain ⟨A,c,rfl,-,-⟩:=hrow.shape;refine jZ (N:=19) (T:=[(0,_),(1,_)]) func48 rfl ntmps48 rfl rfl hO ?_;intro a H;refine kP H (SR fun _ K1=>Ra rfl (ak K1 rfl (SR fun _ K2=>Rm rfl ?_)));clear H K1;intro a H;refine gY VP (Li:=[]) (L:=bB b p _ :: Lo) H wn rfl (adv _ _ _ b p A n c hp (Hp.owns (Li:=[]) H.hp)) rfl ?_;clear H;rintro v7 _ L7 a w ⟨rfl,rfl⟩ Bo H;dsimp only [List.nil_append] at H;refine K2 _ _ ?_;clear K2;refine kP H (SR fun _ K3=>Rm rfl (Rm rfl (Rk rfl (aT wY xK 0 rfl rfl (Rm rfl ?_)))));clear H;intro a H;refine alk (Li:=[_]) (Lo:=Lo) vH fO u8B H wn rfl rfl hrow hn rfl ?_;clear H;intro v14 Ud a w Js H;obtain ⟨Tf,c14,rfl,-,-⟩:=Js.shape;refine kH H (Rk rfl (Rf wY rfl ?_));clear H;intro a H;refine bM xK 0 (vs:=[_]) _ H wn rfl rfl rfl rfl rfl rfl rfl rfl ?_;clear H;intro w H;dsimp only [List.set,setRow] at H;refine K3 _ _ ?_;clear K3;refine kP H (SR fun _ K4=>Rm rfl (Rv fO rfl (Ra rfl (ak K4 rfl ?_))));clear H K4;intro a H;refine cK ?_;refine (eG H results48 (.cons (aS H rfl) (.cons (aS H rfl) .nil)) ?_).1;exact H.hp.eX ⟨_,_,rfl,Js,rfl⟩
theorem aan (G:GH) (Lo:OL) (w0:World) (b:Nat) (p v:aj) (l:List UInt8) (hO:gZ G (bB b p v :: Lo) w0) (hrow:dz 5 1 v l.length (Lib.byteCells l) Lo) (h0:l≠[]) :
  Calls prog 49 #[(aI b 0)] w0 (gI w0 G (bB b p v :: Lo) fun u G' L'=>u=.string ⟨l.toArray⟩):=by
 rcases hrow.2 with ⟨-,h,-⟩|⟨b2,cap,cur,rfl,rfl,hc1,hc2,hc3,hc4⟩
 ·exact absurd (List.eq_nil_of_length_eq_zero h) h0
 have hl0:l.length≠0:=fun h=>h0 (List.eq_nil_of_length_eq_zero h);have hml:maxLen=9223372036854775807:=rfl;refine jZ (N:=14) (T:=[(0,_)]) func49 rfl ntmps49 rfl rfl hO ?_;intro a H;refine kP H (SR fun _ K1=>ak K1 rfl (SQ fun _ K2=>?_));clear H K1;intro a H;have H:=H.sub (T':=[(0,_)]) ⟨rfl,aB⟩;refine dI hmx [[],[0],[0,1],[0,1,2],(ra 0 4),[],[5],[5,6],[5,6,7],(ra 5 4),(ra 0 10),(ra 0 11)] [10,11] (by kernel_rfl) [_,_,_,.slice (some ⟨b2,0,none⟩) l.length cap,(aI b2 0),_,_,_,.slice (some ⟨b2,0,none⟩) l.length cap,_] H (aD (Z0 rfl (Rm rfl)) (Z1 0 3 rfl (Rk rfl)) (Z1 1 4 rfl (Rf wY rfl)) (Z1 2 5 rfl (Ro xK 0 rfl)) (aD ?_ (Z0 rfl (Rm rfl)) (Z1 5 8 rfl (Rk rfl)) (Z1 6 9 rfl (Rf wY rfl)) (aD (Z1 7 10 rfl (Ro xK 0 rfl)) (Z1 8 11 rfl (Rl vH rfl)) (bN rfl) (bN rfl) cu))) ?_
 ·refine dB 3 6 rfl rfl fun _ a w G1 hG HT H fin=>?_;refine ZT H wn rfl (by omega) rfl ?_;clear H;intro a H;exact fin H iJ rfl
 clear H;intro a w G mh H hv;have H:=H.aP (hv 4 7 rfl rfl) rfl;have H:=H.aP (hv 9 12 rfl rfl) rfl;clear hv;refine Sc (i:=1) l SI U4 h0 (by omega) H wn rfl rfl rfl (by rw [← hc4,Nat.mul_one]) rfl ?_;clear H;intro fz a w H;dsimp only [List.set] at H;refine kH H (Ra rfl ?_);clear H;intro a H;refine aG ⟨rfl,?_⟩;refine K2 _ _ ?_;clear K2;refine lr H results49 rfl ?_;exact H.hp.eX rfl
end
section
open Go.RowKit
def yO (p:Nat→Bool):Nat→Nat→Nat→Nat
 | 0,i,_=>i
 | f+1,i,j=>if i < j then (if p ((i+j) / 2) then yO p f i ((i+j) / 2) else yO p f ((i+j) / 2+1) j) else i
theorem aiE {p:Nat→Bool} {f i j:Nat} (hf:j - i≤f) (h:i < j):yO p f i j=if p ((i+j) / 2) then yO p (f - 1) i ((i+j) / 2) else yO p (f - 1) ((i+j) / 2+1) j:=by
 match f,hf with
 | 0,hf=>omega
 | f+1,_=>rw [yO,av h];rfl
theorem aiC {p:Nat→Bool} {f i j:Nat} (h:¬ i < j):yO p f i j=i:=by
 match f with
 | 0=>rfl
 | f+1=>rw [yO,ah h]
theorem aiF {z:Int} (h1:0≤z) (h2:z < 18446744073709551616):IntKind.u64.wrap z=z:=by
 simp only [IntKind.wrap,IntKind.bits,IntKind.signed,vO,DL,if_false]
 omega
theorem aiD (n:Nat):((n:Nat):Int).fdiv (2 ^ 1)=((n / 2:Nat):Int):=by
 rw [Int.fdiv_eq_ediv_of_nonneg _ (by decide)];omega
def AJ (a b:Int):Int:=if a < b then -1 else if b < a then 1 else 0
theorem Vb {a b:Int}:AJ a b < 0↔a < b:=by
 unfold AJ
 split
 ·simp [*]
 ·split <;> simp_all
theorem adk {a b:Int}:AJ a b=0↔a=b:=by
 unfold AJ
 split
 ·omega
 ·split <;> omega
def zG (ks:List Int) (t:Int):Nat:=yO (fun h=>decide (¬ ks.getD h 0 < t)) ks.length 0 ks.length
def Cu (ks:List Int) (t:Int):Bool:=decide (ks[zG ks t]?=some t)
theorem ahc {ks:List Int} {t:Int} (h:Cu ks t=true):zG ks t < ks.length:=by
 have:=oG h
 exact (jm.1 this).1
theorem ahb {ks:List Int} {t:Int} {n:Nat} (e:zG ks t=n) (h:n < ks.length):Cu ks t=decide (AJ ks[n] t=0):=by
 unfold Cu
 rw [e,iA h]
 simp [adk]
theorem ahd {ks:List Int} {t:Int} {n:Nat} (e:zG ks t=n) (h:¬ n < ks.length):Cu ks t=false:=by
 unfold Cu
 rw [e,List.getElem?_eq_none (by omega)]
 simp
theorem getD_map {α:Type} {f:α→Int} {l:List α} {n:Nat} (h:n < l.length):(l.map f).getD n 0=f l[n]:=by
 simp [List.getD,h]
end
section
open Go.RowKit
structure Um (P:Program) (s n off:Nat):Prop where
 h:(match P.underlying s with|some (.struct fs)=>(fs[n]?).bind fun f=>((P.underlying f.type).map (fun|.struct _=>true|.array _ _=>true|_=>false)).map fun g=>(f.offset,g)|_=>none)=some (off,false)
theorem Um.parts {P:Program} {s n off:Nat} (h:Um P s n off):∃ fs fl u,P.underlying s=some (.struct fs)∧fs[n]?=some fl∧P.underlying fl.type=some u∧(match u with|.struct _=>true|.array _ _=>true|_=>false)=false∧fl.offset=off:=by
 obtain ⟨h⟩:=h
 split at h
 ·rename_i fs hs
  obtain ⟨fl,hf,h2⟩:=Option.bind_eq_some_iff.1 h
  obtain ⟨b,hb,h3⟩:=lY.1 h2
  obtain ⟨u,hu,h4⟩:=lY.1 hb
  simp only [gU] at h3
  refine ⟨fs,fl,u,hs,hf,hu,?_,h3.1⟩
  rw [← h3.2,← h4]
  cases u <;> rfl
 ·cases h
section
variable {N:Nat} {D:List Deferred} {w0:World} {F:Nat→Prop} {G0 G:GH} {L Li Lo:OL} {T:List (Nat × aj)}
variable {r:Option Nat} {P:Program} {ops:Array Oper} {Q:Exit→Act→World→Prop} {rest:List Oper} {a:Act} {w:World}
variable {d:Nat} {ty:TypeId} {pos:String} {aM:Array Edge} {g:Option (Nat × Bool)}
theorem alD {t:TypeId} {x y z:Operand} {s:ByteArray} {ky kz:IntKind} {p q:Int} (lo hi:Nat) (ht:P.underlying t=some .string) (H:St N D w0 F G0 G L T a w) (hw:Region.wanted ⟨some d,.slice t x (some y) (some z) none,ty,pos,aM,g⟩ (yielded ops a.tmps)=true) (hx:ev T x=some (.string s)) (hy:ev T y=some (.int ky p)) (hz:ev T z=some (.int kz q)) (hp:p=(lo:Int)) (hq:q=(hi:Int)) (h1:lo≤hi) (h2:hi≤s.size) (hd:Nat.blt d N=true)
  (k:∀ a',St N D w0 F G0 G L ((d,.string (s.extract lo hi)) :: T) a' w→WL r P ops Q rest a' w):WL r P ops Q (⟨some d,.slice t x (some y) (some z) none,ty,pos,aM,g⟩ :: rest) a w:=by
 subst hp;subst hq
 have hr:=run_slice_string (P:=P) w t s ky kz (lo:Int) (hi:Int) ht (by omega) (by omega) (by omega)
 rw [Int.toNat_natCast,Int.toNat_natCast] at hr
 refine fq (v:=.string (s.extract lo hi)) (w':=w) hw rfl ?_ (k _ (H.put hd _ H.hp))
 simp only [execOp,H.ev hx,Option.map_some,Option.map_none,H.ev hy,H.ev hz,cZ,run_sliceAt_string w t _ _ _ _ ht,hr,jT,oZ]
theorem Sb {t:TypeId} {x y:Operand} {s:ByteArray} {ky:IntKind} {p:Int} (lo:Nat) (ht:P.underlying t=some .string) (H:St N D w0 F G0 G L T a w) (hw:Region.wanted ⟨some d,.slice t x (some y) none none,ty,pos,aM,g⟩ (yielded ops a.tmps)=true) (hx:ev T x=some (.string s)) (hy:ev T y=some (.int ky p)) (hp:p=(lo:Int)) (h1:lo≤s.size) (hd:Nat.blt d N=true)
  (k:∀ a',St N D w0 F G0 G L ((d,.string (s.extract lo s.size)) :: T) a' w→WL r P ops Q rest a' w):WL r P ops Q (⟨some d,.slice t x (some y) none none,ty,pos,aM,g⟩ :: rest) a w:=by
 subst hp
 have hr:=run_slice_string_l (P:=P) w t s ht ky (lo:Int) (by omega) (by omega)
 rw [Int.toNat_natCast] at hr
 refine fq (v:=.string (s.extract lo s.size)) (w':=w) hw rfl ?_ (k _ (H.put hd _ H.hp))
 simp only [execOp,H.ev hx,Option.map_some,Option.map_none,H.ev hy,cZ,run_sliceAt_string w t _ _ _ _ ht,hr,jT,oZ]
end
end
section
open Go.RowKit
theorem J2:prog.underlying 249=some (.slice 233):=by kernel_rfl
theorem tC:Ty prog 233 6 56 [.int .i64 0,.int .i64 0,.int .i64 0,.int .i64 0,.int .i64 0,.string ⟨#[]⟩] true:=⟨by kernel_rfl,by kernel_rfl⟩
theorem aaf:qJ prog 233 [(0,1),(1,1),(2,1),(3,1),(4,1),(5,1)] [.int .i64 0,.int .i64 0,.int .i64 0,.int .i64 0,.int .i64 0,.string ⟨#[]⟩]:=⟨by kernel_rfl,by kernel_rfl⟩
theorem Vz:∀ args w,(callFunc 156 args).run prog w=.ok (.enter 156 args) w:=enters func156 rfl (by kernel_rfl)
structure jE where
 num:Int
 zO:Int
 low:Int
 high:Int
 std:Int
 name:ByteArray
def jE.dat (x:jE):List Dat:=[li x.num,li x.zO,li x.low,li x.high,li x.std,.lf (.string x.name)]
def jE.cells (x:jE):List aj:=[vi x.num,vi x.zO,vi x.low,vi x.high,vi x.std,.string x.name]
def iL.cells (x:iL):List aj:=[vi x.key,vi x.value]
theorem aiY (G:GH) (x:jE):aY G x.dat x.cells:=by
 simp only [jE.dat,jE.cells,aY]
 exact ⟨_,_,rfl,by simp [ay,Value.oneCell'],_,_,rfl,by simp [ay,Value.oneCell'],_,_,rfl,by simp [ay,Value.oneCell'],_,_,rfl,by simp [ay,Value.oneCell'],_,_,rfl,by simp [ay,Value.oneCell'],_,_,rfl,by simp [ay,Value.oneCell'],rfl⟩
theorem aiX {G:GH} {x:jE} {cs:List aj} (h:aY G x.dat cs):cs=x.cells:=by
 simp only [jE.dat,aY,ay] at h
 obtain ⟨v1,_,rfl,⟨rfl,-⟩,v2,_,rfl,⟨rfl,-⟩,v3,_,rfl,⟨rfl,-⟩,v4,_,rfl,⟨rfl,-⟩,v5,_,rfl,⟨rfl,-⟩,v6,_,rfl,⟨rfl,-⟩,rfl⟩:=h
 rfl
theorem RN {G:GH} {x:iL} {cs:List aj} (h:aY G x.dat cs):cs=x.cells:=by
 simp only [iL.dat,aY,ay] at h
 obtain ⟨v1,_,rfl,⟨rfl,-⟩,v2,_,rfl,⟨rfl,-⟩,rfl⟩:=h
 rfl
theorem Yj (G:GH):∀ (B A:List jE),eY G 6 (A.map jE.dat) (A.map jE.cells).flatten→eY G 6 ((A++B).map jE.dat) ((A++B).map jE.cells).flatten
 | [],A,h=>by rw [jA];exact h
 | x :: B,A,h=>by
  have h2:=h.snoc (aiY G x) rfl;have h3:=Yj G B (A++[x]) (by simpa using h2)
  simpa using h3
theorem aiZ (G:GH) (A:List jE):eY G 6 (A.map jE.dat) (A.map jE.cells).flatten:=Yj G A [] eY.nil
theorem QX {G:GH} {l:List jE} {A:Option Addr} {n c k:Nat} (hv:ay G (.sl 6 (l.map jE.dat)) (.slice A n c)) (hk:k < l.length):∃ b o,A=some ⟨b,o,none⟩∧(∀ j u,[vi l[k].num,vi l[k].zO,vi l[k].low,vi l[k].high,vi l[k].std,.string l[k].name][j]?=some u→aJ G b (o+k*6+j)=some u):=by
 obtain ⟨A',c',he,_,_,hg⟩:=hv.slice
 injection he with e1 e2 e3
 subst e1;obtain ⟨b,o,cs,h1,h2,h3,h4⟩:=hg k l[k].dat (by simp [hk]);obtain rfl:=aiX h4;exact ⟨b,o,h1,h3⟩
theorem MR {G:GH} {l:List iL} {A:Option Addr} {n c k:Nat} (hv:ay G (.sl 2 (l.map iL.dat)) (.slice A n c)) (hk:k < l.length):∃ b o,A=some ⟨b,o,none⟩∧(∀ j u,[vi l[k].key,vi l[k].value][j]?=some u→aJ G b (o+k*2+j)=some u):=by
 obtain ⟨A',c',he,_,_,hg⟩:=hv.slice
 injection he with e1 e2 e3
 subst e1;obtain ⟨b,o,cs,h1,h2,h3,h4⟩:=hg k l[k].dat (by simp [hk]);obtain rfl:=RN h4;exact ⟨b,o,h1,h3⟩
def EB:List jE:=[⟨1,1,0,1073741824,0,⟨#[99,104,97,114,97,99,116,101,114,45,115,116,121,108,101]⟩⟩,⟨2,1,0,1,0,⟨#[98,111,108,100]⟩⟩,⟨3,1,0,1,0,⟨#[105,116,97,108,105,99]⟩⟩,⟨4,1,0,3,0,⟨#[117,110,100,101,114,108,105,110,101]⟩⟩,⟨5,1,2,1638,22,⟨#[115,105,122,101]⟩⟩,⟨6,1,0,16777215,0,⟨#[99,111,108,111,114]⟩⟩,⟨7,1,0,63,0,⟨#[102,111,110,116]⟩⟩,⟨8,1,0,255,0,⟨#[108,97,110,103,117,97,103,101]⟩⟩,⟨9,1,-400,400,0,⟨#[114,97,105,115,101]⟩⟩,⟨10,1,0,1,0,⟨#[104,105,100,100,101,110]⟩⟩,⟨20,2,0,1073741824,0,⟨#[112,97,114,97,103,114,97,112,104,45,115,116,121,108,101]⟩⟩,⟨21,2,0,3,0,⟨#[97,108,105,103,110]⟩⟩,⟨22,2,-31680,31680,0,⟨#[108,101,102,116]⟩⟩,⟨23,2,-31680,31680,0,⟨#[114,105,103,104,116]⟩⟩,⟨24,2,-31680,31680,0,⟨#[102,105,114,115,116]⟩⟩,⟨25,2,0,31680,0,⟨#[98,101,102,111,114,101]⟩⟩,⟨26,2,0,31680,0,⟨#[97,102,116,101,114]⟩⟩,⟨27,2,0,31680,0,⟨#[108,101,97,100,105,110,103]⟩⟩,⟨28,2,0,1,0,⟨#[107,101,101,112,45,110,101,120,116]⟩⟩,⟨29,2,0,1,0,⟨#[107,101,101,112,45,108,105,110,101,115]⟩⟩,⟨30,2,0,1,1,⟨#[119,105,100,111,119]⟩⟩,⟨31,2,0,1,0,⟨#[112,97,103,101,45,98,101,102,111,114,101]⟩⟩,⟨32,2,0,9,0,⟨#[111,117,116,108,105,110,101]⟩⟩,⟨33,2,0,1073741824,0,⟨#[108,105,115,116]⟩⟩,⟨34,2,1,9,1,⟨#[108,101,118,101,108]⟩⟩,⟨35,2,0,32767,0,⟨#[114,101,115,116,97,114,116]⟩⟩,⟨36,2,1,31680,720,⟨#[116,97,98,45,115,116,111,112]⟩⟩,⟨37,2,0,1,0,⟨#[104,121,112,104,101,110,97,116,101]⟩⟩,⟨40,3,720,31680,12240,⟨#[112,97,103,101,45,119,105,100,116,104]⟩⟩,⟨41,3,720,31680,15840,⟨#[112,97,103,101,45,104,101,105,103,104,116]⟩⟩,⟨42,3,0,31680,1440,⟨#[116,111,112]⟩⟩,⟨43,3,0,31680,1440,⟨#[98,111,116,116,111,109]⟩⟩,⟨44,3,0,31680,1440,⟨#[105,110,110,101,114]⟩⟩,⟨45,3,0,31680,1440,⟨#[111,117,116,101,114]⟩⟩,⟨46,3,0,32767,0,⟨#[102,105,114,115,116,45,112,97,103,101]⟩⟩,⟨47,3,1,6,1,⟨#[112,97,103,101,45,102,111,114,109,97,116]⟩⟩,⟨50,4,0,1,0,⟨#[104,101,97,100,101,114]⟩⟩,⟨51,4,0,1,0,⟨#[99,97,110,116,45,115,112,108,105,116]⟩⟩,⟨52,4,0,31680,0,⟨#[114,111,119,45,104,101,105,103,104,116]⟩⟩,⟨60,5,1,32,1,⟨#[99,111,108,117,109,110,45,115,112,97,110]⟩⟩,⟨61,5,0,2,0,⟨#[118,101,114,116,105,99,97,108,45,109,101,114,103,101]⟩⟩,⟨62,5,0,31680,0,⟨#[99,101,108,108,45,119,105,100,116,104]⟩⟩,⟨63,5,0,16777215,16777215,⟨#[115,104,97,100,101]⟩⟩,⟨70,6,0,31680,0,⟨#[116,97,98,108,101,45,119,105,100,116,104]⟩⟩,⟨71,6,0,2,0,⟨#[116,97,98,108,101,45,97,108,105,103,110]⟩⟩]
set_option maxRecDepth 20000 in
theorem aja (G:GH) (w0:World) (hG:Hold G w0):Calls prog 147 #[] w0 (bq w0 G fun u G'=>ay G' (.sl 6 (EB.map jE.dat)) u):=by
 refine eN [] func147 rfl ntmps147 rfl rfl hG ?_;intro a H;refine kP H (SR fun _ K1=>ak K1 rfl (SR fun _ K2=>?_));clear H K1;intro a H;(iterate 45 refine jR aaf [_,_,_,_,_,_] H wn rfl rfl rfl rfl ?_;clear H;intro a H);refine aln J2 tC (EB.map jE.cells) H wn rfl rfl rfl rfl rfl rfl rfl ?_;clear H;intro b46 a w anD H;refine kH H (ak K2 rfl ?_);clear H K2;intro a H;refine lr H results147 rfl ?_;obtain ⟨Gz,hmz,hbz,H⟩:=H.eu;exact H.rt (ay.eT (n:=45) (cap:=45) hbz rfl (bT _) (show 45≤maxLen by decide) (jF (bT _)) (aiZ _ _))
theorem Yd (G:GH) (w0:World) (hG:Hold G w0) (x:Int):Calls prog 156 #[vi x] w0 (bq w0 G fun u G'=>u=.bool false∧G=G'):=by
 refine eN [(0,_)] func156 rfl ntmps156 rfl rfl hG ?_;intro a H;exact kP H (SR fun _ K1=>ak K1 rfl (SR fun _ K2=>Rm rfl (Rm rfl (Rc rfl (ak K2 rfl (LR results156 rfl fun H=>H.rt ⟨by simp,rfl⟩))))))
theorem Oq {x y z:Int} (h:(x < y∧z=-1)∨(y < x∧z=1)∨(x=y∧z=0)):z=AJ x y:=by
 unfold AJ;split
 ·omega
 split <;> omega
theorem adn (G:GH) (w0:World) (hG:Hold G w0) (x y:Int):Calls prog 150 #[vi x,vi y] w0 (bq w0 G fun u G'=>u=vi (AJ x y)):=by
 refine eN [(0,_),(1,_)] func150 rfl ntmps150 rfl rfl hG ?_;intro a H;refine kP H (SR fun _ K1=>ak K1 rfl (SR fun _ K2=>Rm rfl ?_));clear H K1;intro a H;refine s_call Vz H wn rfl (Yd _ _ H.ro x) rfl ?_;clear H;rintro v8 G8 a w ⟨rfl,-⟩ zR H;refine kH H (ak K2 rfl (SR fun _ K3=>Rm rfl ?_));clear H K2;intro a H;refine s_call Vz H wn rfl (Yd _ _ H.ro y) rfl ?_;clear H;rintro v10 wO a w ⟨rfl,-⟩ xB H;refine kH H (ak K3 rfl (SQ fun _ K4=>SR fun _ K5=>Rm rfl (Kz K5 (Cd rfl ?_ ?_)))) <;> clear H K3 K5
 ·intro h11 a H
  cases h11
 intro h11 a H
 try have nN:=dF h11
 refine kP H (Kc K4 (SQ fun _ K6=>SR fun _ K7=>Rm rfl (Kz K7 (Cd rfl ?_ ?_)))) <;> clear H K4 K7
 ·intro gB a H
  cases gB
 intro gB a H
 try have qV:=dF gB
 refine kP H (Kc K6 (SQ fun _ K8=>SR fun _ K9=>Rm rfl (Rm rfl (Rc rfl (Kz K9 (Cd rfl ?_ ?_)))))) <;> clear H K6 K9
 ·intro h16 a H
  try have p16:=dT h16
  exact kP H (SR fun _ aQ=>ak aQ rfl (LR results150 rfl fun H=>H.rt (aC vi (Oq (by omega)))))
 intro h16 a H
 try have p16:=dF h16
 refine kP H (Kc K8 (SQ fun _ bH=>SR fun _ bL=>Rm rfl (Rm rfl (Rc rfl (Kz bL (Cd rfl ?_ ?_)))))) <;> clear H K8 bL
 ·intro h19 a H
  try have wF:=dT h19
  exact kP H (SR fun _ bR=>ak bR rfl (LR results150 rfl fun H=>H.rt (aC vi (Oq (by omega)))))
 intro h19 a H
 try have wF:=dF h19
 exact kP H (Kc bH (SR fun _ bQ=>ak bQ rfl (LR results150 rfl fun H=>H.rt (aC vi (Oq (by omega))))))
end
section
open Go.RowKit
theorem afS:cB prog 233 0 0:=⟨by kernel_rfl⟩
theorem aez:∀ args w,(callFunc 150 args).run prog w=.ok (.enter 150 args) w:=enters func150 rfl (by kernel_rfl)
theorem aav:prog.underlying 240=some (.int .u64):=by kernel_rfl
theorem aey:∀ args w,(callFunc 149 args).run prog w=.ok (.enter 149 args) w:=enters func149 rfl (by kernel_rfl)
theorem U2 (G:GH) (w0:World) (hG:Hold G w0) (x:jE) (t:Int):uG prog (.func (.func 149) #[] #[]) [.agg x.cells.toArray,vi t] w0 (bq w0 G fun u G'=>u=vi (AJ x.num t)):=by
 refine lN (caps:=[]) aey ?_;refine eN [(0,_),(1,_)] func149 rfl ntmps149 rfl rfl hG ?_;intro a H;refine dH (fun _ K1=>?_);refine fC (cs:=[_,_,_,_,_,_]) H wn rfl rfl rfl ?_;clear H;intro b2 a w hb2 H;refine kH H (ak K1 rfl (SR fun _ K2=>aT afS aH 0 rfl rfl (Rm rfl ?_)));clear H K1;intro a H;refine s_call aez H wn rfl (adn _ _ H.ro x.num t) rfl ?_;clear H;rintro v8 G8 a w rfl zR H;exact kH H (ak K2 rfl (LR results149 rfl fun H=>H.rt rfl))
theorem acd (G:GH) (w0:World) (hG:Hold G w0) (l:List jE) (t:Int) (v:aj) (hv:ay G (.sl 6 (l.map jE.dat)) v) (hl:l.length≤4294967296) :
  Calls prog 148 #[v,vi t,.func (.func 149) #[] #[]] w0 (bq w0 G fun u G'=>u=.tuple #[vi (zG (l.map jE.num) t),.bool (Cu (l.map jE.num) t)]):=by
 obtain ⟨A,c,rfl,hc1,hc2,-⟩:=hv.slice;rw [bV] at *;obtain ⟨p,hp⟩:∃ p:Nat→Bool,p=fun h=>decide (¬ (l.map jE.num).getD h 0 < t):=⟨_,rfl⟩
 have hbs:zG (l.map jE.num) t=yO p l.length 0 l.length:=by rw [hp,zG,bV]
 refine eN [(0,_),(1,_),(2,_)] func148 rfl ntmps148 rfl rfl hG ?_;intro a H;refine kP H (SR fun _ K1=>Ra rfl (ak K1 rfl (SR fun _ K2=>Rm rfl (Rl J2 rfl (ak K2 rfl (SR fun _ K3=>Rm rfl (Ra rfl (ak K3 rfl (SQ fun _ K4=>SB ?_)))))))));clear H K1 K2 K3;intro a H;skip;refine eU (ι:=Nat × Nat × Nat × GH) (Tc:=[(0,_),(1,_),(2,_),(8,_)]) (Lc:=[]) (fun gh=>[(9,vi gh.1),(10,vi gh.2.1)]) (fun gh=>[]) (fun gh=>gh.2.2.2) (fun gh=>gh.1≤gh.2.1∧gh.2.1≤l.length∧gh.2.1 - gh.1≤gh.2.2.1∧yO p gh.2.2.1 gh.1 gh.2.1=zG (l.map jE.num) t∧(∀ b o,G b=some o→gh.2.2.2 b=some o)) (fun gh=>gh.2.1 - gh.1) ((0,l.length,l.length,G)) (by exact (H).sub ⟨rfl,rfl,rfl,rfl,rfl,rfl,aB⟩) ?_ ?_
 ·exact ⟨iB _,bT _,Nat.sub_le _ _,hbs.symm,fun _ _ h=>h⟩
 clear H;intro gh a w hI H;obtain ⟨i,j,f,g⟩:=gh;dsimp only at hI H;obtain ⟨hij,hj,hf1,heq,hgm⟩:=hI;have Ew:=hv.mono hgm;dsimp only [lca,bG] at H;refine kP H (SQ fun _ K5=>SR fun _ K6=>Rm rfl (Rm rfl (Rc rfl (Kz K6 (Cd rfl ?_ ?_))))) <;> clear H K6
 ·intro eF a H
  try have mR:=dT eF
  have hlt:i < j:=by omega
  rw [aiE hf1 hlt] at heq;obtain ⟨m,hm⟩:∃ m,m=(i+j) / 2:=⟨_,rfl⟩;rw [← hm] at heq
  have hml:m < l.length:=by omega
  obtain ⟨b,o,rfl,hrow⟩:=QX Ew hml
  have hpm:p m=decide (¬ l[m].num < t):=by rw [hp];dsimp only;rw [getD_map hml]
  rw [hpm] at heq;refine kP H (Kc K5 (SB (SR fun _ K7=>Rm rfl (Rm rfl (Rd rfl ?_)))));clear H K5;intro a H;rw [show ((i:Int)+(j:Int))=((i+j:Nat):Int) by push_cast;rfl] at H;refine GR ((i+j:Nat):Int) aav nW H wn rfl (aiF (by omega) (by omega)) rfl ?_;clear H;intro a H;refine ZQ _ H wn rfl rfl rfl (by decide) rfl ?_;clear H;intro a H;rw [aiD,← hm] at H;refine GR (m:Int) nW aav H wn rfl (JA (by omega) (by omega)) rfl ?_;clear H;intro a H;refine kH H (ak K7 rfl (SR fun _ K8=>Rm rfl (Rm rfl (Rm rfl (Ri J2 tC rfl rfl ?_)))));clear H K7;intro a H;refine bJ tC (cs:=[_,_,_,_,_,_]) H wn rfl rfl (fun j v hj=>H.hp.aJ (hrow j v hj)) rfl ?_;clear H;intro a H;refine kH H (Rm rfl ?_);clear H;intro a H;refine qF H wn rfl rfl (U2 _ _ H.ro l[m] t) rfl ?_;clear H;rintro v30 Du a w rfl Ep H;refine kH H (Rc rfl (Kz K8 (Cd rfl ?_ ?_))) <;> clear H K8
  ·intro h31 a H
   try have p31:=dT h31
   rw [ah (by simpa using Vb.1 p31)] at heq;refine kP H (SC (Rm rfl (Rd rfl (Ra rfl ?_))));clear H;intro a H;refine aG ?_;refine dh ((m+1,j,f - 1,Du)) (by exact (H).sub ⟨rfl,rfl,rfl,rfl,rfl,rfl,aB⟩) ?_ ?_
   ·(try dsimp only);exact ⟨by omega,hj,by omega,heq,fun b o h=>Ep b o (hgm b o h)⟩
   first|omega|(dsimp only;omega)
  intro h31 a H
  try have p31:=dF h31
  rw [av (by simpa using fun h=>p31 (Vb.2 h))] at heq;refine kP H (SC (Rm rfl (Ra rfl ?_)));clear H;intro a H;refine aG ?_;refine dh ((i,m,f - 1,Du)) (by exact (H).sub ⟨rfl,rfl,rfl,rfl,rfl,rfl,aB⟩) ?_ ?_
  ·(try dsimp only);exact ⟨by omega,by omega,by omega,heq,fun b o h=>Ep b o (hgm b o h)⟩
  first|omega|(dsimp only;omega)
 intro eF a H
 try have mR:=dF eF
 refine dW ?_;refine K4 _ _ ?_;clear K4;refine bK (fun _ K9=>?_);rw [aiC (by omega)] at heq;refine kP H (SC (Rm rfl (Rm rfl (Rm rfl (Rc rfl (Rm rfl (Sp 39 rfl ?_ ?_))))))) <;> clear H
 ·intro lg a H
  try have p39:=dT lg
  have hil:i < l.length:=by omega
  obtain ⟨b,o,rfl,hrow⟩:=QX Ew hil;refine kH H (YM lg rfl (YM lg rfl (YM lg rfl (YI J2 tC lg rfl rfl ?_))));clear H;intro a H;refine bJ tC (cs:=[_,_,_,_,_,_]) H (wg H rfl rfl lg) rfl rfl (fun j v hj=>H.hp.aJ (hrow j v hj)) rfl ?_;clear H;intro a H;refine kH H (YM lg rfl ?_);clear H;intro a H;refine qF H (wg H rfl rfl lg) rfl rfl (U2 _ _ H.ro l[i] t) rfl ?_;clear H;rintro v46 G46 a w rfl ahK H;refine kH H (YC lg rfl (Pt lg rfl (Ra rfl (aU K9 rfl ?_))));clear H K9;intro a H;refine cK ?_;refine (eG H results148 (.cons (aS H rfl) (.cons (aS H rfl) .nil)) ?_).1;exact H.rt (by rw [ahb heq.symm (by rw [bV];omega),← heq];simp)
 intro lg a H
 try have p39:=dF lg
 refine kH H (bC lg rfl (bC lg rfl (aR lg rfl (Pf lg rfl (Ra rfl (aU K9 rfl ?_))))));clear H K9;intro a H;refine cK ?_;refine (eG H results148 (.cons (aS H rfl) (.cons (aS H rfl) .nil)) ?_).1;exact H.rt (by rw [ahd heq.symm (by rw [bV];omega),← heq])
end
section
open Go.RowKit
end
section
open Go.RowKit
def vN (fv:aj) (G:GH) (d:List Dat) (b:Bool):Prop:=∀ (G1:GH) (w1:World) (cs:List aj),(∀ b o,G b=some o→G1 b=some o)→Hold G1 w1→aY G1 d cs →
 uG prog fv [.agg cs.toArray] w1 (bq w1 G1 fun u G'=>u=.bool b)
def oq (o:Option Nat):Int:=match o with|some i=>i|none=>-1
theorem Yb (G:GH) (w0:World) (hG:Hold G w0) (l:List bD) (p:bD→Bool) (v fv:aj) (hv:ay G (.sl 6 (l.map bD.dat)) v) (hf:∀ x∈l,vN fv G x.dat (p x)) :
  Calls prog 104 #[v,fv] w0 (bq w0 G fun u G'=>u=vi (oq (l.findIdx? p))):=by
 obtain ⟨A,c,rfl,hc1,hc2,hg⟩:=hv.slice;have hml:maxLen=9223372036854775807:=rfl;rw [bV] at *;refine eN [(0,_),(1,_)] func104 rfl ntmps104 rfl rfl hG ?_;intro a H;refine kP H (SR fun _ K1=>ak K1 rfl (SQ fun _ K2=>SR fun _ K3=>Rm rfl (Rl lD rfl (Rm rfl (Kz K3 (SB ?_))))));clear H K1 K3;intro a H;skip;refine eU (ι:=Nat × GH) (Tc:=[(0,_),(1,_),(7,_)]) (Lc:=[]) (fun gh=>[(8,vi gh.1)]) (fun gh=>[]) (fun gh=>gh.2) (fun gh=>gh.1≤l.length∧(l.take gh.1).findIdx? p=none∧(∀ b o,G b=some o→gh.2 b=some o)) (fun gh=>l.length - gh.1) ((0,G)) (by exact (H).sub ⟨rfl,rfl,rfl,rfl,aB⟩) ?_ ?_
 ·exact ⟨by omega,rfl,fun _ _ h=>h⟩
 clear H;intro gh a w hI H;obtain ⟨k,g⟩:=gh;dsimp only at hI H;obtain ⟨hk,hno,hgm⟩:=hI;dsimp only [lca,bG] at H;refine kP H (SR fun _ K4=>Rc rfl (Kz K4 (SQ fun _ K5=>Cd rfl ?_ ?_))) <;> clear H K4
 ·intro h9 a H
  try have p9:=dT h9
  have hk2:k < l.length:=by omega
  obtain ⟨b,o,cs,rfl,hcl,hrow,hrep⟩:=hg k l[k].dat (by simp [hk2]);obtain ⟨pA,pn,pc,dA,dn,dc,yA,yn,yc,fA,fn,fc,rfl,-⟩:=hrep.row;replace hrow:=fun j u hj=>aO hgm (hrow j u hj);refine kP H (Kc K5 (SQ fun _ K6=>SB (SR fun _ K7=>Rm rfl (ak K7 rfl (SR fun _ K8=>Rm rfl (Rm rfl (Rm rfl (Ri lD jM rfl rfl ?_))))))));clear H K5 K7;intro a H;refine bJ jM (cs:=[_,_,_,_,_,_]) H wn rfl rfl (fun j v hj=>H.hp.aJ (hrow j v hj)) rfl ?_;clear H;intro a H;refine qF H wn rfl rfl (hf _ (iF hk2) _ _ _ hgm H.ro (hrep.mono hgm)) rfl ?_;clear H;rintro v16 ru a w rfl qR H;refine K8 _ _ ?_;clear K8;refine kS H rfl ?_ ?_
  ·intro h16
   try have p16:=dT h16
   refine kP H (SR fun _ K9=>Rm rfl (ak K9 rfl ?_));clear H K9;intro a H;refine lr H results104 rfl ?_
   first
    | exact H.rt (by rw [vD hk2 hno h16];rfl)
    | exact H.rt (by rw [show l.take k=l from jF (by omega)] at hno;rw [hno];rfl)
  intro h16
  try have p16:=dF h16
  refine kP H (Kc K6 (SC (Rd rfl (Rm rfl ?_))));clear H K6;intro a H;refine aG ?_;refine dh ((k+1,ru)) (by exact (H).sub ⟨rfl,rfl,rfl,rfl,aB⟩) ?_ ?_
  ·(try dsimp only);exact ⟨by omega,Bw hk2 hno h16,fun b o h=>qR b o (hgm b o h)⟩
  first|omega|(dsimp only;omega)
 intro h9 a H
 try have p9:=dF h9
 refine dW ?_;refine K2 _ _ ?_;clear K2;refine kP H (SR fun _ aQ=>ak aQ rfl ?_);clear H aQ;intro a H;refine lr H results104 rfl ?_
 first
  | exact H.rt (by rw [vD hk2 hno h16];rfl)
  | exact H.rt (by rw [show l.take k=l from jF (by omega)] at hno;rw [hno];rfl)
end
section
open Go.RowKit
theorem aew:∀ args w,(callFunc 147 args).run prog w=.ok (.enter 147 args) w:=enters func147 rfl (by kernel_rfl)
theorem aex:∀ args w,(callFunc 148 args).run prog w=.ok (.enter 148 args) w:=enters func148 rfl (by kernel_rfl)
theorem qY:prog.underlying 68=some (.slice 3):=by kernel_rfl
theorem aeA:∀ args w,(callFunc 151 args).run prog w=.ok (.enter 151 args) w:=enters func151 rfl (by kernel_rfl)
theorem Vw:∀ args w,(callFunc 137 args).run prog w=.ok (.enter 137 args) w:=enters func137 rfl (by kernel_rfl)
theorem aen:∀ args w,(callFunc 139 args).run prog w=.ok (.enter 139 args) w:=enters func139 rfl (by kernel_rfl)
theorem afT:cB prog 233 1 1:=⟨by kernel_rfl⟩
theorem aem:∀ args w,(callFunc 138 args).run prog w=.ok (.enter 138 args) w:=enters func138 rfl (by kernel_rfl)
theorem afU:cB prog 233 2 2:=⟨by kernel_rfl⟩
theorem afV:cB prog 233 3 3:=⟨by kernel_rfl⟩
def kz:jE:=⟨0,0,0,0,0,⟨#[]⟩⟩
def EA:List Int:=EB.map jE.num
def lZ (k:Int):jE × Bool:=if Cu EA k=true then (EB.getD (zG EA k) kz,true) else (kz,false)
theorem find_spec (G:GH) (w0:World) (hG:Hold G w0) (k:Int):Calls prog 137 #[vi k] w0 (bq w0 G fun u G'=>u=.tuple #[.agg (lZ k).1.cells.toArray,.bool (lZ k).2]):=by
 refine eN [(0,_)] func137 rfl ntmps137 rfl rfl hG ?_;intro a H;refine dH (fun _ K1=>?_);refine eB tC H wn rfl ?_;clear H;intro b2 a w hb2 H;refine kH H (ak K1 rfl (SR fun _ K2=>?_));clear H K1;intro a H;refine s_call aew H wn rfl (aja _ _ H.ro) rfl ?_;clear H;rintro v7 G7 a w hv7 Bo H;obtain ⟨A,c,rfl,hc1,hc2,-⟩:=hv7.slice;rw [bV] at *;refine kH H (ak K2 rfl (SR fun _ K3=>Rm rfl (Rm rfl ?_)));clear H K2;intro a H;refine s_call aex H wn rfl (acd _ _ H.ro EB k _ hv7 (by decide)) rfl ?_;clear H;rintro v11 xP a w rfl L8 H;have hv7:=hv7.mono L8;have hkn:EB.map jE.num=EA:=rfl;rw [hkn] at H;obtain ⟨n,hn⟩:∃ n,n=zG EA k:=⟨_,rfl⟩;obtain ⟨q,hq⟩:∃ q,q=Cu EA k:=⟨_,rfl⟩;rw [← hn,← hq] at H;refine kH H (Rm rfl ?_);clear H;intro a H;(iterate 2 refine jc H wn rfl rfl rfl ?_;clear H;intro a H);refine kH H (Ra rfl (ak K3 rfl (SQ fun _ K4=>SR fun _ K5=>Rm rfl (Rn rfl (Kz K5 (Cd rfl ?_ ?_)))))) <;> clear H K3 K5
 ·intro kV a H
  refine dH (fun _ K6=>?_);refine jR aaf [_,_,_,_,_,_] H wn rfl rfl rfl rfl ?_;clear H;intro a H;refine bM tC 0 (vs:=[_,_,_,_,_,_]) _ H wn rfl rfl rfl rfl rfl rfl rfl rfl ?_;clear H;intro w H;dsimp only [List.set,setRow] at H;refine kH H (ak K6 rfl ?_);clear H K6;intro a H;refine cK ?_;refine (eG H results137 (.cons (ze tC (cs:=[_,_,_,_,_,_]) H rfl rfl (H.hp.dL 0 rfl rfl)) (.cons (aS H rfl) .nil)) ?_).1;exact H.rt (by rw [lZ,ah (by rw [← hq];simpa using kV)];rfl)
 intro kV a H
 try have rU:=dF kV
 have hlt:n < EB.length:=by have:=ahc (ks:=EA) (t:=k) (by rw [← hq];simpa using kV);rw [← hn] at this;simpa [EA] using this
 obtain ⟨b,o,rfl,hrow⟩:=QX hv7 hlt;refine kP H (Kc K4 (SR fun _ K7=>Rm rfl (Rm rfl (Ri J2 tC rfl rfl ?_))));clear H K4;intro a H;refine bJ tC (cs:=[_,_,_,_,_,_]) H wn rfl rfl (fun j v hj=>H.hp.aJ (hrow j v hj)) rfl ?_;clear H;intro a H;refine bM tC 0 (vs:=[_,_,_,_,_,_]) _ H wn rfl rfl rfl rfl rfl rfl rfl rfl ?_;clear H;intro w H;dsimp only [List.set,setRow] at H;refine kH H (ak K7 rfl ?_);clear H K7;intro a H;refine cK ?_;refine (eG H results137 (.cons (ze tC (cs:=[_,_,_,_,_,_]) H rfl rfl (H.hp.dL 0 rfl rfl)) (.cons (aS H rfl) .nil)) ?_).1;exact H.rt (by rw [lZ,av (by rw [← hq];simpa using kV),← hn,List.getD_eq_getElem?_getD,iA hlt];rfl)
def dN (e:Int):List Int:=if e=1∨e=4∨e=5∨e=6 then [1] else if e=2 then [1,2] else if e=3 then [3] else if e=7 then [6] else if e=9 then [4] else if e=10 then [5] else []
theorem fB (G:GH) (A:List Int):eY G 1 (A.map fun k=>[li k]) (A.map vi):=by
 refine ⟨A.map fun k=>[vi k],?_,by simp,fun j r cs hr hc=>?_⟩
 ·induction A with
  | nil=>rfl
  | cons a A ih=>simpa using ih
 rw [qm] at hr hc
 cases h:A[j]? with
 | none=>rw [h] at hr;cases hr
 | some x =>
  rw [h] at hr hc
  cases hr;cases hc
  exact ⟨by simp only [aY];exact ⟨_,_,rfl,by simp [ay,Value.oneCell'],rfl⟩,rfl⟩
theorem agC (G:GH) (w0:World) (hG:Hold G w0) (e:Int):Calls prog 139 #[vi e] w0 (bq w0 G fun u G'=>ay G' (.sl 1 ((dN e).map fun k=>[li k])) u):=by
  refine eN [(0,_)] func139 rfl ntmps139 rfl rfl hG ?_;intro a H;refine kP H (SR fun _ K1=>ak K1 rfl (SQ fun _ K2=>SR fun _ K3=>Rm rfl (Kz K3 (SB (SQ fun _ K4=>SR fun _ K5=>Rc rfl (ak K5 rfl (Cd rfl ?_ ?_))))))) <;> clear H K1 K3 K5
  · intro h4 a H
    try have p4:=dT h4
    refine kP H (Kc K4 (Ct rfl h4 (SR fun _ K6=>?_)));clear H K4;intro a H;refine gX qY aH [_] [_] H wn rfl rfl rfl rfl rfl (by intro i q h;match i,h with|0,h=>exact h|n+1,h=>simp at h) rfl rfl ?_;clear H;intro b9 a w yH H;refine kH H (ak K6 rfl ?_);clear H K6;intro a H;refine lr H results139 rfl ?_
    first
      | exact H.rt (by rw [dN,ah (by omega),ah (by omega),ah (by omega),ah (by omega),ah (by omega),ah (by omega)];exact ay.jH rfl (by decide))
      | (obtain ⟨Gz,hmz,hbz,H⟩:=H.eu
         first
           | exact H.rt (by rw [dN,av (by omega)];exact ay.eT (n:=1) (cap:=1) hbz rfl (bT _) (show 1≤maxLen by decide) rfl (fB _ [1]))
           | exact H.rt (by rw [dN,ah (by omega),av (by omega)];exact ay.eT (n:=2) (cap:=2) hbz rfl (bT _) (show 2≤maxLen by decide) rfl (fB _ [1,2]))
           | exact H.rt (by rw [dN,ah (by omega),ah (by omega),av (by omega)];exact ay.eT (n:=1) (cap:=1) hbz rfl (bT _) (show 1≤maxLen by decide) rfl (fB _ [3]))
           | exact H.rt (by rw [dN,ah (by omega),ah (by omega),ah (by omega),av (by omega)];exact ay.eT (n:=1) (cap:=1) hbz rfl (bT _) (show 1≤maxLen by decide) rfl (fB _ [6]))
           | exact H.rt (by rw [dN,ah (by omega),ah (by omega),ah (by omega),ah (by omega),av (by omega)];exact ay.eT (n:=1) (cap:=1) hbz rfl (bT _) (show 1≤maxLen by decide) rfl (fB _ [4]))
           | exact H.rt (by rw [dN,ah (by omega),ah (by omega),ah (by omega),ah (by omega),ah (by omega),av (by omega)];exact ay.eT (n:=1) (cap:=1) hbz rfl (bT _) (show 1≤maxLen by decide) rfl (fB _ [5])))
  intro h4 a H
  try have p4:=dF h4
  refine kP H (SR fun _ K7=>Rc rfl (ak K7 rfl (Cd rfl ?_ ?_))) <;> clear H K7
  · intro h4 a H
    try have p4:=dT h4
    refine kP H (Kc K4 (Ct rfl h4 (SR fun _ K8=>?_)));clear H K4;intro a H;refine gX qY aH [_] [_] H wn rfl rfl rfl rfl rfl (by intro i q h;match i,h with|0,h=>exact h|n+1,h=>simp at h) rfl rfl ?_;clear H;intro b9 a w yH H;refine kH H (ak K8 rfl ?_);clear H K8;intro a H;refine lr H results139 rfl ?_
    first
      | exact H.rt (by rw [dN,ah (by omega),ah (by omega),ah (by omega),ah (by omega),ah (by omega),ah (by omega)];exact ay.jH rfl (by decide))
      | (obtain ⟨Gz,hmz,hbz,H⟩:=H.eu
         first
           | exact H.rt (by rw [dN,av (by omega)];exact ay.eT (n:=1) (cap:=1) hbz rfl (bT _) (show 1≤maxLen by decide) rfl (fB _ [1]))
           | exact H.rt (by rw [dN,ah (by omega),av (by omega)];exact ay.eT (n:=2) (cap:=2) hbz rfl (bT _) (show 2≤maxLen by decide) rfl (fB _ [1,2]))
           | exact H.rt (by rw [dN,ah (by omega),ah (by omega),av (by omega)];exact ay.eT (n:=1) (cap:=1) hbz rfl (bT _) (show 1≤maxLen by decide) rfl (fB _ [3]))
           | exact H.rt (by rw [dN,ah (by omega),ah (by omega),ah (by omega),av (by omega)];exact ay.eT (n:=1) (cap:=1) hbz rfl (bT _) (show 1≤maxLen by decide) rfl (fB _ [6]))
           | exact H.rt (by rw [dN,ah (by omega),ah (by omega),ah (by omega),ah (by omega),av (by omega)];exact ay.eT (n:=1) (cap:=1) hbz rfl (bT _) (show 1≤maxLen by decide) rfl (fB _ [4]))
           | exact H.rt (by rw [dN,ah (by omega),ah (by omega),ah (by omega),ah (by omega),ah (by omega),av (by omega)];exact ay.eT (n:=1) (cap:=1) hbz rfl (bT _) (show 1≤maxLen by decide) rfl (fB _ [5])))
  intro h4 a H
  try have p4:=dF h4
  refine kP H (SR fun _ K9=>Rc rfl (ak K9 rfl (Cd rfl ?_ ?_))) <;> clear H K9
  · intro h4 a H
    try have p4:=dT h4
    refine kP H (Kc K4 (Ct rfl h4 (SR fun _ aQ=>?_)));clear H K4;intro a H;refine gX qY aH [_] [_] H wn rfl rfl rfl rfl rfl (by intro i q h;match i,h with|0,h=>exact h|n+1,h=>simp at h) rfl rfl ?_;clear H;intro b9 a w yH H;refine kH H (ak aQ rfl ?_);clear H aQ;intro a H;refine lr H results139 rfl ?_
    first
      | exact H.rt (by rw [dN,ah (by omega),ah (by omega),ah (by omega),ah (by omega),ah (by omega),ah (by omega)];exact ay.jH rfl (by decide))
      | (obtain ⟨Gz,hmz,hbz,H⟩:=H.eu
         first
           | exact H.rt (by rw [dN,av (by omega)];exact ay.eT (n:=1) (cap:=1) hbz rfl (bT _) (show 1≤maxLen by decide) rfl (fB _ [1]))
           | exact H.rt (by rw [dN,ah (by omega),av (by omega)];exact ay.eT (n:=2) (cap:=2) hbz rfl (bT _) (show 2≤maxLen by decide) rfl (fB _ [1,2]))
           | exact H.rt (by rw [dN,ah (by omega),ah (by omega),av (by omega)];exact ay.eT (n:=1) (cap:=1) hbz rfl (bT _) (show 1≤maxLen by decide) rfl (fB _ [3]))
           | exact H.rt (by rw [dN,ah (by omega),ah (by omega),ah (by omega),av (by omega)];exact ay.eT (n:=1) (cap:=1) hbz rfl (bT _) (show 1≤maxLen by decide) rfl (fB _ [6]))
           | exact H.rt (by rw [dN,ah (by omega),ah (by omega),ah (by omega),ah (by omega),av (by omega)];exact ay.eT (n:=1) (cap:=1) hbz rfl (bT _) (show 1≤maxLen by decide) rfl (fB _ [4]))
           | exact H.rt (by rw [dN,ah (by omega),ah (by omega),ah (by omega),ah (by omega),ah (by omega),av (by omega)];exact ay.eT (n:=1) (cap:=1) hbz rfl (bT _) (show 1≤maxLen by decide) rfl (fB _ [5])))
  intro h4 a H
  try have p4:=dF h4
  refine kP H (SC (Rc rfl (aU K4 rfl (Cd rfl ?_ ?_)))) <;> clear H K4
  · intro h4 a H
    try have p4:=dT h4
    refine dH (fun _ bH=>?_);refine gX qY aH [_] [_] H wn rfl rfl rfl rfl rfl (by intro i q h;match i,h with|0,h=>exact h|n+1,h=>simp at h) rfl rfl ?_;clear H;intro b9 a w yH H;refine kH H (ak bH rfl ?_);clear H bH;intro a H;refine lr H results139 rfl ?_
    first
      | exact H.rt (by rw [dN,ah (by omega),ah (by omega),ah (by omega),ah (by omega),ah (by omega),ah (by omega)];exact ay.jH rfl (by decide))
      | (obtain ⟨Gz,hmz,hbz,H⟩:=H.eu
         first
           | exact H.rt (by rw [dN,av (by omega)];exact ay.eT (n:=1) (cap:=1) hbz rfl (bT _) (show 1≤maxLen by decide) rfl (fB _ [1]))
           | exact H.rt (by rw [dN,ah (by omega),av (by omega)];exact ay.eT (n:=2) (cap:=2) hbz rfl (bT _) (show 2≤maxLen by decide) rfl (fB _ [1,2]))
           | exact H.rt (by rw [dN,ah (by omega),ah (by omega),av (by omega)];exact ay.eT (n:=1) (cap:=1) hbz rfl (bT _) (show 1≤maxLen by decide) rfl (fB _ [3]))
           | exact H.rt (by rw [dN,ah (by omega),ah (by omega),ah (by omega),av (by omega)];exact ay.eT (n:=1) (cap:=1) hbz rfl (bT _) (show 1≤maxLen by decide) rfl (fB _ [6]))
           | exact H.rt (by rw [dN,ah (by omega),ah (by omega),ah (by omega),ah (by omega),av (by omega)];exact ay.eT (n:=1) (cap:=1) hbz rfl (bT _) (show 1≤maxLen by decide) rfl (fB _ [4]))
           | exact H.rt (by rw [dN,ah (by omega),ah (by omega),ah (by omega),ah (by omega),ah (by omega),av (by omega)];exact ay.eT (n:=1) (cap:=1) hbz rfl (bT _) (show 1≤maxLen by decide) rfl (fB _ [5])))
  intro h4 a H
  try have p4:=dF h4
  refine kP H (SR fun _ bL=>Rc rfl (ak bL rfl (Cd rfl ?_ ?_))) <;> clear H bL
  · intro h10 a H
    try have lV:=dT h10
    refine dH (fun _ bR=>?_);refine gX qY aH [_,_] [_,_] H wn rfl rfl rfl rfl rfl (by intro i q h;match i,h with|0,h=>exact h|1,h=>exact h|n+2,h=>simp at h) rfl rfl ?_;clear H;intro b12 a w Bg H;refine kH H (ak bR rfl ?_);clear H bR;intro a H;refine lr H results139 rfl ?_
    first
      | exact H.rt (by rw [dN,ah (by omega),ah (by omega),ah (by omega),ah (by omega),ah (by omega),ah (by omega)];exact ay.jH rfl (by decide))
      | (obtain ⟨Gz,hmz,hbz,H⟩:=H.eu
         first
           | exact H.rt (by rw [dN,av (by omega)];exact ay.eT (n:=1) (cap:=1) hbz rfl (bT _) (show 1≤maxLen by decide) rfl (fB _ [1]))
           | exact H.rt (by rw [dN,ah (by omega),av (by omega)];exact ay.eT (n:=2) (cap:=2) hbz rfl (bT _) (show 2≤maxLen by decide) rfl (fB _ [1,2]))
           | exact H.rt (by rw [dN,ah (by omega),ah (by omega),av (by omega)];exact ay.eT (n:=1) (cap:=1) hbz rfl (bT _) (show 1≤maxLen by decide) rfl (fB _ [3]))
           | exact H.rt (by rw [dN,ah (by omega),ah (by omega),ah (by omega),av (by omega)];exact ay.eT (n:=1) (cap:=1) hbz rfl (bT _) (show 1≤maxLen by decide) rfl (fB _ [6]))
           | exact H.rt (by rw [dN,ah (by omega),ah (by omega),ah (by omega),ah (by omega),av (by omega)];exact ay.eT (n:=1) (cap:=1) hbz rfl (bT _) (show 1≤maxLen by decide) rfl (fB _ [4]))
           | exact H.rt (by rw [dN,ah (by omega),ah (by omega),ah (by omega),ah (by omega),ah (by omega),av (by omega)];exact ay.eT (n:=1) (cap:=1) hbz rfl (bT _) (show 1≤maxLen by decide) rfl (fB _ [5])))
  intro h10 a H
  try have lV:=dF h10
  refine kP H (SR fun _ bQ=>Rc rfl (ak bQ rfl (Cd rfl ?_ ?_))) <;> clear H bQ
  · intro gB a H
    try have qV:=dT gB
    refine dH (fun _ dJ=>?_);refine gX qY aH [_] [_] H wn rfl rfl rfl rfl rfl (by intro i q h;match i,h with|0,h=>exact h|n+1,h=>simp at h) rfl rfl ?_;clear H;intro b15 a w ahh H;refine kH H (ak dJ rfl ?_);clear H dJ;intro a H;refine lr H results139 rfl ?_
    first
      | exact H.rt (by rw [dN,ah (by omega),ah (by omega),ah (by omega),ah (by omega),ah (by omega),ah (by omega)];exact ay.jH rfl (by decide))
      | (obtain ⟨Gz,hmz,hbz,H⟩:=H.eu
         first
           | exact H.rt (by rw [dN,av (by omega)];exact ay.eT (n:=1) (cap:=1) hbz rfl (bT _) (show 1≤maxLen by decide) rfl (fB _ [1]))
           | exact H.rt (by rw [dN,ah (by omega),av (by omega)];exact ay.eT (n:=2) (cap:=2) hbz rfl (bT _) (show 2≤maxLen by decide) rfl (fB _ [1,2]))
           | exact H.rt (by rw [dN,ah (by omega),ah (by omega),av (by omega)];exact ay.eT (n:=1) (cap:=1) hbz rfl (bT _) (show 1≤maxLen by decide) rfl (fB _ [3]))
           | exact H.rt (by rw [dN,ah (by omega),ah (by omega),ah (by omega),av (by omega)];exact ay.eT (n:=1) (cap:=1) hbz rfl (bT _) (show 1≤maxLen by decide) rfl (fB _ [6]))
           | exact H.rt (by rw [dN,ah (by omega),ah (by omega),ah (by omega),ah (by omega),av (by omega)];exact ay.eT (n:=1) (cap:=1) hbz rfl (bT _) (show 1≤maxLen by decide) rfl (fB _ [4]))
           | exact H.rt (by rw [dN,ah (by omega),ah (by omega),ah (by omega),ah (by omega),ah (by omega),av (by omega)];exact ay.eT (n:=1) (cap:=1) hbz rfl (bT _) (show 1≤maxLen by decide) rfl (fB _ [5])))
  intro gB a H
  try have qV:=dF gB
  refine kP H (SR fun _ dO=>Rc rfl (ak dO rfl (Cd rfl ?_ ?_))) <;> clear H dO
  · intro h16 a H
    try have p16:=dT h16
    refine dH (fun _ dK=>?_);refine gX qY aH [_] [_] H wn rfl rfl rfl rfl rfl (by intro i q h;match i,h with|0,h=>exact h|n+1,h=>simp at h) rfl rfl ?_;clear H;intro b18 a w LV H;refine kH H (ak dK rfl ?_);clear H dK;intro a H;refine lr H results139 rfl ?_
    first
      | exact H.rt (by rw [dN,ah (by omega),ah (by omega),ah (by omega),ah (by omega),ah (by omega),ah (by omega)];exact ay.jH rfl (by decide))
      | (obtain ⟨Gz,hmz,hbz,H⟩:=H.eu
         first
           | exact H.rt (by rw [dN,av (by omega)];exact ay.eT (n:=1) (cap:=1) hbz rfl (bT _) (show 1≤maxLen by decide) rfl (fB _ [1]))
           | exact H.rt (by rw [dN,ah (by omega),av (by omega)];exact ay.eT (n:=2) (cap:=2) hbz rfl (bT _) (show 2≤maxLen by decide) rfl (fB _ [1,2]))
           | exact H.rt (by rw [dN,ah (by omega),ah (by omega),av (by omega)];exact ay.eT (n:=1) (cap:=1) hbz rfl (bT _) (show 1≤maxLen by decide) rfl (fB _ [3]))
           | exact H.rt (by rw [dN,ah (by omega),ah (by omega),ah (by omega),av (by omega)];exact ay.eT (n:=1) (cap:=1) hbz rfl (bT _) (show 1≤maxLen by decide) rfl (fB _ [6]))
           | exact H.rt (by rw [dN,ah (by omega),ah (by omega),ah (by omega),ah (by omega),av (by omega)];exact ay.eT (n:=1) (cap:=1) hbz rfl (bT _) (show 1≤maxLen by decide) rfl (fB _ [4]))
           | exact H.rt (by rw [dN,ah (by omega),ah (by omega),ah (by omega),ah (by omega),ah (by omega),av (by omega)];exact ay.eT (n:=1) (cap:=1) hbz rfl (bT _) (show 1≤maxLen by decide) rfl (fB _ [5])))
  intro h16 a H
  try have p16:=dF h16
  refine kP H (SR fun _ eO=>Rc rfl (ak eO rfl (Cd rfl ?_ ?_))) <;> clear H eO
  · intro h19 a H
    try have wF:=dT h19
    refine dH (fun _ gH=>?_);refine gX qY aH [_] [_] H wn rfl rfl rfl rfl rfl (by intro i q h;match i,h with|0,h=>exact h|n+1,h=>simp at h) rfl rfl ?_;clear H;intro b21 a w anx H;refine kH H (ak gH rfl ?_);clear H gH;intro a H;refine lr H results139 rfl ?_
    first
      | exact H.rt (by rw [dN,ah (by omega),ah (by omega),ah (by omega),ah (by omega),ah (by omega),ah (by omega)];exact ay.jH rfl (by decide))
      | (obtain ⟨Gz,hmz,hbz,H⟩:=H.eu
         first
           | exact H.rt (by rw [dN,av (by omega)];exact ay.eT (n:=1) (cap:=1) hbz rfl (bT _) (show 1≤maxLen by decide) rfl (fB _ [1]))
           | exact H.rt (by rw [dN,ah (by omega),av (by omega)];exact ay.eT (n:=2) (cap:=2) hbz rfl (bT _) (show 2≤maxLen by decide) rfl (fB _ [1,2]))
           | exact H.rt (by rw [dN,ah (by omega),ah (by omega),av (by omega)];exact ay.eT (n:=1) (cap:=1) hbz rfl (bT _) (show 1≤maxLen by decide) rfl (fB _ [3]))
           | exact H.rt (by rw [dN,ah (by omega),ah (by omega),ah (by omega),av (by omega)];exact ay.eT (n:=1) (cap:=1) hbz rfl (bT _) (show 1≤maxLen by decide) rfl (fB _ [6]))
           | exact H.rt (by rw [dN,ah (by omega),ah (by omega),ah (by omega),ah (by omega),av (by omega)];exact ay.eT (n:=1) (cap:=1) hbz rfl (bT _) (show 1≤maxLen by decide) rfl (fB _ [4]))
           | exact H.rt (by rw [dN,ah (by omega),ah (by omega),ah (by omega),ah (by omega),ah (by omega),av (by omega)];exact ay.eT (n:=1) (cap:=1) hbz rfl (bT _) (show 1≤maxLen by decide) rfl (fB _ [5])))
  intro h19 a H
  try have wF:=dF h19
  refine kP H (SR fun _ fE=>Rc rfl (ak fE rfl (Cd rfl ?_ ?_))) <;> clear H fE
  · intro h22 a H
    try have iC:=dT h22
    refine dH (fun _ gL=>?_);refine gX qY aH [_] [_] H wn rfl rfl rfl rfl rfl (by intro i q h;match i,h with|0,h=>exact h|n+1,h=>simp at h) rfl rfl ?_;clear H;intro b24 a w anz H;refine kH H (ak gL rfl ?_);clear H gL;intro a H;refine lr H results139 rfl ?_
    first
      | exact H.rt (by rw [dN,ah (by omega),ah (by omega),ah (by omega),ah (by omega),ah (by omega),ah (by omega)];exact ay.jH rfl (by decide))
      | (obtain ⟨Gz,hmz,hbz,H⟩:=H.eu
         first
           | exact H.rt (by rw [dN,av (by omega)];exact ay.eT (n:=1) (cap:=1) hbz rfl (bT _) (show 1≤maxLen by decide) rfl (fB _ [1]))
           | exact H.rt (by rw [dN,ah (by omega),av (by omega)];exact ay.eT (n:=2) (cap:=2) hbz rfl (bT _) (show 2≤maxLen by decide) rfl (fB _ [1,2]))
           | exact H.rt (by rw [dN,ah (by omega),ah (by omega),av (by omega)];exact ay.eT (n:=1) (cap:=1) hbz rfl (bT _) (show 1≤maxLen by decide) rfl (fB _ [3]))
           | exact H.rt (by rw [dN,ah (by omega),ah (by omega),ah (by omega),av (by omega)];exact ay.eT (n:=1) (cap:=1) hbz rfl (bT _) (show 1≤maxLen by decide) rfl (fB _ [6]))
           | exact H.rt (by rw [dN,ah (by omega),ah (by omega),ah (by omega),ah (by omega),av (by omega)];exact ay.eT (n:=1) (cap:=1) hbz rfl (bT _) (show 1≤maxLen by decide) rfl (fB _ [4]))
           | exact H.rt (by rw [dN,ah (by omega),ah (by omega),ah (by omega),ah (by omega),ah (by omega),av (by omega)];exact ay.eT (n:=1) (cap:=1) hbz rfl (bT _) (show 1≤maxLen by decide) rfl (fB _ [5])))
  intro h22 a H
  try have iC:=dF h22
  refine kP H (Kc K2 (SR fun _ jl=>ak jl rfl ?_));clear H K2 jl;intro a H;refine lr H results139 rfl ?_
  first
    | exact H.rt (by rw [dN,ah (by omega),ah (by omega),ah (by omega),ah (by omega),ah (by omega),ah (by omega)];exact ay.jH rfl (by decide))
    | (obtain ⟨Gz,hmz,hbz,H⟩:=H.eu
       first
         | exact H.rt (by rw [dN,av (by omega)];exact ay.eT (n:=1) (cap:=1) hbz rfl (bT _) (show 1≤maxLen by decide) rfl (fB _ [1]))
         | exact H.rt (by rw [dN,ah (by omega),av (by omega)];exact ay.eT (n:=2) (cap:=2) hbz rfl (bT _) (show 2≤maxLen by decide) rfl (fB _ [1,2]))
         | exact H.rt (by rw [dN,ah (by omega),ah (by omega),av (by omega)];exact ay.eT (n:=1) (cap:=1) hbz rfl (bT _) (show 1≤maxLen by decide) rfl (fB _ [3]))
         | exact H.rt (by rw [dN,ah (by omega),ah (by omega),ah (by omega),av (by omega)];exact ay.eT (n:=1) (cap:=1) hbz rfl (bT _) (show 1≤maxLen by decide) rfl (fB _ [6]))
         | exact H.rt (by rw [dN,ah (by omega),ah (by omega),ah (by omega),ah (by omega),av (by omega)];exact ay.eT (n:=1) (cap:=1) hbz rfl (bT _) (show 1≤maxLen by decide) rfl (fB _ [4]))
         | exact H.rt (by rw [dN,ah (by omega),ah (by omega),ah (by omega),ah (by omega),ah (by omega),av (by omega)];exact ay.eT (n:=1) (cap:=1) hbz rfl (bT _) (show 1≤maxLen by decide) rfl (fB _ [5])))
theorem aiN {G:GH} {l:List Int} {A:Option Addr} {n c k:Nat} (hv:ay G (.sl 1 (l.map fun k=>[li k])) (.slice A n c)) (hk:k < l.length):∃ b o,A=some ⟨b,o,none⟩∧aJ G b (o+k*1)=some (vi l[k]):=by
 obtain ⟨A',c',he,_,_,hg⟩:=hv.slice
 injection he with e1 e2 e3
 subst e1;obtain ⟨b,o,cs,h1,h2,h3,h4⟩:=hg k [li l[k]] (by simp [hk])
 simp only [aY,ay] at h4
 obtain ⟨v1,_,rfl,⟨rfl,-⟩,rfl⟩:=h4;exact ⟨b,o,h1,h3 0 _ rfl⟩
theorem aiJ (G:GH) (w0:World) (hG:Hold G w0) (l:List Int) (t:Int) (v:aj) (hv:ay G (.sl 1 (l.map fun k=>[li k])) v) :
  Calls prog 151 #[v,vi t] w0 (bq w0 G fun u G'=>u=vi (oq (l.findIdx? fun x=>decide (t=x)))):=by
 obtain ⟨A,c,rfl,hc1,hc2,-⟩:=hv.slice;have hml:maxLen=9223372036854775807:=rfl;rw [bV] at *;refine eN [(0,_),(1,_)] func151 rfl ntmps151 rfl rfl hG ?_;intro a H;refine kP H (SR fun _ K1=>ak K1 rfl (SQ fun _ K2=>SR fun _ K3=>Rm rfl (Rl qY rfl (Rm rfl (Kz K3 (SB ?_))))));clear H K1 K3;intro a H;skip;refine eU (ι:=Nat) (Tc:=[(0,_),(1,_),(7,_)]) (Lc:=[]) (fun gh=>[(8,vi gh)]) (fun gh=>[]) (fun gh=>G) (fun gh=>gh≤l.length∧(l.take gh).findIdx? (fun x=>decide (t=x))=none) (fun gh=>l.length - gh) (0) (by exact (H).sub ⟨rfl,rfl,rfl,rfl,aB⟩) ?_ ?_
 ·exact ⟨iB _,rfl⟩
 clear H;intro gh a w hI H;obtain ⟨k,hgh⟩:∃ x,x=gh:=⟨_,rfl⟩;subst hgh;obtain ⟨hk,hno⟩:=hI;dsimp only [lca,bG] at H;refine kP H (SR fun _ K4=>Rc rfl (Kz K4 (SQ fun _ K5=>Cd rfl ?_ ?_))) <;> clear H K4
 ·intro h9 a H
  try have p9:=dT h9
  have hk2:k < l.length:=by omega
  obtain ⟨b,o,rfl,hrow⟩:=aiN hv hk2;refine kP H (Kc K5 (SQ fun _ K6=>SB (SR fun _ K7=>Rm rfl (ak K7 rfl (SR fun _ K8=>Rm rfl (Rm rfl (Rm rfl (Ri qY aH rfl rfl (Rg aH rfl (by assumption) ?_)))))))));clear H K5 K7;intro a H;refine kH H (Rc rfl (Kz K8 (Cd rfl ?_ ?_))) <;> clear H K8
  ·intro h16 a H
   try have p16:=dT h16
   exact kP H (SR fun _ K9=>Rm rfl (ak K9 rfl (LR results151 rfl fun H=>H.rt (by rw [vD hk2 hno (by simpa using p16)];rfl))))
  intro h16 a H
  try have p16:=dF h16
  refine kP H (Kc K6 (SC (Rd rfl (Rm rfl ?_))));clear H K6;intro a H;refine aG ?_;refine dh ((k+1)) (by exact (H).sub ⟨rfl,rfl,rfl,rfl,aB⟩) ?_ ?_
  ·exact ⟨by omega,Bw hk2 hno (by simpa using p16)⟩
  first|omega|(dsimp only;omega)
 intro h9 a H
 try have p9:=dF h9
 refine dW ?_;refine K2 _ _ ?_;clear K2;exact kP H (SR fun _ aQ=>ak aQ rfl (LR results151 rfl fun H=>H.rt (by rw [show l.take k=l from jF (by omega)] at hno;rw [hno];rfl)))
theorem adq (G:GH) (w0:World) (hG:Hold G w0) (l:List Int) (t:Int) (v:aj) (hv:ay G (.sl 1 (l.map fun k=>[li k])) v) :
  Calls prog 138 #[v,vi t] w0 (bq w0 G fun u G'=>u=.bool (decide (t∈l))):=by
 obtain ⟨A,c,rfl,hc1,hc2,-⟩:=hv.slice;rw [bV] at *;refine eN [(0,_),(1,_)] func138 rfl ntmps138 rfl rfl hG ?_;intro a H;refine kP H (SR fun _ K1=>ak K1 rfl (SR fun _ K2=>Rm rfl (Rm rfl ?_)));clear H K1;intro a H;refine s_call aeA H wn rfl (aiJ _ _ H.ro l t _ hv) rfl ?_;clear H;rintro v7 G7 a w rfl Bo H;refine kH H (Rc rfl (ak K2 rfl ?_));clear H K2;intro a H;refine lr H results138 rfl ?_
 exact H.rt (by
  congr 1
  cases h:l.findIdx? (fun x=>decide (t=x)) with
  | none =>
   rw [List.findIdx?_eq_none_iff] at h;have:t∉l:=fun hm=>absurd (h t hm) (by simp)
   simp [oq,this]
  | some i =>
   obtain ⟨hi,he,-⟩:=List.findIdx?_eq_some_iff_getElem.1 h
   have:t∈l:=by rw [oG he];exact iF _
   simp [oq,this])
def zM (e k:Int):Bool:=(lZ k).2 && decide ((lZ k).1.zO∈dN e)
theorem WB (G:GH) (w0:World) (hG:Hold G w0) (e k:Int):Calls prog 125 #[vi e,vi k] w0 (bq w0 G fun u G'=>u=.bool (zM e k)):=by
 refine eN [(0,_),(1,_)] func125 rfl ntmps125 rfl rfl hG ?_;intro a H;refine kP H (SR fun _ K1=>ak K1 rfl (SR fun _ K2=>Rm rfl ?_));clear H K1;intro a H;refine s_call Vw H wn rfl (find_spec _ _ H.ro k) rfl ?_;clear H;rintro v9 G9 a w rfl yK H;dsimp only [jE.cells] at H;refine kH H (Rm rfl ?_);clear H;intro a H;(iterate 2 refine jc H wn rfl rfl rfl ?_;clear H;intro a H);refine eB tC H wn rfl ?_;clear H;intro b5 a w hb5 H;refine bM tC 0 (vs:=[_,_,_,_,_,_]) _ H wn rfl rfl rfl rfl rfl rfl rfl rfl ?_;clear H;intro w H;dsimp only [List.set,setRow] at H;refine kH H (ak K2 rfl (SQ fun _ K3=>?_));clear H K2;intro a H
 by_cases c0:(lZ k).2=true
 ·skip
  have oL:∀ (bE:Nat) (v:aj) (G G':GH),(∀ k o,G k=some o→G' k=some o)→(fun (bE:Nat) (v:aj) (G:GH)=>match bE with|0=>v=.bool (lZ k).2|1=>v=.bool (decide ((lZ k).2=true))|2=>v=vi e|3=>(lZ k).2=true→ay G (.sl 1 ((dN e).map fun k=>[li k])) v|4=>v=(aI b5 1)|5=>v=vi (lZ k).1.zO|6=>v=.bool (decide ((lZ k).1.zO∈dN e))|7=>v=.bool (zM e k)|_=>True) bE v G→(fun (bE:Nat) (v:aj) (G:GH)=>match bE with|0=>v=.bool (lZ k).2|1=>v=.bool (decide ((lZ k).2=true))|2=>v=vi e|3=>(lZ k).2=true→ay G (.sl 1 ((dN e).map fun k=>[li k])) v|4=>v=(aI b5 1)|5=>v=vi (lZ k).1.zO|6=>v=.bool (decide ((lZ k).1.zO∈dN e))|7=>v=.bool (zM e k)|_=>True) bE v G':=by
   intro bE v G G' hm h
   match bE,h with
   | 0,h=>exact h
   | 1,h=>exact h
   | 2,h=>exact h
   | 3,h=>exact fun hf=>(h hf).mono hm
   | 4,h=>exact h
   | 5,h=>exact h
   | 6,h=>exact h
   | 7,h=>exact h
   | 8,h=>exact trivial
   | _+9,h=>exact trivial
  refine xZ (hmx) [[],[0],[0,1],[0,1,2],[0,1],[0,1,4],(ra 0 6),(ra 0 7),(ra 0 8)] [8] (by kernel_rfl) (by kernel_rfl) (fun (bE:Nat) (v:aj) (G:GH)=>match bE with|0=>v=.bool (lZ k).2|1=>v=.bool (decide ((lZ k).2=true))|2=>v=vi e|3=>(lZ k).2=true→ay G (.sl 1 ((dN e).map fun k=>[li k])) v|4=>v=(aI b5 1)|5=>v=vi (lZ k).1.zO|6=>v=.bool (decide ((lZ k).1.zO∈dN e))|7=>v=.bool (zM e k)|_=>True) oL H ?_ ?_
  ·clear H;refine aD ?_ ?_ ?_ ?_ (aD ?_ ?_ ?_ ?_ (aZ (bN rfl) cu))
   ·refine bX [] rfl trivial (by kernel_rfl) oL rfl rfl ?_;intro aV a w G1 hG HT H fin;exact kH H (Rm rfl fun _ H=>fin H iJ rfl)
   ·refine bX [(0,12,_)] rfl ⟨fun _ _ h=>h,aB⟩ (by kernel_rfl) oL rfl rfl ?_;intro aV a w G1 hG HT H fin;refine kH H (Rm rfl ?_);clear H;intro a H;exact fin H iJ (by simp)
   ·refine bX [(1,13,_)] rfl ⟨fun _ _ h=>h,aB⟩ (by kernel_rfl) oL rfl rfl ?_;intro aV a w G1 hG HT H fin;exact kH H (YM (aA c0) rfl fun _ H=>fin H iJ rfl)
   ·refine bX [(2,14,_),(1,13,_)] rfl ⟨fun _ _ h=>h,fun _ _ h=>h,aB⟩ (by kernel_rfl) oL rfl rfl ?_;intro aV a w G1 hG HT H fin;refine s_call aen H (wg H rfl rfl (aA c0)) rfl (agC _ _ H.ro e) rfl ?_;clear H;rintro v15 Dt a w CG Eh H;exact fin H Eh (by first|exact fun _=>CG|rfl)
   ·refine bX [(1,13,_)] rfl ⟨fun _ _ h=>h,aB⟩ (by kernel_rfl) oL rfl rfl ?_;intro aV a w G1 hG HT H fin;exact kH H (YF afT (aA c0) rfl fun _ H=>fin H iJ rfl)
   ·refine bX [(4,16,_),(1,13,_)] rfl ⟨fun _ _ h=>h,fun _ _ h=>h,aB⟩ (by kernel_rfl) oL rfl rfl ?_;intro aV a w G1 hG HT H fin;exact kH H (YO aH 0 (aA c0) rfl fun _ H=>fin H iJ rfl)
   ·intro aV a w G1 _ aX hc hG HT hv;have H:=HT;clear aX;obtain ⟨u15,aiv,CG⟩:=hv 3 15 (hc 3 (by decide)) rfl;(try dsimp only at CG);have H:=H.iT aiv;have H:=H.aP (hv 5 17 (hc 5 (by decide)) rfl) rfl;have H:=H.aP (hv 1 13 (hc 1 (by decide)) rfl) rfl;have Hb:=H.full;have H:=Hb;clear hc;refine s_call aem H (wg H rfl rfl (aA c0)) rfl (adq _ _ H.ro _ _ _ (CG c0)) rfl ?_;clear H;rintro v18 Kj a w rfl agE H;refine aG ⟨rfl,?_⟩;exact gG (by kernel_rfl) oL rfl rfl HT Hb hG hv agE (rfl) H
   refine bX [(1,13,_),(6,18,_)] rfl ⟨fun _ _ h=>h,fun _ _ h=>h,aB⟩ (by kernel_rfl) oL rfl rfl ?_;intro aV a w G1 hG HT H fin;refine kH H (Pt (aA c0) rfl ?_);clear H;intro a H;exact fin H iJ (by unfold zM;simp_all)
  clear H;intro a w G Bc H hv;have H:=H.aP (hv 7 19 rfl rfl) rfl;clear hv;refine kH H (Ra rfl ?_);clear H;intro a H;refine aG ⟨rfl,?_⟩;refine K3 _ _ ?_;clear K3;refine lr H results125 rfl ?_;exact H.rt rfl
 skip;refine dI hmx [[],[0],[0,1],[0,1,2],[0,1],[0,1,4],(ra 0 6),(ra 0 7),(ra 0 8)] [8] (by kernel_rfl) [_,.bool (decide ((lZ k).2=true)),undef,undef,undef,undef,undef,.bool (zM e k)] H (aD (Z0 rfl (Rm rfl)) ?_ (aK (j:=1) (by kernel_rfl) (fun _ _ _ _ _ h=>h) rfl rfl rfl rfl rfl (fun _ _ h=>aL h (aF (aN c0))) rfl (fun _=>rfl)) ?_ (aD (aK (j:=1) (by kernel_rfl) (fun _ _ _ _ _ h=>h) rfl rfl rfl rfl rfl (fun _ _ h=>aL h (aF (aN c0))) rfl (fun _=>rfl)) (aK (j:=1) (by kernel_rfl) (fun _ _ _ _ _ h=>h) rfl rfl rfl rfl rfl (fun _ _ h=>aL h (aF (aN c0))) rfl (fun _=>rfl)) (aK (j:=1) (by kernel_rfl) (fun _ _ _ _ _ h=>h) rfl rfl rfl rfl rfl (fun _ _ h=>aL h (aF (aN c0))) rfl (fun _=>rfl)) ?_ (aZ (bN rfl) cu))) ?_
 ·refine dB 0 12 rfl rfl fun _ a w G1 hG HT H fin=>?_;refine kH H (Rm rfl ?_);clear H;intro a H;exact fin H iJ (by show _=_;simp)
 ·intro aV a w G1 _ aX hc hG HT hv;have H:=HT;clear aX;have H:=H.aP (hv 2 14 (hc 2 (by decide)) rfl) rfl;have H:=H.aP (hv 1 13 (hc 1 (by decide)) rfl) rfl;have Hb:=H.full;have H:=Hb;clear hc;refine kH H (Ks (aN c0) rfl ?_);clear H;intro a H;refine aG ⟨rfl,?_⟩;exact gG (by kernel_rfl) (fun _ _ _ _ _ h=>h) rfl rfl HT Hb hG hv (fun _ _ h=>h) (by first|exact fun _=>CG|rfl) H
 ·refine bZ 1 13 6 18 rfl rfl fun _ a w G1 hG HT H fin=>?_;refine kH H (Pf (aN c0) rfl ?_);clear H;intro a H;exact fin H iJ (by show _=_;unfold zM;simp_all)
 clear H;intro a w G Bc H hv;have H:=H.aP (hv 7 19 rfl rfl) rfl;clear hv;refine kH H (Ra rfl ?_);clear H;intro a H;refine aG ⟨rfl,?_⟩;refine K3 _ _ ?_;clear K3;refine lr H results125 rfl ?_;exact H.rt rfl
def uN (k v:Int):Int:=if (lZ k).2=false then 4 else if v < (lZ k).1.low∨(lZ k).1.high < v then 5 else 0
theorem Oi (G:GH) (w0:World) (hG:Hold G w0) (k x:Int):Calls prog 126 #[vi k,vi x] w0 (bq w0 G fun u G'=>u=vi (uN k x)):=by
 refine eN [(0,_),(1,_)] func126 rfl ntmps126 rfl rfl hG ?_;intro a H;refine kP H (SR fun _ K1=>ak K1 rfl (SR fun _ K2=>Rm rfl ?_));clear H K1;intro a H;refine s_call Vw H wn rfl (find_spec _ _ H.ro k) rfl ?_;clear H;rintro v9 G9 a w rfl yK H;dsimp only [jE.cells] at H;refine kH H (Rm rfl ?_);clear H;intro a H;(iterate 2 refine jc H wn rfl rfl rfl ?_;clear H;intro a H);refine eB tC H wn rfl ?_;clear H;intro b5 a w hb5 H;refine bM tC 0 (vs:=[_,_,_,_,_,_]) _ H wn rfl rfl rfl rfl rfl rfl rfl rfl ?_;clear H;intro w H;dsimp only [List.set,setRow] at H;refine kH H (ak K2 rfl (SQ fun _ K3=>SB (SR fun _ K4=>Rm rfl (Rn rfl (ak K4 rfl (Cd rfl ?_ ?_)))))) <;> clear H K2 K4
 ·intro h12 a H
  try have qE:=dT h12
  exact kP H (SR fun _ K5=>ak K5 rfl (LR results126 rfl fun H=>H.rt (by unfold uN;simp_all)))
 intro h12 a H
 try have qE:=dF h12
 refine kP H (SR fun _ K6=>Rm rfl (aT afU aH 0 rfl rfl (Rc rfl (Rm rfl (Sp 20 rfl ?_ ?_))))) <;> clear H
 ·intro h20 a H
  try have BF:=dT h20
  exact kH H (aR h20 rfl (aR h20 rfl (Pt h20 rfl (ak K6 rfl (Ct rfl rfl (SR fun _ K7=>ak K7 rfl (LR results126 rfl fun H=>H.rt (by unfold uN;simp_all))))))))
 intro h20 a H
 try have BF:=dF h20
 refine kH H (YM h20 rfl (YF afV h20 rfl (YO aH 0 h20 rfl (YC h20 rfl (Pf h20 rfl (ak K6 rfl (Cd rfl ?_ ?_))))))) <;> clear H K6
 ·intro kV a H
  try have rU:=dT kV
  exact kP H (SR fun _ K8=>ak K8 rfl (LR results126 rfl fun H=>H.rt (by unfold uN;simp_all)))
 intro kV a H
 try have rU:=dF kV
 exact kP H (Kc K3 (SR fun _ K9=>ak K9 rfl (LR results126 rfl fun H=>H.rt (by unfold uN;simp_all))))
end
section
open Go.RowKit
theorem vV:cB prog 187 0 0:=⟨by kernel_rfl⟩
theorem Vu:∀ args w,(callFunc 125 args).run prog w=.ok (.enter 125 args) w:=enters func125 rfl (by kernel_rfl)
theorem Wd:cB prog 187 1 1:=⟨by kernel_rfl⟩
theorem OE:∀ args w,(callFunc 126 args).run prog w=.ok (.enter 126 args) w:=enters func126 rfl (by kernel_rfl)
def Gq (q:Option Int) (k:Int):Bool:=match q with|some j=>decide (k < j)|none=>false
def AB (e:Int):Option Int→List iL→Int
 | _,[]=>0
 | q,p :: r=>if zM e p.key=false then 4 else if q=some p.key then 7 else if Gq q p.key=true then 6 else if uN p.key p.value=0 then AB e (some p.key) r else uN p.key p.value
def yX (l:List iL) (k:Nat):Option Int:=if k=0 then none else l[k - 1]?.map iL.key
def gQ (e:Int) (l:List iL):Int:=if e < 1∨10 < e then 3 else AB e none l
theorem acV {e:Int} {l:List iL} {k:Nat} (h:k < l.length):AB e (yX l k) (l.drop k)=if zM e l[k].key=false then 4 else if yX l k=some l[k].key then 7 else if Gq (yX l k) l[k].key=true then 6 else if uN l[k].key l[k].value=0 then AB e (yX l (k+1)) (l.drop (k+1)) else uN l[k].key l[k].value:=by
 rw [kZ h,AB]
 have:yX l (k+1)=some l[k].key:=by rw [yX,ah (by omega),Nat.add_sub_cancel,iA h];rfl
 rw [this]
theorem MP {l:List iL} {k:Nat} (h:k=0):yX l k=none:=av h
theorem Zm (G:GH) (w0:World) (hG:Hold G w0) (e:Int) (l:List iL) (v:aj) (hv:ay G (.sl 2 (l.map iL.dat)) v) :
  Calls prog 90 #[vi e,v] w0 (bq w0 G fun u G'=>u=vi (gQ e l)):=by
 obtain ⟨A,c,rfl,hc1,hc2,-⟩:=hv.slice;have hml:maxLen=9223372036854775807:=rfl;rw [bV] at *;refine eN [(0,_),(1,_)] func90 rfl ntmps90 rfl rfl hG ?_;intro a H;refine kP H (SR fun _ K1=>ak K1 rfl (SQ fun _ K2=>SR fun _ K3=>Rm rfl (Rc rfl (Rm rfl (Sp 10 rfl ?_ ?_))))) <;> clear H K1
 ·intro h10 a H
  try have lV:=dT h10
  refine kH H (aR h10 rfl (Pt h10 rfl (Kz K3 (Ct rfl rfl (SR fun _ K4=>ak K4 rfl ?_)))));clear H K3 K4;intro a H;refine lr H results90 rfl ?_
  first
   | exact H.rt (aC vi (by rw [ah (by simpa using p61)] at heq;rw [gQ,ah (by omega)];exact heq))
   | exact H.rt (aC vi (by rw [av (by simpa using h21)] at heq;rw [gQ,ah (by omega)];exact heq))
   | exact H.rt (aC vi (by rw [gQ,ah (by omega)];exact heq))
   | exact H.rt (aC vi (by rw [gQ,ah (by omega),← heq,show l.drop k=[] from ig (by omega)];rfl))
   | exact H.rt (aC vi (by rw [gQ,av (by omega)]))
 intro h10 a H
 try have lV:=dF h10
 refine kH H (YM h10 rfl (YC h10 rfl (Pf h10 rfl (Kz K3 (Cd rfl ?_ ?_))))) <;> clear H K3
 ·intro gB a H
  try have qV:=dT gB
  refine kP H (SR fun _ K5=>ak K5 rfl ?_);clear H K5;intro a H;refine lr H results90 rfl ?_
  first
   | exact H.rt (aC vi (by rw [ah (by simpa using p61)] at heq;rw [gQ,ah (by omega)];exact heq))
   | exact H.rt (aC vi (by rw [av (by simpa using h21)] at heq;rw [gQ,ah (by omega)];exact heq))
   | exact H.rt (aC vi (by rw [gQ,ah (by omega)];exact heq))
   | exact H.rt (aC vi (by rw [gQ,ah (by omega),← heq,show l.drop k=[] from ig (by omega)];rfl))
   | exact H.rt (aC vi (by rw [gQ,av (by omega)]))
 intro gB a H
 try have qV:=dF gB
 refine kP H (Kc K2 (SQ fun _ K6=>SR fun _ K7=>Rm rfl (Rl qd rfl (Rm rfl (Kz K7 (SB ?_))))));clear H K2 K7;intro a H;skip;refine eU (ι:=Nat × GH) (Tc:=[(0,_),(1,_),(14,_),(15,_)]) (Lc:=[]) (fun gh=>[(16,vi gh.1)]) (fun gh=>[]) (fun gh=>gh.2) (fun gh=>gh.1≤l.length∧AB e (yX l gh.1) (l.drop gh.1)=AB e none l∧(∀ b o,G b=some o→gh.2 b=some o)) (fun gh=>l.length - gh.1) ((0,G)) (by exact (H).sub ⟨rfl,rfl,rfl,rfl,rfl,aB⟩) ?_ ?_
 ·exact ⟨iB _,rfl,fun _ _ h=>h⟩
 clear H;intro gh a w hI H;obtain ⟨k,g⟩:=gh;dsimp only at hI H;obtain ⟨hk,heq,hgm⟩:=hI;dsimp only [lca,bG] at H;refine kP H (SR fun _ K8=>Rc rfl (Kz K8 (SQ fun _ K9=>Cd rfl ?_ ?_))) <;> clear H K8
 ·intro eF a H
  try have mR:=dT eF
  have hk2:k < l.length:=by omega
  have Ew:=hv.mono hgm;obtain ⟨b,o,rfl,hrow⟩:=MR Ew hk2
  obtain ⟨pk,hpk⟩:∃ pk,0 < k→aJ g b (o+(k - 1)*2+0)=some (vi pk)∧yX l k=some pk:=by
   by_cases h0:0 < k
   ·obtain ⟨b',o',he,hr'⟩:=MR Ew (show k - 1 < l.length by omega)
    injection he with he
    injection he with e1 e2 e3
    subst e1;subst e2;exact ⟨_,fun _=>⟨hr' 0 _ rfl,by rw [yX,ah (by omega),iA (by omega)];rfl⟩⟩
   exact ⟨0,fun h=>absurd h h0⟩
  rw [acV hk2] at heq;have anI:=heq;refine kP H (Kc K9 (SQ fun _ aQ=>SB (SR fun _ bH=>Rm rfl (Ri qd nT rfl rfl ?_))));clear H K9;intro a H;refine bJ nT (cs:=[_,_]) H wn rfl rfl (fun j v hj=>H.hp.aJ (hrow j v hj)) rfl ?_;clear H;intro a H;refine eB nT H wn rfl ?_;clear H;intro b6 a w hb6 H;refine kH H (Ra rfl ?_);clear H;intro a H;refine bM nT 0 (vs:=[_,_]) _ H wn rfl rfl rfl rfl rfl rfl rfl rfl ?_;clear H;intro w H;dsimp only [List.set,setRow] at H;refine bH _ _ ?_;clear bH;refine pE (ι:=GH) (Tc:=[(0,_),(1,_),(6,_),(14,_),(15,_),(16,_)]) (Lc:=[(_,_)]) (fun gh=>[]) (fun gh=>[]) (fun gh=>gh) (fun gh=>(if uN l[k].key l[k].value=0 then AB e (yX l (k+1)) (l.drop (k+1)) else uN l[k].key l[k].value)=AB e none l∧(∀ b o,g b=some o→gh b=some o)) (by exact (H).sub ⟨rfl,rfl,rfl,rfl,rfl,rfl,aB⟩) ?_ ?_
  ·skip;refine kP H (SB (SR fun _ bL=>Rm rfl (aT vV aH 0 rfl rfl ?_)));clear H;intro a H;refine s_call Vu H wn rfl (WB _ _ H.ro e l[k].key) rfl ?_;clear H;rintro v25 Kk a w rfl sO H;replace hrow:=fun j u hj=>aO sO (hrow j u hj);refine kH H (Rn rfl (ak bL rfl (Cd rfl ?_ ?_))) <;> clear H bL
   ·intro h21 a H
    try have oN:=dT h21
    refine kP H (SR fun _ bR=>ak bR rfl ?_);clear H bR;intro a H;refine lr H results90 rfl ?_
    first
     | exact H.rt (aC vi (by rw [ah (by simpa using p61)] at heq;rw [gQ,ah (by omega)];exact heq))
     | exact H.rt (aC vi (by rw [av (by simpa using h21)] at heq;rw [gQ,ah (by omega)];exact heq))
     | exact H.rt (aC vi (by rw [gQ,ah (by omega)];exact heq))
     | exact H.rt (aC vi (by rw [gQ,ah (by omega),← heq,show l.drop k=[] from ig (by omega)];rfl))
     | exact H.rt (aC vi (by rw [gQ,av (by omega)]))
   intro h21 a H
   try have oN:=dF h21
   rw [ah (by simpa using h21)] at heq;refine bK (fun _ bQ=>?_)
   by_cases c0:0 < (k:Int)
   ·skip
    by_cases c1:l[k].key=pk
    ·skip;refine dI hmx [[],[0],[0,1],[0,1,2],(ra 0 4),[0,1,2],[0,1,2],[0,1,2,6],[0,1,2,5,6,7],[0,1,2,5,6,7,8],[0,1,2,5,6,7,8,9],(ra 0 11),(ra 0 12),(ra 0 13)] [13] (by kernel_rfl) [_,_,_,_,vi l[k].key,_,_,vi ((k - 1:Nat):Int),_,_,_,_,_] H (aD (Z0 rfl (Rm rfl)) (Z1 0 28 rfl (Rc rfl)) (Z1 1 29 rfl (Rm rfl)) (Z1 2 30 rfl (YF vV (aA c0) rfl)) (aD (Z2 3 31 2 30 rfl (YO aH 0 (aA c0) rfl)) (Z1 2 30 rfl (YM (aA c0) rfl)) (Z1 2 30 rfl (YM (aA c0) rfl)) ?_ (aD (Z3 5 33 7 35 2 30 rfl (YI qd nT (aA c0) rfl rfl)) (Z2 8 36 2 30 rfl (YF vV (aA c0) rfl)) (X2 9 37 2 30 rfl fun hG=>YR aH (aA c0) rfl (aO hG (aO sO (hpk (by omega)).1))) (Z3 4 32 10 38 2 30 rfl (YC (aA c0) rfl)) (aZ (Z2 2 30 11 39 rfl (Pt (aA c0) rfl)) (aZ (bN rfl) cu))))) ?_
     ·refine bZ 6 34 2 30 rfl rfl fun _ a w G1 hG HT H fin=>?_;refine kX _ H (wg H rfl rfl (aA c0)) rfl rfl rfl (by omega) (by omega) rfl ?_;clear H;intro a H;exact fin H iJ (by show _=_;first|rfl|exact aC vi (by omega))
     clear H;intro a w G qP H hv;have H:=H.aP (hv 12 40 rfl rfl) rfl;clear hv;refine kH H (Ra rfl ?_);clear H;intro a H;refine aG ⟨rfl,?_⟩;refine bQ _ _ ?_;clear bQ;refine xY H rfl (aA c1) ?_;refine bK (fun _ dJ=>?_);rw [av (by rw [(hpk (by omega)).2,c1])] at heq;refine kP H (SC (aU dJ rfl ?_));clear H dJ;intro a H;refine lr H results90 rfl ?_
     first
      | exact H.rt (aC vi (by rw [ah (by simpa using p61)] at heq;rw [gQ,ah (by omega)];exact heq))
      | exact H.rt (aC vi (by rw [av (by simpa using h21)] at heq;rw [gQ,ah (by omega)];exact heq))
      | exact H.rt (aC vi (by rw [gQ,ah (by omega)];exact heq))
      | exact H.rt (aC vi (by rw [gQ,ah (by omega),← heq,show l.drop k=[] from ig (by omega)];rfl))
      | exact H.rt (aC vi (by rw [gQ,av (by omega)]))
    skip;refine dI hmx [[],[0],[0,1],[0,1,2],(ra 0 4),[0,1,2],[0,1,2],[0,1,2,6],[0,1,2,5,6,7],[0,1,2,5,6,7,8],[0,1,2,5,6,7,8,9],(ra 0 11),(ra 0 12),(ra 0 13)] [13] (by kernel_rfl) [_,_,_,_,vi l[k].key,_,_,vi ((k - 1:Nat):Int),_,_,_,_,_] H (aD (Z0 rfl (Rm rfl)) (Z1 0 28 rfl (Rc rfl)) (Z1 1 29 rfl (Rm rfl)) (Z1 2 30 rfl (YF vV (aA c0) rfl)) (aD (Z2 3 31 2 30 rfl (YO aH 0 (aA c0) rfl)) (Z1 2 30 rfl (YM (aA c0) rfl)) (Z1 2 30 rfl (YM (aA c0) rfl)) ?_ (aD (Z3 5 33 7 35 2 30 rfl (YI qd nT (aA c0) rfl rfl)) (Z2 8 36 2 30 rfl (YF vV (aA c0) rfl)) (X2 9 37 2 30 rfl fun hG=>YR aH (aA c0) rfl (aO hG (aO sO (hpk (by omega)).1))) (Z3 4 32 10 38 2 30 rfl (YC (aA c0) rfl)) (aZ (Z2 2 30 11 39 rfl (Pt (aA c0) rfl)) (aZ (bN rfl) cu))))) ?_
    ·refine bZ 6 34 2 30 rfl rfl fun _ a w G1 hG HT H fin=>?_;refine kX _ H (wg H rfl rfl (aA c0)) rfl rfl rfl (by omega) (by omega) rfl ?_;clear H;intro a H;exact fin H iJ (by show _=_;first|rfl|exact aC vi (by omega))
    clear H;intro a w G qP H hv;have H:=H.aP (hv 12 40 rfl rfl) rfl;clear hv;refine kH H (Ra rfl ?_);clear H;intro a H;refine aG ⟨rfl,?_⟩;refine bQ _ _ ?_;clear bQ;refine mX H rfl (aN c1) ?_;refine bK (fun _ dO=>?_)
    have q1:¬ (0 < (k:Int)∧l[k].key=pk):=by first|exact fun h=>c1 h.2|exact fun h=>c0 h.1
    rw [ah (fun h=>q1 (by
     by_cases h0:0 < k
     ·rw [(hpk h0).2] at h
      injection h with h
      exact ⟨by omega,h.symm⟩
     rw [MP (by omega)] at h
     cases h))] at heq
    by_cases c3:l[k].key < pk
    ·skip;refine dI hmx [[],[0],[0,1],[0,1,2],(ra 0 4),[0,1,2],[0,1,2],[0,1,2,6],[0,1,2,5,6,7],[0,1,2,5,6,7,8],[0,1,2,5,6,7,8,9],(ra 0 11),(ra 0 12),(ra 0 13)] [13] (by kernel_rfl) [_,_,_,_,vi l[k].key,_,_,vi ((k - 1:Nat):Int),_,_,vi pk,_,_] H (aD (Z0 rfl (Rm rfl)) (Z1 0 42 rfl (Rc rfl)) (Z1 1 43 rfl (Rm rfl)) (Z1 2 44 rfl (YF vV (aA c0) rfl)) (aD (Z2 3 45 2 44 rfl (YO aH 0 (aA c0) rfl)) (Z1 2 44 rfl (YM (aA c0) rfl)) (Z1 2 44 rfl (YM (aA c0) rfl)) ?_ (aD (Z3 5 47 7 49 2 44 rfl (YI qd nT (aA c0) rfl rfl)) (Z2 8 50 2 44 rfl (YF vV (aA c0) rfl)) ?_ (Z3 4 46 10 52 2 44 rfl (YC (aA c0) rfl)) (aZ (Z2 2 44 11 53 rfl (Pt (aA c0) rfl)) (aZ (bN rfl) cu))))) ?_
     ·refine bZ 6 48 2 44 rfl rfl fun _ a w G1 hG HT H fin=>?_;refine kX _ H (wg H rfl rfl (aA c0)) rfl rfl rfl (by omega) (by omega) rfl ?_;clear H;intro a H;exact fin H iJ (by show _=_;first|rfl|exact aC vi (by omega))
     ·refine bZ 9 51 2 44 rfl rfl fun _ a w G1 hG HT H fin=>?_;refine pX aH H (wg H rfl rfl (aA c0)) rfl (H.hp.aJ (aO hG (aO qP (aO sO (hpk (by omega)).1)))) rfl ?_;clear H;intro a H;exact fin H iJ rfl
     clear H;intro a w G kW H hv;have H:=H.aP (hv 12 54 rfl rfl) rfl;clear hv;refine kH H (Ra rfl ?_);clear H;intro a H;refine aG ⟨rfl,?_⟩;refine dO _ _ ?_;clear dO;refine xY H rfl (aA c3) ?_;refine bK (fun _ dK=>?_);rw [av (by rw [(hpk (by omega)).2];exact aA c3)] at heq;refine kP H (SC (aU dK rfl ?_));clear H dK;intro a H;refine lr H results90 rfl ?_
     first
      | exact H.rt (aC vi (by rw [ah (by simpa using p61)] at heq;rw [gQ,ah (by omega)];exact heq))
      | exact H.rt (aC vi (by rw [av (by simpa using h21)] at heq;rw [gQ,ah (by omega)];exact heq))
      | exact H.rt (aC vi (by rw [gQ,ah (by omega)];exact heq))
      | exact H.rt (aC vi (by rw [gQ,ah (by omega),← heq,show l.drop k=[] from ig (by omega)];rfl))
      | exact H.rt (aC vi (by rw [gQ,av (by omega)]))
    skip;refine dI hmx [[],[0],[0,1],[0,1,2],(ra 0 4),[0,1,2],[0,1,2],[0,1,2,6],[0,1,2,5,6,7],[0,1,2,5,6,7,8],[0,1,2,5,6,7,8,9],(ra 0 11),(ra 0 12),(ra 0 13)] [13] (by kernel_rfl) [_,_,_,_,vi l[k].key,_,_,vi ((k - 1:Nat):Int),_,_,vi pk,_,_] H (aD (Z0 rfl (Rm rfl)) (Z1 0 42 rfl (Rc rfl)) (Z1 1 43 rfl (Rm rfl)) (Z1 2 44 rfl (YF vV (aA c0) rfl)) (aD (Z2 3 45 2 44 rfl (YO aH 0 (aA c0) rfl)) (Z1 2 44 rfl (YM (aA c0) rfl)) (Z1 2 44 rfl (YM (aA c0) rfl)) ?_ (aD (Z3 5 47 7 49 2 44 rfl (YI qd nT (aA c0) rfl rfl)) (Z2 8 50 2 44 rfl (YF vV (aA c0) rfl)) ?_ (Z3 4 46 10 52 2 44 rfl (YC (aA c0) rfl)) (aZ (Z2 2 44 11 53 rfl (Pt (aA c0) rfl)) (aZ (bN rfl) cu))))) ?_
    ·refine bZ 6 48 2 44 rfl rfl fun _ a w G1 hG HT H fin=>?_;refine kX _ H (wg H rfl rfl (aA c0)) rfl rfl rfl (by omega) (by omega) rfl ?_;clear H;intro a H;exact fin H iJ (by show _=_;first|rfl|exact aC vi (by omega))
    ·refine bZ 9 51 2 44 rfl rfl fun _ a w G1 hG HT H fin=>?_;refine pX aH H (wg H rfl rfl (aA c0)) rfl (H.hp.aJ (aO hG (aO qP (aO sO (hpk (by omega)).1)))) rfl ?_;clear H;intro a H;exact fin H iJ rfl
    clear H;intro a w G kW H hv;have H:=H.aP (hv 12 54 rfl rfl) rfl;clear hv;refine kH H (Ra rfl ?_);clear H;intro a H;refine aG ⟨rfl,?_⟩;refine dO _ _ ?_;clear dO;refine mX H rfl (aN c3) ?_;refine fZ ?_;refine ⟨_,by exact (H).sub ⟨rfl,rfl,rfl,rfl,rfl,rfl,aB⟩,?_⟩
    have q2:¬ (0 < (k:Int)∧l[k].key < pk):=by first|exact fun h=>c3 h.2|exact fun h=>c0 h.1
    rw [ah (fun h=>q2 (by
     by_cases h0:0 < k
     ·rw [(hpk h0).2] at h;exact ⟨by omega,oG h⟩
     rw [MP (by omega)] at h
     cases h))] at heq
    exact ⟨heq,fun b o h=>kW b o (qP b o (sO b o h))⟩
   skip;refine dI hmx [[],[0],[0,1],[0,1,2],(ra 0 4),[0,1,2],[0,1,2],[0,1,2,6],[0,1,2,5,6,7],[0,1,2,5,6,7,8],[0,1,2,5,6,7,8,9],(ra 0 11),(ra 0 12),(ra 0 13)] [13] (by kernel_rfl) [_,_,_,undef,undef,undef,undef,undef,undef,undef,undef,undef,_] H (aD (Z0 rfl (Rm rfl)) (Z1 0 28 rfl (Rc rfl)) (Z1 1 29 rfl (Rm rfl)) (aK (j:=2) (by kernel_rfl) (fun _ _ _ _ _ h=>h) rfl rfl rfl rfl rfl (fun _ _ h=>aL h (aF (aN c0))) rfl (fun _=>rfl)) (aD (aK (j:=2) (by kernel_rfl) (fun _ _ _ _ _ h=>h) rfl rfl rfl rfl rfl (fun _ _ h=>aL h (aF (aN c0))) rfl (fun _=>rfl)) (aK (j:=2) (by kernel_rfl) (fun _ _ _ _ _ h=>h) rfl rfl rfl rfl rfl (fun _ _ h=>aL h (aF (aN c0))) rfl (fun _=>rfl)) (aK (j:=2) (by kernel_rfl) (fun _ _ _ _ _ h=>h) rfl rfl rfl rfl rfl (fun _ _ h=>aL h (aF (aN c0))) rfl (fun _=>rfl)) (aK (j:=2) (by kernel_rfl) (fun _ _ _ _ _ h=>h) rfl rfl rfl rfl rfl (fun _ _ h=>aL h (aF (aN c0))) rfl (fun _=>rfl)) (aD (aK (j:=2) (by kernel_rfl) (fun _ _ _ _ _ h=>h) rfl rfl rfl rfl rfl (fun _ _ h=>aL h (aF (aN c0))) rfl (fun _=>rfl)) (aK (j:=2) (by kernel_rfl) (fun _ _ _ _ _ h=>h) rfl rfl rfl rfl rfl (fun _ _ h=>aL h (aF (aN c0))) rfl (fun _=>rfl)) (aK (j:=2) (by kernel_rfl) (fun _ _ _ _ _ h=>h) rfl rfl rfl rfl rfl (fun _ _ h=>aL h (aF (aN c0))) rfl (fun _=>rfl)) (aK (j:=2) (by kernel_rfl) (fun _ _ _ _ _ h=>h) rfl rfl rfl rfl rfl (fun _ _ h=>aL h (aF (aN c0))) rfl (fun _=>rfl)) (aZ (Z2 2 30 11 39 rfl (Pf (aN c0) rfl)) (aZ (bN rfl) cu))))) ?_
   clear H;intro a w G qP H hv;have H:=H.aP (hv 12 40 rfl rfl) rfl;clear hv;refine kH H (Ra rfl ?_);clear H;intro a H;refine aG ⟨rfl,?_⟩;refine bQ _ _ ?_;clear bQ;refine mX H rfl rfl ?_;refine bK (fun _ eO=>?_)
   have q1:¬ (0 < (k:Int)∧l[k].key=pk):=by first|exact fun h=>c1 h.2|exact fun h=>c0 h.1
   rw [ah (fun h=>q1 (by
    by_cases h0:0 < k
    ·rw [(hpk h0).2] at h
     injection h with h
     exact ⟨by omega,h.symm⟩
    rw [MP (by omega)] at h
    cases h))] at heq
   refine dI hmx [[],[0],[0,1],[0,1,2],(ra 0 4),[0,1,2],[0,1,2],[0,1,2,6],[0,1,2,5,6,7],[0,1,2,5,6,7,8],[0,1,2,5,6,7,8,9],(ra 0 11),(ra 0 12),(ra 0 13)] [13] (by kernel_rfl) [_,_,_,undef,undef,undef,undef,undef,undef,undef,undef,undef,_] H (aD (Z0 rfl (Rm rfl)) (Z1 0 42 rfl (Rc rfl)) (Z1 1 43 rfl (Rm rfl)) (aK (j:=2) (by kernel_rfl) (fun _ _ _ _ _ h=>h) rfl rfl rfl rfl rfl (fun _ _ h=>aL h (aF (aN c0))) rfl (fun _=>rfl)) (aD (aK (j:=2) (by kernel_rfl) (fun _ _ _ _ _ h=>h) rfl rfl rfl rfl rfl (fun _ _ h=>aL h (aF (aN c0))) rfl (fun _=>rfl)) (aK (j:=2) (by kernel_rfl) (fun _ _ _ _ _ h=>h) rfl rfl rfl rfl rfl (fun _ _ h=>aL h (aF (aN c0))) rfl (fun _=>rfl)) (aK (j:=2) (by kernel_rfl) (fun _ _ _ _ _ h=>h) rfl rfl rfl rfl rfl (fun _ _ h=>aL h (aF (aN c0))) rfl (fun _=>rfl)) (aK (j:=2) (by kernel_rfl) (fun _ _ _ _ _ h=>h) rfl rfl rfl rfl rfl (fun _ _ h=>aL h (aF (aN c0))) rfl (fun _=>rfl)) (aD (aK (j:=2) (by kernel_rfl) (fun _ _ _ _ _ h=>h) rfl rfl rfl rfl rfl (fun _ _ h=>aL h (aF (aN c0))) rfl (fun _=>rfl)) (aK (j:=2) (by kernel_rfl) (fun _ _ _ _ _ h=>h) rfl rfl rfl rfl rfl (fun _ _ h=>aL h (aF (aN c0))) rfl (fun _=>rfl)) (aK (j:=2) (by kernel_rfl) (fun _ _ _ _ _ h=>h) rfl rfl rfl rfl rfl (fun _ _ h=>aL h (aF (aN c0))) rfl (fun _=>rfl)) (aK (j:=2) (by kernel_rfl) (fun _ _ _ _ _ h=>h) rfl rfl rfl rfl rfl (fun _ _ h=>aL h (aF (aN c0))) rfl (fun _=>rfl)) (aZ (Z2 2 44 11 53 rfl (Pf (aN c0) rfl)) (aZ (bN rfl) cu))))) ?_
   clear H;intro a w G kW H hv;have H:=H.aP (hv 12 54 rfl rfl) rfl;clear hv;refine kH H (Ra rfl ?_);clear H;intro a H;refine aG ⟨rfl,?_⟩;refine eO _ _ ?_;clear eO;refine mX H rfl rfl ?_;refine fZ ?_;refine ⟨_,by exact (H).sub ⟨rfl,rfl,rfl,rfl,rfl,rfl,aB⟩,?_⟩
   have q2:¬ (0 < (k:Int)∧l[k].key < pk):=by first|exact fun h=>c3 h.2|exact fun h=>c0 h.1
   rw [ah (fun h=>q2 (by
    by_cases h0:0 < k
    ·rw [(hpk h0).2] at h;exact ⟨by omega,oG h⟩
    rw [MP (by omega)] at h
    cases h))] at heq
   exact ⟨heq,fun b o h=>kW b o (qP b o (sO b o h))⟩
  clear H;intro gh a w hI H;obtain ⟨g2,hgh⟩:∃ x,x=gh:=⟨_,rfl⟩;subst hgh;obtain ⟨heq,pO⟩:=hI;replace hrow:=fun j u hj=>aO pO (hrow j u hj);dsimp only [lca,bG] at H;refine kP H (SR fun _ gH=>aT vV aH 0 rfl rfl (aT Wd aH 0 rfl rfl ?_));clear H;intro a H;refine s_call OE H wn rfl (Oi _ _ H.ro l[k].key l[k].value) rfl ?_;clear H;rintro v59 G59 a w rfl ahN H;refine kH H (ak gH rfl (SR fun _ fE=>Rm rfl (Rc rfl (Kz fE (Cd rfl ?_ ?_))))) <;> clear H gH fE
  ·intro Eb a H
   try have p61:=dT Eb
   refine kP H (SR fun _ gL=>Rm rfl (ak gL rfl ?_));clear H gL;intro a H;refine lr H results90 rfl ?_
   first
    | exact H.rt (aC vi (by rw [ah (by simpa using p61)] at heq;rw [gQ,ah (by omega)];exact heq))
    | exact H.rt (aC vi (by rw [av (by simpa using h21)] at heq;rw [gQ,ah (by omega)];exact heq))
    | exact H.rt (aC vi (by rw [gQ,ah (by omega)];exact heq))
    | exact H.rt (aC vi (by rw [gQ,ah (by omega),← heq,show l.drop k=[] from ig (by omega)];rfl))
    | exact H.rt (aC vi (by rw [gQ,av (by omega)]))
  intro Eb a H
  try have p61:=dF Eb
  refine kP H (Kc aQ (SC (Rd rfl (Rm rfl ?_))));clear H aQ;intro a H;refine aG ?_;refine dh ((k+1,G59)) (by exact (H.dP (Pl:=[_]) (dD:=[]) [] (by decide) rfl).sub ⟨rfl,rfl,rfl,rfl,rfl,aB⟩) ?_ ?_
  ·(try dsimp only);exact ⟨by omega,by rw [av (by simpa using p61)] at heq;exact heq,fun b o h=>ahN b o (pO b o (hgm b o h))⟩
  first|omega|(dsimp only;omega)
 intro eF a H
 try have mR:=dF eF
 refine dW ?_;refine K6 _ _ ?_;clear K6;refine kP H (SR fun _ jl=>ak jl rfl ?_);clear H jl;intro a H;refine lr H results90 rfl ?_
 first
  | exact H.rt (aC vi (by rw [ah (by simpa using p61)] at heq;rw [gQ,ah (by omega)];exact heq))
  | exact H.rt (aC vi (by rw [av (by simpa using h21)] at heq;rw [gQ,ah (by omega)];exact heq))
  | exact H.rt (aC vi (by rw [gQ,ah (by omega)];exact heq))
  | exact H.rt (aC vi (by rw [gQ,ah (by omega),← heq,show l.drop k=[] from ig (by omega)];rfl))
  | exact H.rt (aC vi (by rw [gQ,av (by omega)]))
end
section
open Go.RowKit
theorem gN:Ty prog 56 1 8 [.int .i64 0] false:=⟨by kernel_rfl,by kernel_rfl⟩
theorem oO:prog.underlying 168=some (.slice 56):=by kernel_rfl
theorem vU:∀ args w,(callFunc 89 args).run prog w=.ok (.enter 89 args) w:=enters func89 rfl (by kernel_rfl)
theorem wu (G:GH) (w0:World) (hG:Hold G w0) (n l h:Int):Calls prog 89 #[vi n,vi l,vi h] w0 (bq w0 G fun u G'=>u=.bool (decide (l≤n∧n≤h))∧G=G'):=by
 refine eN [(0,_),(1,_),(2,_)] func89 rfl ntmps89 rfl rfl hG ?_;intro a H;refine kP H (SR fun _ K1=>ak K1 rfl (SR fun _ K2=>Rm rfl (Rm rfl (Rc rfl (Rm rfl (Sp 10 rfl ?_ ?_)))))) <;> clear H K1
 ·intro h10 a H
  try have lV:=dT h10
  exact kH H (YM h10 rfl (YM h10 rfl (YC h10 rfl (Pt h10 rfl (ak K2 rfl (LR results89 rfl fun H=>H.rt ⟨aF (by first|(simp_all;done)|(simp_all;omega)),rfl⟩))))))
 intro h10 a H
 try have lV:=dF h10
 exact kH H (bC h10 rfl (Pf h10 rfl (ak K2 rfl (LR results89 rfl fun H=>H.rt ⟨aF (by first|(simp_all;done)|(simp_all;omega)),rfl⟩))))
def cO (b:Bool) (e:Int):Int:=if b=true then e else 0
theorem jv (G:GH) (w0:World) (hG:Hold G w0) (b:Bool) (e:Int):Calls prog 59 #[.bool b,vi e] w0 (bq w0 G fun u G'=>u=vi (cO b e)∧G=G'):=by
 refine eN [(0,_),(1,_)] func59 rfl ntmps59 rfl rfl hG ?_;intro a H;refine kP H (SR fun _ K1=>ak K1 rfl (SQ fun _ K2=>SR fun _ K3=>Rm rfl (Kz K3 (Cd rfl ?_ ?_)))) <;> clear H K1 K3
 ·intro h5 a H
  try have p5:=dT h5
  exact kP H (SR fun _ K4=>Rm rfl (ak K4 rfl (LR results59 rfl fun H=>H.rt ⟨aC vi (by simp_all [cO]),rfl⟩)))
 intro h5 a H
 try have p5:=dF h5
 exact kP H (Kc K2 (SR fun _ K5=>ak K5 rfl (LR results59 rfl fun H=>H.rt ⟨aC vi (by simp_all [cO]),rfl⟩)))
def dM:List Int→Int
 | []=>0
 | e :: r=>if e≠0 then e else dM r
theorem LB {l:List Int} {k:Nat} (h:k < l.length):dM (l.drop k)=if l[k]≠0 then l[k] else dM (l.drop (k+1)):=by
 rw [kZ h,dM]
theorem qx (G:GH) (w0:World) (hG:Hold G w0) (l:List Int) (v:aj) (hv:ay G (.sl 1 (l.map fun k=>[li k])) v) :
  Calls prog 54 #[v] w0 (bq w0 G fun u G'=>u=vi (dM l)∧G=G'):=by
 obtain ⟨A,c,rfl,hc1,hc2,hg⟩:=hv.slice;have hml:maxLen=9223372036854775807:=rfl;rw [bV] at *;refine eN [(0,_)] func54 rfl ntmps54 rfl rfl hG ?_;intro a H;refine kP H (SR fun _ K1=>ak K1 rfl (SQ fun _ K2=>SR fun _ K3=>Rm rfl (Rl oO rfl (Rm rfl (Kz K3 (SB ?_))))));clear H K1 K3;intro a H;skip;refine eU (ι:=Nat) (Tc:=[(5,_),(6,_)]) (Lc:=[]) (fun gh=>[(7,vi gh)]) (fun gh=>[]) (fun gh=>G) (fun gh=>gh≤l.length∧dM (l.drop gh)=dM l) (fun gh=>l.length - gh) (0) (by exact (H).sub ⟨rfl,rfl,rfl,aB⟩) ?_ ?_
 ·exact ⟨iB _,rfl⟩
 clear H;intro gh a w hI H;obtain ⟨k,hgh⟩:∃ x,x=gh:=⟨_,rfl⟩;subst hgh;obtain ⟨hk,he⟩:=hI;dsimp only [lca,bG] at H;refine kP H (SR fun _ K4=>Rc rfl (Kz K4 (SQ fun _ K5=>Cd rfl ?_ ?_))) <;> clear H K4
 ·intro h8 a H
  try have p8:=dT h8
  have hk2:k < l.length:=by omega
  obtain ⟨b,o,cs,rfl,hcl,hrow,hr⟩:=hg k [li l[k]] (by simp [hk2]);obtain ⟨v1,_,rfl,⟨rfl,-⟩,rfl⟩:∃ v vs,cs=v :: vs∧ay G (li l[k]) v∧aY G [] vs:=hr
  have hcell:aJ G b (o+k*1)=some (vi l[k]):=by simpa using hrow 0 _ rfl
  refine kP H (Kc K5 (SQ fun _ K6=>SB (SR fun _ K7=>Ri oO gN rfl rfl (Rg gN rfl hcell (ak K7 rfl (SR fun _ K8=>Rm rfl (Rc rfl (Kz K8 (Cd rfl ?_ ?_))))))))) <;> clear H K5 K7 K8
  ·intro h12 a H
   try have qE:=dT h12
   exact kP H (SR fun _ K9=>Rm rfl (ak K9 rfl (LR results54 rfl fun H=>H.rt ⟨aC vi (by rw [LB hk2,av qE] at he;exact he),rfl⟩)))
  intro h12 a H
  try have qE:=dF h12
  refine kP H (Kc K6 (SC (Rd rfl (Rm rfl ?_))));clear H K6;intro a H;refine aG ?_;refine dh ((k+1)) (by exact (H).sub ⟨rfl,rfl,rfl,aB⟩) ?_ ?_
  ·exact ⟨by omega,by rw [LB hk2,ah qE] at he;exact he⟩
  first|omega|(dsimp only;omega)
 intro h8 a H
 try have p8:=dF h8
 refine dW ?_;refine K2 _ _ ?_;clear K2;exact kP H (SR fun _ aQ=>ak aQ rfl (LR results54 rfl fun H=>H.rt ⟨aC vi (by rw [ig (by omega)] at he;exact he),rfl⟩))
def sj (fv:aj) (Gi:GH) (n:Nat) (E:Nat→Int):Prop:=∀ i,i < n→∀ (G1:GH) (w1:World),(∀ b o,Gi b=some o→G1 b=some o)→Hold G1 w1→uG prog fv [vi i] w1 (bq w1 G1 fun u G'=>u=vi (E i))
theorem sj.mono {fv:aj} {G G':GH} {n:Nat} {E:Nat→Int} (h:sj fv G n E) (hm:∀ b o,G b=some o→G' b=some o):sj fv G' n E:=fun i hi G1 w1 hG1=>h i hi G1 w1 fun b o hb=>hG1 b o (hm b o hb)
def kM (E:Nat→Int) (n:Nat):Int:=dM ((List.range n).map E)
theorem DN {E:Nat→Int} {n k:Nat} (h:k < n):dM (((List.range n).map E).drop k)=if E k≠0 then E k else dM (((List.range n).map E).drop (k+1)):=by
 rw [LB (by simpa using h)];simp
theorem Ij (G:GH) (w0:World) (hG:Hold G w0) (n:Nat) (E:Nat→Int) (fv:aj) (hn:n≤4611686018427387904) (hf:sj fv G n E) :
  Calls prog 84 #[vi n,fv] w0 (bq w0 G fun u G'=>u=vi (kM E n)):=by
 refine eN [(0,_),(1,_)] func84 rfl ntmps84 rfl rfl hG ?_;intro a H;refine kP H (SR fun _ K1=>ak K1 rfl (SQ fun _ K2=>SR fun _ K3=>Rm rfl (Rm rfl (Kz K3 (SB ?_)))));clear H K1 K3;intro a H;skip;refine eU (ι:=Nat × GH) (Tc:=[(1,_),(7,_)]) (Lc:=[]) (fun gh=>[(8,vi gh.1)]) (fun gh=>[]) (fun gh=>gh.2) (fun gh=>gh.1≤n∧dM (((List.range n).map E).drop gh.1)=kM E n∧(∀ b o,G b=some o→gh.2 b=some o)) (fun gh=>n - gh.1) ((0,G)) (by exact (H).sub ⟨rfl,rfl,rfl,aB⟩) ?_ ?_
 ·exact ⟨iB _,rfl,fun _ _ h=>h⟩
 clear H;intro gh a w hI H;obtain ⟨k,g⟩:=gh;dsimp only at hI H;obtain ⟨hk,he,hgm⟩:=hI;dsimp only [lca,bG] at H;refine kP H (SR fun _ K4=>Rc rfl (Kz K4 (SQ fun _ K5=>Cd rfl ?_ ?_))) <;> clear H K4
 ·intro h9 a H
  try have p9:=dT h9
  have hk2:k < n:=by omega
  refine kP H (Kc K5 (SQ fun _ K6=>SB (SR fun _ K7=>Rm rfl (ak K7 rfl (SR fun _ K8=>Rm rfl (Rm rfl ?_))))));clear H K5 K7;intro a H;refine qF H wn rfl rfl (hf k hk2 _ _ hgm H.ro) rfl ?_;clear H;rintro v13 Dr a w rfl Cx H;refine kH H (ak K8 rfl (SR fun _ K9=>Rm rfl (Rc rfl (Kz K9 (Cd rfl ?_ ?_))))) <;> clear H K8 K9
  ·intro kV a H
   try have rU:=dT kV
   exact kP H (SR fun _ aQ=>Rm rfl (ak aQ rfl (LR results84 rfl fun H=>H.rt (aC vi (by rw [DN hk2,av rU] at he;exact he)))))
  intro kV a H
  try have rU:=dF kV
  refine kP H (Kc K6 (SC (Rd rfl (Rm rfl ?_))));clear H K6;intro a H;refine aG ?_;refine dh ((k+1,Dr)) (by exact (H).sub ⟨rfl,rfl,rfl,aB⟩) ?_ ?_
  ·(try dsimp only);exact ⟨by omega,by rw [DN hk2,ah rU] at he;exact he,fun b o h=>Cx b o (hgm b o h)⟩
  first|omega|(dsimp only;omega)
 intro h9 a H
 try have p9:=dF h9
 refine dW ?_;refine K2 _ _ ?_;clear K2;exact kP H (SR fun _ bH=>ak bH rfl (LR results84 rfl fun H=>H.rt (aC vi (by rw [ig (by simp;omega)] at he;exact he))))
def pR (id:Nat→Int) (i:Nat):Int:=if ¬ (1≤id i∧id i≤1073741824) then 18 else if 0 < i∧id i=id (i - 1) then 7 else if 0 < i∧id i < id (i - 1) then 6 else 0
theorem QS (G:GH) (w0:World) (hG:Hold G w0) (i:Nat) (id:Nat→Int) (fv:aj) (hn:i≤4611686018427387904) (hf:sj fv G (i+1) id) :
  Calls prog 86 #[vi i,fv] w0 (bq w0 G fun u G'=>u=vi (pR id i)):=by
 refine eN [(0,_),(1,_)] func86 rfl ntmps86 rfl rfl hG ?_;intro a H;refine kP H (SR fun _ K1=>ak K1 rfl (SQ fun _ K2=>SB (SR fun _ K3=>Rm rfl (Rm rfl ?_))));clear H K1;intro a H;refine qF H wn rfl rfl (hf i (Nat.lt_succ_self _) _ _ (fun _ _ h=>h) H.ro) rfl ?_;clear H;rintro v8 G8 a w rfl zR H;refine s_call vU H wn rfl (wu _ _ H.ro (id i) 1 1073741824) rfl ?_;clear H;rintro v9 _ a w ⟨rfl,rfl⟩ - H;refine kH H (Rn rfl (ak K3 rfl (Cd rfl ?_ ?_))) <;> clear H K3
 ·intro h5 a H
  try have p5:=dT h5
  refine kP H (SR fun _ K4=>ak K4 rfl ?_);clear H K4;intro a H;refine lr H results86 rfl ?_
  exact H.rt (aC vi (by unfold pR;(repeat' split) <;> first|rfl|(exfalso;simp_all;done)|(exfalso;simp_all;omega)))
 intro h5 a H
 try have p5:=dF h5
 refine kP H (SR fun _ K5=>Rm rfl (Rc rfl (Rm rfl (Sp 14 rfl ?_ ?_)))) <;> clear H
 ·intro dY a H
  try have lC:=dT dY
  refine kH H (YM dY rfl (YM dY rfl ?_));clear H;intro a H;refine qF H (wg H rfl rfl dY) rfl rfl (hf i (Nat.lt_succ_self _) _ _ zR H.ro) rfl ?_;clear H;rintro v17 zw a w rfl pQ H;refine kH H (YM dY rfl (YM dY rfl ?_));clear H;intro a H;refine kX _ H (wg H rfl rfl dY) rfl rfl rfl (by omega) (by omega) rfl ?_;clear H;intro a H;rw [show ((i:Int) - 1)=((i - 1:Nat):Int) by omega] at H;refine qF H (wg H rfl rfl dY) rfl rfl (hf (i - 1) (by omega) _ _ (fun b o h=>pQ b o (zR b o h)) H.ro) rfl ?_;clear H;rintro v21 Nw a w rfl yJ H;refine kH H (YC dY rfl (Pt dY rfl (ak K5 rfl (Cd rfl ?_ ?_)))) <;> clear H K5
  ·intro h11 a H
   try have nN:=dT h11
   refine kP H (SR fun _ K6=>ak K6 rfl ?_);clear H K6;intro a H;refine lr H results86 rfl ?_
   exact H.rt (aC vi (by unfold pR;(repeat' split) <;> first|rfl|(exfalso;simp_all;done)|(exfalso;simp_all;omega)))
  intro h11 a H
  try have nN:=dF h11
  refine kP H (SR fun _ K7=>Rm rfl (Rc rfl (Rm rfl (Sp 27 rfl ?_ ?_)))) <;> clear H
  ·intro h27 a H
   try have p27:=dT h27
   refine kH H (YM h27 rfl (YM h27 rfl ?_));clear H;intro a H;refine qF H (wg H rfl rfl h27) rfl rfl (hf i (Nat.lt_succ_self _) _ _ (fun b o h=>by first|exact yJ b o (pQ b o (zR b o h))|(exfalso;omega)) H.ro) rfl ?_;clear H;rintro v30 Du a w rfl Ep H;refine kH H (YM h27 rfl (YM h27 rfl ?_));clear H;intro a H;refine kX _ H (wg H rfl rfl h27) rfl rfl rfl (by omega) (by omega) rfl ?_;clear H;intro a H;rw [show ((i:Int) - 1)=((i - 1:Nat):Int) by omega] at H;refine qF H (wg H rfl rfl h27) rfl rfl (hf (i - 1) (by omega) _ _ (fun b o h=>by first|exact Ep b o (yJ b o (pQ b o (zR b o h)))|(exfalso;omega)) H.ro) rfl ?_;clear H;rintro v34 G34 a w rfl Xm H;refine kH H (YC h27 rfl (Pt h27 rfl (ak K7 rfl (Cd rfl ?_ ?_)))) <;> clear H K7
   ·intro dU a H
    try have kr:=dT dU
    refine kP H (SR fun _ K8=>ak K8 rfl ?_);clear H K8;intro a H;refine lr H results86 rfl ?_
    exact H.rt (aC vi (by unfold pR;(repeat' split) <;> first|rfl|(exfalso;simp_all;done)|(exfalso;simp_all;omega)))
   intro dU a H
   try have kr:=dF dU
   refine kP H (Kc K2 (SR fun _ K9=>ak K9 rfl ?_));clear H K2 K9;intro a H;refine lr H results86 rfl ?_
   exact H.rt (aC vi (by unfold pR;(repeat' split) <;> first|rfl|(exfalso;simp_all;done)|(exfalso;simp_all;omega)))
  intro h27 a H
  try have p27:=dF h27
  refine kH H (bC h27 rfl (bC h27 rfl (aR h27 rfl (Pf h27 rfl (ak K7 rfl (Cf rfl rfl (Kc K2 (SR fun _ aQ=>ak aQ rfl ?_))))))));clear H K7 K2 aQ;intro a H;refine lr H results86 rfl ?_
  exact H.rt (aC vi (by unfold pR;(repeat' split) <;> first|rfl|(exfalso;simp_all;done)|(exfalso;simp_all;omega)))
 intro dY a H
 try have lC:=dF dY
 refine kH H (bC dY rfl (bC dY rfl (aR dY rfl (Pf dY rfl (ak K5 rfl (Cf rfl rfl (SR fun _ bH=>Rm rfl (Rc rfl (Rm rfl (Sp 27 rfl ?_ ?_)))))))))) <;> clear H K5
 ·intro h27 a H
  try have p27:=dT h27
  refine kH H (YM h27 rfl (YM h27 rfl ?_));clear H;intro a H;refine qF H (wg H rfl rfl h27) rfl rfl (hf i (Nat.lt_succ_self _) _ _ (fun b o h=>by first|exact yJ b o (pQ b o (zR b o h))|(exfalso;omega)) H.ro) rfl ?_;clear H;rintro v30 Du a w rfl Ep H;refine kH H (YM h27 rfl (YM h27 rfl ?_));clear H;intro a H;refine kX _ H (wg H rfl rfl h27) rfl rfl rfl (by omega) (by omega) rfl ?_;clear H;intro a H;rw [show ((i:Int) - 1)=((i - 1:Nat):Int) by omega] at H;refine qF H (wg H rfl rfl h27) rfl rfl (hf (i - 1) (by omega) _ _ (fun b o h=>by first|exact Ep b o (yJ b o (pQ b o (zR b o h)))|(exfalso;omega)) H.ro) rfl ?_;clear H;rintro v34 G34 a w rfl Xm H;refine kH H (YC h27 rfl (Pt h27 rfl (ak bH rfl (Cd rfl ?_ ?_)))) <;> clear H bH
  ·intro dU a H
   try have kr:=dT dU
   refine kP H (SR fun _ bL=>ak bL rfl ?_);clear H bL;intro a H;refine lr H results86 rfl ?_
   exact H.rt (aC vi (by unfold pR;(repeat' split) <;> first|rfl|(exfalso;simp_all;done)|(exfalso;simp_all;omega)))
  intro dU a H
  try have kr:=dF dU
  refine kP H (Kc K2 (SR fun _ bR=>ak bR rfl ?_));clear H K2 bR;intro a H;refine lr H results86 rfl ?_
  exact H.rt (aC vi (by unfold pR;(repeat' split) <;> first|rfl|(exfalso;simp_all;done)|(exfalso;simp_all;omega)))
 intro h27 a H
 try have p27:=dF h27
 refine kH H (bC h27 rfl (bC h27 rfl (aR h27 rfl (Pf h27 rfl (ak bH rfl (Cf rfl rfl (Kc K2 (SR fun _ bQ=>ak bQ rfl ?_))))))));clear H bH K2 bQ;intro a H;refine lr H results86 rfl ?_
 exact H.rt (aC vi (by unfold pR;(repeat' split) <;> first|rfl|(exfalso;simp_all;done)|(exfalso;simp_all;omega)))
end
section
open Go.RowKit
theorem jo:∀ args w,(callFunc 59 args).run prog w=.ok (.enter 59 args) w:=enters func59 rfl (by kernel_rfl)
theorem qw:∀ args w,(callFunc 54 args).run prog w=.ok (.enter 54 args) w:=enters func54 rfl (by kernel_rfl)
def wT (s:ByteArray):Bool:=decide (1≤s.size∧s.size≤40) && oC s
theorem UD (G:GH) (w0:World) (hG:Hold G w0) (s:ByteArray) (hs:s.size < 4611686018427387904):Calls prog 88 #[.string s] w0 (bq w0 G fun u G'=>u=.bool (wT s)∧G=G'):=by
 refine eN [(0,_)] func88 rfl ntmps88 rfl rfl hG ?_;intro a H;refine kP H (SR fun _ K1=>ak K1 rfl (SR fun _ K2=>Rm rfl (Rv fO rfl (Rc rfl (Rm rfl (Sp 6 rfl ?_ ?_)))))) <;> clear H K1
 ·intro h6 a H
  try have p6:=dT h6
  refine kH H (YM h6 rfl ?_);clear H;intro a H;refine BJ fO H (wg H rfl rfl h6) rfl rfl ?_;clear H;intro a H;refine kH H (YC h6 rfl (Pt h6 rfl (Rm rfl (Sp 11 rfl ?_ ?_)))) <;> clear H
  ·intro h11 a H
   try have nN:=dT h11
   refine kH H (YM h11 rfl ?_);clear H;intro a H;refine s_call FK H (wg H rfl rfl h11) rfl (Ht _ _ H.ro s hs) rfl ?_;clear H;rintro v13 _ a w ⟨rfl,rfl⟩ - H;exact kH H (Pt h11 rfl (ak K2 rfl (LR results88 rfl fun H=>H.rt ⟨aF (by unfold wT;first|(simp_all;done)|(simp_all;omega)),rfl⟩)))
  intro h11 a H
  try have nN:=dF h11
  exact kH H (aR h11 rfl (Pf h11 rfl (ak K2 rfl (LR results88 rfl fun H=>H.rt ⟨aF (by unfold wT;first|(simp_all;done)|(simp_all;omega)),rfl⟩))))
 intro h6 a H
 try have p6:=dF h6
 exact kH H (bC h6 rfl (Pf h6 rfl (Rm rfl (aR rfl rfl (Pf rfl rfl (ak K2 rfl (LR results88 rfl fun H=>H.rt ⟨aF (by unfold wT;first|(simp_all;done)|(simp_all;omega)),rfl⟩)))))))
def BN (s:ByteArray):Int:=dM [cO (!oC s) 12,cO (decide (1024 < (s.size:Int))) 10]
theorem xJ {G:GH} {b:Nat} {x y:Int} (h:G b=some (.cells #[vi x,vi y] 56 (0,0))):ay G (.sl 1 ([x,y].map fun k=>[li k])) (.slice (some ⟨b,0,none⟩) 2 2) :=
 ay.eT (n:=2) (cap:=2) h rfl (bT _) (show 2≤maxLen by decide) (jF (bT _)) (fB G [x,y])
theorem SA (G:GH) (w0:World) (hG:Hold G w0) (s:ByteArray) (hs:s.size < 4611686018427387904):Calls prog 122 #[.string s] w0 (bq w0 G fun u G'=>u=vi (BN s)):=by
 refine eN [(0,_)] func122 rfl ntmps122 rfl rfl hG ?_;intro a H;refine kP H (SR fun _ K1=>ak K1 rfl (SR fun _ K2=>Rm rfl ?_));clear H K1;intro a H;refine s_call FK H wn rfl (Ht _ _ H.ro s hs) rfl ?_;clear H;rintro v4 _ a w ⟨rfl,rfl⟩ - H;refine kH H (Rn rfl ?_);clear H;intro a H;refine s_call jo H wn rfl (jv _ _ H.ro _ 12) rfl ?_;clear H;rintro v6 _ a w ⟨rfl,rfl⟩ - H;refine kH H (Rm rfl (Rv fO rfl (Rc rfl ?_)));clear H;intro a H;refine s_call jo H wn rfl (jv _ _ H.ro _ 10) rfl ?_;clear H;rintro v10 _ a w ⟨rfl,rfl⟩ - H;refine gX oO gN [_,_] [_,_] H wn rfl rfl rfl rfl rfl (by intro i q h;match i,h with|0,h=>exact h|1,h=>exact h|n+2,h=>simp at h) rfl rfl ?_;clear H;intro b11 a w LP H;obtain ⟨xP,L8,FY,H⟩:=H.eu;refine s_call qw H wn rfl (qx _ _ H.ro _ _ (xJ FY)) rfl ?_;clear H;rintro v12 _ a w ⟨rfl,rfl⟩ - H;exact kH H (ak K2 rfl (LR results122 rfl fun H=>H.rt rfl))
def Mx (c:Int):Bool:=decide (97≤pz .or .u8 c 32) && decide (pz .or .u8 c 32≤122)
def EL (c:Int):Bool:=(decide (48≤c) && decide (c≤57)) || decide (c=45) || decide (c=95)
def zX (s:ByteArray) (k:Nat):Bool:=Mx (gF s k) || (decide (k≠0) && EL (gF s k))
def qp (s:ByteArray):Bool:=decide (1≤s.size∧s.size≤40) && (List.range s.size).all (zX s)
theorem Ou (G:GH) (w0:World) (hG:Hold G w0) (s:ByteArray) (hs:s.size < 4611686018427387904):Calls prog 124 #[.string s] w0 (bq w0 G fun u G'=>u=.bool (qp s)∧G=G'):=by
 refine eN [(0,_)] func124 rfl ntmps124 rfl rfl hG ?_;intro a H;refine kP H (SR fun _ K1=>ak K1 rfl (SQ fun _ K2=>SR fun _ K3=>Rm rfl (Rv fO rfl (Rc rfl (Rm rfl (Sp 10 rfl ?_ ?_)))))) <;> clear H K1
 ·intro h10 a H
  try have lV:=dT h10
  exact kH H (bC h10 rfl (Pt h10 rfl (Kz K3 (Ct rfl rfl (SR fun _ K4=>ak K4 rfl (LR results124 rfl fun H=>H.rt ⟨aF (by unfold qp;rw [iU (by omega)];rfl),rfl⟩))))))
 intro h10 a H
 try have lV:=dF h10
 refine kH H (YM h10 rfl ?_);clear H;intro a H;refine BJ fO H (wg H rfl rfl h10) rfl rfl ?_;clear H;intro a H;refine kH H (YC h10 rfl (Pf h10 rfl (Kz K3 (Cd rfl ?_ ?_)))) <;> clear H K3
 ·intro dY a H
  try have lC:=dT dY
  exact kP H (SR fun _ K5=>ak K5 rfl (LR results124 rfl fun H=>H.rt ⟨aF (by unfold qp;rw [iU (by omega)];rfl),rfl⟩))
 intro dY a H
 try have lC:=dF dY
 refine kP H (Kc K2 (SQ fun _ K6=>SR fun _ K7=>Rm rfl (Rv fO rfl (Rm rfl (Kz K7 (SB ?_))))));clear H K2 K7;intro a H;skip;refine eU (ι:=Nat) (Tc:=[(0,_),(16,_)]) (Lc:=[]) (fun gh=>[(17,vi gh)]) (fun gh=>[]) (fun gh=>G) (fun gh=>gh≤s.size∧(List.range gh).all (zX s)=true) (fun gh=>s.size - gh) (0) (by exact (H).sub ⟨rfl,rfl,rfl,aB⟩) ?_ ?_
 ·exact ⟨iB _,rfl⟩
 clear H;intro gh a w hI H;obtain ⟨k,hgh⟩:∃ x,x=gh:=⟨_,rfl⟩;subst hgh;obtain ⟨hk,hall⟩:=hI;dsimp only [lca,bG] at H;refine kP H (SR fun _ K8=>Rc rfl (Kz K8 (SQ fun _ K9=>Cd rfl ?_ ?_))) <;> clear H K8
 ·intro h18 a H
  try have rV:=dT h18
  have hk2:k < s.size:=by omega
  refine kP H (Kc K9 (SQ fun _ aQ=>SB (SR fun _ bH=>Rm rfl (ak bH rfl (SR fun _ bL=>Rm rfl (Rm rfl ?_))))));clear H K9 bH;intro a H;refine nO k fO H wn rfl rfl rfl (by omega) rfl ?_;clear H;intro a H;rw [← kN] at H;refine JR rfl H wn rfl rfl rfl ?_;clear H;intro a H;refine kH H (ak bL rfl ?_);clear H bL;intro a H;refine pE (ι:=Bool) (Tc:=[(0,_),(3,_),(16,_),(17,_)]) (Lc:=[]) (fun gh=>[(5,.bool gh)]) (fun gh=>[]) (fun gh=>G) (fun gh=>gh=Mx (gF s k)) (by exact (H).sub ⟨rfl,rfl,rfl,rfl,aB⟩) ?_ ?_
  ·skip;refine kP H (SC (Rm rfl (Rc rfl (Rm rfl (Sp 26 rfl ?_ ?_))))) <;> clear H
   ·intro gM a H
    try have p26:=dT gM
    refine kH H (YM gM rfl (YC gM rfl (Pt gM rfl (Ra rfl ?_))));clear H;intro a H;refine aG ?_;refine ⟨_,by exact (H).sub ⟨rfl,rfl,rfl,rfl,rfl,aB⟩,?_⟩
    unfold Mx;first|(simp_all;done)|(simp_all;omega)
   intro gM a H
   try have p26:=dF gM
   refine kH H (aR gM rfl (Pf gM rfl (Ra rfl ?_)));clear H;intro a H;refine aG ?_;refine ⟨_,by exact (H).sub ⟨rfl,rfl,rfl,rfl,rfl,aB⟩,?_⟩
   unfold Mx;first|(simp_all;done)|(simp_all;omega)
  clear H;intro gh a w hI H;obtain ⟨lt,hgh⟩:∃ x,x=gh:=⟨_,rfl⟩;subst hgh;have hlt:=hI;dsimp only [lca,bG] at H;refine pE (ι:=Bool) (Tc:=[(0,_),(3,_),(5,_),(16,_),(17,_)]) (Lc:=[]) (fun gh=>[(6,.bool gh)]) (fun gh=>[]) (fun gh=>G) (fun gh=>gh=EL (gF s k)) (by exact (H).sub ⟨rfl,rfl,rfl,rfl,rfl,aB⟩) ?_ ?_
  ·skip;refine kP H (SC (Rm rfl (Rm rfl ?_)));clear H;intro a H;refine nO k fO H wn rfl rfl rfl (by omega) rfl ?_;clear H;intro a H;rw [← kN] at H;refine kH H (Rc rfl (Rm rfl (Sp 34 rfl ?_ ?_))) <;> clear H
   ·intro gD a H
    try have p34:=dT gD
    refine kH H (YM gD rfl (YM gD rfl ?_));clear H;intro a H;refine nO k fO H (wg H rfl rfl gD) rfl rfl rfl (by omega) rfl ?_;clear H;intro a H;rw [← kN] at H;refine kH H (YC gD rfl (Pt gD rfl (Rm rfl (Sp 40 rfl ?_ ?_)))) <;> clear H
    ·intro lS a H
     try have p40:=dT lS
     refine kH H (aR lS rfl (aR lS rfl (Pt lS rfl (Rm rfl (aR rfl rfl (aR rfl rfl (Pt rfl rfl (Ra rfl ?_))))))));clear H;intro a H;refine aG ?_;refine ⟨_,by exact (H).sub ⟨rfl,rfl,rfl,rfl,rfl,rfl,aB⟩,?_⟩
     unfold EL;first|(simp_all;done)|(simp_all;omega)
    intro lS a H
    try have p40:=dF lS
    refine kH H (YM lS rfl (YM lS rfl ?_));clear H;intro a H;refine nO k fO H (wg H rfl rfl lS) rfl rfl rfl (by omega) rfl ?_;clear H;intro a H;rw [← kN] at H;refine kH H (YC lS rfl (Pf lS rfl (Rm rfl (Sp 46 rfl ?_ ?_)))) <;> clear H
    ·intro h46 a H
     try have p46:=dT h46
     refine kH H (aR h46 rfl (aR h46 rfl (Pt h46 rfl (Ra rfl ?_))));clear H;intro a H;refine aG ?_;refine ⟨_,by exact (H).sub ⟨rfl,rfl,rfl,rfl,rfl,rfl,aB⟩,?_⟩
     unfold EL;first|(simp_all;done)|(simp_all;omega)
    intro h46 a H
    try have p46:=dF h46
    refine kH H (YM h46 rfl (YM h46 rfl ?_));clear H;intro a H;refine nO k fO H (wg H rfl rfl h46) rfl rfl rfl (by omega) rfl ?_;clear H;intro a H;rw [← kN] at H;refine kH H (YC h46 rfl (Pf h46 rfl (Ra rfl ?_)));clear H;intro a H;refine aG ?_;refine ⟨_,by exact (H).sub ⟨rfl,rfl,rfl,rfl,rfl,rfl,aB⟩,?_⟩
    unfold EL;first|(simp_all;done)|(simp_all;omega)
   intro gD a H
   try have p34:=dF gD
   refine kH H (aR gD rfl (aR gD rfl (Pf gD rfl (Rm rfl ?_))));clear H;intro a H;(iterate 2 refine uE H (wg H rfl rfl rfl) rfl rfl ?_;clear H;intro a H);refine nO k fO H (wg H rfl rfl rfl) rfl rfl rfl (by omega) rfl ?_;clear H;intro a H;rw [← kN] at H;refine GQ H (wg H rfl rfl rfl) rfl rfl rfl rfl ?_;clear H;intro a H;refine kH H (Pf rfl rfl (Rm rfl (Sp 46 rfl ?_ ?_))) <;> clear H
   ·intro h46 a H
    try have p46:=dT h46
    refine kH H (aR h46 rfl (aR h46 rfl (Pt h46 rfl (Ra rfl ?_))));clear H;intro a H;refine aG ?_;refine ⟨_,by exact (H).sub ⟨rfl,rfl,rfl,rfl,rfl,rfl,aB⟩,?_⟩
    unfold EL;first|(simp_all;done)|(simp_all;omega)
   intro h46 a H
   try have p46:=dF h46
   refine kH H (YM h46 rfl (YM h46 rfl ?_));clear H;intro a H;refine nO k fO H (wg H rfl rfl h46) rfl rfl rfl (by omega) rfl ?_;clear H;intro a H;rw [← kN] at H;refine kH H (YC h46 rfl (Pf h46 rfl (Ra rfl ?_)));clear H;intro a H;refine aG ?_;refine ⟨_,by exact (H).sub ⟨rfl,rfl,rfl,rfl,rfl,rfl,aB⟩,?_⟩
   unfold EL;first|(simp_all;done)|(simp_all;omega)
  clear H;intro gh a w hI H;obtain ⟨ot,hgh⟩:∃ x,x=gh:=⟨_,rfl⟩;subst hgh;have hot:=hI;dsimp only [lca,bG] at H;refine kP H (SR fun _ bR=>Rm rfl (Rn rfl (Rm rfl (Sp 54 rfl ?_ ?_)))) <;> clear H
  ·intro gW a H
   try have p54:=dT gW
   refine kH H (YM gW rfl (YC gW rfl (YM gW rfl (Sp 57 rfl ?_ ?_)))) <;> clear H
   ·intro h57 a H
    try have p57:=dT h57
    refine kH H (aR h57 rfl (PT gW h57 rfl (Pt gW rfl (Kz bR (Ct rfl rfl (SR fun _ bQ=>ak bQ rfl ?_))))));clear H bR bQ;intro a H;refine lr H results124 rfl ?_
    first
     | exact H.rt ⟨aF (by
       unfold qp
       rw [show k=s.size by omega] at hall
       rw [hall,jy (by omega)];rfl),rfl⟩
     | exact H.rt ⟨aF (by
       unfold qp
       rw [show (List.range s.size).all (zX s)=false from List.all_eq_false.2 ⟨k,by simpa using hk2,by unfold zX;simp_all⟩,Bool.and_false]),rfl⟩
   intro h57 a H
   try have p57:=dF h57
   refine kH H (YM h57 rfl (YN h57 rfl (PF gW h57 rfl (Pt gW rfl (Kz bR (Cd rfl ?_ ?_)))))) <;> clear H bR
   ·intro Eb a H
    try have p61:=dT Eb
    refine kP H (SR fun _ dJ=>ak dJ rfl ?_);clear H dJ;intro a H;refine lr H results124 rfl ?_
    first
     | exact H.rt ⟨aF (by
       unfold qp
       rw [show k=s.size by omega] at hall
       rw [hall,jy (by omega)];rfl),rfl⟩
     | exact H.rt ⟨aF (by
       unfold qp
       rw [show (List.range s.size).all (zX s)=false from List.all_eq_false.2 ⟨k,by simpa using hk2,by unfold zX;simp_all⟩,Bool.and_false]),rfl⟩
   intro Eb a H
   try have p61:=dF Eb
   refine kP H (Kc aQ (SC (Rd rfl (Rm rfl ?_))));clear H aQ;intro a H;refine aG ?_;refine dh ((k+1)) (by exact (H).sub ⟨rfl,rfl,rfl,aB⟩) ?_ ?_
   ·exact ⟨by omega,by rw [List.range_succ,List.all_append,hall];simp [zX];simp_all⟩
   first|omega|(dsimp only;omega)
  intro gW a H
  try have p54:=dF gW
  refine kH H (bC gW rfl (Ku rfl (Ku rfl (Ks gW rfl (Pf gW rfl (Kz bR (Cf rfl rfl (Kc aQ (SC (Rd rfl (Rm rfl ?_)))))))))));clear H bR aQ;intro a H;refine aG ?_;refine dh ((k+1)) (by exact (H).sub ⟨rfl,rfl,rfl,aB⟩) ?_ ?_
  ·exact ⟨by omega,by rw [List.range_succ,List.all_append,hall];simp [zX];simp_all⟩
  first|omega|(dsimp only;omega)
 intro h18 a H
 try have rV:=dF h18
 refine dW ?_;refine K6 _ _ ?_;clear K6;refine kP H (SR fun _ dO=>ak dO rfl ?_);clear H dO;intro a H;refine lr H results124 rfl ?_
 first
  | exact H.rt ⟨aF (by
    unfold qp
    rw [show k=s.size by omega] at hall
    rw [hall,jy (by omega)];rfl),rfl⟩
  | exact H.rt ⟨aF (by
    unfold qp
    rw [show (List.range s.size).all (zX s)=false from List.all_eq_false.2 ⟨k,by simpa using hk2,by unfold zX;simp_all⟩,Bool.and_false]),rfl⟩
end
section
open Go.RowKit
section
variable {N:Nat} {D:List Deferred} {w0:World} {F:Nat→Prop} {G0 G:GH} {L:OL} {T:List (Nat × aj)}
variable {r:Option Nat} {P:Program} {ops:Array Oper} {Q:Exit→Act→World→Prop} {rest:List Oper} {a:Act} {w:World}
variable {d:Nat} {ty:TypeId} {pos:String} {aM:Array Edge} {g:Option (Nat × Bool)}
end
end
section
open Go.RowKit
section
variable {N:Nat} {D:List Deferred} {w0:World} {F:Nat→Prop} {G0 G:GH} {L:OL} {T T':List (Nat × aj)}
variable {r:Option Nat} {P:Program} {Q:Exit→Act→World→Prop} {l:List Oper} {a a':Act} {w w':World} {ε:Type}
def Fv (l:List Oper) (pr:ε→Nat→aj→Prop) (T:List (Nat × aj)) (S:Nat→Bool) (E:ε) (T':List (Nat × aj)):Prop :=
 (∀ t v,lk T t=some v→lk T' t=some v)∧∀ i d,S i=true→eD l i=some d→∃ v,lk T' d=some v∧pr E i v
theorem Fv.put {pr:ε→Nat→aj→Prop} {S:Nat→Bool} {E E':ε} {i d:Nat} {v:aj} (h:Fv l pr T S E T') (hok:Oz l T=true) (hi:eD l i=some d) (hv:pr E' i v) (hE:∀ j u,j≠i→pr E j u→pr E' j u):Fv l pr T (dR S i) E' ((d,v) :: T'):=by
 have hil:=wX hi
 have hok1:=lJ.1 hok i (pq.2 hil)
 rw [mZ,hi] at hok1
 simp only [lK,Option.isNone_iff_eq_none,lJ,pq] at hok1
 refine ⟨fun t u ht=>?_,fun j e hj he=>?_⟩
 ·rw [fF (fun e=>by subst e;rw [hok1.1] at ht;cases ht)];exact h.1 t u ht
 ·by_cases hji:j=i
  ·subst hji;rw [hi] at he;cases he;exact ⟨v,kG _ _ _,hv⟩
  ·have hSj:S j=true:=by unfold dR at hj;rwa [ah hji] at hj
   obtain ⟨u,hu1,hu2⟩:=h.2 j e hSj he
   have hne:d≠e:=by
    intro e';subst e'
    have h2:=hok1.2 j (wX he)
    have hb:Nat.beq i j=false:=wU (fun h=>hji h.symm)
    rw [hb,he] at h2
    simp at h2
   exact ⟨u,by rw [fF hne];exact hu1,hE j u hji hu2⟩
theorem Fv.add {pr:ε→Nat→aj→Prop} {S:Nat→Bool} {E:ε} (h:Fv l pr T S E T') {t:Nat} {u:aj} (hu:lk T' t=some u):Fv l pr T S E ((t,u) :: T'):=by
 have e:∀ s v,lk T' s=some v→lk ((t,u) :: T') s=some v:=fun s v hs=>by
  by_cases hst:t=s
  ·subst hst;rw [hu] at hs;cases hs;exact kG _ _ _
  ·rw [fF hst];exact hs
 exact ⟨fun s v hs=>e s v (h.1 s v hs),fun i d hi hd=>by
  obtain ⟨v,h1,h2⟩:=h.2 i d hi hd
  exact ⟨v,e d v h1,h2⟩⟩
end
end
section
open Go.RowKit
section
variable {N:Nat} {D:List Deferred} {w0:World} {F:Nat→Prop} {G0 G G1 G2:GH} {L L1:OL} {T Xs:List (Nat × aj)}
variable {r:Option Nat} {P:Program} {Q:Exit→Act→World→Prop} {l:List Oper} {a a':Act} {w w':World}
theorem UY {id:Nat} (hm:P.follows .mixedOrders=true) (bS:List (List Nat)) (B:List Nat) (hk:zJ l bS=true) (hB:Ac l bS B=true) (X:(Nat→Bool)→Act→World→Prop) (h0:X (fun _=>false) a w.drew)
  (hstep:∀ i o S a w,l[i]?=some o→B.contains i=false→S i=false→(∀ j∈bS.getD i [],S j=true)→(∀ j,j < l.length→i∈bS.getD j []→S j=false)→X S a w→WL r P l.toArray (fun e a' w'=>e=.normal∧X (dR S i) a' w') [o] a w)
  (hend:∀ S a w,(∀ i,i < l.length→B.contains i=false→S i=true)→(∀ i,B.contains i=true→S i=false)→X S a w→WL r P l.toArray (fun e a w=>e=.normal∧Q .normal a w) (qU l B) a w):WP r P (.region id l.toArray true) Q a w:=by
 have hB1:∀ p b,B[p]?=some b→b < l.length∧∀ i,i < l.length→(B.contains i=false∨(B.take p).contains i=true)→i∈bS.getD b []:=by
  intro p b hp
  simp only [Ac,lK] at hB
  have h1:=lJ.1 hB.1 p (pq.2 (jm.1 hp).1)
  rw [hp] at h1
  simp only [lK,lJ,pq] at h1
  refine ⟨Eq.mp Nat.blt_eq h1.1,fun i hi hor=>?_⟩
  have h2:=h1.2 i hi
  rcases hor with h3|h3
  ·have h4:i∉B:=by simpa using h3
   simpa [h4] using h2
  ·have h4:i∈B.take p:=by simpa using h3
   simpa [h4] using h2
 have hB2:∀ i,i < l.length→B.contains i=false→∀ j∈bS.getD i [],B.contains j=false:=by
  intro i hi hb j hj
  simp only [Ac,lK] at hB
  have h1:=lJ.1 hB.2 i (pq.2 hi)
  rw [hb] at h1
  simp only [Bool.false_or,lJ] at h1
  simpa using h1 j hj
 refine Oe hm bS hk (fun S a w=>((∀ i,B.contains i=true→S i=false)∧X S a w) ∨
   ∃ p,(∀ i,i < l.length→B.contains i=false→S i=true)∧(∀ i,(B.take p).contains i=true→S i=true)∧(∀ q b,B[q]?=some b→p≤q→S b=false)∧WL r P l.toArray (fun e a w=>e=.normal∧Q .normal a w) (qU l (B.drop p)) a w)
  (.inl ⟨fun _ _=>rfl,h0⟩) ?_ ?_
 ·intro i o S a w ho hX aX mo hdesc
  have hil:i < l.length:=(jm.1 ho).1
  by_cases hbi:B.contains i=true
  ·-- an operation of the tail: all that stands ahead of it is done
   obtain ⟨p0,hp0⟩:=List.getElem?_of_mem (by simpa using hbi:i∈B)
   have hall:∀ j,j < l.length→B.contains j=false→S j=true:=fun j hj hb=>mo j ((hB1 p0 i hp0).2 j hj (.inl hb))
   have QC:∃ p,(∀ i,(B.take p).contains i=true→S i=true)∧(∀ q b,B[q]?=some b→p≤q→S b=false)∧WL r P l.toArray (fun e a w=>e=.normal∧Q .normal a w) (qU l (B.drop p)) a w:=by
    rcases hX with ⟨h1,hD⟩|⟨p,_,h2,h3,h4⟩
    ·exact ⟨0,by simp,fun q b hq _=>h1 b (by simpa using lI hq),hend S a w hall h1 hD⟩
    ·exact ⟨p,h2,h3,h4⟩
   obtain ⟨p,h2,h3,h4⟩:=QC
   -- i is the next one
   have hpp:p≤p0:=by
    rcases Nat.lt_or_ge p0 p with hlt|hge
    ·have:(B.take p).contains i=true:=by
      simp only [wR]
      exact lI (i:=p0) (by rw [uK,av hlt];exact hp0)
     rw [h2 i this] at aX;cases aX
    ·exact hge
   have Et:p < B.length:=by have:=(jm.1 hp0).1;omega
   have hbp:B[p]?=some B[p]:=iA Et
   have heq:B[p]=i:=by
    rcases Nat.lt_or_ge p p0 with hlt|hge
    ·exfalso
     have hin:B[p]∈bS.getD i []:=(hB1 p0 i hp0).2 _ (hB1 p _ hbp).1 (.inr (by
      simp only [wR]
      exact lI (i:=p) (by rw [uK,av hlt];exact hbp)))
     have:=mo _ hin
     rw [h3 p _ hbp (bT _)] at this;cases this
    ·have:p=p0:=by omega
     subst this
     rw [hbp] at hp0;simpa using hp0
   have hdrop:B.drop p=i :: B.drop (p+1):=by rw [kZ Et,heq]
   have hops:qU l (B.drop p)=o :: qU l (B.drop (p+1)):=by rw [hdrop];simp [qU,ho]
   rw [hops] at h4
   refine aaO (fun a' w' h5=>.inr ⟨p+1,fun j hj hb=>?_,fun j hj=>?_,fun q b hq hpq=>?_,h5⟩) h4
   ·unfold dR;split
    ·rfl
    ·exact hall j hj hb
   ·unfold dR;split
    ·rfl
    ·rename_i hne
     refine h2 j ?_
     simp only [wR] at hj ⊢
     rw [jg Et,jS] at hj
     rcases hj with hj|hj
     ·exact hj
     ·simp only [qK] at hj;exact absurd (hj.trans heq) hne
   ·unfold dR
    rw [ah ?_]
    ·exact h3 q b hq (by omega)
    ·rintro rfl
     -- i would stand twice in B: it would come ahead of itself
     have h6:=(hB1 q b hq).2 b (hB1 q b hq).1 (.inr (by
      simp only [wR]
      exact lI (i:=p) (by rw [uK,av (by omega)];rw [hbp,heq])))
     rw [mo _ h6] at aX;cases aX
  ·have yI:B.contains i=false:=by cases h:B.contains i with|false=>rfl|true=>exact absurd h hbi
   rcases hX with ⟨h1,hX⟩|⟨p,h0,_,_,_⟩
   ·refine qZ (fun e a' w' ⟨he,hD⟩=>⟨he,.inl ⟨fun j hj=>?_,hD⟩⟩) (hstep i o S a w ho yI aX mo hdesc hX)
    unfold dR
    rw [ah (by rintro rfl;rw [yI] at hj;cases hj)]
    exact h1 j hj
   ·rw [h0 i hil yI] at aX;cases aX
 ·intro S a w hall hX
  rcases hX with ⟨h1,hD⟩|⟨p,_,_,h3,h4⟩
  ·have hnil:B=[]:=by
    cases B with
    | nil=>rfl
    | cons b B=>have h5:=h1 b (by simp);rw [hall b (hB1 0 b rfl).1] at h5;cases h5
   subst hnil
   exact (hend S a w (fun j hj _=>hall j hj) h1 hD).2
  ·have hnil:B.drop p=[]:=by
    cases hd:B.drop p with
    | nil=>rfl
    | cons b B' =>
     have hb:B[p]?=some b:=by
      have:=aC (fun x:List Nat=>x[0]?) hd
      simpa using this
     have h5:=h3 p b hb (bT _)
     rw [hall b (hB1 p b hb).1] at h5;cases h5
   rw [hnil] at h4
   exact h4.2
theorem Oy {pr:Nat→aj→GH→Prop} {S:Nat→Bool} {i d:Nat} {v:aj} (hok:mZ l T i=true) (hi:eD l i=some d) 
  (HT:St N D w0 F G0 G1 L T a w) (Hb:St N D w0 F G0 G1 L (Xs++full N a) a w) (hG:∀ k o,G k=some o→G1 k=some o) (hv:∀ j d,j≠i→S j=true→eD l j=some d→∃ v,a.tmps[d]?=some v∧pr j v G1)
  (hp:pr i v G1) (H:St N D w0 F G0 G1 L1 ((d,v) :: (Xs++full N a)) a' w'):DX N D w0 F G0 G L1 T l pr (dR S i) a' w':=by
 have hil:i < l.length:=wX hi
 have hok1:=hok
 rw [mZ,hi] at hok1
 simp only [lK,Option.isNone_iff_eq_none,lJ,pq] at hok1
 have hsame:∀ t,t≠d→a'.tmps[t]?=a.tmps[t]?:=by
  intro t ht
  by_cases hlt:t < N
  ·have h1:∃ u,lk (Xs++full N a) t=some u:=by
    rw [EF]
    cases lk Xs t with
    | some u=>exact ⟨u,rfl⟩
    | none=>exact ⟨_,Mw a hlt⟩
   obtain ⟨u,hu⟩:=h1
   rw [Hb.get t u hu,H.get t u (by rw [fF (Ne.symm ht)];exact hu)]
  ·rw [Array.getElem?_eq_none (by rw [H.lM];omega),Array.getElem?_eq_none (by rw [Hb.lM];omega)]
 refine ⟨G1,hG,⟨H.lM,fun t u ht=>?_,H.qN,H.hp⟩,fun j e hj he=>?_⟩
 ·rw [hsame t (fun e=>by rw [e,hok1.1] at ht;cases ht)]
  exact HT.get t u ht
 ·by_cases hji:j=i
  ·subst hji
   rw [hi] at he
   simp only [nY] at he
   subst he
   exact ⟨v,H.get d v (kG _ _ _),hp⟩
  ·have hSj:S j=true:=by unfold dR at hj;rwa [ah hji] at hj
   obtain ⟨u,hu1,hu2⟩:=hv j e hji hSj he
   have hne:e≠d:=by
    intro e'
    subst e'
    have h2:=hok1.2 j (wX he)
    rw [wU (fun h=>hji h.symm),he] at h2
    simp at h2
   exact ⟨u,by rw [hsame e hne];exact hu1,hu2⟩
end
end
section
open Go.RowKit
section
variable {N:Nat} {D:List Deferred} {w0:World} {F:Nat→Prop} {G0 G:GH} {L:OL} {T:List (Nat × aj)}
variable {r:Option Nat} {P:Program} {ops:Array Oper} {Q:Exit→Act→World→Prop} {rest:List Oper} {a:Act} {w:World}
variable {d:Nat} {ty:TypeId} {pos:String} {aM:Array Edge} {g:Option (Nat × Bool)}
theorem EN {t:TypeId} (H:St N D w0 F G0 G L T a w) (hw:Region.wanted ⟨some d,.makeMap t none,ty,pos,aM,g⟩ (yielded ops a.tmps)=true) (hd:Nat.blt d N=true)
  (k:∀ b a' w',w0.heap.size≤b→St N D w0 F G0 G ((b,.map #[] 0) :: L) ((d,.map (some b)) :: T) a' w'→WL r P ops Q rest a' w'):WL r P ops Q (⟨some d,.makeMap t none,ty,pos,aM,g⟩ :: rest) a w:=by
 refine fq (v:=.map (some w.heap.size)) (w':=w.alloc (.map #[] 0)) hw rfl ?_ (k _ _ _ H.hp.size (H.put hd _ (H.hp.alloc _)))
 simp [execOp,Instr.makeMap,newObj,Sem.run,cZ]
def BD (an:Option (Nat × aj)) (zv:aj):aj × Bool:=match an with|some (_,v)=>(v,true)|none=>(zv,false)
theorem alq {t kt et:TypeId} {kd:TypeDesc} {x y:Operand} {b i clock:Nat} {es:Array MapEntry} {ky zv:aj} (an:Option (Nat × aj)) (hm:P.underlying t=some (.map kt et)) (hk:P.underlying kt=some kd) (hz:(P.info? et).map (fun i=>i.zero)=some (some zv)) (H:St N D w0 F G0 G L T a w)
  (hw:Region.wanted ⟨some d,.lookup t x y true,ty,pos,aM,g⟩ (yielded ops a.tmps)=true) (hx:ev T x=some (.map (some b))) (hy:ev T y=some ky) (hi:L[i]?=some (b,.map es clock)) (hky:MapKept.IsKey kd ky) (hf:Instr.findNow kd ky es.toList 0=some an) (hd:Nat.blt d N=true)
  (k:∀ a',St N D w0 F G0 G L ((d,.tuple #[(BD an zv).1,.bool (BD an zv).2]) :: T) a' w→WL r P ops Q rest a' w):WL r P ops Q (⟨some d,.lookup t x y true,ty,pos,aM,g⟩ :: rest) a w:=by
 have hb:w.heap[b]?=some (.map es clock):=H.hp.own _ (lI hi)
 obtain ⟨inf,hi1,hi2⟩:=lY.1 hz
 refine fq (v:=.tuple #[(BD an zv).1,.bool (BD an zv).2]) (w':=w) hw rfl ?_ (k _ (H.put hd _ H.hp))
 have h1:=MapKept.run_checkKey (w:=w) hk hky es.isEmpty 9999
 have h2:=MapKept.run_findKey (w:=w) hk hf
 cases an with
 | none=>simp [execOp,Instr.lookup,H.ev hx,H.ev hy,cZ,mD hm,MapKept.run_getObj_map hb,h1,h2,Result.andThen,zeroValue,BH hi1,hi2,BD]
 | some q=>simp [execOp,Instr.lookup,H.ev hx,H.ev hy,cZ,mD hm,MapKept.run_getObj_map hb,h1,h2,Result.andThen,BD]
theorem aaC {w:World} {b clock:Nat} {es:Array MapEntry} {o:Obj} (h:w.heap[b]?=some (.map es clock)):tO b o w { w with heap:=w.heap.setIfInBounds b o }:=by
 have hlt:b < w.heap.size:=(Array.getElem?_eq_some_iff.1 h).1
 refine ⟨rfl,rfl,rfl,by simp,by simp [hlt],fun k hk=>?_⟩
 simp only
 rw [Array.getElem?_setIfInBounds_ne (Ne.symm hk)]
theorem ZM {t kt et:TypeId} {kd:TypeDesc} {x y z:Operand} {b i clock:Nat} {es:Array MapEntry} {ky v:aj} (hm:P.underlying t=some (.map kt et)) (hk:P.underlying kt=some kd) (H:St N D w0 F G0 G L T a w)
  (hw:Region.wanted ⟨none,.mapUpdate t x y z,ty,pos,aM,g⟩ (yielded ops a.tmps)=true) (hx:ev T x=some (.map (some b))) (hy:ev T y=some ky) (hzv:ev T z=some v) (hi:L[i]?=some (b,.map es clock)) (hky:MapKept.IsKey kd ky) (hf:Instr.findNow kd ky es.toList 0=some none)
  (k:∀ w',St N D w0 F G0 G (L.set i (b,.map (es.push ⟨ky,v,clock⟩) (clock+1))) T a w'→WL r P ops Q rest a w'):WL r P ops Q (⟨none,.mapUpdate t x y z,ty,pos,aM,g⟩ :: rest) a w:=by
 have hb:w.heap[b]?=some (.map es clock):=H.hp.own _ (lI hi)
 have h1:=MapKept.run_checkKey (w:=w) hk hky false 9999
 have h2:=MapKept.run_findKey (w:=w) hk hf
 refine SY (w':={ w with heap:=w.heap.setIfInBounds b (.map (es.push ⟨ky,v,clock⟩) (clock+1)) }) hw rfl ?_ (k _ (H.move (H.hp.upd hi (aaC hb))))
 simp [execOp,Instr.mapUpdate,H.ev hx,H.ev hy,H.ev hzv,cZ,mD hm,MapKept.run_getObj_map hb,h1,h2,MapKept.run_setObj_map _ hb,Result.andThen]
theorem alx {t yt:TypeId} {x y:Operand} {p q:ByteArray} (H:St N D w0 F G0 G L T a w) (hw:Region.wanted ⟨some d,.binOp .neq t x y yt,ty,pos,aM,g⟩ (yielded ops a.tmps)=true) (hx:ev T x=some (.string p)) (hy:ev T y=some (.string q)) (hd:Nat.blt d N=true)
  (k:∀ a',St N D w0 F G0 G L ((d,.bool (!(p.toList == q.toList))) :: T) a' w→WL r P ops Q rest a' w):WL r P ops Q (⟨some d,.binOp .neq t x y yt,ty,pos,aM,g⟩ :: rest) a w:=by
 refine fq (v:=.bool (!(p.toList == q.toList))) (w':=w) hw rfl ?_ (k _ (H.put hd _ H.hp))
 simp [execOp,H.ev hx,H.ev hy,cZ,eqGuard,binOp,Op.stringOp]
theorem Hp.YD (h:Hp w0 F G0 G L w) {b o:Nat} {c:Array aj} {e:TypeId} {fz:Nat × Nat} {v:aj} (hm:(b,Obj.cells c e fz)∈L) (hv:c[o]?=some v):w.cell? ⟨b,o,none⟩=some v:=by
 have:=h.own _ hm
 simp only [World.cell?,this]
 exact hv
end
end
section
open Go.RowKit
section
variable {N:Nat} {D:List Deferred} {w0:World} {F:Nat→Prop} {G0 G G1 G2:GH} {L L1:OL} {T Xs:List (Nat × aj)}
variable {r:Option Nat} {P:Program} {Q:Exit→Act→World→Prop} {l:List Oper} {a a':Act} {w w':World}
end
end
section
open Go.RowKit
section
variable {N:Nat} {D:List Deferred} {w0:World} {F:Nat→Prop} {G0 G G1 G2:GH} {L L1 L2:OL} {T Xs:List (Nat × aj)}
variable {r:Option Nat} {P:Program} {Q:Exit→Act→World→Prop} {l:List Oper} {a a':Act} {w w':World}
theorem adF {pr:Nat→aj→GH→Prop} {S:Nat→Bool} {i:Nat} (hi:eD l i=none) (HT:St N D w0 F G0 G1 L T a w) (hG:∀ k o,G k=some o→G1 k=some o) (hv:∀ i d,S i=true→eD l i=some d→∃ v,a.tmps[d]?=some v∧pr i v G1)
  (H:St N D w0 F G0 G1 L2 (Xs++full N a) a w'):DX N D w0 F G0 G L2 T l pr (dR S i) a w' :=
 ⟨G1,hG,HT.move H.hp,fun j e hj he=>hv j e (by
  unfold dR at hj
  by_cases hji:j=i
  ·subst hji;rw [hi] at he;cases he
  ·rwa [ah hji] at hj) he⟩
end
end
section
open Go.RowKit
theorem ajn:liesAt prog prog.depth 259 (7 / prog.cellsOf 259) 2 121 1=true:=by kernel_rfl
theorem Hg:Ty prog 5 1 1 [.int .u8 0] false:=⟨by kernel_rfl,by kernel_rfl⟩
abbrev gK (b:Nat) (s:ByteArray) (i:Int) (p v q:aj) (pl e:Int):Nat × Obj:=(b,.cells #[.string s,vi i,p,v,q,vi pl,vi e] 259 (0,0))
theorem alJ (G:GH) (L:OL) (w0:World) (b:Nat) (s:ByteArray) (i:Int) (A:Option Addr) (n c:Nat) (B:Option Addr) (m d:Nat) (pl e:Int) (hO:gZ G (gK b s i (.pointer none) (.slice A n c) (.slice B m d) pl e :: L) w0) :
  Calls prog 74 #[(aI b 2)] w0 (gI w0 G (gK b s i (.pointer none) (.slice A n c) (.slice B m d) pl e :: L) fun u G' L'=>L'=gK b s i (aI b 2) (.slice A n c) (.slice B m d) pl e :: L∧G'=G):=by
 refine jZ (N:=20) (T:=[(0,_)]) func74 rfl ntmps74 rfl rfl hO ?_;intro a H;refine kP H (SR fun _ K1=>Rm rfl (Rk rfl (aT AO BO 0 rfl rfl ?_)));clear H;intro a H;refine MX Ag H wn rfl rfl ?_;clear H;intro a H;refine K1 _ _ ?_;clear K1;refine kS H rfl ?_ ?_
 ·intro h6
  refine kP H (SC (Rm rfl (Rm rfl ?_)));clear H;intro a H;refine ZV Ag Nl GV H wn rfl 0 rfl rfl rfl ?_;clear H;intro a H;refine ZO (xs:=[.tmp 9]) (Y5 _) H wn rfl rfl ?_;clear H;intro a H;refine ZK Nl Ag GV H wn rfl 0 rfl ajn rfl ?_;clear H;intro a H;refine kH H (Rk rfl (Rf AO rfl ?_));clear H;intro a H;refine bM BO 0 (vs:=[_]) _ H wn rfl rfl rfl rfl rfl rfl rfl rfl ?_;clear H;intro w H;dsimp only [List.set,setRow] at H;refine aG ?_;refine (leave0 H results74 ?_).2;exact H.hp.eX ⟨rfl,rfl⟩
 intro h6
 exact absurd h6 (by decide)
theorem alK (G:GH) (L:OL) (w0:World) (b:Nat) (s:ByteArray) (i:Int) (A:Option Addr) (n c:Nat) (B:Option Addr) (m d:Nat) (pl e:Int) (hO:gZ G (gK b s i (aI b 2) (.slice A n c) (.slice B m d) pl e :: L) w0) :
  Calls prog 74 #[(aI b 2)] w0 (gI w0 G (gK b s i (aI b 2) (.slice A n c) (.slice B m d) pl e :: L) fun u G' L'=>L'=gK b s i (aI b 2) (.slice A n c) (.slice B m d) pl e :: L∧G'=G):=by
 refine jZ (N:=20) (T:=[(0,_)]) func74 rfl ntmps74 rfl rfl hO ?_;intro a H;refine kP H (SR fun _ K1=>Rm rfl (Rk rfl (aT AO BO 0 rfl rfl ?_)));clear H;intro a H;refine MX Ag H wn rfl rfl ?_;clear H;intro a H;refine K1 _ _ ?_;clear K1;refine kS H rfl ?_ ?_
 ·intro h6
  exact absurd h6 (by simp)
 intro h6
 refine kP H (SR fun _ K2=>Rm rfl (Rk rfl (aT AO BO 0 rfl rfl (Rm rfl ?_))));clear H;intro a H;refine ZN Ag GV H wn rfl rfl rfl ?_;clear H;intro a H;refine K2 _ _ ?_;clear K2;refine kS H rfl ?_ ?_
 ·intro h19
  exact absurd h19 (by decide)
 intro h19
 refine fZ ?_;refine (leave0 H results74 ?_).2;exact H.hp.eX ⟨rfl,rfl⟩
theorem alL (G:GH) (L:OL) (w0:World) (b:Nat) (s:ByteArray) (i:Int) (p:aj) (A:Option Addr) (n c:Nat) (B:Option Addr) (m d:Nat) (pl e:Int) (hp:p=.pointer none∨p=(aI b 2)) (hO:gZ G (gK b s i p (.slice A n c) (.slice B m d) pl e :: L) w0) :
  Calls prog 74 #[(aI b 2)] w0 (gI w0 G (gK b s i p (.slice A n c) (.slice B m d) pl e :: L) fun u G' L'=>L'=gK b s i (aI b 2) (.slice A n c) (.slice B m d) pl e :: L∧G'=G):=by
 rcases hp with rfl|rfl
 ·exact alJ G L w0 b s i A n c B m d pl e hO
 exact alK G L w0 b s i A n c B m d pl e hO
theorem aaJ (G:GH) (Lp Lo:OL) (w0:World) (b:Nat) (s:ByteArray) (i:Int) (p v:aj) (B:Option Addr) (m d:Nat) (pl e:Int) (n:Nat) (xs:List aj) (c:Int) (hp:p=.pointer none∨p=(aI b 2)) (hO:gZ G (gK b s i p v (.slice B m d) pl e :: (Lp++Lo)) w0) (hrow:dz 5 1 v n xs Lo) (hn:n≤4294967296) :
  Calls prog 159 #[(aI b 2),.int .u8 c] w0 (gI w0 G (gK b s i p v (.slice B m d) pl e :: (Lp++Lo)) fun u G' L'=>∃ v' fG,L'=gK b s i (aI b 2) v' (.slice B m d) pl e :: (Lp++fG)∧dz 5 1 v' (n+1) (xs++[.int .u8 c]) fG∧G'=G):=by
 have hml:maxLen=9223372036854775807:=rfl;obtain ⟨A,c0,rfl,-,-⟩:=hrow.shape;obtain ⟨Lt,oJ⟩:∃ x,x=Lp++Lo:=⟨_,rfl⟩;rw [← oJ] at hO ⊢;refine jZ (N:=17) (T:=[(0,_),(1,_)]) func159 rfl ntmps159 rfl rfl hO ?_;intro a H;refine kP H (SR fun _ K1=>ak K1 rfl (SR fun _ K2=>Rm rfl ?_));clear H K1;intro a H;refine gY VP (Li:=[]) (L:=gK b s i p _ (.slice B m d) pl e :: Lt) H wn rfl (alL _ _ _ b s i p A n c0 B m d pl e hp (Hp.owns (Li:=[]) H.hp)) rfl ?_;clear H;rintro v6 _ L6 a w ⟨rfl,rfl⟩ hm6 H;dsimp only [List.nil_append] at H;refine K2 _ _ ?_;clear K2;refine kP H (SR fun _ K3=>Rm rfl (Rm rfl (Rk rfl (aT wY xK 0 rfl rfl (Rm rfl ?_)))));clear H;intro a H;refine gX vH Hg [_] [_] H wn rfl rfl rfl rfl rfl (by intro i q h;match i,h with|0,h=>exact h|n+1,h=>simp at h) rfl rfl ?_;clear H;intro b13 a w LQ H;subst oJ;have H:=St.un (A:=[_,_]) (B:=Lp) (C:=Lo) H;refine oz (Li:=[_,_]++Lp) (Lo:=Lo) (news:=[.int .u8 c]) vH Hg rfl rfl H wn rfl rfl hrow rfl (H.hp.dL 0 rfl rfl) rfl (by omega) (by omega) rfl ?_;clear H;intro v14 Ud a w Js H;obtain ⟨Tf,c14,rfl,-,-⟩:=Js.shape;have H:=H.assoc;dsimp only [lca,bG] at H;refine kH H (Rk rfl (Rf wY rfl ?_));clear H;intro a H;refine bM xK 1 (vs:=[_]) _ H wn rfl rfl rfl rfl rfl rfl rfl rfl ?_;clear H;intro w H;dsimp only [List.set,setRow] at H;refine K3 _ _ ?_;clear K3;exact kP H (SR fun _ K4=>ak K4 rfl (LR results159 rfl fun H=>H.hp.iy (L':=gK b s i _ _ _ pl e :: (Lp++Ud)) (Aw _ _) ⟨_,_,rfl,Js,rfl⟩))
theorem amc (G:GH) (L:OL) (w0:World) (b:Nat) (s:ByteArray) (i:Int) (p:aj) (A:Option Addr) (n c:Nat) (B:Option Addr) (m d:Nat) (pl e:Int) (hO:gZ G (gK b s i p (.slice A n c) (.slice B m d) pl e :: L) w0) :
  Calls prog 164 #[(aI b 2)] w0 (gI w0 G (gK b s i p (.slice A n c) (.slice B m d) pl e :: L) fun u G' L'=>u=vi n∧L'=gK b s i p (.slice A n c) (.slice B m d) pl e :: L∧G'=G):=by
 refine jZ (N:=8) (T:=[(0,_)]) func164 rfl ntmps164 rfl rfl hO ?_;intro a H;exact kP H (SR fun _ K1=>ak K1 rfl (SR fun _ K2=>Rm rfl (Rk rfl (aT wY xK 0 rfl rfl (Rl vH rfl (ak K2 rfl (LR results164 rfl fun H=>H.hp.eX ⟨rfl,rfl,rfl⟩)))))))
theorem ams (G:GH) (L:OL) (w0:World) (b:Nat) (s:ByteArray) (i:Int) (p:aj) (A:Option Addr) (n c:Nat) (B:Option Addr) (m d:Nat) (pl e:Int) (hO:gZ G (gK b s i p (.slice A n c) (.slice B m d) pl e :: L) w0) :
  Calls prog 165 #[(aI b 2)] w0 (gI w0 G (gK b s i p (.slice A n c) (.slice B m d) pl e :: L) fun u G' L'=>L'=gK b s i (.pointer none) (.slice none 0 0) (.slice B m d) pl e :: L∧G'=G):=by
 refine jZ (N:=8) (T:=[(0,_)]) func165 rfl ntmps165 rfl rfl hO ?_;intro a H;refine kP H (SR fun _ K1=>Rm rfl (Rk rfl (Rf AO rfl ?_)));clear H;intro a H;refine bM BO 0 (vs:=[_]) _ H wn rfl rfl rfl rfl rfl rfl rfl rfl ?_;clear H;intro w H;dsimp only [List.set,setRow] at H;refine K1 _ _ ?_;clear K1;refine kP H (SC (Rm rfl (Rk rfl (Rf wY rfl ?_))));clear H;intro a H;refine bM xK 0 (vs:=[_]) _ H wn rfl rfl rfl rfl rfl rfl rfl rfl ?_;clear H;intro w H;dsimp only [List.set,setRow] at H;refine aG ?_;refine (leave0 H results165 ?_).2;exact H.hp.eX ⟨rfl,rfl⟩
theorem amt (G:GH) (Lp Lo:OL) (w0:World) (b:Nat) (s:ByteArray) (i:Int) (p v:aj) (B:Option Addr) (m d:Nat) (pl e:Int) (l:List UInt8) (hO:gZ G (gK b s i p v (.slice B m d) pl e :: (Lp++Lo)) w0) (hrow:dz 5 1 v l.length (Lib.byteCells l) Lo) (h0:l≠[]) :
  Calls prog 49 #[(aI b 2)] w0 (gI w0 G (gK b s i p v (.slice B m d) pl e :: (Lp++Lo)) fun u G' L'=>u=.string ⟨l.toArray⟩∧L'=gK b s i p v (.slice B m d) pl e :: Lp):=by
 rcases hrow.2 with ⟨-,h,-⟩|⟨b2,cap,cur,rfl,rfl,hc1,hc2,hc3,hc4⟩
 ·exact absurd (List.eq_nil_of_length_eq_zero h) h0
 have hl0:l.length≠0:=fun h=>h0 (List.eq_nil_of_length_eq_zero h);have hml:maxLen=9223372036854775807:=rfl;obtain ⟨Lt,oJ⟩:∃ x,x=Lp++[(b2,Obj.cells cur 5 (0,0))]:=⟨_,rfl⟩;rw [← oJ] at hO ⊢;refine jZ (N:=14) (T:=[(0,_)]) func49 rfl ntmps49 rfl rfl hO ?_;intro a H;refine kP H (SR fun _ K1=>ak K1 rfl (SQ fun _ K2=>?_));clear H K1;intro a H;have H:=H.sub (T':=[(0,_)]) ⟨rfl,aB⟩;refine dI hmx [[],[0],[0,1],[0,1,2],(ra 0 4),[],[5],[5,6],[5,6,7],(ra 5 4),(ra 0 10),(ra 0 11)] [10,11] (by kernel_rfl) [_,_,_,.slice (some ⟨b2,0,none⟩) l.length cap,(aI b2 0),_,_,_,.slice (some ⟨b2,0,none⟩) l.length cap,_] H (aD (Z0 rfl (Rm rfl)) (Z1 0 3 rfl (Rk rfl)) (Z1 1 4 rfl (Rf wY rfl)) (Z1 2 5 rfl (Ro xK 0 rfl)) (aD ?_ (Z0 rfl (Rm rfl)) (Z1 5 8 rfl (Rk rfl)) (Z1 6 9 rfl (Rf wY rfl)) (aD (Z1 7 10 rfl (Ro xK 0 rfl)) (Z1 8 11 rfl (Rl vH rfl)) (bN rfl) (bN rfl) cu))) ?_
 ·refine dB 3 6 rfl rfl fun _ a w G1 hG HT H fin=>?_;refine ZT H wn rfl (by omega) rfl ?_;clear H;intro a H;exact fin H iJ rfl
 clear H;intro a w G mh H hv;have H:=H.aP (hv 4 7 rfl rfl) rfl;have H:=H.aP (hv 9 12 rfl rfl) rfl;clear hv;subst oJ;have H:=H.perm (List.Perm.cons _ Ay);dsimp only [lca,bG] at H;refine Sc (i:=1) l SI U4 h0 (by omega) H wn rfl rfl rfl (by rw [← hc4,Nat.mul_one]) rfl ?_;clear H;intro fz a w H;dsimp only [List.set] at H;refine kH H (Ra rfl ?_);clear H;intro a H;refine aG ⟨rfl,?_⟩;refine K2 _ _ ?_;clear K2;refine lr H results49 rfl ?_;exact H.hp.iy (L':=gK b s i _ _ _ pl e :: Lp) (List.Sublist.cons_cons _ (Aw _ _)) ⟨rfl,rfl⟩
end
section
open Go.RowKit
section
variable {N:Nat} {D:List Deferred} {w0:World} {F:Nat→Prop} {G0 G G1 G2:GH} {L L1 L2:OL} {T Xs:List (Nat × aj)}
variable {r:Option Nat} {P:Program} {Q:Exit→Act→World→Prop} {l:List Oper} {a a':Act} {w w':World}
end
end
section
open Go.RowKit
section
variable {N:Nat} {D:List Deferred} {w0:World} {F:Nat→Prop} {G0 G G1 G2:GH} {L L1 L2:OL} {T Xs:List (Nat × aj)}
variable {r:Option Nat} {P:Program} {Q:Exit→Act→World→Prop} {l:List Oper} {a a':Act} {w w':World}
theorem adG {pr:Nat→aj→GH→Prop} {S:Nat→Bool} {i d:Nat} {v:aj} (hok:mZ l T i=true) (iX:∀ i v (G G':GH),(∀ k o,G k=some o→G' k=some o)→pr i v G→pr i v G') (hi:eD l i=some d)
  (HT:St N D w0 F G0 G1 L T a w) (Hb:St N D w0 F G0 G1 L (Xs++full N a) a w) (hG:∀ k o,G k=some o→G1 k=some o) (hv:∀ j d,j≠i→S j=true→eD l j=some d→∃ v,a.tmps[d]?=some v∧pr j v G1)
  (hG2:∀ k o,G1 k=some o→G2 k=some o) (hp:pr i v G2) (H:St N D w0 F G0 G2 L1 ((d,v) :: (Xs++full N a)) a' w'):DX N D w0 F G0 G L1 T l pr (dR S i) a' w':=by
 have hok1:=hok
 rw [mZ,hi] at hok1
 simp only [lK,Option.isNone_iff_eq_none,lJ,pq] at hok1
 have hsame:∀ t,t≠d→a'.tmps[t]?=a.tmps[t]?:=by
  intro t ht
  by_cases hlt:t < N
  ·have h1:∃ u,lk (Xs++full N a) t=some u:=by
    rw [EF]
    cases lk Xs t with
    | some u=>exact ⟨u,rfl⟩
    | none=>exact ⟨_,Mw a hlt⟩
   obtain ⟨u,hu⟩:=h1
   rw [Hb.get t u hu,H.get t u (by rw [fF (Ne.symm ht)];exact hu)]
  ·rw [Array.getElem?_eq_none (by rw [H.lM];omega),Array.getElem?_eq_none (by rw [Hb.lM];omega)]
 refine ⟨G2,fun k o hk=>hG2 k o (hG k o hk),⟨H.lM,fun t u ht=>?_,H.qN,H.hp⟩,fun j e hj he=>?_⟩
 ·rw [hsame t (fun e=>by rw [e,hok1.1] at ht;cases ht)]
  exact HT.get t u ht
 ·by_cases hji:j=i
  ·subst hji
   rw [hi] at he
   simp only [nY] at he
   subst he
   exact ⟨v,H.get d v (kG _ _ _),hp⟩
  ·have hSj:S j=true:=by unfold dR at hj;rwa [ah hji] at hj
   obtain ⟨u,hu1,hu2⟩:=hv j e hji hSj he
   have hne:e≠d:=by
    intro e'
    subst e'
    have h2:=hok1.2 j (wX he)
    rw [wU (fun h=>hji h.symm),he] at h2
    simp at h2
   exact ⟨u,by rw [hsame e hne];exact hu1,iX j u _ _ hG2 hu2⟩
theorem ach {id:Nat} {κ:Type} (k0:κ) (hm:P.follows .mixedOrders=true) (bS:List (List Nat)) (B:List Nat) (hk:zJ l bS=true) (hB:Ac l bS B=true) (m1 m2 m3:Nat) (ahR:B.contains m1=false) (Xr:B.contains m2=false) (ahS:B.contains m3=false) (hne:Nat.beq m1 m2=false) (Xy:Nat.beq m2 m3=false) (hne1:Nat.beq m1 m3=false) (h12:(bS.getD m2 []).contains m1=true) (gB:(bS.getD m3 []).contains m1=true) (h23:(bS.getD m3 []).contains m2=true)
  (C L2:OL) (ob:Obj) (L3:Nat→κ→OL) (hC:∀ x,x∈C→x∈L) (hC2:∀ x,x∈C→x∈L2) (hC3:∀ b k x,x∈C→x∈L3 b k) (pr:Nat→κ→Nat→aj→GH→Prop)
  (aii:∀ b b' k i v G,Nat.beq i m2=false→(bS.getD i []).contains m2=false→pr b k i v G→pr b' k i v G)
  (aij:∀ b k k' i v G,Nat.beq i m3=false→(bS.getD i []).contains m3=false→pr b k i v G→pr b k' i v G)
  (H:St N D w0 F G0 G L T a w)
  (hstep:allI (fun i o=>∀ b k L' S a w G1,(∀ x,x∈C→x∈L')→B.contains i=false→Nat.beq i m1=false→Nat.beq i m2=false→Nat.beq i m3=false→S i=false→(∀ j∈bS.getD i [],S j=true)→(∀ k o,G k=some o→G1 k=some o)→St N D w0 F G0 G1 L' T a w→(∀ i d,S i=true→eD l i=some d→∃ v,a.tmps[d]?=some v∧pr b k i v G1) →
   WL r P l.toArray (fun e a' w'=>e=.normal∧DX N D w0 F G0 G L' T l (pr b k) (dR S i) a' w') [o] a w) 0 l)
  (Qw:∀ o b k S a w G1,l[m1]?=some o→S m1=false→(∀ j∈bS.getD m1 [],S j=true)→(∀ k o,G k=some o→G1 k=some o)→St N D w0 F G0 G1 L T a w→(∀ i d,i≠m1→S i=true→eD l i=some d→∃ v,a.tmps[d]?=some v∧pr b k i v G1) →
   WL r P l.toArray (fun e a' w'=>e=.normal∧DX N D w0 F G0 G L2 T l (pr b k) (dR S m1) a' w') [o] a w)
  (Qx:∀ o k S a w G1,l[m2]?=some o→S m2=false→(∀ j∈bS.getD m2 [],S j=true)→(∀ k o,G k=some o→G1 k=some o)→St N D w0 F G0 G1 L2 T a w→(∀ b i d,i≠m2→S i=true→eD l i=some d→∃ v,a.tmps[d]?=some v∧pr b k i v G1) →
   WL r P l.toArray (fun e a' w'=>e=.normal∧∃ b,DX N D w0 F G0 G ((b,ob) :: L2) T l (pr b k) (dR S m2) a' w') [o] a w)
  (ahT:∀ o b S a w G1,l[m3]?=some o→S m3=false→(∀ j∈bS.getD m3 [],S j=true)→(∀ k o,G k=some o→G1 k=some o)→St N D w0 F G0 G1 ((b,ob) :: L2) T a w→(∀ k i d,i≠m3→S i=true→eD l i=some d→∃ v,a.tmps[d]?=some v∧pr b k i v G1) →
   WL r P l.toArray (fun e a' w'=>e=.normal∧∃ k,DX N D w0 F G0 G (L3 b k) T l (pr b k) (dR S m3) a' w') [o] a w)
  (hend:∀ b k a w G1,(∀ k o,G k=some o→G1 k=some o)→St N D w0 F G0 G1 (L3 b k) T a w→(∀ i d,B.contains i=false→eD l i=some d→∃ v,a.tmps[d]?=some v∧pr b k i v G1)→WL r P l.toArray (fun e a w=>e=.normal∧Q .normal a w) (qU l B) a w)
  (Je:Nat.blt m2 l.length=true) (Qy:Nat.blt m3 l.length=true):WP r P (.region id l.toArray true) Q a w:=by
 have YV:m1≠m2:=fun e=>by subst e;rw [Nat.beq_refl] at hne;cases hne
 have YX:m2≠m3:=fun e=>by subst e;rw [Nat.beq_refl] at Xy;cases Xy
 have YW:m1≠m3:=fun e=>by subst e;rw [Nat.beq_refl] at hne1;cases hne1
 refine UY hm bS B hk hB (fun S a w=>(S m2=true→S m1=true)∧(S m3=true→S m2=true)∧∃ b k L',L'=(bif S m3 then L3 b k else bif S m2 then (b,ob) :: L2 else bif S m1 then L2 else L)∧DX N D w0 F G0 G L' T l (pr b k) S a w)
  ⟨fun h=>h,fun h=>h,0,k0,L,rfl,G,fun _ _ h=>h,H.move H.hp.drew,fun _ _ h=>absurd (show false=true from h) (by decide)⟩ ?_ ?_
 ·rintro i o S a w ho hb aX mo hdesc ⟨Jh,ahZ,b,k,L',hL,G1,hG,HS,hv⟩
  have hsub:∀ x,x∈C→x∈L':=fun x hx=>by
   rw [hL]
   cases S m3 with
   | true=>exact hC3 b k x hx
   | false=>cases S m2 with
    | true=>exact iZ _ (hC2 x hx)
    | false=>cases S m1 with
     | true=>exact hC2 x hx
     | false=>exact hC x hx
  have hno:∀ j,j < l.length→S j=true→(bS.getD j []).contains i=false:=fun j hjl hj=>by
   cases hc:(bS.getD j []).contains i with
   | false=>rfl
   | true =>
    have:=hdesc j hjl (by simpa using hc)
    rw [this] at hj;cases hj
  by_cases h1:i=m1
  ·subst h1
   have hS2:S m2=false:=hdesc m2 (Eq.mp Nat.blt_eq Je) (by simpa using h12)
   have FV:S m3=false:=hdesc m3 (Eq.mp Nat.blt_eq Qy) (by simpa using gB)
   rw [FV,hS2,aX] at hL
   subst hL
   have h:=Qw o b k S a w G1 ho aX mo hG HS fun j d hj hSj hd=>hv j d hSj hd
   have e2:dR S i m2=S m2:=ah (fun e=>YV e.symm)
   have e3:dR S i m3=S m3:=ah (fun e=>YW e.symm)
   refine qZ (fun e a' w' ⟨he,hD⟩=>⟨he,fun _=>av rfl,fun h=>(by rw [e3,FV] at h;cases h),b,k,_,?_,hD⟩) h
   rw [show dR S i i=true from av rfl,e2,e3,hS2,FV]
   rfl
  ·by_cases h2:i=m2
   ·subst h2
    have hS1:S m1=true:=mo m1 (by simpa using h12)
    have FV:S m3=false:=hdesc m3 (Eq.mp Nat.blt_eq Qy) (by simpa using h23)
    rw [FV,aX,hS1] at hL
    subst hL
    have e1:dR S i m1=S m1:=ah YV
    have e3:dR S i m3=S m3:=ah (fun e=>YX e.symm)
    have h:=Qx o k S a w G1 ho aX mo hG HS fun b' j d hj hSj hd=>by
     obtain ⟨v,hv1,hv2⟩:=hv j d hSj hd
     exact ⟨v,hv1,aii b b' k j v _ (wU hj) (hno j (wX hd) hSj) hv2⟩
    refine qZ (fun e a' w' ⟨he,b',hD⟩=>⟨he,fun _=>by rw [e1];exact hS1,fun _=>av rfl,b',k,_,?_,hD⟩) h
    rw [show dR S i i=true from av rfl,e3,FV];rfl
   ·by_cases h3:i=m3
    ·subst h3
     have hS1:S m1=true:=mo m1 (by simpa using gB)
     have hS2:S m2=true:=mo m2 (by simpa using h23)
     rw [aX,hS2] at hL
     subst hL
     have e1:dR S i m1=S m1:=ah YW
     have e2:dR S i m2=S m2:=ah YX
     have h:=ahT o b S a w G1 ho aX mo hG HS fun k' j d hj hSj hd=>by
      obtain ⟨v,hv1,hv2⟩:=hv j d hSj hd
      exact ⟨v,hv1,aij b k k' j v _ (wU hj) (hno j (wX hd) hSj) hv2⟩
     refine qZ (fun e a' w' ⟨he,k',hD⟩=>⟨he,fun _=>by rw [e1];exact hS1,fun _=>by rw [e2];exact hS2,b,k',_,?_,hD⟩) h
     rw [show dR S i i=true from av rfl];rfl
    ·have h:=Fx hstep i o ho
     rw [jh] at h
     have e1:dR S i m1=S m1:=ah (fun e=>h1 e.symm)
     have e2:dR S i m2=S m2:=ah (fun e=>h2 e.symm)
     have e3:dR S i m3=S m3:=ah (fun e=>h3 e.symm)
     refine qZ (fun e a' w' ⟨he,hD⟩=>⟨he,by rw [e1,e2];exact Jh,by rw [e2,e3];exact ahZ,b,k,L',?_,hD⟩) (h b k L' S a w G1 hsub hb (wU h1) (wU h2) (wU h3) aX mo hG HS hv)
     rw [e1,e2,e3];exact hL
 ·rintro S a w hall hnB ⟨_,_,b,k,L',hL,G1,hG,HS,hv⟩
  have hs3:S m3=true:=hall m3 (Eq.mp Nat.blt_eq Qy) ahS
  rw [hs3] at hL
  subst hL
  exact hend b k a w G1 hG HS fun j d hb hd=>hv j d (hall j (wX hd) hb) hd
end
theorem amH {z:Int} (h1:0≤z) (h2:z < 256):IntKind.u8.wrap z=z:=by
 simp only [IntKind.wrap,IntKind.bits,IntKind.signed,vO,DL,if_false]
 omega
section
variable {N:Nat} {D:List Deferred} {w0:World} {F:Nat→Prop} {G0 G:GH} {L:OL} {T:List (Nat × aj)}
variable {r:Option Nat} {P:Program} {ops:Array Oper} {Q:Exit→Act→World→Prop} {rest:List Oper} {a:Act} {w:World}
variable {d:Nat} {ty:TypeId} {pos:String} {aM:Array Edge} {g:Option (Nat × Bool)}
theorem alF {x y:Operand} {t yt:TypeId} {p q:Int} (H:St N D w0 F G0 G L T a w) (hw:Region.wanted ⟨some d,.binOp .sub t x y yt,ty,pos,aM,g⟩ (yielded ops a.tmps)=true) (hx:ev T x=some (.int .u8 p)) (hy:ev T y=some (.int .u8 q)) (h1:0≤p - q) (h2:p - q < 256) (hd:Nat.blt d N=true)
  (k:∀ a',St N D w0 F G0 G L ((d,.int .u8 (p - q)) :: T) a' w→WL r P ops Q rest a' w):WL r P ops Q (⟨some d,.binOp .sub t x y yt,ty,pos,aM,g⟩ :: rest) a w :=
 fq (v:=.int .u8 (p - q)) (w':=w) hw rfl (by simp [execOp,eqGuard,binOp,Op.intArith,H.ev hx,H.ev hy,cZ,amH h1 h2]) (k _ (H.put hd _ H.hp))
end
end
end Go.Proofs.YteopmoocmoigcaaGreat
