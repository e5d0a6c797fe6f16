/-
  What the claim stands on, part 2: Run Rg Pos Pq Doc Dq Eq Idx Bld Hv Ut Prk Prp Plc Plr Prq Prc Fst Nam Pn De Dj Mp Dk Dw.
-/
import Derived.Test.YthmanofbmnfemaaGreatWda
import Derived.Laws.StructEq
import Derived.ChangeKeysEq
import Derived.Lib.OthersKept
import Derived.Laws.IdiomStrings
import Derived.Laws.Cover4
import Derived.Laws.Slices
import Derived.Laws.Strings2
import Derived.MapKept
namespace Go.Proofs.YthmanofbmnfemaaGreat
open Go.Proofs.Tryz
set_option maxRecDepth 20000
set_option maxHeartbeats 4000000
section
open Go.RowKit
theorem hmx:prog.follows .mixedOrders=true:=by kernel_rfl
instance Cc:dL prog 68 0 0:=⟨by kernel_rfl⟩
instance bC:Ty prog 3 1 8 [.int .i64 0] false:=⟨by kernel_rfl,by kernel_rfl⟩
instance O7:dL prog 68 3 3:=⟨by kernel_rfl⟩
instance lY:Ty prog 9 1 16 [.string ⟨#[]⟩] false:=⟨by kernel_rfl,by kernel_rfl⟩
theorem OX:∀ args w,(callFunc 53 args).run prog w=.ok (.enter 53 args) w:=enters func53 rfl (by kernel_rfl)
theorem rR:prog.underlying 22=some (.slice 68):=by kernel_rfl
instance:kR prog 22 (.slice 68):=⟨rR⟩
instance dU:Ty prog 68 11 176 [.int .i64 0,.int .i64 0,.int .i64 0,.string ⟨#[]⟩,.slice none 0 0,.int .i64 0,.int .i64 0,.slice none 0 0,.slice none 0 0,.slice none 0 0,.slice none 0 0] true:=⟨by kernel_rfl,by kernel_rfl⟩
theorem ajf:∀ args w,(callFunc 105 args).run prog w=.ok (.enter 105 args) w:=enters func105 rfl (by kernel_rfl)
theorem wu:prog.underlying 23=some (.slice 171):=by kernel_rfl
instance:kR prog 23 (.slice 171):=⟨wu⟩
instance ql:Ty prog 171 2 16 [.int .i64 0,.int .i64 0] true:=⟨by kernel_rfl,by kernel_rfl⟩
theorem wz:prog.underlying 24=some (.slice 115):=by kernel_rfl
instance:kR prog 24 (.slice 115):=⟨wz⟩
instance sQ:Ty prog 115 2 16 [.int .i64 0,.int .i64 0] true:=⟨by kernel_rfl,by kernel_rfl⟩
theorem yK:prog.underlying 25=some (.slice 117):=by kernel_rfl
instance:kR prog 25 (.slice 117):=⟨yK⟩
instance rO:Ty prog 117 4 32 [.int .i64 0,.int .i64 0,.int .i64 0,.bool false] true:=⟨by kernel_rfl,by kernel_rfl⟩
instance gG:Ty prog 29 5 88 [.slice none 0 0,.int .i64 0,.int .i64 0,.slice none 0 0,.slice none 0 0] true:=⟨by kernel_rfl,by kernel_rfl⟩
instance Ma:dL prog 29 0 0:=⟨by kernel_rfl⟩
instance Et:Ty prog 23 1 24 [.slice none 0 0] false:=⟨by kernel_rfl,by kernel_rfl⟩
theorem aav:∀ args w,(callFunc 168 args).run prog w=.ok (.enter 168 args) w:=enters func168 rfl (by kernel_rfl)
instance Cb:dL prog 29 1 1:=⟨by kernel_rfl⟩
instance zS:dL prog 27 2 2:=⟨by kernel_rfl⟩
instance Af:Ty prog 24 1 24 [.slice none 0 0] false:=⟨by kernel_rfl,by kernel_rfl⟩
theorem ajQ:∀ args w,(callFunc 169 args).run prog w=.ok (.enter 169 args) w:=enters func169 rfl (by kernel_rfl)
instance GV:dL prog 27 3 3:=⟨by kernel_rfl⟩
instance IU:Ty prog 25 1 24 [.slice none 0 0] false:=⟨by kernel_rfl,by kernel_rfl⟩
theorem ajR:∀ args w,(callFunc 170 args).run prog w=.ok (.enter 170 args) w:=enters func170 rfl (by kernel_rfl)
theorem IV:prog.underlying 66=some (.slice 144):=by kernel_rfl
instance:kR prog 66 (.slice 144):=⟨IV⟩
instance jw:Ty prog 144 6 112 [.slice none 0 0,.int .i64 0,.int .i64 0,.slice none 0 0,.slice none 0 0,.slice none 0 0] true:=⟨by kernel_rfl,by kernel_rfl⟩
theorem FP:prog.underlying 142=some (.slice 147):=by kernel_rfl
instance:kR prog 142 (.slice 147):=⟨FP⟩
instance iI:Ty prog 147 7 120 [.int .i64 0,.slice none 0 0,.int .i64 0,.int .i64 0,.slice none 0 0,.slice none 0 0,.slice none 0 0] true:=⟨by kernel_rfl,by kernel_rfl⟩
instance aaU:dL prog 147 0 0:=⟨by kernel_rfl⟩
instance aaV:dL prog 147 1 1:=⟨by kernel_rfl⟩
theorem GR:∀ args w,(callFunc 112 args).run prog w=.ok (.enter 112 args) w:=enters func112 rfl (by kernel_rfl)
instance aaW:dL prog 147 2 6:=⟨by kernel_rfl⟩
instance zB:Ty prog 22 1 24 [.slice none 0 0] false:=⟨by kernel_rfl,by kernel_rfl⟩
theorem Uf:∀ args w,(callFunc 76 args).run prog w=.ok (.enter 76 args) w:=enters func76 rfl (by kernel_rfl)
theorem RI:sV prog 147 [(0,1),(1,5),(6,1)] [.int .i64 0,.slice none 0 0,.int .i64 0,.int .i64 0,.slice none 0 0,.slice none 0 0,.slice none 0 0]:=⟨by kernel_rfl,by kernel_rfl⟩
instance Jw:dL prog 144 0 0:=⟨by kernel_rfl⟩
instance O5:dL prog 144 1 5:=⟨by kernel_rfl⟩
instance RP:Ty prog 142 1 24 [.slice none 0 0] false:=⟨by kernel_rfl,by kernel_rfl⟩
theorem aaw:∀ args w,(callFunc 171 args).run prog w=.ok (.enter 171 args) w:=enters func171 rfl (by kernel_rfl)
theorem XL:sV prog 144 [(0,5),(5,1)] [.slice none 0 0,.int .i64 0,.int .i64 0,.slice none 0 0,.slice none 0 0,.slice none 0 0]:=⟨by kernel_rfl,by kernel_rfl⟩
instance DC:dL prog 68 4 4:=⟨by kernel_rfl⟩
instance abd:dL prog 68 5 9:=⟨by kernel_rfl⟩
instance abe:dL prog 68 6 10:=⟨by kernel_rfl⟩
instance X6:Ty prog 66 1 24 [.slice none 0 0] false:=⟨by kernel_rfl,by kernel_rfl⟩
theorem aan:∀ args w,(callFunc 114 args).run prog w=.ok (.enter 114 args) w:=enters func114 rfl (by kernel_rfl)
theorem aaq:∀ args w,(callFunc 138 args).run prog w=.ok (.enter 138 args) w:=enters func138 rfl (by kernel_rfl)
theorem akm:∀ args w,(callFunc 192 args).run prog w=.ok (.enter 192 args) w:=enters func192 rfl (by kernel_rfl)
theorem ajF:∀ args w,(callFunc 140 args).run prog w=.ok (.enter 140 args) w:=enters func140 rfl (by kernel_rfl)
theorem ajE:∀ args w,(callFunc 139 args).run prog w=.ok (.enter 139 args) w:=enters func139 rfl (by kernel_rfl)
def fK (x:av):Nat:=if x.kind=1 then qP x.text else 1
def zD (x:av):Int:=if x.kind=1 then IW x.text else 0
theorem ave (G:GH) (w0:World) (hG:Hold G w0) (x:av) (i2 i3:Int) (p i5 i6 d l f r:ak) (hs:x.text.size < 4611686018427387904) :
  Calls prog 105 #[.agg #[vi x.kind,vi i2,vi i3,.string x.text,p,i5,i6,d,l,f,r]] w0 (bB w0 G fun v G'=>v=.tuple #[vi (fK x),vi (zD x)]∧G=G'):=by
 refine eN [(0,_)] func105 rfl ntmps105 rfl rfl hG ?_;refine aj 1 ?_;intro a H;refine dN (cs:=[_,_,_,_,_,_,_,_,_,_,_]) H wn rfl rfl rfl ?_;clear H;intro b1 a w hb1 H;refine eO 9 H ?_ ?_ <;> clear H
 ·intro p6
  refine aj 4 ?_;intro a H;refine dw ?_;refine (gu H results105 (.cons (bG H rfl) (.cons (bG H rfl) .nil)) ?_).1;exact H.rt ⟨by simp only [fK,zD,ah p6];rfl,rfl⟩
 intro p6
 refine aj 4 ?_;intro a H;refine s_call OX H wn rfl (OE _ _ H.ro _ hs) rfl ?_;clear H;rintro v9 _ a w ⟨rfl,rfl⟩ - H;(iterate 2 refine qK H wn rfl rfl rfl ?_;clear H;intro a H);refine aH 3 H ?_;clear H;intro a H;refine dw ?_;refine (gu H results105 (.cons (bG H rfl) (.cons (bG H rfl) .nil)) ?_).1;exact H.rt ⟨by rw [fD] at p6;simp only [fK,zD,au p6],rfl⟩
def wO (l:List av):Bool:=l.all fun x=>decide (zD x=0)
def qL:List av→Nat
 | []=>0
 | x :: l=>fK x+qL l
def pX (l:List av):Int:=if wO l then qL l else 0
def Wz (l:List av):Int:=if wO l then 0 else 12
def lX:List av→Nat
 | []=>0
 | x :: l=>x.text.size+1+lX l
theorem XR:∀ l:List av,qL l≤lX l
 | []=>bX _
 | x :: l=>by
  have:=XR l;have h2:=GQ x.text
  simp only [qL,lX,fK];split <;> omega
theorem afB {x:av}:∀ {l:List av},x∈l→x.text.size < lX l
 | [],h=>by cases h
 | y :: l,h=>by
  simp only [lX]
  rcases kZ.1 h with rfl|h
  ·omega
  have:=afB h;omega
theorem auO (l m:List av):qL (l++m)=qL l+qL m:=by
 induction l with
 | nil=>simp [qL]
 | cons x l ih=>simp [qL,ih];omega
theorem auP {l:List av} {k:Nat} (h:k < l.length):qL (l.take (k+1))=qL (l.take k)+fK l[k]:=by
 rw [gI h,auO];simp [qL]
theorem IQ (l m:List av):lX (l++m)=lX l+lX m:=by
 induction l with
 | nil=>simp [lX]
 | cons x l ih=>simp [lX,ih];omega
theorem XW (l:List av) (k:Nat):lX (l.take k)≤lX l:=by
 have:=IQ (l.take k) (l.drop k);rw [List.take_append_drop] at this;omega
theorem AA {G:GH} {l:List av} {A:Option Addr} {k:Nat} (hk:k < l.length) (hg:∀ k r,(l.map av.dat)[k]?=some r→∃ b o cs,A=some ⟨b,o,none⟩∧cs.length=11∧(∀ j u,cs[j]?=some u→aC G b (o+k*11+j)=some u)∧aZ G r cs) :
  ∃ b o pA pn pc dA dn dc yA yn yc fA fn fc rA rn rc,A=some ⟨b,o,none⟩∧(∀ j u,[vi l[k].kind,vi l[k].code,vi l[k].id,.string l[k].text,.slice pA pn pc,vi l[k].head.marks.ins,vi l[k].head.marks.move,.slice dA dn dc,.slice yA yn yc,.slice fA fn fc,.slice rA rn rc][j]?=some u→aC G b (o+k*11+j)=some u) ∧
   gW G l[k].head (.slice pA pn pc) (.slice dA dn dc) (.slice yA yn yc)∧ay G (.sl 11 (l[k].flow.map av.dat)) (.slice fA fn fc)∧ay G (.sl 6 (l[k].rows.map aS.dat)) (.slice rA rn rc):=by
 obtain ⟨b,o,cs,h1,h2,h3,h4⟩:=hg k l[k].dat (by simp [hk]);obtain ⟨pA,pn,pc,dA,dn,dc,yA,yn,yc,fA,fn,fc,rA,rn,rc,rfl,h5,h6,h7⟩:=h4.item;exact ⟨b,o,pA,pn,pc,dA,dn,dc,yA,yn,yc,fA,fn,fc,rA,rn,rc,h1,h3,h5,h6,h7⟩
theorem aiQ {l:List av} {k:Nat} (h:k < l.length):wO (l.take (k+1))=(wO (l.take k) && decide (zD l[k]=0)):=by
 unfold wO
 rw [gI h,List.all_append];simp
theorem aiP {l:List av} {k:Nat} (h:k < l.length) (hn:¬ zD l[k]=0):wO l=false:=by
 unfold wO
 rw [List.all_eq_false];exact ⟨l[k],iq h,by simpa using hn⟩
theorem QJ:∀ l:List av,l.length≤lX l
 | []=>bX _
 | x :: l=>by have:=QJ l;simp only [jS,lX];omega
theorem RO:∀ l:List av,lX l≤aX l
 | []=>bX _
 | x :: l=>by
  have:=RO l;have h2:=pU x
  simp only [lX,aX,dR,dY] at *;omega
theorem QI (G:GH) (w0:World) (hG:Hold G w0) (l:List av) (v:ak) (hv:ay G (.sl 11 (l.map av.dat)) v) (hz:aX l≤4294967296) :
  Calls prog 51 #[v] w0 (bB w0 G fun v G'=>v=.tuple #[vi (pX l),vi (Wz l)]∧G=G'):=by
 obtain ⟨A,c,rfl,hc1,hc2,hg⟩:=hv.slice;rw [bE] at *;have hll:=QJ l;have htz:=RO l;refine eN [(0,_)] func51 rfl ntmps51 rfl rfl hG ?_;refine aj 14 ?_;intro a H;refine dD (ι:=Nat) (Tc:=[(9,_),(10,_)]) (Lc:=[]) (fun gh=>[(4,vi (qL (l.take gh))),(11,vi gh)]) (fun gh=>[]) (fun gh=>G) (fun gh=>gh≤l.length∧wO (l.take gh)=true) (fun gh=>l.length - gh) (0) sB ?_ ?_
 ·exact ⟨by omega,by simp [wO]⟩
 clear H;intro k a w hI H;obtain ⟨hk,hd⟩:=hI;dsimp only [lca,aQ] at H;refine cK 4 H ?_ ?_ <;> clear H
 ·intro lu
  have hk2:k < l.length:=by omega
  obtain ⟨b,o,pA,pn,pc,dA,dn,dc,yA,yn,yc,fA,fn,fc,rA,rn,rc,rfl,hrow,-⟩:=AA hk2 hg;have hsm:=auP hk2;have hle:=XR (l.take (k+1));have hle2:=XW l (k+1);refine aj 5 ?_;intro a H;refine aT dU (cs:=[_,_,_,_,_,_,_,_,_,_,_]) H wn rfl rfl (fun j v hj=>H.hp.aC (hrow j v hj)) rfl ?_;clear H;intro a H;refine dx dU H wn rfl ?_;clear H;intro b6 a w hb6 H;refine bq dU 0 (vs:=[_,_,_,_,_,_,_,_,_,_,_]) _ H wn rfl rfl rfl rfl rfl rfl rfl rfl ?_;clear H;intro w H;dsimp only [List.set,setRow] at H;refine aH 2 H ?_;clear H;intro a H;refine aT dU (cs:=[_,_,_,_,_,_,_,_,_,_,_]) H wn rfl rfl (H.hp.cO 0 rfl rfl) rfl ?_;clear H;intro a H;refine s_call ajf H wn rfl (ave _ _ H.ro _ _ _ _ _ _ _ _ _ _ (by have:=afB (iq hk2);omega)) rfl ?_;clear H;rintro v17 _ a w ⟨rfl,rfl⟩ - H;refine aH 1 H ?_;clear H;intro a H;(iterate 2 refine qK H wn rfl rfl rfl ?_;clear H;intro a H);refine eO 8 H ?_ ?_ <;> clear H
  ·intro nN
   refine aj 4 ?_;intro a H;refine dw ?_;refine (gu H results51 (.cons (bG H rfl) (.cons (bG H rfl) .nil)) ?_).1;exact H.rt ⟨by simp [pX,Wz,aiP hk2 nN],rfl⟩
  intro nN
  refine aj 5 ?_;intro a H;rw [← Int.natCast_add,← hsm] at H;refine aH 5 H ?_;clear H;intro a H;refine aI ?_;refine bR ((k+1)) (by exact (H.bY (Pl:=[_]) (bT:=[]) [] (by decide) rfl).sub ⟨rfl,rfl,rfl,rfl,aY⟩) ?_ ?_
  ·exact ⟨by omega,by rw [aiQ hk2,hd];simpa using nN⟩
  first|omega|(dsimp only;omega)
 intro lu
 refine aj 6 ?_;intro a H;refine dw ?_;refine (gu H results51 (.cons (bG H rfl) (.cons (bG H rfl) .nil)) ?_).1;exact H.rt ⟨by rw [show l.take k=l from iL (by omega)] at hd ⊢;simp [pX,Wz,hd],rfl⟩
theorem ZR (G:GH) (w0:World) (hG:Hold G w0) (rows:List (List Dat)) (A:Option Addr) (n c:Nat) (hv:ay G (.sl 2 rows) (.slice A n c)) (hz:rows.length≤4294967296) :
  Calls prog 168 #[.slice A n c] w0 (bB w0 G fun v G'=>ay G' (.sl 2 rows) v):=by
 obtain ⟨hn,hc1,hc2,hnil,hx⟩:=hv.cells;refine eN [(0,_)] func168 rfl ntmps168 rfl rfl hG ?_;refine aj 6 ?_;intro a H;refine El wu H wn rfl rfl ?_;clear H;refine goC 1 ?_ ?_
 ·intro h4
  refine aJ 3 ?_;rw [hnil (by simpa using h4)];exact ay.jB rfl (by simp [maxLen])
 intro h4
 try have p4:=dF h4
 refine aj 1 ?_
 have hA:¬ A=none:=by intro e;rw [e] at h4;cases h4
 refine aj 1 ?_;intro a H;refine Ei wu ql H wn rfl ?_;clear H;intro b5 a w hb5 H;refine aH 1 H ?_;clear H
 intro a H;by_cases hr0:rows=[]
 ·have hn0:n=0:=by rw [hn,hr0];rfl
  subst hn0;refine CP wu ql H wn rfl rfl (bX _) rfl ?_;clear H;refine aJ 2 ?_;rw [hr0];exact ay.jB rfl (by simp [maxLen])
 obtain ⟨b,o,xs,rfl,hxl,hxc,hx1,eU⟩:=hx hr0;refine oK (Li:=[]) (Lo:=[_]) (news:=xs) wu ql rfl rfl H wn rfl rfl cB.empty hxl (fun j u hj=>H.hp.aC (hxc j u hj)) hx1 (by omega) (by omega) rfl ?_;clear H;intro v7 Lo a w hrow H;obtain ⟨G',hm,hrep,H⟩:=H.vI hrow (rows:=rows) (by omega) (by simpa using eU)
 try clear hG
 obtain ⟨G2,hG2⟩:∃ g,g=G':=⟨_,rfl⟩;subst hG2;refine gK 2 H ?_;exact hrep
theorem ail (G:GH) (w0:World) (hG:Hold G w0) (rows:List (List Dat)) (A:Option Addr) (n c:Nat) (hv:ay G (.sl 2 rows) (.slice A n c)) (hz:rows.length≤4294967296) :
  Calls prog 169 #[.slice A n c] w0 (bB w0 G fun v G'=>ay G' (.sl 2 rows) v):=by
 obtain ⟨hn,hc1,hc2,hnil,hx⟩:=hv.cells;refine eN [(0,_)] func169 rfl ntmps169 rfl rfl hG ?_;refine aj 6 ?_;intro a H;refine El wz H wn rfl rfl ?_;clear H;refine goC 1 ?_ ?_
 ·intro h4
  refine aJ 3 ?_;rw [hnil (by simpa using h4)];exact ay.jB rfl (by simp [maxLen])
 intro h4
 try have p4:=dF h4
 refine aj 1 ?_
 have hA:¬ A=none:=by intro e;rw [e] at h4;cases h4
 refine aj 1 ?_;intro a H;refine Ei wz sQ H wn rfl ?_;clear H;intro b5 a w hb5 H;refine aH 1 H ?_;clear H
 intro a H;by_cases hr0:rows=[]
 ·have hn0:n=0:=by rw [hn,hr0];rfl
  subst hn0;refine CP wz sQ H wn rfl rfl (bX _) rfl ?_;clear H;refine aJ 2 ?_;rw [hr0];exact ay.jB rfl (by simp [maxLen])
 obtain ⟨b,o,xs,rfl,hxl,hxc,hx1,eU⟩:=hx hr0;refine oK (Li:=[]) (Lo:=[_]) (news:=xs) wz sQ rfl rfl H wn rfl rfl cB.empty hxl (fun j u hj=>H.hp.aC (hxc j u hj)) hx1 (by omega) (by omega) rfl ?_;clear H;intro v7 Lo a w hrow H;obtain ⟨G',hm,hrep,H⟩:=H.vI hrow (rows:=rows) (by omega) (by simpa using eU)
 try clear hG
 obtain ⟨G2,hG2⟩:∃ g,g=G':=⟨_,rfl⟩;subst hG2;refine gK 2 H ?_;exact hrep
theorem air (G:GH) (w0:World) (hG:Hold G w0) (rows:List (List Dat)) (A:Option Addr) (n c:Nat) (hv:ay G (.sl 4 rows) (.slice A n c)) (hz:rows.length≤4294967296) :
  Calls prog 170 #[.slice A n c] w0 (bB w0 G fun v G'=>ay G' (.sl 4 rows) v):=by
 obtain ⟨hn,hc1,hc2,hnil,hx⟩:=hv.cells;refine eN [(0,_)] func170 rfl ntmps170 rfl rfl hG ?_;refine aj 6 ?_;intro a H;refine El yK H wn rfl rfl ?_;clear H;refine goC 1 ?_ ?_
 ·intro h4
  refine aJ 3 ?_;rw [hnil (by simpa using h4)];exact ay.jB rfl (by simp [maxLen])
 intro h4
 try have p4:=dF h4
 refine aj 1 ?_
 have hA:¬ A=none:=by intro e;rw [e] at h4;cases h4
 refine aj 1 ?_;intro a H;refine Ei yK rO H wn rfl ?_;clear H;intro b5 a w hb5 H;refine aH 1 H ?_;clear H
 intro a H;by_cases hr0:rows=[]
 ·have hn0:n=0:=by rw [hn,hr0];rfl
  subst hn0;refine CP yK rO H wn rfl rfl (bX _) rfl ?_;clear H;refine aJ 2 ?_;rw [hr0];exact ay.jB rfl (by simp [maxLen])
 obtain ⟨b,o,xs,rfl,hxl,hxc,hx1,eU⟩:=hx hr0;refine oK (Li:=[]) (Lo:=[_]) (news:=xs) yK rO rfl rfl H wn rfl rfl cB.empty hxl (fun j u hj=>H.hp.aC (hxc j u hj)) hx1 (by omega) (by omega) rfl ?_;clear H;intro v7 Lo a w hrow H;obtain ⟨G',hm,hrep,H⟩:=H.vI hrow (rows:=rows) (by omega) (by simpa using eU)
 try clear hG
 obtain ⟨G2,hG2⟩:∃ g,g=G':=⟨_,rfl⟩;subst hG2;refine gK 2 H ?_;exact hrep
theorem GL (G:GH) (w0:World) (hG:Hold G w0) (h:cu) (pA dA yA:Option Addr) (pn pc dn dc yn yc:Nat) (hv:gW G h (.slice pA pn pc) (.slice dA dn dc) (.slice yA yn yc)) (hz:oN h≤4294967296) :
  Calls prog 112 #[.agg #[.slice pA pn pc,vi h.marks.ins,vi h.marks.move,.slice dA dn dc,.slice yA yn yc]] w0 (bB w0 G fun v G'=>∃ p d l,v=.agg #[p,vi h.marks.ins,vi h.marks.move,d,l]∧gW G' h p d l):=by
 have he:=BF h;have h1:=lK (h.props.map gB.dat);have h2:=lK (h.marks.bg.map iK.dat);have h3:=lK (h.marks.layers.map iO.dat);refine eN [(0,_)] func112 rfl ntmps112 rfl rfl hG ?_;refine aj 1 ?_;intro a H;refine dN (cs:=[_,_,_,_,_]) H wn rfl rfl rfl ?_;clear H;intro b1 a w hb1 H;refine dx gG H wn rfl ?_;clear H;intro b2 a w hb2 H;refine aH 4 H ?_;clear H;intro a H;refine s_call aav H wn rfl (ZR _ _ H.ro _ _ _ _ hv.props (by omega)) rfl ?_;clear H;rintro v5 G5 a w rC Qh H;obtain ⟨A5,n5,c5,rfl⟩:=rC.form;refine aH 1 H ?_;clear H;intro a H;refine bq Et 1 (vs:=[_]) _ H wn rfl rfl rfl rfl rfl rfl rfl rfl ?_;clear H;intro w H;dsimp only [List.set,setRow] at H;refine aH 2 H ?_;clear H;obtain ⟨hvp,hvd,hvy⟩:=hv.mono Qh;clear hv
 have qG:∀ (bJ:Nat) (v:ak) (G G':GH),(∀ k o,G k=some o→G' k=some o)→(fun (bJ:Nat) (v:ak) (G:GH)=>match bJ with|0=>v=(aK b1 1)|1=>v=(aK b1 3)|2=>v=.slice dA dn dc|3=>ay G (.sl 2 (h.marks.bg.map iK.dat)) v|4=>v=(aK b1 1)|5=>v=(aK b1 4)|6=>v=.slice yA yn yc|7=>ay G (.sl 4 (h.marks.layers.map iO.dat)) v|8=>v=(aK b1 1)|9=>v=(aK b1 3)|_=>True) bJ v G→(fun (bJ:Nat) (v:ak) (G:GH)=>match bJ with|0=>v=(aK b1 1)|1=>v=(aK b1 3)|2=>v=.slice dA dn dc|3=>ay G (.sl 2 (h.marks.bg.map iK.dat)) v|4=>v=(aK b1 1)|5=>v=(aK b1 4)|6=>v=.slice yA yn yc|7=>ay G (.sl 4 (h.marks.layers.map iO.dat)) v|8=>v=(aK b1 1)|9=>v=(aK b1 3)|_=>True) bJ v G':=by
  intro bJ v G G' hm h
  match bJ,h with
  | 0,h=>exact h
  | 1,h=>exact h
  | 2,h=>exact h
  | 3,h=>exact ay.mono hm h
  | 4,h=>exact h
  | 5,h=>exact h
  | 6,h=>exact h
  | 7,h=>exact ay.mono hm h
  | 8,h=>exact h
  | 9,h=>exact h
  | 10,h=>exact trivial
  | 11,h=>exact trivial
  | 12,h=>exact trivial
  | 13,h=>exact trivial
  | _+14,h=>exact trivial
 intro a H;refine Ar (hmx) [[],[0],[0,1],[0,1,2],[],[4],[4,5],(ra 0 7),(ra 0 7),(ra 0 7++[8]),(ra 0 10),(ra 0 11),(ra 0 12),(ra 0 13)] (ra 10 4) (by kernel_rfl) (by kernel_rfl) (fun (bJ:Nat) (v:ak) (G:GH)=>match bJ with|0=>v=(aK b1 1)|1=>v=(aK b1 3)|2=>v=.slice dA dn dc|3=>ay G (.sl 2 (h.marks.bg.map iK.dat)) v|4=>v=(aK b1 1)|5=>v=(aK b1 4)|6=>v=.slice yA yn yc|7=>ay G (.sl 4 (h.marks.layers.map iO.dat)) v|8=>v=(aK b1 1)|9=>v=(aK b1 3)|_=>True) qG H ?_ ?_
 ·clear H;refine aF ?_ ?_ ?_ ?_ (aF ?_ ?_ ?_ ?_ (aF ?_ ?_ (bS rfl) (bS rfl) (aW (bS rfl) (aW (bS rfl) cZ))))
  ·refine dB [] rfl trivial (by kernel_rfl) qG rfl rfl ?_;intro bN a w G1 hG HT H fin;exact kH H (Rf Cb rfl fun _ H=>fin H iJ rfl)
  ·refine dB [(0,7,_)] rfl ⟨fun _ _ h=>h,aY⟩ (by kernel_rfl) qG rfl rfl ?_;intro bN a w G1 hG HT H fin;exact kH H (Rf zS rfl fun _ H=>fin H iJ rfl)
  ·refine dB [(1,8,_)] rfl ⟨fun _ _ h=>h,aY⟩ (by kernel_rfl) qG rfl rfl ?_;intro bN a w G1 hG HT H fin;exact kH H (Ro Af 1 rfl fun _ H=>fin H iJ rfl)
  ·refine dB [(2,9,_)] rfl ⟨fun _ _ h=>h,aY⟩ (by kernel_rfl) qG rfl rfl ?_;intro bN a w G1 hG HT H fin;refine s_call ajQ H wn rfl (ail _ _ H.ro _ _ _ _ (hvd.mono hG) (by omega)) rfl ?_;clear H;rintro v10 Ak a w uN nV H;exact fin H nV (uN)
  ·refine dB [] rfl trivial (by kernel_rfl) qG rfl rfl ?_;intro bN a w G1 hG HT H fin;exact kH H (Rf Cb rfl fun _ H=>fin H iJ rfl)
  ·refine dB [(4,11,_)] rfl ⟨fun _ _ h=>h,aY⟩ (by kernel_rfl) qG rfl rfl ?_;intro bN a w G1 hG HT H fin;exact kH H (Rf GV rfl fun _ H=>fin H iJ rfl)
  ·refine dB [(5,12,_)] rfl ⟨fun _ _ h=>h,aY⟩ (by kernel_rfl) qG rfl rfl ?_;intro bN a w G1 hG HT H fin;exact kH H (Ro IU 1 rfl fun _ H=>fin H iJ rfl)
  ·refine dB [(6,13,_)] rfl ⟨fun _ _ h=>h,aY⟩ (by kernel_rfl) qG rfl rfl ?_;intro bN a w G1 hG HT H fin;refine s_call ajR H wn rfl (air _ _ H.ro _ _ _ _ (hvy.mono hG) (by omega)) rfl ?_;clear H;rintro v14 qo a w vP DL H;exact fin H DL (vP)
  ·refine dB [] rfl trivial (by kernel_rfl) qG rfl rfl ?_;intro bN a w G1 hG HT H fin;exact kH H (Rf Cb rfl fun _ H=>fin H iJ rfl)
  refine dB [(8,15,_)] rfl ⟨fun _ _ h=>h,aY⟩ (by kernel_rfl) qG rfl rfl ?_;intro bN a w G1 hG HT H fin;exact kH H (Rf zS rfl fun _ H=>fin H iJ rfl)
 clear H;intro a w G DN H hv;obtain ⟨u10,M6,uN⟩:=hv 3 10 (by decide) rfl;(try dsimp only at uN);obtain ⟨Yt,n10,c10,rfl⟩:=uN.form;have H:=H.kI M6;obtain ⟨u14,M7,vP⟩:=hv 7 14 (by decide) rfl;(try dsimp only at vP);obtain ⟨Yu,n14,c14,rfl⟩:=vP.form;have H:=H.kI M7;have H:=H.aV (hv 9 16 rfl rfl) rfl;clear hv;refine bq Af 1 (vs:=[_]) _ H wn rfl rfl rfl rfl rfl rfl rfl rfl ?_;clear H;intro w H;dsimp only [List.set,setRow] at H;refine kH H (Rf Cb rfl (Rf GV rfl ?_));clear H;intro a H;refine bq IU 1 (vs:=[_]) _ H wn rfl rfl rfl rfl rfl rfl rfl rfl ?_;clear H;intro w H;dsimp only [List.set,setRow] at H;refine aI ⟨rfl,?_⟩;refine dW ?_;refine tq ?_;refine aT gG (cs:=[_,_,_,_,_]) H wn rfl rfl (H.hp.cO 1 rfl rfl) rfl ?_;clear H;intro a H;refine bq gG 0 (vs:=[_,_,_,_,_]) _ H wn rfl rfl rfl rfl rfl rfl rfl rfl ?_;clear H;intro w H;dsimp only [List.set,setRow] at H;refine aI ?_;refine dW ?_;refine dw ?_;refine (leave1 H results112 (.cons (xD gG (cs:=[_,_,_,_,_]) H rfl rfl (H.hp.cO 0 rfl rfl)) .nil) ?_).1;exact H.rt ⟨_,_,_,rfl,rC.mono DN,uN,vP⟩
theorem zo {G:GH} {w:World} (h:Hold G w):fM G [] w:=⟨h,fun _ h=>(by cases h),fun _ h=>(by cases h),List.Pairwise.nil⟩
theorem Jk {P:Program} {f:FuncId} {args:Array ak} {w0:World} {G:GH} {e sz n:Nat} {rows:List (List Dat)} (hG:Hold G w0) (h:Calls P f args w0 (fB w0 G [] fun u G' L'=>∃ xs,cB e sz u n xs L'∧bV G' sz rows xs)) (hl:rows.length=n) :
  Calls P f args w0 (bB w0 G fun u G'=>ay G' (.sl sz rows) u):=by
 intro cs;obtain ⟨e1,w',fr,⟨v,G',L',rfl,hch,xs,hrow,eU⟩,h2,h3,h4⟩:=h cs;have hp0:Hp w0 (fun k=>k < w0.heap.size) G G ([]++[]) w0:=⟨rfl,rfl,rfl,bX _,fun _ h=>h,fun _ _=>rfl,hG,fun _ _ h=>h,fun _ _ h=>.inl h,fun _ h=>(by cases h),fun _ h=>(by cases h),fun _ h=>(by cases h),List.Pairwise.nil⟩;have hp1:=hp0.change hch;rw [jv] at hp1;refine ⟨_,w',fr,?_,h2,h3,h4⟩
 rcases hrow.2 with ⟨rfl,h5,rfl⟩|⟨b,cap,cur,rfl,rfl,h5,h6,h7,h8⟩
 ·refine hp1.ret ?_;have:rows=[]:=List.eq_nil_of_length_eq_zero (by omega);subst this
  simp only [ay]
  exact ⟨none,0,by simp,by simp,by simp [maxLen],fun h=>absurd rfl h⟩
 have hn:=hp1.uU (b,.cells cur e (0,0)) (by simp);exact (hp1.giveUp 0 rfl).ret (ay.eT (GH.EH G' b _) hl h5 h6 h8 (eU.mono fun k o h=>GH.EG G' hn k o h))
def C8 (fv:ak) (w0:World) (G:GH) (d d':List Dat):Prop:=∀ (G1:GH) (w1:World) (cs:List ak),(∀ b o,G b=some o→G1 b=some o)→Hold G1 w1→aZ G1 d cs →
 wD prog fv [.agg cs.toArray] w1 (bB w1 G1 fun u G'=>∃ cs',u=.agg cs'.toArray∧aZ G' d' cs')
abbrev I9 (fv:ak) (w0:World) (G:GH) (d:List Dat):Prop:=C8 fv w0 G d d
theorem aai (φ:av→av) (G:GH) (w0:World) (hO:fM G [] w0) (l:List av) (v fv:ak) (hv:ay G (.sl 11 (l.map av.dat)) v) (hz:l.length≤4294967296) (hf:∀ x∈l,C8 fv w0 G x.dat (φ x).dat) :
  Calls prog 138 #[v,fv] w0 (fB w0 G [] fun u G' L'=>∃ xs,cB 68 11 u l.length xs L'∧bV G' 11 (l.map fun x=>(φ x).dat) xs):=by
 obtain ⟨A,c,rfl,hc1,hc2,hg⟩:=hv.slice
 have hml:4294967297≤maxLen:=by decide
 rw [bE] at *;refine iM (N:=22) (T:=[(0,_),(1,_)]) func138 rfl ntmps138 rfl rfl hO ?_;refine aj 13 ?_;intro a H;refine dD (ι:=Nat × ak × List ak × OL × GH) (Tc:=[(1,_),(8,_),(9,_)]) (Lc:=[]) (fun gh=>[(5,gh.2.1),(10,vi gh.1)]) (fun gh=>[]++gh.2.2.2.1) (fun gh=>gh.2.2.2.2) (fun gh=>gh.1≤l.length∧cB 68 11 gh.2.1 gh.1 gh.2.2.1 gh.2.2.2.1∧bV gh.2.2.2.2 11 ((l.map fun x=>(φ x).dat).take gh.1) gh.2.2.1∧(∀ b o,G b=some o→gh.2.2.2.2 b=some o)) (fun gh=>l.length - gh.1) ((0,.slice none 0 0,[],[],G)) sB ?_ ?_
 ·exact ⟨by omega,cB.nil,by simpa using bV.nil,fun _ _ h=>h⟩
 clear H;rintro ⟨k,v,xs,Lo,g⟩ a w hI H;dsimp only at hI H;obtain ⟨hk,hrw,eU,hgm⟩:=hI;dsimp only [lca,aQ] at H;refine cK 4 H ?_ ?_ <;> clear H
 ·intro qg
  have hk2:k < l.length:=by omega
  obtain ⟨b,o,cs,rfl,hcl,hrow,hrep⟩:=hg k l[k].dat (by simp [hk2]);obtain ⟨pA,pn,pc,dA,dn,dc,yA,yn,yc,fA,fn,fc,rA,rn,rc,rfl,-⟩:=hrep.item;replace hrow:=fun j u hj=>aD hgm (hrow j u hj);refine aj 5 ?_;intro a H;refine aT dU (cs:=[_,_,_,_,_,_,_,_,_,_,_]) H wn rfl rfl (fun j v hj=>H.hp.aC (hrow j v hj)) rfl ?_;clear H;intro a H;refine dx dU H wn rfl ?_;clear H;intro b7 a w qD H;refine bq dU 0 (vs:=[_,_,_,_,_,_,_,_,_,_,_]) _ H wn rfl rfl rfl rfl rfl rfl rfl rfl ?_;clear H;intro w H;dsimp only [List.set,setRow] at H;refine aH 4 H ?_;clear H;intro a H;refine aT dU (cs:=[_,_,_,_,_,_,_,_,_,_,_]) H wn rfl rfl (H.hp.cO 0 rfl rfl) rfl ?_;clear H;intro a H;refine nZ H wn rfl rfl (hf _ (iq hk2) _ _ _ hgm H.ro (hrep.mono hgm)) rfl ?_;clear H;rintro v17 Al a w ⟨Aw,rfl,jd⟩ nJ H;obtain ⟨cs,hcs⟩:∃ cs,cs=Aw:=⟨_,rfl⟩;obtain ⟨pA,pn,pc,dA,dn,dc,yA,yn,yc,fA,fn,fc,rA,rn,rc,yg,-⟩:=jd.item;rw [yg] at H;refine iy rR dU [_,_,_,_,_,_,_,_,_,_,_] [_,_,_,_,_,_,_,_,_,_,_] H wn rfl rfl rfl rfl rfl (by intro i q h;match i,h with|0,h=>exact h|n+1,h=>simp at h) rfl rfl ?_;clear H;intro b18 a w P7 H;refine oK (Li:=[_,_]) (Lo:=Lo) (news:=Aw) rR dU rfl rfl H wn rfl rfl hrw (by rw [yg];rfl) (by rw [yg];exact H.hp.cO 0 rfl rfl) jd.one (by omega) (by omega) rfl ?_;clear H;intro v19 Gj a w zX H;refine aH 5 H ?_;clear H;intro a H;refine aI ?_;refine bR ((k+1,v19,xs++Aw,Gj,Al)) (by exact (H.bY (Pl:=[_,_]) (bT:=[]) [] (by decide) rfl).sub ⟨rfl,rfl,rfl,rfl,rfl,aY⟩) ?_ ?_
  ·(try dsimp only);refine ⟨by omega,zX,?_,fun b o h=>nJ b o (hgm b o h)⟩;rw [gI (by simpa using hk2)];exact (eU.mono nJ).snoc (by simpa using jd) (by rw [yg];rfl)
  first|omega|(dsimp only;omega)
 intro qg
 refine aj 5 ?_;intro a H;refine lr H results138 rfl ?_
 obtain rfl:k=l.length:=by omega
 exact H.hp.dO ⟨_,hrw,by rw [iL (by simp)] at eU;exact eU⟩
theorem aja (φ:av→av) (G:GH) (w0:World) (hG:Hold G w0) (l:List av) (v fv:ak) (hv:ay G (.sl 11 (l.map av.dat)) v) (hz:l.length≤4294967296) (hf:∀ x∈l,C8 fv w0 G x.dat (φ x).dat) :
  Calls prog 138 #[v,fv] w0 (bB w0 G fun u G'=>ay G' (.sl 11 (l.map fun x=>(φ x).dat)) u):=Jk hG (aai φ G w0 (zo hG) l v fv hv hz hf) (by simp)
theorem aiW (G:GH) (w0:World) (hG:Hold G w0) (l:List av) (v fv:ak) (hv:ay G (.sl 11 (l.map av.dat)) v) (hz:l.length≤4294967296) (hf:∀ x∈l,I9 fv w0 G x.dat) :
  Calls prog 138 #[v,fv] w0 (bB w0 G fun u G'=>ay G' (.sl 11 (l.map av.dat)) u):=aja (fun x=>x) G w0 hG l v fv hv hz hf
theorem aiY (φ:aS→aS) (G:GH) (w0:World) (hO:fM G [] w0) (l:List aS) (v fv:ak) (hv:ay G (.sl 6 (l.map aS.dat)) v) (hz:l.length≤4294967296) (hf:∀ x∈l,C8 fv w0 G x.dat (φ x).dat) :
  Calls prog 114 #[v,fv] w0 (fB w0 G [] fun u G' L'=>∃ xs,cB 144 6 u l.length xs L'∧bV G' 6 (l.map fun x=>(φ x).dat) xs):=by
 obtain ⟨A,c,rfl,hc1,hc2,hg⟩:=hv.slice
 have hml:4294967297≤maxLen:=by decide
 rw [bE] at *;refine iM (N:=22) (T:=[(0,_),(1,_)]) func114 rfl ntmps114 rfl rfl hO ?_;refine aj 13 ?_;intro a H;refine dD (ι:=Nat × ak × List ak × OL × GH) (Tc:=[(1,_),(8,_),(9,_)]) (Lc:=[]) (fun gh=>[(5,gh.2.1),(10,vi gh.1)]) (fun gh=>[]++gh.2.2.2.1) (fun gh=>gh.2.2.2.2) (fun gh=>gh.1≤l.length∧cB 144 6 gh.2.1 gh.1 gh.2.2.1 gh.2.2.2.1∧bV gh.2.2.2.2 6 ((l.map fun x=>(φ x).dat).take gh.1) gh.2.2.1∧(∀ b o,G b=some o→gh.2.2.2.2 b=some o)) (fun gh=>l.length - gh.1) ((0,.slice none 0 0,[],[],G)) sB ?_ ?_
 ·exact ⟨by omega,cB.nil,by simpa using bV.nil,fun _ _ h=>h⟩
 clear H;rintro ⟨k,v,xs,Lo,g⟩ a w hI H;dsimp only at hI H;obtain ⟨hk,hrw,eU,hgm⟩:=hI;dsimp only [lca,aQ] at H;refine cK 4 H ?_ ?_ <;> clear H
 ·intro qg
  have hk2:k < l.length:=by omega
  obtain ⟨b,o,cs,rfl,hcl,hrow,hrep⟩:=hg k l[k].dat (by simp [hk2]);obtain ⟨pA,pn,pc,dA,dn,dc,yA,yn,yc,fA,fn,fc,rfl,-⟩:=hrep.row;replace hrow:=fun j u hj=>aD hgm (hrow j u hj);refine aj 5 ?_;intro a H;refine aT jw (cs:=[_,_,_,_,_,_]) H wn rfl rfl (fun j v hj=>H.hp.aC (hrow j v hj)) rfl ?_;clear H;intro a H;refine dx jw H wn rfl ?_;clear H;intro b7 a w qD H;refine bq jw 0 (vs:=[_,_,_,_,_,_]) _ H wn rfl rfl rfl rfl rfl rfl rfl rfl ?_;clear H;intro w H;dsimp only [List.set,setRow] at H;refine aH 4 H ?_;clear H;intro a H;refine aT jw (cs:=[_,_,_,_,_,_]) H wn rfl rfl (H.hp.cO 0 rfl rfl) rfl ?_;clear H;intro a H;refine nZ H wn rfl rfl (hf _ (iq hk2) _ _ _ hgm H.ro (hrep.mono hgm)) rfl ?_;clear H;rintro v17 Al a w ⟨Aw,rfl,jd⟩ nJ H;obtain ⟨cs,hcs⟩:∃ cs,cs=Aw:=⟨_,rfl⟩;obtain ⟨pA,pn,pc,dA,dn,dc,yA,yn,yc,fA,fn,fc,yg,-⟩:=jd.row;rw [yg] at H;refine iy IV jw [_,_,_,_,_,_] [_,_,_,_,_,_] H wn rfl rfl rfl rfl rfl (by intro i q h;match i,h with|0,h=>exact h|n+1,h=>simp at h) rfl rfl ?_;clear H;intro b18 a w P7 H;refine oK (Li:=[_,_]) (Lo:=Lo) (news:=Aw) IV jw rfl rfl H wn rfl rfl hrw (by rw [yg];rfl) (by rw [yg];exact H.hp.cO 0 rfl rfl) jd.one (by omega) (by omega) rfl ?_;clear H;intro v19 Gj a w zX H;refine aH 5 H ?_;clear H;intro a H;refine aI ?_;refine bR ((k+1,v19,xs++Aw,Gj,Al)) (by exact (H.bY (Pl:=[_,_]) (bT:=[]) [] (by decide) rfl).sub ⟨rfl,rfl,rfl,rfl,rfl,aY⟩) ?_ ?_
  ·(try dsimp only);refine ⟨by omega,zX,?_,fun b o h=>nJ b o (hgm b o h)⟩;rw [gI (by simpa using hk2)];exact (eU.mono nJ).snoc (by simpa using jd) (by rw [yg];rfl)
  first|omega|(dsimp only;omega)
 intro qg
 refine aj 5 ?_;intro a H;refine lr H results114 rfl ?_
 obtain rfl:k=l.length:=by omega
 exact H.hp.dO ⟨_,hrw,by rw [iL (by simp)] at eU;exact eU⟩
theorem aak (φ:aS→aS) (G:GH) (w0:World) (hG:Hold G w0) (l:List aS) (v fv:ak) (hv:ay G (.sl 6 (l.map aS.dat)) v) (hz:l.length≤4294967296) (hf:∀ x∈l,C8 fv w0 G x.dat (φ x).dat) :
  Calls prog 114 #[v,fv] w0 (bB w0 G fun u G'=>ay G' (.sl 6 (l.map fun x=>(φ x).dat)) u):=Jk hG (aiY φ G w0 (zo hG) l v fv hv hz hf) (by simp)
theorem aiZ (G:GH) (w0:World) (hG:Hold G w0) (l:List aS) (v fv:ak) (hv:ay G (.sl 6 (l.map aS.dat)) v) (hz:l.length≤4294967296) (hf:∀ x∈l,I9 fv w0 G x.dat) :
  Calls prog 114 #[v,fv] w0 (bB w0 G fun u G'=>ay G' (.sl 6 (l.map aS.dat)) u):=aak (fun x=>x) G w0 hG l v fv hv hz hf
theorem aiX (φ:aR→aR) (G:GH) (w0:World) (hO:fM G [] w0) (l:List aR) (v fv:ak) (hv:ay G (.sl 7 (l.map aR.dat)) v) (hz:l.length≤4294967296) (hf:∀ x∈l,C8 fv w0 G x.dat (φ x).dat) :
  Calls prog 171 #[v,fv] w0 (fB w0 G [] fun u G' L'=>∃ xs,cB 147 7 u l.length xs L'∧bV G' 7 (l.map fun x=>(φ x).dat) xs):=by
 obtain ⟨A,c,rfl,hc1,hc2,hg⟩:=hv.slice
 have hml:4294967297≤maxLen:=by decide
 rw [bE] at *;refine iM (N:=22) (T:=[(0,_),(1,_)]) func171 rfl ntmps171 rfl rfl hO ?_;refine aj 13 ?_;intro a H;refine dD (ι:=Nat × ak × List ak × OL × GH) (Tc:=[(1,_),(8,_),(9,_)]) (Lc:=[]) (fun gh=>[(5,gh.2.1),(10,vi gh.1)]) (fun gh=>[]++gh.2.2.2.1) (fun gh=>gh.2.2.2.2) (fun gh=>gh.1≤l.length∧cB 147 7 gh.2.1 gh.1 gh.2.2.1 gh.2.2.2.1∧bV gh.2.2.2.2 7 ((l.map fun x=>(φ x).dat).take gh.1) gh.2.2.1∧(∀ b o,G b=some o→gh.2.2.2.2 b=some o)) (fun gh=>l.length - gh.1) ((0,.slice none 0 0,[],[],G)) sB ?_ ?_
 ·exact ⟨by omega,cB.nil,by simpa using bV.nil,fun _ _ h=>h⟩
 clear H;rintro ⟨k,v,xs,Lo,g⟩ a w hI H;dsimp only at hI H;obtain ⟨hk,hrw,eU,hgm⟩:=hI;dsimp only [lca,aQ] at H;refine cK 4 H ?_ ?_ <;> clear H
 ·intro qg
  have hk2:k < l.length:=by omega
  obtain ⟨b,o,cs,rfl,hcl,hrow,hrep⟩:=hg k l[k].dat (by simp [hk2]);obtain ⟨pA,pn,pc,dA,dn,dc,yA,yn,yc,fA,fn,fc,rfl,-⟩:=hrep.cell;replace hrow:=fun j u hj=>aD hgm (hrow j u hj);refine aj 5 ?_;intro a H;refine aT iI (cs:=[_,_,_,_,_,_,_]) H wn rfl rfl (fun j v hj=>H.hp.aC (hrow j v hj)) rfl ?_;clear H;intro a H;refine dx iI H wn rfl ?_;clear H;intro b7 a w qD H;refine bq iI 0 (vs:=[_,_,_,_,_,_,_]) _ H wn rfl rfl rfl rfl rfl rfl rfl rfl ?_;clear H;intro w H;dsimp only [List.set,setRow] at H;refine aH 4 H ?_;clear H;intro a H;refine aT iI (cs:=[_,_,_,_,_,_,_]) H wn rfl rfl (H.hp.cO 0 rfl rfl) rfl ?_;clear H;intro a H;refine nZ H wn rfl rfl (hf _ (iq hk2) _ _ _ hgm H.ro (hrep.mono hgm)) rfl ?_;clear H;rintro v17 Al a w ⟨Aw,rfl,jd⟩ nJ H;obtain ⟨cs,hcs⟩:∃ cs,cs=Aw:=⟨_,rfl⟩;obtain ⟨pA,pn,pc,dA,dn,dc,yA,yn,yc,fA,fn,fc,yg,-⟩:=jd.cell;rw [yg] at H;refine iy FP iI [_,_,_,_,_,_,_] [_,_,_,_,_,_,_] H wn rfl rfl rfl rfl rfl (by intro i q h;match i,h with|0,h=>exact h|n+1,h=>simp at h) rfl rfl ?_;clear H;intro b18 a w P7 H;refine oK (Li:=[_,_]) (Lo:=Lo) (news:=Aw) FP iI rfl rfl H wn rfl rfl hrw (by rw [yg];rfl) (by rw [yg];exact H.hp.cO 0 rfl rfl) jd.one (by omega) (by omega) rfl ?_;clear H;intro v19 Gj a w zX H;refine aH 5 H ?_;clear H;intro a H;refine aI ?_;refine bR ((k+1,v19,xs++Aw,Gj,Al)) (by exact (H.bY (Pl:=[_,_]) (bT:=[]) [] (by decide) rfl).sub ⟨rfl,rfl,rfl,rfl,rfl,aY⟩) ?_ ?_
  ·(try dsimp only);refine ⟨by omega,zX,?_,fun b o h=>nJ b o (hgm b o h)⟩;rw [gI (by simpa using hk2)];exact (eU.mono nJ).snoc (by simpa using jd) (by rw [yg];rfl)
  first|omega|(dsimp only;omega)
 intro qg
 refine aj 5 ?_;intro a H;refine lr H results171 rfl ?_
 obtain rfl:k=l.length:=by omega
 exact H.hp.dO ⟨_,hrw,by rw [iL (by simp)] at eU;exact eU⟩
theorem aaj (φ:aR→aR) (G:GH) (w0:World) (hG:Hold G w0) (l:List aR) (v fv:ak) (hv:ay G (.sl 7 (l.map aR.dat)) v) (hz:l.length≤4294967296) (hf:∀ x∈l,C8 fv w0 G x.dat (φ x).dat) :
  Calls prog 171 #[v,fv] w0 (bB w0 G fun u G'=>ay G' (.sl 7 (l.map fun x=>(φ x).dat)) u):=Jk hG (aiX φ G w0 (zo hG) l v fv hv hz hf) (by simp)
theorem aiV (G:GH) (w0:World) (hG:Hold G w0) (l:List aR) (v fv:ak) (hv:ay G (.sl 7 (l.map aR.dat)) v) (hz:l.length≤4294967296) (hf:∀ x∈l,I9 fv w0 G x.dat) :
  Calls prog 171 #[v,fv] w0 (bB w0 G fun u G'=>ay G' (.sl 7 (l.map aR.dat)) u):=aaj (fun x=>x) G w0 hG l v fv hv hz hf
def F7 (n:Nat):Prop:=∀ (G:GH) (w0:World),Hold G w0→∀ (l:List av) (v:ak),ay G (.sl 11 (l.map av.dat)) v→aX l < n →
 Calls prog 76 #[v] w0 (bB w0 G fun u G'=>ay G' (.sl 11 (l.map av.dat)) u)
theorem aik {n:Nat} (ih:F7 n) (hn:n≤4294967296) (G:GH) (w0:World) (hG:Hold G w0) (x:aR) (cs:List ak) (hv:aZ G x.dat cs) (hz:bM x.dat < n+1) :
  Calls prog 192 #[.agg cs.toArray] w0 (bB w0 G fun u G'=>∃ cs',u=.agg cs'.toArray∧aZ G' x.dat cs'):=by
 have he:=uZ x;obtain ⟨pA,pn,pc,dA,dn,dc,yA,yn,yc,fA,fn,fc,rfl,hh,hf⟩:=hv.cell;refine eN [(0,_)] func192 rfl ntmps192 rfl rfl hG ?_;refine aj 1 ?_;intro a H;refine dN (cs:=[_,_,_,_,_,_,_]) H wn rfl rfl rfl ?_;clear H;intro b1 a w hb1 H;refine dx iI H wn rfl ?_;clear H;intro b2 a w hb2 H;refine aH 2 H ?_;clear H
 have dQ:∀ (bJ:Nat) (v:ak) (G G':GH),(∀ k o,G k=some o→G' k=some o)→(fun (bJ:Nat) (v:ak) (G:GH)=>match bJ with|0=>v=(aK b1 0)|1=>v=vi x.id|2=>v=(aK b1 1)|3=>v=.agg #[.slice pA pn pc,vi x.head.marks.ins,vi x.head.marks.move,.slice dA dn dc,.slice yA yn yc]|4=>∃ p d l,v=.agg #[p,vi x.head.marks.ins,vi x.head.marks.move,d,l]∧gW G x.head p d l|5=>v=(aK b1 6)|6=>v=.slice fA fn fc|7=>ay G (.sl 11 (x.flow.map av.dat)) v|_=>True) bJ v G→(fun (bJ:Nat) (v:ak) (G:GH)=>match bJ with|0=>v=(aK b1 0)|1=>v=vi x.id|2=>v=(aK b1 1)|3=>v=.agg #[.slice pA pn pc,vi x.head.marks.ins,vi x.head.marks.move,.slice dA dn dc,.slice yA yn yc]|4=>∃ p d l,v=.agg #[p,vi x.head.marks.ins,vi x.head.marks.move,d,l]∧gW G x.head p d l|5=>v=(aK b1 6)|6=>v=.slice fA fn fc|7=>ay G (.sl 11 (x.flow.map av.dat)) v|_=>True) bJ v G':=by
  intro bJ v G G' hm h
  match bJ,h with
  | 0,h=>exact h
  | 1,h=>exact h
  | 2,h=>exact h
  | 3,h=>exact h
  | 4,h=>exact let ⟨p,d,l,h1,h2⟩:=h;⟨p,d,l,h1,h2.mono hm⟩
  | 5,h=>exact h
  | 6,h=>exact h
  | 7,h=>exact ay.mono hm h
  | 8,h=>exact trivial
  | 9,h=>exact trivial
  | _+10,h=>exact trivial
 intro a H;refine Ar (hmx) [[],[0],[],[2],[2,3],[],[5],(ra 2 5),(ra 0 8),(ra 0 9)] [8,9] (by kernel_rfl) (by kernel_rfl) (fun (bJ:Nat) (v:ak) (G:GH)=>match bJ with|0=>v=(aK b1 0)|1=>v=vi x.id|2=>v=(aK b1 1)|3=>v=.agg #[.slice pA pn pc,vi x.head.marks.ins,vi x.head.marks.move,.slice dA dn dc,.slice yA yn yc]|4=>∃ p d l,v=.agg #[p,vi x.head.marks.ins,vi x.head.marks.move,d,l]∧gW G x.head p d l|5=>v=(aK b1 6)|6=>v=.slice fA fn fc|7=>ay G (.sl 11 (x.flow.map av.dat)) v|_=>True) dQ H ?_ ?_
 ·clear H;refine aF ?_ ?_ ?_ ?_ (aF ?_ ?_ ?_ ?_ (aW (bS rfl) (aW (bS rfl) cZ)))
  ·refine dB [] rfl trivial (by kernel_rfl) dQ rfl rfl ?_;intro bN a w G1 hG HT H fin;exact kH H (Rf aaU rfl fun _ H=>fin H iJ rfl)
  ·refine dB [(0,3,_)] rfl ⟨fun _ _ h=>h,aY⟩ (by kernel_rfl) dQ rfl rfl ?_;intro bN a w G1 hG HT H fin;exact kH H (Ro bC 1 rfl fun _ H=>fin H iJ rfl)
  ·refine dB [] rfl trivial (by kernel_rfl) dQ rfl rfl ?_;intro bN a w G1 hG HT H fin;exact kH H (Rf aaV rfl fun _ H=>fin H iJ rfl)
  ·refine dB [(2,5,_)] rfl ⟨fun _ _ h=>h,aY⟩ (by kernel_rfl) dQ rfl rfl ?_;intro bN a w G1 hG HT H fin;refine aT gG (cs:=[_,_,_,_,_]) H wn rfl rfl (H.hp.cO 1 rfl rfl) rfl ?_;clear H;intro a H;exact fin H iJ rfl
  ·refine dB [(3,6,_)] rfl ⟨fun _ _ h=>h,aY⟩ (by kernel_rfl) dQ rfl rfl ?_;intro bN a w G1 hG HT H fin;refine s_call GR H wn rfl (GL _ _ H.ro x.head _ _ _ _ _ _ _ _ _ (hh.mono hG) (by omega)) rfl ?_;clear H;rintro v7 G7 a w D8 Ht H;exact fin H Ht (D8)
  ·refine dB [] rfl trivial (by kernel_rfl) dQ rfl rfl ?_;intro bN a w G1 hG HT H fin;exact kH H (Rf aaW rfl fun _ H=>fin H iJ rfl)
  ·refine dB [(5,8,_)] rfl ⟨fun _ _ h=>h,aY⟩ (by kernel_rfl) dQ rfl rfl ?_;intro bN a w G1 hG HT H fin;exact kH H (Ro zB 1 rfl fun _ H=>fin H iJ rfl)
  refine dB [(6,9,_)] rfl ⟨fun _ _ h=>h,aY⟩ (by kernel_rfl) dQ rfl rfl ?_;intro bN a w G1 hG HT H fin;refine s_call Uf H wn rfl (ih _ _ H.ro x.flow _ (hf.mono hG) (by omega)) rfl ?_;clear H;rintro v10 Ak a w uN nV H;exact fin H nV (uN)
 clear H;intro a w G nH H hv;have H:=H.aV (hv 1 4 rfl rfl) rfl;obtain ⟨u7,V5,D8⟩:=hv 4 7 (by decide) rfl;(try dsimp only at D8);obtain ⟨p7,d7,l7,rfl,DW⟩:=D8;obtain ⟨a1,a2,a3,rfl⟩:=DW.props.form;obtain ⟨a4,a5,a6,rfl⟩:=DW.bg.form;obtain ⟨a7,a8,a9,rfl⟩:=DW.layers.form;have H:=H.kI V5;obtain ⟨u10,M6,uN⟩:=hv 7 10 (by decide) rfl;(try dsimp only at uN);obtain ⟨Yt,n10,c10,rfl⟩:=uN.form;have H:=H.kI M6;clear hv;refine jZ RI [_,_,_,_,_,_,_] H wn rfl rfl rfl rfl ?_;clear H;intro a H;refine bq iI 0 (vs:=[_,_,_,_,_,_,_]) _ H wn rfl rfl rfl rfl rfl rfl rfl rfl ?_;clear H;intro w H;dsimp only [List.set,setRow] at H;refine aI ⟨rfl,?_⟩;refine dW ?_;refine dw ?_;refine (leave1 H results192 (.cons (xD iI (cs:=[_,_,_,_,_,_,_]) H rfl rfl (H.hp.cO 0 rfl rfl)) .nil) ?_).1;exact H.rt ⟨_,rfl,aZ.Ke DW uN⟩
theorem aij {n:Nat} (ih:F7 n) (hn:n≤4294967296) {G:GH} {w0:World} (x:aR) (hz:bM x.dat < n+1):I9 (.func (.func 192) #[] #[]) w0 G x.dat:=by
 intro G1 w1 cs hm1 hG1 hr;have h:=aik ih hn _ _ hG1 x cs hr hz;have h2:=jM (P:=prog) (caps:=[]) (args:=[.agg cs.toArray]) akm h;exact h2
theorem aiy {n:Nat} (ih:F7 n) (hn:n≤4294967296) (G:GH) (w0:World) (hG:Hold G w0) (x:aS) (cs:List ak) (hv:aZ G x.dat cs) (hz:bM x.dat < n+1) :
  Calls prog 140 #[.agg cs.toArray] w0 (bB w0 G fun u G'=>∃ cs',u=.agg cs'.toArray∧aZ G' x.dat cs'):=by
 have he:=tO x;have hl:=BD x.cells;obtain ⟨pA,pn,pc,dA,dn,dc,yA,yn,yc,fA,fn,fc,rfl,hh,hf⟩:=hv.row;refine eN [(0,_)] func140 rfl ntmps140 rfl rfl hG ?_;refine aj 1 ?_;intro a H;refine dN (cs:=[_,_,_,_,_,_]) H wn rfl rfl rfl ?_;clear H;intro b1 a w hb1 H;refine dx jw H wn rfl ?_;clear H;intro b2 a w hb2 H;refine aH 2 H ?_;clear H
 have dQ:∀ (bJ:Nat) (v:ak) (G G':GH),(∀ k o,G k=some o→G' k=some o)→(fun (bJ:Nat) (v:ak) (G:GH)=>match bJ with|0=>v=(aK b1 0)|1=>v=.agg #[.slice pA pn pc,vi x.head.marks.ins,vi x.head.marks.move,.slice dA dn dc,.slice yA yn yc]|2=>∃ p d l,v=.agg #[p,vi x.head.marks.ins,vi x.head.marks.move,d,l]∧gW G x.head p d l|3=>v=(aK b1 5)|4=>v=.slice fA fn fc|5=>ay G (.sl 7 (x.cells.map aR.dat)) v|_=>True) bJ v G→(fun (bJ:Nat) (v:ak) (G:GH)=>match bJ with|0=>v=(aK b1 0)|1=>v=.agg #[.slice pA pn pc,vi x.head.marks.ins,vi x.head.marks.move,.slice dA dn dc,.slice yA yn yc]|2=>∃ p d l,v=.agg #[p,vi x.head.marks.ins,vi x.head.marks.move,d,l]∧gW G x.head p d l|3=>v=(aK b1 5)|4=>v=.slice fA fn fc|5=>ay G (.sl 7 (x.cells.map aR.dat)) v|_=>True) bJ v G':=by
  intro bJ v G G' hm h
  match bJ,h with
  | 0,h=>exact h
  | 1,h=>exact h
  | 2,h=>exact let ⟨p,d,l,h1,h2⟩:=h;⟨p,d,l,h1,h2.mono hm⟩
  | 3,h=>exact h
  | 4,h=>exact h
  | 5,h=>exact ay.mono hm h
  | 6,h=>exact trivial
  | 7,h=>exact trivial
  | _+8,h=>exact trivial
 intro a H;refine Ar (hmx) [[],[0],[0,1],[],[3],(ra 0 5),(ra 0 6),(ra 0 7)] [6,7] (by kernel_rfl) (by kernel_rfl) (fun (bJ:Nat) (v:ak) (G:GH)=>match bJ with|0=>v=(aK b1 0)|1=>v=.agg #[.slice pA pn pc,vi x.head.marks.ins,vi x.head.marks.move,.slice dA dn dc,.slice yA yn yc]|2=>∃ p d l,v=.agg #[p,vi x.head.marks.ins,vi x.head.marks.move,d,l]∧gW G x.head p d l|3=>v=(aK b1 5)|4=>v=.slice fA fn fc|5=>ay G (.sl 7 (x.cells.map aR.dat)) v|_=>True) dQ H ?_ ?_
 ·clear H;refine aF ?_ ?_ ?_ ?_ (aF ?_ ?_ (bS rfl) (bS rfl) cZ)
  ·refine dB [] rfl trivial (by kernel_rfl) dQ rfl rfl ?_;intro bN a w G1 hG HT H fin;exact kH H (Rf Jw rfl fun _ H=>fin H iJ rfl)
  ·refine dB [(0,3,_)] rfl ⟨fun _ _ h=>h,aY⟩ (by kernel_rfl) dQ rfl rfl ?_;intro bN a w G1 hG HT H fin;refine aT gG (cs:=[_,_,_,_,_]) H wn rfl rfl (H.hp.cO 1 rfl rfl) rfl ?_;clear H;intro a H;exact fin H iJ rfl
  ·refine dB [(1,4,_)] rfl ⟨fun _ _ h=>h,aY⟩ (by kernel_rfl) dQ rfl rfl ?_;intro bN a w G1 hG HT H fin;refine s_call GR H wn rfl (GL _ _ H.ro x.head _ _ _ _ _ _ _ _ _ (hh.mono hG) (by omega)) rfl ?_;clear H;rintro v5 G5 a w rC wU H;exact fin H wU (rC)
  ·refine dB [] rfl trivial (by kernel_rfl) dQ rfl rfl ?_;intro bN a w G1 hG HT H fin;exact kH H (Rf O5 rfl fun _ H=>fin H iJ rfl)
  ·refine dB [(3,6,_)] rfl ⟨fun _ _ h=>h,aY⟩ (by kernel_rfl) dQ rfl rfl ?_;intro bN a w G1 hG HT H fin;exact kH H (Ro RP 1 rfl fun _ H=>fin H iJ rfl)
  refine dB [(4,7,_)] rfl ⟨fun _ _ h=>h,aY⟩ (by kernel_rfl) dQ rfl rfl ?_;intro bN a w G1 hG HT H fin;refine s_call aaw H wn rfl (aiV _ _ H.ro x.cells _ _ (hf.mono hG) (by omega) (fun y hy=>aij ih hn y (by have:=Sj hy;omega))) rfl ?_;clear H;rintro v8 G8 a w mR pW H;exact fin H pW (mR)
 clear H;intro a w G nH H hv;obtain ⟨u5,Ih,rC⟩:=hv 2 5 (by decide) rfl;(try dsimp only at rC);obtain ⟨p5,d5,l5,rfl,yh⟩:=rC;obtain ⟨a1,a2,a3,rfl⟩:=yh.props.form;obtain ⟨a4,a5,a6,rfl⟩:=yh.bg.form;obtain ⟨a7,a8,a9,rfl⟩:=yh.layers.form;have H:=H.kI Ih;obtain ⟨u8,Bg,mR⟩:=hv 5 8 (by decide) rfl;(try dsimp only at mR);obtain ⟨A8,n8,c8,rfl⟩:=mR.form;have H:=H.kI Bg;clear hv;refine jZ XL [_,_,_,_,_,_] H wn rfl rfl rfl rfl ?_;clear H;intro a H;refine bq jw 0 (vs:=[_,_,_,_,_,_]) _ H wn rfl rfl rfl rfl rfl rfl rfl rfl ?_;clear H;intro w H;dsimp only [List.set,setRow] at H;refine aI ⟨rfl,?_⟩;refine dW ?_;refine dw ?_;refine (leave1 H results140 (.cons (xD jw (cs:=[_,_,_,_,_,_]) H rfl rfl (H.hp.cO 0 rfl rfl)) .nil) ?_).1;exact H.rt ⟨_,rfl,aZ.QU yh mR⟩
theorem aix {n:Nat} (ih:F7 n) (hn:n≤4294967296) {G:GH} {w0:World} (x:aS) (hz:bM x.dat < n+1):I9 (.func (.func 140) #[] #[]) w0 G x.dat:=by
 intro G1 w1 cs hm1 hG1 hr;have h:=aiy ih hn _ _ hG1 x cs hr hz;have h2:=jM (P:=prog) (caps:=[]) (args:=[.agg cs.toArray]) ajF h;exact h2
theorem aii {n:Nat} (ih:F7 n) (hn:n≤4294967296) (G:GH) (w0:World) (hG:Hold G w0) (x:av) (cs:List ak) (hv:aZ G x.dat cs) (hz:bM x.dat < n+1) :
  Calls prog 139 #[.agg cs.toArray] w0 (bB w0 G fun u G'=>∃ cs',u=.agg cs'.toArray∧aZ G' x.dat cs'):=by
 have he:=pU x;have hl:=BH x.rows;obtain ⟨pA,pn,pc,dA,dn,dc,yA,yn,yc,fA,fn,fc,rA,rn,rc,rfl,hh,hf,hr⟩:=hv.item;refine eN [(0,_)] func139 rfl ntmps139 rfl rfl hG ?_;refine aj 1 ?_;intro a H;refine dN (cs:=[_,_,_,_,_,_,_,_,_,_,_]) H wn rfl rfl rfl ?_;clear H;intro b1 a w hb1 H;refine dx dU H wn rfl ?_;clear H;intro b2 a w hb2 H;refine aH 2 H ?_;clear H
 have dQ:∀ (bJ:Nat) (v:ak) (G G':GH),(∀ k o,G k=some o→G' k=some o)→(fun (bJ:Nat) (v:ak) (G:GH)=>match bJ with|0=>v=(aK b1 4)|1=>v=.agg #[.slice pA pn pc,vi x.head.marks.ins,vi x.head.marks.move,.slice dA dn dc,.slice yA yn yc]|2=>∃ p d l,v=.agg #[p,vi x.head.marks.ins,vi x.head.marks.move,d,l]∧gW G x.head p d l|3=>v=(aK b1 9)|4=>v=.slice fA fn fc|5=>ay G (.sl 11 (x.flow.map av.dat)) v|6=>v=(aK b1 10)|7=>v=.slice rA rn rc|8=>ay G (.sl 6 (x.rows.map aS.dat)) v|9=>v=(aK b1 4)|_=>True) bJ v G→(fun (bJ:Nat) (v:ak) (G:GH)=>match bJ with|0=>v=(aK b1 4)|1=>v=.agg #[.slice pA pn pc,vi x.head.marks.ins,vi x.head.marks.move,.slice dA dn dc,.slice yA yn yc]|2=>∃ p d l,v=.agg #[p,vi x.head.marks.ins,vi x.head.marks.move,d,l]∧gW G x.head p d l|3=>v=(aK b1 9)|4=>v=.slice fA fn fc|5=>ay G (.sl 11 (x.flow.map av.dat)) v|6=>v=(aK b1 10)|7=>v=.slice rA rn rc|8=>ay G (.sl 6 (x.rows.map aS.dat)) v|9=>v=(aK b1 4)|_=>True) bJ v G':=by
  intro bJ v G G' hm h
  match bJ,h with
  | 0,h=>exact h
  | 1,h=>exact h
  | 2,h=>exact let ⟨p,d,l,h1,h2⟩:=h;⟨p,d,l,h1,h2.mono hm⟩
  | 3,h=>exact h
  | 4,h=>exact h
  | 5,h=>exact ay.mono hm h
  | 6,h=>exact h
  | 7,h=>exact h
  | 8,h=>exact ay.mono hm h
  | 9,h=>exact h
  | 10,h=>exact trivial
  | 11,h=>exact trivial
  | 12,h=>exact trivial
  | 13,h=>exact trivial
  | 14,h=>exact trivial
  | _+15,h=>exact trivial
 intro a H;refine Ar (hmx) [[],[0],[0,1],[],[3],(ra 0 5),[],[6],(ra 0 8),[0,1,2,3,4,6,7],(ra 0 10),(ra 0 11),(ra 0 12),(ra 0 13),(ra 0 14)] (ra 10 5) (by kernel_rfl) (by kernel_rfl) (fun (bJ:Nat) (v:ak) (G:GH)=>match bJ with|0=>v=(aK b1 4)|1=>v=.agg #[.slice pA pn pc,vi x.head.marks.ins,vi x.head.marks.move,.slice dA dn dc,.slice yA yn yc]|2=>∃ p d l,v=.agg #[p,vi x.head.marks.ins,vi x.head.marks.move,d,l]∧gW G x.head p d l|3=>v=(aK b1 9)|4=>v=.slice fA fn fc|5=>ay G (.sl 11 (x.flow.map av.dat)) v|6=>v=(aK b1 10)|7=>v=.slice rA rn rc|8=>ay G (.sl 6 (x.rows.map aS.dat)) v|9=>v=(aK b1 4)|_=>True) dQ H ?_ ?_
 ·clear H;refine aF ?_ ?_ ?_ ?_ (aF ?_ ?_ ?_ ?_ (aF ?_ ?_ (bS rfl) (bS rfl) (aW (bS rfl) (aW (bS rfl) (aW (bS rfl) cZ)))))
  ·refine dB [] rfl trivial (by kernel_rfl) dQ rfl rfl ?_;intro bN a w G1 hG HT H fin;exact kH H (Rf DC rfl fun _ H=>fin H iJ rfl)
  ·refine dB [(0,3,_)] rfl ⟨fun _ _ h=>h,aY⟩ (by kernel_rfl) dQ rfl rfl ?_;intro bN a w G1 hG HT H fin;refine aT gG (cs:=[_,_,_,_,_]) H wn rfl rfl (H.hp.cO 1 rfl rfl) rfl ?_;clear H;intro a H;exact fin H iJ rfl
  ·refine dB [(1,4,_)] rfl ⟨fun _ _ h=>h,aY⟩ (by kernel_rfl) dQ rfl rfl ?_;intro bN a w G1 hG HT H fin;refine s_call GR H wn rfl (GL _ _ H.ro x.head _ _ _ _ _ _ _ _ _ (hh.mono hG) (by omega)) rfl ?_;clear H;rintro v5 G5 a w rC wU H;exact fin H wU (rC)
  ·refine dB [] rfl trivial (by kernel_rfl) dQ rfl rfl ?_;intro bN a w G1 hG HT H fin;exact kH H (Rf abd rfl fun _ H=>fin H iJ rfl)
  ·refine dB [(3,6,_)] rfl ⟨fun _ _ h=>h,aY⟩ (by kernel_rfl) dQ rfl rfl ?_;intro bN a w G1 hG HT H fin;exact kH H (Ro zB 1 rfl fun _ H=>fin H iJ rfl)
  ·refine dB [(4,7,_)] rfl ⟨fun _ _ h=>h,aY⟩ (by kernel_rfl) dQ rfl rfl ?_;intro bN a w G1 hG HT H fin;refine s_call Uf H wn rfl (ih _ _ H.ro x.flow _ (hf.mono hG) (by omega)) rfl ?_;clear H;rintro v8 G8 a w mR pW H;exact fin H pW (mR)
  ·refine dB [] rfl trivial (by kernel_rfl) dQ rfl rfl ?_;intro bN a w G1 hG HT H fin;exact kH H (Rf abe rfl fun _ H=>fin H iJ rfl)
  ·refine dB [(6,9,_)] rfl ⟨fun _ _ h=>h,aY⟩ (by kernel_rfl) dQ rfl rfl ?_;intro bN a w G1 hG HT H fin;exact kH H (Ro X6 1 rfl fun _ H=>fin H iJ rfl)
  ·refine dB [(7,10,_)] rfl ⟨fun _ _ h=>h,aY⟩ (by kernel_rfl) dQ rfl rfl ?_;intro bN a w G1 hG HT H fin;refine s_call aan H wn rfl (aiZ _ _ H.ro x.rows _ _ (hr.mono hG) (by omega) (fun y hy=>aix ih hn y (by have:=Sk hy;omega))) rfl ?_;clear H;rintro v11 qM a w yw lH H;exact fin H lH (yw)
  refine dB [] rfl trivial (by kernel_rfl) dQ rfl rfl ?_;intro bN a w G1 hG HT H fin;exact kH H (Rf DC rfl fun _ H=>fin H iJ rfl)
 clear H;intro a w G nH H hv;obtain ⟨u5,Ih,rC⟩:=hv 2 5 (by decide) rfl;(try dsimp only at rC);obtain ⟨p5,d5,l5,rfl,yh⟩:=rC;obtain ⟨a1,a2,a3,rfl⟩:=yh.props.form;obtain ⟨a4,a5,a6,rfl⟩:=yh.bg.form;obtain ⟨a7,a8,a9,rfl⟩:=yh.layers.form;have H:=H.kI Ih;obtain ⟨u8,Bg,mR⟩:=hv 5 8 (by decide) rfl;(try dsimp only at mR);obtain ⟨A8,n8,c8,rfl⟩:=mR.form;have H:=H.kI Bg;obtain ⟨X7,Ig,yw⟩:=hv 8 11 (by decide) rfl;(try dsimp only at yw);obtain ⟨A11,n11,c11,rfl⟩:=yw.form;have H:=H.kI Ig;have H:=H.aV (hv 9 12 rfl rfl) rfl;clear hv;refine bq gG 1 (vs:=[_,_,_,_,_]) _ H wn rfl rfl rfl rfl rfl rfl rfl rfl ?_;clear H;intro w H;dsimp only [List.set,setRow] at H;refine kH H (Rf abd rfl ?_);clear H;intro a H;refine bq zB 1 (vs:=[_]) _ H wn rfl rfl rfl rfl rfl rfl rfl rfl ?_;clear H;intro w H;dsimp only [List.set,setRow] at H;refine kH H (Rf abe rfl ?_);clear H;intro a H;refine bq X6 1 (vs:=[_]) _ H wn rfl rfl rfl rfl rfl rfl rfl rfl ?_;clear H;intro w H;dsimp only [List.set,setRow] at H;refine aI ⟨rfl,?_⟩;refine dW ?_;refine tq ?_;refine aT dU (cs:=[_,_,_,_,_,_,_,_,_,_,_]) H wn rfl rfl (H.hp.cO 1 rfl rfl) rfl ?_;clear H;intro a H;refine bq dU 0 (vs:=[_,_,_,_,_,_,_,_,_,_,_]) _ H wn rfl rfl rfl rfl rfl rfl rfl rfl ?_;clear H;intro w H;dsimp only [List.set,setRow] at H;refine aI ?_;refine dW ?_;refine dw ?_;refine (leave1 H results139 (.cons (xD dU (cs:=[_,_,_,_,_,_,_,_,_,_,_]) H rfl rfl (H.hp.cO 0 rfl rfl)) .nil) ?_).1;exact H.rt ⟨_,rfl,aZ.mkItem yh mR yw⟩
theorem ZP {n:Nat} (ih:F7 n) (hn:n≤4294967296) {G:GH} {w0:World} (x:av) (hz:bM x.dat < n+1):I9 (.func (.func 139) #[] #[]) w0 G x.dat:=by
 intro G1 w1 cs hm1 hG1 hr;have h:=aii ih hn _ _ hG1 x cs hr hz;have h2:=jM (P:=prog) (caps:=[]) (args:=[.agg cs.toArray]) ajE h;exact h2
theorem Tx:∀ n:Nat,n≤4294967297→F7 n
 | 0,_=>fun _ _ _ _ _ _ h=>absurd h (by omega)
 | n+1,hn=>by
  intro G w0 hG l v hv hz;have ih:=Tx n (by omega);have hl:=BG l;refine eN [(0,_)] func76 rfl ntmps76 rfl rfl hG ?_;refine aj 5 ?_;intro a H;refine s_call aaq H wn rfl (aiW _ _ H.ro l _ _ hv (by omega) (fun y hy=>ZP ih (by omega) y (by have:=I5 hy;omega))) rfl ?_;clear H;rintro v4 G4 a w hp4 sI H;refine gK 2 H ?_;exact hp4
end
section
open Go.RowKit
section
variable {P:Program} {N:Nat} {D:List Deferred} {w0 w w':World} {F:Nat→Prop} {G0 G G':GH} {L L' Li Lo:OL} {T:List (Nat × ak)} {a a':Act} {Q:Exit→Act→World→Prop}
theorem St.cast (h:St N D w0 F G0 G L T a w) (e:L=L'):St N D w0 F G0 G L' T a w:=e ▸ h
theorem St.assoc {A B C:OL} (h:St N D w0 F G0 G ((A++B)++C) T a w):St N D w0 F G0 G (A++(B++C)) T a w:=h.cast (fT _ _ _)
theorem St.un {A B C:OL} (h:St N D w0 F G0 G (A++(B++C)) T a w):St N D w0 F G0 G ((A++B)++C) T a w:=h.cast (fT _ _ _).symm
theorem St.WO {A B:OL} (h:St N D w0 F G0 G (A++B) T a w):St N D w0 F G0 G (A++(B++[])) T a w:=h.cast (by rw [lD])
theorem EN {ι κ:Type} {Lc:OL} {AB:Operand} {ps:List Nat} {assign body:Code} {gf:FuncId} {caps:List ak} {xs:List AP} {Gi:GH}
  (Lv:Nat→ι→OL) (Lt:Nat→ι→OL) (inv:Nat→ι→GH→Prop) (cx:κ→Code) (Lx Gx:κ→OL) (Bj:κ→GH→Prop) (i0:ι)
  (H:St N D w0 F G0 G (Lc++Lv 0 i0++Lt 0 i0) T a w) (hg:ev T AB=some (.func (.func gf) #[] caps.toArray)) (en:∀ args w,(callFunc gf args).run P w=.ok (.enter gf args) w) (hit:Iter P Gi (.func (.func gf) #[] caps.toArray) xs) (hGi:∀ b o,Gi b=some o→G b=some o)
  (hps:ps.all (Nat.blt · N)=true) (hlen:∀ k args g,xK xs k args g→args.length=ps.length) (hinv:∀ k i (G G':GH),(∀ b o,G b=some o→G' b=some o)→inv k i G→inv k i G') (Vv:∀ x (G G':GH),(∀ b o,G b=some o→G' b=some o)→Bj x G→Bj x G') (h0:inv 0 i0 G)
  (round:∀ (l:Nat) (yH vE:Obj) (bk:OL) (k:Nat) (args:List ak) (i:ι) (G1:GH) (w1:World) (F1:Nat→Prop) (B1:Code→Exit→Act→World→Prop) (a1:Act),xK xs k args G1→(∀ b o,G b=some o→G1 b=some o)→inv k i G1 →
   (∀ T' G2 L2 a2 w2 c,St N [] w1 F1 G1 G2 ((l,yH) :: L2) T' a2 w2→(∀ w3,St N [] w1 F1 G1 G2 ((l,vE) :: L2) T' a2 w3→WP (some l) P c (B1 c) a2 w3)→Exit.then (fun a2 w2=>∃ w3,(Instr.beginRound l).run P w2=.ok () w3∧c.wpIn (FW (some l)) 0 P (B1 c) a2 w3) (fun _ _ _=>False) .normal a2 w2) →
   (∀ i' T' G2 a2 w2 c,St N [] w1 F1 G1 G2 ((l,vE) :: (Lc++Lv (k+1) i'++(bk++Lt (k+1) i'))) T' a2 w2→inv (k+1) i' G2→B1 c .normal a2 w2) →
   (∀ x T' G2 a2 w2 c,St N [] w1 F1 G1 G2 ((l,vE) :: (Lc++Lx x++(bk++Gx x))) T' a2 w2→Bj x G2→(cx x=.ret→B1 c .ret a2 w2)∧∀ n,cx x=.exit n→B1 c (.exit n) a2 w2) →
   St N [] w1 F1 G1 G1 ((l,yH) :: (Lc++Lv k i++(bk++Lt k i))) (uj ps args T) a1 w1 →
   WP (some l) P assign (Exit.then (fun a2 w2=>∃ w3,(Instr.beginRound l).run P w2=.ok () w3∧body.wpIn (FW (some l)) 0 P (B1 body) a2 w3) (fun _ _ _=>False)) a1 w1)
  (hdone:∀ Dk i G1 a1 w1,(∀ b o,G b=some o→G1 b=some o)→inv xs.length i G1→St N ({ target:=.collected Dk,args:=#[] } :: D) w0 F G0 G1 ((Dk,.deferred (some [])) :: (Lc++Lv xs.length i++Lt xs.length i)) T a1 w1→Q .normal a1 w1)
  (hstop:∀ Dk x G1 a1 w1,(∀ b o,G b=some o→G1 b=some o)→Bj x G1→St N ({ target:=.collected Dk,args:=#[] } :: D) w0 F G0 G1 ((Dk,.deferred (some [])) :: (Lc++Lx x++Gx x)) T a1 w1→WP none P (cx x) Q a1 w1) :
  WP none P (.rangeFunc AB ps.toArray assign body) Q a w:=by
 refine ahx (J:=fun k g L=>∃ i,L=Lc++Lv k i++Lt k i∧inv k i g) (Jx:=fun c g L=>∃ x,c=cx x∧L=Lc++Lx x++Gx x∧Bj x g) H hg en hit hGi hps hlen (fun k G G' L hm ⟨i,e,h⟩=>⟨i,e,hinv k i G G' hm h⟩) (fun c G G' L hm ⟨x,e1,e2,h⟩=>⟨x,e1,e2,Vv x G G' hm h⟩) ⟨i0,rfl,h0⟩ ?_ ?_ ?_
 ·rintro l q bk k args G1 L1 w1 a1 hk hm ⟨i,rfl,hi⟩ H1
  have pm:∀ A B:OL,(bk++(A++B)).Perm (A++(bk++B)):=fun A B=>by
   rw [← fT,← fT]
   exact List.Perm.append_right B wK
  refine round l (q.at .ready none) (q.at .busy none) bk k args i G1 w1 _ (fun _=>roundPost P l _) a1 hk hm hi ?_ ?_ ?_ (H1.perm (List.Perm.cons _ (pm _ _)))
  ·intro T' G2 L2 a2 w2 c H2 h
   exact Zw H2 h
  ·intro i' T' G2 a2 w2 c H2 h2
   exact Ko none (H2.perm (List.Perm.cons _ (pm _ _).symm)) ⟨_,rfl,i',rfl,h2⟩
  ·intro x T' G2 a2 w2 c H2 h2
   have H3:=H2.perm (List.Perm.cons _ (pm _ _).symm)
   refine ⟨fun e=>?_,fun n e=>?_⟩
   ·exact Ko (some .ret) H3 ⟨_,_,rfl,x,e.symm,rfl,h2⟩
   ·exact Ko (some (.exit n)) H3 ⟨_,_,rfl,x,e.symm,rfl,h2⟩
 ·rintro Dk G1 L1 a1 w1 hm ⟨i,rfl,hi⟩ H1
  exact hdone Dk i G1 a1 w1 hm hi H1
 ·rintro Dk c G1 L1 a1 w1 hm ⟨x,rfl,rfl,hx⟩ H1
  exact hstop Dk x G1 a1 w1 hm hx H1
def Kg (ds:List Nat):List Deferred:=ds.map fun b=>{ target:=.collected b,args:=#[] }
def lV (ds:List Nat):OL:=ds.map fun b=>(b,.deferred (some []))
theorem OA {r:Option Nat} {ι:Type} {c:Code} {Tc:List (Nat × ak)} {Lc:List (Nat × Obj)} (Dv:ι→List Deferred) (Tv:ι→List (Nat × ak)) (Lv:ι→List (Nat × Obj)) (Gv:ι→GH) (Pr:ι→Prop) (m:ι→Nat) (i0:ι)
  (H:St N (Dv i0) w0 F G0 (Gv i0) (Lc++Lv i0) (Tv i0++Tc) a w) (hP:Pr i0)
  (round:∀ i a w,Pr i→St N (Dv i) w0 F G0 (Gv i) (Lc++Lv i) (Tv i++Tc) a w →
   WP r P c (Exit.then (fun a' w'=>∃ i',(St N (Dv i') w0 F G0 (Gv i') (Lc++Lv i') (Tv i'++Tc) a' w'∧Pr i')∧m i' < m i) Q) a w):WP r P (.loop c) Q a w :=
 ZC (fun i a w=>St N (Dv i) w0 F G0 (Gv i) (Lc++Lv i) (Tv i++Tc) a w∧Pr i) m i0 ⟨H,hP⟩ fun i a w hI=>round i a w hI.2 hI.1
theorem Iu {ι:Type} {Dv:ι→List Deferred} {Tc:List (Nat × ak)} {Lc:List (Nat × Obj)} {Tv:ι→List (Nat × ak)} {Lv:ι→List (Nat × Obj)} {Gv:ι→GH} {Pr:ι→Prop} {m:ι→Nat} {i:ι} (i':ι)
  (H:St N (Dv i') w0 F G0 (Gv i') (Lc++Lv i') (Tv i'++Tc) a w) (hP:Pr i') (hm:m i' < m i) :
  ∃ i',(St N (Dv i') w0 F G0 (Gv i') (Lc++Lv i') (Tv i'++Tc) a w∧Pr i')∧m i' < m i:=⟨i',⟨H,hP⟩,hm⟩
theorem zZ {fn:Func} {R:Ending→World→Prop} {Lh Lt:OL}:∀ (ds:List Nat) {a:Act} {w:World},St N (Kg ds) w0 F G0 G (Lh++(lV ds++Lt)) T a w →
  (∀ a' w',St N [] w0 F G0 G (Lh++Lt) T a' w'→bodyPostM (FW none) 0 P fn R .ret a' w')→bodyPostM (FW none) 0 P fn R .ret a w∧bodyPostM (FW none) 0 P fn R .normal a w
 | [],a,w,H,k=>⟨k a w H,k a w H⟩
 | b :: ds,a,w,H,k=>by
  refine Bl (b:=b) (D:=Kg ds) H Lh.length (by rw [tZ (bX _),Nat.sub_self];rfl) fun a' w' H'=>?_
  refine (zZ ds (Lh:=Lh) (Lt:=Lt) (H'.cast ?_) k).1
  rw [List.eraseIdx_append_of_length_le (bX _),Nat.sub_self];rfl
end
end
section
open Go.RowKit
def n1 (x:av):Nat:=if zD x=0 then fK x else 0
theorem adH (x:av):pX [x]=n1 x:=by
 simp only [pX,wO,n1,qL,List.all_cons,List.all_nil,Bool.and_true,lN]
 split <;> simp_all
theorem ay.len {G:GH} {sz:Nat} {rows:List (List Dat)} {A:Option Addr} {n c:Nat} (h:ay G (.sl sz rows) (.slice A n c)):n=rows.length:=h.cells.1
theorem ay.at_ {G:GH} {sz:Nat} {rows:List (List Dat)} {A:Option Addr} {n c:Nat} (h:ay G (.sl sz rows) (.slice A n c)):∀ k r,rows[k]?=some r→∃ b o cs,A=some ⟨b,o,none⟩∧cs.length=sz∧(∀ j u,cs[j]?=some u→aC G b (o+k*sz+j)=some u)∧aZ G r cs:=by
 obtain ⟨A2,c2,e,_,_,hg⟩:=h.slice
 cases e;exact hg
theorem Eh {G:GH} {l:List aS} {A:Option Addr} {k:Nat} (hk:k < l.length) (hg:∀ k r,(l.map aS.dat)[k]?=some r→∃ b o cs,A=some ⟨b,o,none⟩∧cs.length=6∧(∀ j u,cs[j]?=some u→aC G b (o+k*6+j)=some u)∧aZ G r cs) :
  ∃ b o pA pn pc dA dn dc yA yn yc cA cn cc,A=some ⟨b,o,none⟩∧(∀ j u,[.slice pA pn pc,vi l[k].head.marks.ins,vi l[k].head.marks.move,.slice dA dn dc,.slice yA yn yc,.slice cA cn cc][j]?=some u→aC G b (o+k*6+j)=some u) ∧
   gW G l[k].head (.slice pA pn pc) (.slice dA dn dc) (.slice yA yn yc)∧ay G (.sl 7 (l[k].cells.map aR.dat)) (.slice cA cn cc):=by
 obtain ⟨b,o,cs,h1,h2,h3,h4⟩:=hg k l[k].dat (by simp [hk]);obtain ⟨pA,pn,pc,dA,dn,dc,yA,yn,yc,cA,cn,cc,rfl,h5,h6⟩:=h4.row;exact ⟨b,o,pA,pn,pc,dA,dn,dc,yA,yn,yc,cA,cn,cc,h1,h3,h5,h6⟩
theorem BR {G:GH} {l:List aR} {A:Option Addr} {k:Nat} (hk:k < l.length) (hg:∀ k r,(l.map aR.dat)[k]?=some r→∃ b o cs,A=some ⟨b,o,none⟩∧cs.length=7∧(∀ j u,cs[j]?=some u→aC G b (o+k*7+j)=some u)∧aZ G r cs) :
  ∃ b o pA pn pc dA dn dc yA yn yc fA fn fc,A=some ⟨b,o,none⟩∧(∀ j u,[vi l[k].id,.slice pA pn pc,vi l[k].head.marks.ins,vi l[k].head.marks.move,.slice dA dn dc,.slice yA yn yc,.slice fA fn fc][j]?=some u→aC G b (o+k*7+j)=some u) ∧
   gW G l[k].head (.slice pA pn pc) (.slice dA dn dc) (.slice yA yn yc)∧ay G (.sl 11 (l[k].flow.map av.dat)) (.slice fA fn fc):=by
 obtain ⟨b,o,cs,h1,h2,h3,h4⟩:=hg k l[k].dat (by simp [hk]);obtain ⟨pA,pn,pc,dA,dn,dc,yA,yn,yc,fA,fn,fc,rfl,h5,h6⟩:=h4.cell;exact ⟨b,o,pA,pn,pc,dA,dn,dc,yA,yn,yc,fA,fn,fc,h1,h3,h5,h6⟩
end
section
open Go.RowKit
structure gM where
 (f p d y r s1 s2 s3 s4:Option Addr × Nat × Nat)
 (ins move:Int)
abbrev aM (x:Option Addr × Nat × Nat):ak:=.slice x.1 x.2.1 x.2.2
abbrev gM.cells (D:gM):List ak:=[aM D.f,aM D.p,vi D.ins,vi D.move,aM D.d,aM D.y,aM D.r,aM D.s1,aM D.s2,aM D.s3,aM D.s4]
abbrev gM.val (D:gM):ak:=.agg D.cells.toArray
end
section
open Go.RowKit
theorem TQ:∀ args w,(callFunc 161 args).run prog w=.ok (.enter 161 args) w:=enters func161 rfl (by kernel_rfl)
instance RU:Ty prog 90 3 16 [.bool false,.bool false,.int .i64 0] true:=⟨by kernel_rfl,by kernel_rfl⟩
theorem auE:sV prog 92 [(0,1),(1,3)] [.slice none 0 0,.bool false,.bool false,.int .i64 0]:=⟨by kernel_rfl,by kernel_rfl⟩
instance amn:dL prog 68 2 2:=⟨by kernel_rfl⟩
instance:dL prog 90 2 2:=⟨by kernel_rfl⟩
theorem FL:sV prog 90 [(0,1),(1,1),(2,1)] [.bool false,.bool false,.int .i64 0]:=⟨by kernel_rfl,by kernel_rfl⟩
instance:dL prog 90 1 1:=⟨by kernel_rfl⟩
instance Kv:Ty prog 4 1 1 [.bool false] false:=⟨by kernel_rfl,by kernel_rfl⟩
instance:dL prog 38 0 0:=⟨by kernel_rfl⟩
theorem ajc:∀ args w,(callFunc 100 args).run prog w=.ok (.enter 100 args) w:=enters func100 rfl (by kernel_rfl)
theorem TP:∀ args w,(callFunc 160 args).run prog w=.ok (.enter 160 args) w:=enters func160 rfl (by kernel_rfl)
structure kg where
 id:Int
 items:List av
 body:Bool
 note:Bool
 tables:Int
mutual
def zH (note:Bool) (t:Int):av→List kg
 | .mk k _ i _ _ f r=>if k=6 then ⟨i,f,false,true,t⟩ :: jm true t f else if k=7 then pR note t r else []
def jm (note:Bool) (t:Int):List av→List kg
 | []=>[]
 | x :: l=>zH note t x++jm note t l
def pR (note:Bool) (t:Int):List aS→List kg
 | []=>[]
 | r :: l=>zI note t r++pR note t l
def zI (note:Bool) (t:Int):aS→List kg
 | .mk _ cs=>qm note t cs
def qm (note:Bool) (t:Int):List aR→List kg
 | []=>[]
 | c :: l=>zG note t c++qm note t l
def zG (note:Bool) (t:Int):aR→List kg
 | .mk i _ f=>⟨i,f,false,note,t+1⟩ :: jm note (t+1) f
end
theorem agh (note:Bool) (t:Int) (x:av):zH note t x=if x.kind=6 then ⟨x.id,x.flow,false,true,t⟩ :: jm true t x.flow else if x.kind=7 then pR note t x.rows else []:=by cases x;rw [zH];rfl
theorem agi (note:Bool) (t:Int) (x:aS):zI note t x=qm note t x.cells:=by cases x;rw [zI];rfl
theorem agc (note:Bool) (t:Int) (x:aR):zG note t x=⟨x.id,x.flow,false,note,t+1⟩ :: jm note (t+1) x.flow:=by cases x;rw [zG];rfl
def DF (a:kg):AP:=fun args g=>∃ v,args=[vi a.id,.agg #[v,.bool a.body,.bool a.note,vi a.tables]]∧ay g (.sl 11 (a.items.map av.dat)) v
def S9 (n:Nat):Prop:=∀ (fv:ak) (Gi:GH) (xs:List AP) (J:Nat→GH→OL→Prop) (Jx:GH→OL→Prop) (G:GH) (L:OL) (w0:World) (j:Nat) (l:List av) (id:Int) (body note:Bool) (t:Int) (v:ak),
 (∀ b o,Gi b=some o→G b=some o)→Ev prog fv Gi xs J Jx→EB J→GD Jx→J j G L→fM G L w0→ay G (.sl 11 (l.map av.dat)) v→aX l < n→0≤t→t+aX l≤4294967296→(∀ i a,(⟨id,l,body,note,t⟩ :: jm note t l)[i]?=some a→xs[j+i]?=some (DF a)) →
 Calls prog 161 #[vi id,v,.agg #[.bool body,.bool note,vi t],fv] w0 (fB w0 G L fun u G' L'=>∃ b,u=.bool b∧(b=true→J (j+((jm note t l).length+1)) G' L')∧(b=false→Jx G' L'))
theorem avy {n:Nat} (ih:S9 n) (hn:n≤4294967296):S9 (n+1):=by
 intro fv Gi xs J Jx G L w0 j0 l id body note t v hGi hcb lT hJx hJ0 hO hv hz ht0 ht1 hx0;obtain ⟨A,c,rfl,hc1,hc2,hg⟩:=hv.slice;rw [bE] at *;have hll:=BG l;have VJ:Now xs DF J (j0+((jm note t l).length+1)) j0 (⟨id,l,body,note,t⟩ :: jm note t l) G L:=⟨hJ0,hx0,rfl⟩;refine iM (N:=74) (T:=[(0,_),(1,_),(2,_),(3,_)]) func161 rfl ntmps161 rfl rfl hO ?_;refine aj 1 ?_;intro a H;refine dN (cs:=[_,_,_]) H wn rfl rfl rfl ?_;clear H;intro b6 a w hb6 H;refine aH 7 H ?_;clear H;intro a H;refine aT RU (cs:=[_,_,_]) H wn rfl rfl (H.hp.cO 0 rfl rfl) rfl ?_;clear H;intro a H;refine jZ auE [_,_,_,_] H wn rfl rfl rfl rfl ?_;clear H;intro a H;refine tL (Li:=[_]) (L:=L) H wn rfl rfl (hcb _ _ _ _ _ ⟨_,VJ.head,_,rfl,hv⟩ hGi VJ.now (Hp.owns (Li:=[_]) H.hp)) rfl ?_;clear H;rintro v20 KJ KY a w ⟨b20,rfl,hb1,hb2⟩ JO H;refine fE 2 H ?_ ?_ <;> clear H
 ·intro h21
  try have nN:=dT h21
  refine aj 3 ?_;intro a H;refine lr H results161 rfl ?_
  first
   | exact H.hp.bU (L':=KY) (by repeat (first|exact bZ _|apply List.Sublist.cons)) ⟨_,rfl,fun e=>(by cases e),fun _=>hb2 (by simpa using h21)⟩
   | exact H.hp.bU (L':=Gp) (by repeat (first|exact bZ _|apply List.Sublist.cons)) ⟨_,rfl,fun e=>(by cases e),fun _=>hb4 (by simpa using ow)⟩
   | exact H.hp.bU (L':=Le) (by repeat (first|exact bZ _|apply List.Sublist.cons)) ⟨_,rfl,fun e=>(by cases e),fun _=>hb6 (by simpa using oz)⟩
   | exact H.hp.bU (L':=Lt) (by repeat (first|exact bZ _|apply List.Sublist.cons)) ⟨_,rfl,fun _=>(by rw [eX (by omega),jm] at bQ;have:=bQ.len;simp only [List.length_nil,mO] at this;rw [← this];exact bQ.now),fun e=>(by cases e)⟩
 intro h21
 try have nN:=dF h21
 refine aj 8 ?_;intro a H;refine dD (ι:=Nat × Nat × OL × GH) (Tc:=[(3,_),(6,_),(22,_),(23,_)]) (Lc:=[(_,_)]) (fun gh=>[(24,vi gh.1)]) (fun gh=>[]++gh.2.2.1) (fun gh=>gh.2.2.2) (fun gh=>gh.1≤l.length∧(∀ b o,G b=some o→gh.2.2.2 b=some o)∧Now xs DF J (j0+((jm note t l).length+1)) gh.2.1 (jm note t (l.drop gh.1)) gh.2.2.2 gh.2.2.1) (fun gh=>l.length - gh.1) ((0,j0+1,KY,KJ)) sB ?_ ?_
 ·exact ⟨by omega,JO,VJ.step (hb1 (by simpa using h21))⟩
 clear H;rintro ⟨k,j1,Lt,g⟩ a w hI H;dsimp only at hI H;obtain ⟨hk,hgm,bQ⟩:=hI;dsimp only [lca,aQ] at H;refine cK 4 H ?_ ?_ <;> clear H
 ·intro p25
  have hk2:k < l.length:=by omega
  obtain ⟨b,o,pA,pn,pc,dA,dn,dc,yA,yn,yc,fA,fn,fc,rA,rn,rc,rfl,hrow,hhd,hfl,hrw⟩:=AA hk2 hg;replace hrow:=fun j u hj=>aD hgm (hrow j u hj);have hrn:=hrw.len;rw [bE] at hrn;subst hrn;have hrs:=BH l[k].rows;have hsz1:=KE hk2;rw [jy hk2] at bQ
  simp only [jm,agh] at bQ
  refine aj 5 ?_;intro a H;refine aT dU (cs:=[_,_,_,_,_,_,_,_,_,_,_]) H wn rfl rfl (fun j v hj=>H.hp.aC (hrow j v hj)) rfl ?_;clear H;intro a H;refine dx dU H wn rfl ?_;clear H;intro b10 a w E9 H;refine bq dU 0 (vs:=[_,_,_,_,_,_,_,_,_,_,_]) _ H wn rfl rfl rfl rfl rfl rfl rfl rfl ?_;clear H;intro w H;dsimp only [List.set,setRow] at H;refine eO 10 H ?_ ?_ <;> clear H
  ·intro p30
   rw [au p30] at bQ;refine aj 7 ?_;intro a H;refine jZ FL [_,_,_] H wn rfl rfl rfl rfl ?_;clear H;refine aj 1 ?_;intro a H;refine fu TQ (Li:=[_,_]) (L:=Lt) H wn rfl (ih fv Gi xs J Jx _ _ _ j1 l[k].flow l[k].id false true t _ (fun b o h=>hgm b o (hGi b o h)) hcb lT hJx bQ.now (Hp.owns (Li:=[_,_]) H.hp) (hfl.mono hgm) (by omega) ht0 (by omega) bQ.part) rfl ?_;clear H;rintro v40 KM Gp a w ⟨b40,rfl,hb3,hb4⟩ D6 H;refine fE 2 H ?_ ?_ <;> clear H
   ·intro ow
    try have p41:=dT ow
    refine aj 3 ?_;intro a H;refine lr H results161 rfl ?_
    first
     | exact H.hp.bU (L':=KY) (by repeat (first|exact bZ _|apply List.Sublist.cons)) ⟨_,rfl,fun e=>(by cases e),fun _=>hb2 (by simpa using h21)⟩
     | exact H.hp.bU (L':=Gp) (by repeat (first|exact bZ _|apply List.Sublist.cons)) ⟨_,rfl,fun e=>(by cases e),fun _=>hb4 (by simpa using ow)⟩
     | exact H.hp.bU (L':=Le) (by repeat (first|exact bZ _|apply List.Sublist.cons)) ⟨_,rfl,fun e=>(by cases e),fun _=>hb6 (by simpa using oz)⟩
     | exact H.hp.bU (L':=Lt) (by repeat (first|exact bZ _|apply List.Sublist.cons)) ⟨_,rfl,fun _=>(by rw [eX (by omega),jm] at bQ;have:=bQ.len;simp only [List.length_nil,mO] at this;rw [← this];exact bQ.now),fun e=>(by cases e)⟩
   intro ow
   try have p41:=dF ow
   refine aj 4 ?_;intro a H;refine aI ?_;refine bR ((k+1,j1+((jm true t l[k].flow).length+1),Gp,KM)) (by exact (H.bY (Pl:=[_,_]) (bT:=[_]) [1] (by decide) rfl).sub ⟨rfl,rfl,rfl,rfl,rfl,aY⟩) ?_ ?_
   ·(try dsimp only);exact ⟨by omega,fun b o h=>D6 b o (hgm b o h),bQ.jump (hb3 (by simpa using ow))⟩
   first|omega|(dsimp only;omega)
  intro p30
  refine goB 4 ?_ ?_
  ·intro p42
   rw [ah p30,au p42] at bQ;refine aj 7 ?_;intro a H;refine dD (ι:=Nat × Nat × OL × GH) (Tc:=[(3,_),(6,_),(22,_),(23,_),(24,_),(45,_),(46,_)]) (Lc:=[(_,_),(_,_)]) (fun gh=>[(47,vi gh.1)]) (fun gh=>[]++gh.2.2.1) (fun gh=>gh.2.2.2) (fun gh=>gh.1≤l[k].rows.length∧(∀ b o,G b=some o→gh.2.2.2 b=some o)∧Now xs DF J (j0+((jm note t l).length+1)) gh.2.1 (pR note t (l[k].rows.drop gh.1)++jm note t (l.drop (k+1))) gh.2.2.2 gh.2.2.1) (fun gh=>l[k].rows.length - gh.1) ((0,j1,Lt,g)) sB ?_ ?_
   ·exact ⟨by omega,hgm,bQ⟩
   clear H;rintro ⟨rk,j3,Lt3,g3⟩ a w hI H;dsimp only at hI H;obtain ⟨MZ,ru,rz⟩:=hI;dsimp only [lca,aQ] at H;refine cK 4 H ?_ ?_ <;> clear H
   ·intro p48
    have hk3:rk < l[k].rows.length:=by omega
    obtain ⟨b2,o2,qA,qn,qc,eA,en,ec,zA,zn,zc,cA,cn,cc,rfl,hrow,yB,hcl⟩:=Eh hk3 hrw.at_;replace hrow:=fun j u hj=>aD ru (hrow j u hj);have hcn:=hcl.len;rw [bE] at hcn;subst hcn;have hsz2:=I6 hk3;have hcs:=BD l[k].rows[rk].cells;rw [jy hk3] at rz
    simp only [pR,agi,fT] at rz
    refine aj 5 ?_;intro a H;refine aT jw (cs:=[_,_,_,_,_,_]) H wn rfl rfl (fun j v hj=>H.hp.aC (hrow j v hj)) rfl ?_;clear H;intro a H;refine dx jw H wn rfl ?_;clear H;intro b12 a w DU H;refine bq jw 0 (vs:=[_,_,_,_,_,_]) _ H wn rfl rfl rfl rfl rfl rfl rfl rfl ?_;clear H;intro w H;dsimp only [List.set,setRow] at H;refine aH 8 H ?_;clear H;intro a H;refine dD (ι:=Nat × Nat × OL × GH) (Tc:=[(3,_),(6,_),(22,_),(23,_),(24,_),(45,_),(46,_),(47,_),(52,_),(53,_)]) (Lc:=[(_,_),(_,_),(_,_)]) (fun gh=>[(54,vi gh.1)]) (fun gh=>[]++gh.2.2.1) (fun gh=>gh.2.2.2) (fun gh=>gh.1≤l[k].rows[rk].cells.length∧(∀ b o,G b=some o→gh.2.2.2 b=some o)∧Now xs DF J (j0+((jm note t l).length+1)) gh.2.1 (qm note t (l[k].rows[rk].cells.drop gh.1)++(pR note t (l[k].rows.drop (rk+1))++jm note t (l.drop (k+1)))) gh.2.2.2 gh.2.2.1) (fun gh=>l[k].rows[rk].cells.length - gh.1) ((0,j3,Lt3,g3)) sB ?_ ?_
    ·exact ⟨by omega,ru,rz⟩
    clear H;rintro ⟨ck,j4,Lt4,g4⟩ a w hI H;dsimp only at hI H;obtain ⟨hck,vM,pF⟩:=hI;dsimp only [lca,aQ] at H;refine cK 4 H ?_ ?_ <;> clear H
    ·intro p55
     have hk4:ck < l[k].rows[rk].cells.length:=by omega
     obtain ⟨b3,o3,sA,sn,sc,tA,tn,tc,uA,un,uc,gA,gn,gc,rfl,hrow,hch,hcf⟩:=BR hk4 hcl.at_;replace hrow:=fun j u hj=>aD vM (hrow j u hj);have J3:=KD hk4;rw [jy hk4] at pF
     simp only [qm,agc,fT] at pF
     refine aj 5 ?_;intro a H;refine aT iI (cs:=[_,_,_,_,_,_,_]) H wn rfl rfl (fun j v hj=>H.hp.aC (hrow j v hj)) rfl ?_;clear H;intro a H;refine dx iI H wn rfl ?_;clear H;intro b14 a w U9 H;refine bq iI 0 (vs:=[_,_,_,_,_,_,_]) _ H wn rfl rfl rfl rfl rfl rfl rfl rfl ?_;clear H;intro w H;dsimp only [List.set,setRow] at H;refine aH 11 H ?_;clear H;intro a H;refine jZ FL [_,_,_] H wn rfl rfl rfl rfl ?_;clear H;refine aj 1 ?_;intro a H;refine fu TQ (Li:=[_,_,_,_]) (L:=Lt4) H wn rfl (ih fv Gi xs J Jx _ _ _ j4 l[k].rows[rk].cells[ck].flow l[k].rows[rk].cells[ck].id false note (t+1) _ (fun b o h=>vM b o (hGi b o h)) hcb lT hJx pF.now (Hp.owns (Li:=[_,_,_,_]) H.hp) (hcf.mono vM) (by omega) (by omega) (by omega) pF.part) rfl ?_;clear H;rintro v69 G69 Le a w ⟨b69,rfl,hb5,hb6⟩ aoP H;refine fE 2 H ?_ ?_ <;> clear H
     ·intro oz
      try have p70:=dT oz
      refine aj 3 ?_;intro a H;refine lr H results161 rfl ?_
      first
       | exact H.hp.bU (L':=KY) (by repeat (first|exact bZ _|apply List.Sublist.cons)) ⟨_,rfl,fun e=>(by cases e),fun _=>hb2 (by simpa using h21)⟩
       | exact H.hp.bU (L':=Gp) (by repeat (first|exact bZ _|apply List.Sublist.cons)) ⟨_,rfl,fun e=>(by cases e),fun _=>hb4 (by simpa using ow)⟩
       | exact H.hp.bU (L':=Le) (by repeat (first|exact bZ _|apply List.Sublist.cons)) ⟨_,rfl,fun e=>(by cases e),fun _=>hb6 (by simpa using oz)⟩
       | exact H.hp.bU (L':=Lt) (by repeat (first|exact bZ _|apply List.Sublist.cons)) ⟨_,rfl,fun _=>(by rw [eX (by omega),jm] at bQ;have:=bQ.len;simp only [List.length_nil,mO] at this;rw [← this];exact bQ.now),fun e=>(by cases e)⟩
     intro oz
     try have p70:=dF oz
     refine aj 4 ?_;intro a H;refine aI ?_;refine bR ((ck+1,j4+((jm note (t+1) l[k].rows[rk].cells[ck].flow).length+1),Le,G69)) (by exact (H.bY (Pl:=[_,_,_,_]) (bT:=[_,_,_]) [1,2,3] (by decide) rfl).sub ⟨rfl,rfl,rfl,rfl,rfl,rfl,rfl,rfl,rfl,rfl,rfl,aY⟩) ?_ ?_
     ·(try dsimp only);exact ⟨by omega,fun b o h=>aoP b o (vM b o h),pF.jump (hb5 (by simpa using oz))⟩
     first|omega|(dsimp only;omega)
    intro p55
    refine aj 4 ?_;intro a H;refine aI ?_;refine bR ((rk+1,j4,Lt4,g4)) (by exact (H.bY (Pl:=[_,_,_]) (bT:=[_,_]) [1,2] (by decide) rfl).sub ⟨rfl,rfl,rfl,rfl,rfl,rfl,rfl,rfl,aY⟩) ?_ ?_
    ·(try dsimp only);exact ⟨by omega,vM,by rw [eX (by omega),qm,jv] at pF;exact pF⟩
    first|omega|(dsimp only;omega)
   intro p48
   refine aj 4 ?_;intro a H;refine aI ?_;refine bR ((k+1,j3,Lt3,g3)) (by exact (H.bY (Pl:=[_,_]) (bT:=[_]) [1] (by decide) rfl).sub ⟨rfl,rfl,rfl,rfl,rfl,aY⟩) ?_ ?_
   ·(try dsimp only);exact ⟨by omega,ru,by rw [eX (by omega),pR,jv] at rz;exact rz⟩
   first|omega|(dsimp only;omega)
  intro p42
  refine aj 4 ?_;intro a H;refine aI ?_;refine bR ((k+1,j1,Lt,g)) (by exact (H.bY (Pl:=[_,_]) (bT:=[_]) [1] (by decide) rfl).sub ⟨rfl,rfl,rfl,rfl,rfl,aY⟩) ?_ ?_
  ·(try dsimp only);exact ⟨by omega,hgm,by rw [ah p30,ah p42,jv] at bQ;exact bQ⟩
  first|omega|(dsimp only;omega)
 intro p25
 refine aj 4 ?_;intro a H;refine lr H results161 rfl ?_
 first
  | exact H.hp.bU (L':=KY) (by repeat (first|exact bZ _|apply List.Sublist.cons)) ⟨_,rfl,fun e=>(by cases e),fun _=>hb2 (by simpa using h21)⟩
  | exact H.hp.bU (L':=Gp) (by repeat (first|exact bZ _|apply List.Sublist.cons)) ⟨_,rfl,fun e=>(by cases e),fun _=>hb4 (by simpa using ow)⟩
  | exact H.hp.bU (L':=Le) (by repeat (first|exact bZ _|apply List.Sublist.cons)) ⟨_,rfl,fun e=>(by cases e),fun _=>hb6 (by simpa using oz)⟩
  | exact H.hp.bU (L':=Lt) (by repeat (first|exact bZ _|apply List.Sublist.cons)) ⟨_,rfl,fun _=>(by rw [eX (by omega),jm] at bQ;have:=bQ.len;simp only [List.length_nil,mO] at this;rw [← this];exact bQ.now),fun e=>(by cases e)⟩
theorem agl:∀ n:Nat,n≤4294967297→S9 n
 | 0,_=>fun _ _ _ _ _ _ _ _ _ _ _ _ _ _ _ _ _ _ _ _ _ _ h=>absurd h (by omega)
 | n+1,hn=>avy (agl n (by omega)) (by omega)
def fC (l:List av):List kg:=⟨0,l,true,false,0⟩ :: jm false 0 l
theorem amI {G:GH} {ba bl bp:Nat} {l:List av} {v:ak} {id t:Int} {body note:Bool} (h1:aC G ba 0=some (vi id)) (h2:aC G bl 0=some v) (h3:G bp=some (.cells #[.bool body,.bool note,vi t] 90 (0,0))) (hv:ay G (.sl 11 (l.map av.dat)) v) (hz:aX l≤4294967296) (ht0:0≤t) (ht1:t+aX l≤4294967296) :
  Iter prog G (.func (.func 160) #[] #[(aK ba 0),(aK bl 0),(aK bp 0)]) ((⟨id,l,body,note,t⟩ :: jm note t l).map DF):=by
 intro J Jx fv G1 L w0 DV hGi lT hJx hJ hO hcb;refine jM (caps:=[(aK ba 0),(aK bl 0),(aK bp 0)]) TP ?_;replace h1:=aD hGi h1;replace h2:=aD hGi h2
 have hrow:∀ j u,[.bool body,.bool note,vi t][j]?=some u→aC G1 bp (0+j)=some u:=by
  intro j u hj;refine aD hGi ?_
  unfold aC;rw [h3];simpa using hj
 refine iM (N:=10) (T:=[(0,_),(1,_),(2,_),(3,_)]) func160 rfl ntmps160 rfl rfl hO ?_;refine aj 3 ?_;intro a H;refine aT RU (cs:=[_,_,_]) H wn rfl rfl (fun j v hj=>H.hp.aC (hrow j v hj)) rfl ?_;clear H;refine aj 1 ?_;intro a H;refine fu TQ (Li:=[]) (L:=L) H wn rfl (agl 4294967297 (by omega) _ G1 _ J Jx G1 _ _ 0 l id body note t _ (fun _ _ h=>h) hcb lT hJx hJ (Hp.owns (Li:=[]) H.hp) (hv.mono hGi) (by omega) ht0 ht1 (fun i a h=>by rw [gX,om,h];rfl)) rfl ?_;clear H;rintro v9 G9 L9 a w ⟨b9,rfl,h1,h2⟩ ze H;refine aI ?_;refine (leave0 H results160 ?_).2
 cases b9
 ·exact H.hp.dO (.inr (h2 rfl))
 exact H.hp.dO (.inl (by simpa using h1 rfl))
theorem amJ (G:GH) (w0:World) (hG:Hold G w0) (l:List av) (v:ak) (id t:Int) (body note:Bool) (hv:ay G (.sl 11 (l.map av.dat)) v) (hz:aX l≤4294967296) (ht0:0≤t) (ht1:t+aX l≤4294967296) :
  Calls prog 100 #[vi id,v,.agg #[.bool body,.bool note,vi t]] w0 (bB w0 G fun u G'=>∃ ba bl bp,u=.func (.func 160) #[] #[(aK ba 0),(aK bl 0),(aK bp 0)]∧Iter prog G' u ((⟨id,l,body,note,t⟩ :: jm note t l).map DF)):=by
 obtain ⟨A,c,rfl,hc1,hc2,hg⟩:=hv.slice;refine eN [(0,_),(1,_),(2,_)] func100 rfl ntmps100 rfl rfl hG ?_;refine aj 1 ?_;intro a H;refine dN (cs:=[_]) H wn rfl rfl rfl ?_;clear H;intro b3 a w hb3 H;refine dN (cs:=[_]) H wn rfl rfl rfl ?_;clear H;intro b4 a w hb4 H;refine dN (cs:=[_,_,_]) H wn rfl rfl rfl ?_;clear H;intro b5 a w hb5 H;refine aH 3 H ?_;clear H;intro a H;refine pK H wn rfl rfl ?_;clear H;refine aj 2 ?_;intro a H;refine dw ?_;obtain ⟨G2,hm2,hb5,H⟩:=H.dS;obtain ⟨G3,tJ,hb4,H⟩:=H.dS;obtain ⟨G4,H9,hb3,H⟩:=H.dS;refine lv H results100 rfl ?_;exact H.rt ⟨b3,b4,b5,rfl,amI (by unfold aC;rw [hb3];rfl) (aD H9 (by unfold aC;rw [hb4];rfl)) (H9 _ _ (tJ _ _ hb5)) (hv.mono fun b o h=>H9 _ _ (tJ _ _ (hm2 _ _ h))) hz ht0 ht1⟩
theorem aeu (G:GH) (w0:World) (hG:Hold G w0) (D:gM) (l:List av) (hv:ay G (.sl 11 (l.map av.dat)) (aM D.f)) (hz:aX l≤4294967296) :
  Calls prog 44 #[D.val] w0 (bB w0 G fun u G'=>∃ ba bl bp,u=.func (.func 160) #[] #[(aK ba 0),(aK bl 0),(aK bp 0)]∧Iter prog G' u ((fC l).map DF)):=by
 refine eN [(0,_)] func44 rfl ntmps44 rfl rfl hG ?_;refine aj 1 ?_;intro a H;refine dN (cs:=[_,_,_,_,_,_,_,_,_,_,_]) H wn rfl rfl rfl ?_;clear H;intro b1 a w hb1 H;refine aH 5 H ?_;clear H;intro a H;refine jZ FL [_,_,_] H wn rfl rfl rfl rfl ?_;clear H;intro a H;refine s_call ajc H wn rfl (amJ _ _ H.ro l _ 0 0 true false hv hz (by omega) (by omega)) rfl ?_;clear H;rintro v6 G6 a w ⟨ba,bl,bp,rfl,hit⟩ Cv H;refine gK 2 H ?_;exact ⟨ba,bl,bp,rfl,hit⟩
end
section
open Go.RowKit
instance iY:Ty prog 38 11 232 [.slice none 0 0,.slice none 0 0,.int .i64 0,.int .i64 0,.slice none 0 0,.slice none 0 0,.slice none 0 0,.slice none 0 0,.slice none 0 0,.slice none 0 0,.slice none 0 0] true:=⟨by kernel_rfl,by kernel_rfl⟩
theorem aaH:∀ args w,(callFunc 44 args).run prog w=.ok (.enter 44 args) w:=enters func44 rfl (by kernel_rfl)
instance afD:Ty prog 92 4 40 [.slice none 0 0,.bool false,.bool false,.int .i64 0] true:=⟨by kernel_rfl,by kernel_rfl⟩
instance:dL prog 92 0 0:=⟨by kernel_rfl⟩
mutual
theorem avv {note:Bool} {t:Int} {f:kg}:∀ {x:av},f∈zH note t x→aX f.items < bM x.dat
 | .mk k c i tx h fl r,hf=>by
  have h4:=pU (.mk k c i tx h fl r)
  simp only [av.text,av.head,av.flow,av.rows] at h4
  rw [zH] at hf
  split at hf
  ·rcases kZ.1 hf with rfl|hf
   ·show aX fl < _;omega
   have:=Sd hf;omega
  split at hf
  ·have:=agk hf;omega
  cases hf
theorem Sd {note:Bool} {t:Int} {f:kg}:∀ {l:List av},f∈jm note t l→aX f.items≤aX l
 | [],hf=>by simp [jm] at hf
 | x :: l,hf=>by
  rw [jm] at hf
  simp only [aX,dR,dY]
  rcases ng.1 hf with hf|hf
  ·have:=avv hf;simp only [aX] at this;omega
  have:=Sd hf;simp only [aX] at this;omega
theorem agk {note:Bool} {t:Int} {f:kg}:∀ {l:List aS},f∈pR note t l→aX f.items≤eD l
 | [],hf=>by simp [pR] at hf
 | x :: l,hf=>by
  rw [pR] at hf
  simp only [eD,dR,dY]
  rcases ng.1 hf with hf|hf
  ·have:=avx hf;simp only [aX] at *;omega
  have:=agk hf;simp only [aX,eD] at *;omega
theorem avx {note:Bool} {t:Int} {f:kg}:∀ {x:aS},f∈zI note t x→aX f.items≤bM x.dat
 | .mk h cs,hf=>by
  have h4:=tO (.mk h cs)
  simp only [aS.head,aS.cells] at h4
  rw [zI] at hf;have:=agf hf;omega
theorem agf {note:Bool} {t:Int} {f:kg}:∀ {l:List aR},f∈qm note t l→aX f.items≤gH l
 | [],hf=>by simp [qm] at hf
 | x :: l,hf=>by
  rw [qm] at hf
  simp only [gH,dR,dY]
  rcases ng.1 hf with hf|hf
  ·have:=avt hf;simp only [aX] at *;omega
  have:=agf hf;simp only [aX,gH] at *;omega
theorem avt {note:Bool} {t:Int} {f:kg}:∀ {x:aR},f∈zG note t x→aX f.items≤bM x.dat
 | .mk i h fl,hf=>by
  have h4:=uZ (.mk i h fl)
  simp only [aR.head,aR.flow] at h4
  rw [zG] at hf
  rcases kZ.1 hf with rfl|hf
  ·show aX fl≤_;omega
  have:=Sd hf;omega
end
theorem Ph {f:kg} {l:List av} (h:f∈fC l):aX f.items≤aX l:=by
 rcases kZ.1 h with rfl|h
 ·exact bX _
 exact Sd h
theorem amy {α:Type} {p:α→Bool} {A:List α} {k:Nat} (hk:k < A.length) (h:(A.take k).find? p=none) (hp:p A[k]=false):(A.take (k+1)).find? p=none:=by
 rw [gI hk,List.find?_append,h]
 simp [hp]
theorem abg {α:Type} {p:α→Bool} {A:List α} {k:Nat} (hk:k < A.length) (h:(A.take k).find? p=none) (hp:p A[k]=true):A.find? p=some A[k]:=by
 have e:A.find? p=(A.take k++A.drop k).find? p:=by rw [List.take_append_drop]
 rw [e,List.find?_append,h,jy hk,List.find?_cons,hp]
 rfl
theorem amw {α:Type} {p:α→Bool} {A:List α} (h:(A.take A.length).find? p=none):A.find? p=none:=by rwa [wL] at h
theorem Pg {A:List kg} {k:Nat} {args:List ak} {g:GH} (h:xK (A.map DF) k args g):∃ (hk:k < A.length) (a:Option Addr) (n c:Nat),args=[vi A[k].id,.agg #[.slice a n c,.bool A[k].body,.bool A[k].note,vi A[k].tables]]∧ay g (.sl 11 (A[k].items.map av.dat)) (.slice a n c):=by
 obtain ⟨p,hp,hargs⟩:=h;rw [om] at hp;obtain ⟨q,hq,rfl⟩:=oO.1 hp;obtain ⟨hk,rfl⟩:=jr.1 hq;obtain ⟨v,h1,h2⟩:=hargs;obtain ⟨a,n,c,rfl⟩:=h2.form;exact ⟨hk,a,n,c,h1,h2⟩
end
section
open Go.RowKit
def jG (xs:Array ak) (o:Nat):Option Int:=match xs[o]? with|some (.int .i64 n)=>some n|_=>none
def QD (u:Option TypeDesc):Bool:=match u with|some (.int .i64)=>true|_=>false
structure YB (P:Program) (t:TypeId) (rE:List Nat):Prop where
 und:P.underlying t=some (.struct (P.fieldsOf t))
 held:P.stoodInHeld t=false
 guard:P.eqGuardType P.depth t=false
 Az:(P.fieldsOf t).toList.map (·.offset)=rE
 ok:(P.fieldsOf t).toList.all (fun f=>decide (f.name ≠ "_") && P.plainKey f.type && QD (P.underlying f.type))=true
theorem Xu {P:Program} {w:World} {d:Nat} {xs ys:Array ak}:∀ fs:List Field,fs.all (fun f=>decide (f.name ≠ "_") && P.plainKey f.type && QD (P.underlying f.type))=true →
  (fs.map (·.offset)).all (fun o=>(jG xs o).isSome && (jG ys o).isSome)=true→(Op.eqFields (d+1) xs ys fs).run P w=.ok ((fs.map (·.offset)).all fun o=>jG xs o == jG ys o) w
 | [],_,_=>by simp [Op.eqFields]
 | f :: fs,h1,h2=>by
  simp only [List.all_cons,nk,lN,dR] at h1 h2
  obtain ⟨⟨⟨hn,hp⟩,hi⟩,h1⟩:=h1
  obtain ⟨⟨hx,hy⟩,h2⟩:=h2
  have ih:=Xu (w:=w) (d:=d) fs (by simpa using h1) h2
  unfold QD at hi
  split at hi
  ·rename_i hu
   unfold jG at hx hy
   split at hx
   ·rename_i m hxm
    split at hy
    ·rename_i m2 hym
     have e1:jG xs f.offset=some m:=by unfold jG;rw [hxm]
     have e2:jG ys f.offset=some m2:=by unfold jG;rw [hym]
     simp only [Op.eqFields,hn,ne_eq,not_false_eq_true,if_true,dX,run_part_plain w hp hxm,run_part_plain w hp hym,mM,run_equalIn_int w d f.type .i64 .i64 m m2 hu,dR,List.all_cons,e1,e2]
     by_cases e:m=m2
     ·subst e;simp [ih,List.all_map]
     ·simp [e]
    ·simp at hy
   ·simp at hx
  ·simp at hi
def lG (xs:Array ak) (o:Nat × Bool):Option (Int × Bool):=match xs[o.1]?,o.2 with|some (.int .i64 n),false=>some (n,false)|some (.bool b),true=>some (0,b)|_,_=>none
def Cy (u:Option TypeDesc) (b:Bool):Bool:=match u,b with|some (.int .i64),false=>true|some .bool,true=>true|_,_=>false
structure NY (P:Program) (t:TypeId) (rE:List (Nat × Bool)):Prop where
 und:P.underlying t=some (.struct (P.fieldsOf t))
 held:P.stoodInHeld t=false
 guard:P.eqGuardType P.depth t=false
 Az:(P.fieldsOf t).toList.map (fun f=>(f.offset,Cy (P.underlying f.type) true))=rE
 ok:(P.fieldsOf t).toList.all (fun f=>decide (f.name ≠ "_") && P.plainKey f.type && Cy (P.underlying f.type) (Cy (P.underlying f.type) true))=true
theorem aeS {P:Program} {w:World} {d:Nat} {xs ys:Array ak}:∀ fs:List Field,fs.all (fun f=>decide (f.name ≠ "_") && P.plainKey f.type && Cy (P.underlying f.type) (Cy (P.underlying f.type) true))=true →
  (fs.map (fun f=>(f.offset,Cy (P.underlying f.type) true))).all (fun o=>(lG xs o).isSome && (lG ys o).isSome)=true→(Op.eqFields (d+1) xs ys fs).run P w=.ok ((fs.map (fun f=>(f.offset,Cy (P.underlying f.type) true))).all fun o=>lG xs o == lG ys o) w
 | [],_,_=>by simp [Op.eqFields]
 | f :: fs,h1,h2=>by
  simp only [List.all_cons,nk,lN,dR] at h1 h2
  obtain ⟨⟨⟨hn,hp⟩,hi⟩,h1⟩:=h1
  obtain ⟨⟨hx,hy⟩,h2⟩:=h2
  have ih:=aeS (w:=w) (d:=d) fs (by simpa using h1) h2
  obtain ⟨kb,hkb⟩:∃ kb,kb=Cy (P.underlying f.type) true:=⟨_,rfl⟩
  rw [← hkb] at hi hx hy
  cases kb with
  | false =>
   have hu:P.underlying f.type=some (.int .i64):=by clear hkb ih h1 h2 hx hy;unfold Cy at hi;split at hi <;> simp_all
   obtain ⟨m,hxm⟩:∃ m,xs[f.offset]?=some (.int .i64 m):=by clear hkb ih h1 h2 hi hy;unfold lG at hx;split at hx <;> simp_all
   obtain ⟨m2,hym⟩:∃ m,ys[f.offset]?=some (.int .i64 m):=by clear hkb ih h1 h2 hi hx;unfold lG at hy;split at hy <;> simp_all
   have e1:lG xs (f.offset,false)=some (m,false):=by unfold lG;rw [hxm]
   have e2:lG ys (f.offset,false)=some (m2,false):=by unfold lG;rw [hym]
   simp only [Op.eqFields,hn,ne_eq,not_false_eq_true,if_true,dX,run_part_plain w hp hxm,run_part_plain w hp hym,mM,run_equalIn_int w d f.type .i64 .i64 m m2 hu,dR,List.all_cons,← hkb,e1,e2]
   by_cases e:m=m2
   ·subst e;simp [ih,List.all_map]
   ·simp [e]
  | true =>
   have hu:P.underlying f.type=some .bool:=by clear hkb ih h1 h2 hx hy;unfold Cy at hi;split at hi <;> simp_all
   obtain ⟨m,hxm⟩:∃ m,xs[f.offset]?=some (.bool m):=by clear hkb ih h1 h2 hi hy;unfold lG at hx;split at hx <;> simp_all
   obtain ⟨m2,hym⟩:∃ m,ys[f.offset]?=some (.bool m):=by clear hkb ih h1 h2 hi hx;unfold lG at hy;split at hy <;> simp_all
   have e1:lG xs (f.offset,true)=some (0,m):=by unfold lG;rw [hxm]
   have e2:lG ys (f.offset,true)=some (0,m2):=by unfold lG;rw [hym]
   simp only [Op.eqFields,hn,ne_eq,not_false_eq_true,if_true,dX,run_part_plain w hp hxm,run_part_plain w hp hym,mM,run_equalIn_bool' w d f.type m m2 hu,dR,List.all_cons,← hkb,e1,e2]
   by_cases e:m=m2
   ·subst e;simp [ih,List.all_map]
   ·simp [e]
section
variable {N:Nat} {D:List Deferred} {w0:World} {F:Nat→Prop} {G0 G:GH} {L:List (Nat × Obj)} {T:List (Nat × ak)}
variable {r:Option Nat} {P:Program} {ops:Array Oper} {Q:Exit→Act→World→Prop} {rest:List Oper} {a:Act} {w:World}
variable {d:Nat} {ty:TypeId} {pos:String} {aP:Array Edge} {g:Option (Nat × Bool)}
theorem atA {t yt:TypeId} {rE:List Nat} (he:YB P t rE) {x y:Operand} {xs ys:Array ak} (H:St N D w0 F G0 G L T a w) (hw:Region.wanted ⟨some d,.binOp .eql t x y yt,ty,pos,aP,g⟩ (yielded ops a.tmps)=true) (hx:ev T x=some (.agg xs)) (hy:ev T y=some (.agg ys))
  (hi:rE.all (fun o=>(jG xs o).isSome && (jG ys o).isSome)=true) (hd:Nat.blt d N=true)
  (k:∀ a',St N D w0 F G0 G L ((d,.bool (rE.all fun o=>jG xs o == jG ys o)) :: T) a' w→WL r P ops Q rest a' w):WL r P ops Q (⟨some d,.binOp .eql t x y yt,ty,pos,aP,g⟩ :: rest) a w:=by
 refine fQ (v:=.bool (rE.all fun o=>jG xs o == jG ys o)) (w':=w) hw rfl ?_ (k _ (H.put hd _ H.hp))
 have h1:=Xu (P:=P) (w:=w) (d:=9998) (xs:=xs) (ys:=ys) _ he.ok (by rw [he.Az];exact hi)
 rw [he.Az] at h1
 simp only [execOp,H.ev hx,H.ev hy,dX,run_eqGuard_agg w .eql t x y xs ys he.guard,mM,run_eql_struct,run_equalIn_struct w 9999 t xs ys he.und he.held,h1]
 rfl
theorem CQ {t yt:TypeId} {x y:Operand} {p q:ByteArray} (H:St N D w0 F G0 G L T a w) (hw:Region.wanted ⟨some d,.binOp .eql t x y yt,ty,pos,aP,g⟩ (yielded ops a.tmps)=true) (hx:ev T x=some (.string p)) (hy:ev T y=some (.string q)) (hd:Nat.blt d N=true)
  (k:∀ a',St N D w0 F G0 G L ((d,.bool (p.toList == q.toList)) :: T) a' w→WL r P ops Q rest a' w):WL r P ops Q (⟨some d,.binOp .eql t x y yt,ty,pos,aP,g⟩ :: rest) a w:=by
 refine fQ (v:=.bool (p.toList == q.toList)) (w':=w) hw rfl ?_ (k _ (H.put hd _ H.hp))
 simp [execOp,H.ev hx,H.ev hy,dX,eqGuard,binOp,Op.stringOp]
theorem Em {t yt:TypeId} {x y:Operand} {p q:Int} (z:Int) (H:St N D w0 F G0 G L T a w) (hw:Region.wanted ⟨some d,.binOp .quo t x y yt,ty,pos,aP,g⟩ (yielded ops a.tmps)=true) (hx:ev T x=some (.int .i64 p)) (hy:ev T y=some (.int .i64 q)) (hq:¬ q=0) (hz:p.tdiv q=z) (h1:-9223372036854775808≤z) (h2:z < 9223372036854775808) (hd:Nat.blt d N=true)
  (k:∀ a',St N D w0 F G0 G L ((d,.int .i64 z) :: T) a' w→WL r P ops Q rest a' w):WL r P ops Q (⟨some d,.binOp .quo t x y yt,ty,pos,aP,g⟩ :: rest) a w:=by
 subst hz
 refine fQ (v:=.int .i64 (p.tdiv q)) (w':=w) hw rfl ?_ (k _ (H.put hd _ H.hp))
 simp [execOp,H.ev hx,H.ev hy,dX,eqGuard,binOp,Op.intDiv,hq,Il h1 h2]
theorem XB {op:BinOp} {t yt:TypeId} {rE:List (Nat × Bool)} (ho:op=.eql∨op=.neq) (he:NY P t rE) {x y:Operand} {xs ys:Array ak} (H:St N D w0 F G0 G L T a w) (hw:Region.wanted ⟨some d,.binOp op t x y yt,ty,pos,aP,g⟩ (yielded ops a.tmps)=true) (hx:ev T x=some (.agg xs)) (hy:ev T y=some (.agg ys))
  (hi:rE.all (fun o=>(lG xs o).isSome && (lG ys o).isSome)=true) (hd:Nat.blt d N=true)
  (k:∀ a',St N D w0 F G0 G L ((d,.bool (if op=.eql then rE.all fun o=>lG xs o == lG ys o else !(rE.all fun o=>lG xs o == lG ys o))) :: T) a' w→WL r P ops Q rest a' w):WL r P ops Q (⟨some d,.binOp op t x y yt,ty,pos,aP,g⟩ :: rest) a w:=by
 have h1:=aeS (P:=P) (w:=w) (d:=9998) (xs:=xs) (ys:=ys) _ he.ok (by rw [he.Az];exact hi)
 rw [he.Az] at h1
 rcases ho with rfl|rfl
 ·refine fQ (v:=_) (w':=w) hw rfl ?_ (k _ (H.put hd _ H.hp))
  simp only [execOp,H.ev hx,H.ev hy,dX,run_eqGuard_agg w .eql t x y xs ys he.guard,mM,run_eql_struct,run_equalIn_struct w 9999 t xs ys he.und he.held,h1]
  rfl
 ·refine fQ (v:=_) (w':=w) hw rfl ?_ (k _ (H.put hd _ H.hp))
  simp only [execOp,H.ev hx,H.ev hy,dX,run_eqGuard_agg w .neq t x y xs ys he.guard,mM,run_neq_struct,run_equalIn_struct w 9999 t xs ys he.und he.held,h1]
  rfl
end
end
section
open Go.RowKit
theorem Fq {α:Type} {p:α→Bool} {A:List α} {k:Nat} (hk:k < A.length) (h:(A.take k).findIdx? p=none) (hp:p A[k]=false):(A.take (k+1)).findIdx? p=none:=by
 rw [List.findIdx?_eq_none_iff] at h ⊢;rw [gI hk];intro x hx
 rcases ng.1 hx with hx|hx
 ·exact h x hx
 rw [qO.1 hx];exact hp
theorem xk {α:Type} {p:α→Bool} {A:List α} {k:Nat} (hk:k < A.length) (h:(A.take k).findIdx? p=none) (hp:p A[k]=true):A.findIdx? p=some k:=by
 have e:A.findIdx? p=(A.take k++A.drop k).findIdx? p:=by rw [List.take_append_drop]
 rw [e,List.findIdx?_append,h,jy hk,List.findIdx?_cons,hp]
 simp;omega
end
section
open Go.RowKit
theorem XJ:Je prog 287:=⟨by kernel_rfl⟩
theorem ahM:prog.cellsOf 5=1:=by kernel_rfl
theorem arG (v:ak) (w:World):(callFunc 246 #[v]).run prog w=.ok (.value v) w:=atl func246 (by kernel_rfl) (by kernel_rfl) (by kernel_rfl) (by kernel_rfl) v w
theorem Kw:prog.underlying 285=some (.pointer 287):=by kernel_rfl
instance:kR prog 285 (.pointer 287):=⟨Kw⟩
theorem Yd:prog.underlying 309=some .unsafePointer:=by kernel_rfl
instance:kR prog 309 .unsafePointer:=⟨Yd⟩
instance:dL prog 287 0 0:=⟨by kernel_rfl⟩
instance afC:Ty prog 285 1 8 [.pointer none] false:=⟨by kernel_rfl,by kernel_rfl⟩
theorem afK:prog.underlying 311=some (.pointer 5):=by kernel_rfl
instance:kR prog 311 (.pointer 5):=⟨afK⟩
instance aaZ:dL prog 287 1 1:=⟨by kernel_rfl⟩
instance RQ:Ty prog 282 1 24 [.slice none 0 0] false:=⟨by kernel_rfl,by kernel_rfl⟩
theorem NR:prog.underlying 282=some (.slice 5):=by kernel_rfl
instance:kR prog 282 (.slice 5):=⟨NR⟩
end
section
open Go.RowKit
def mU (p:Nat→Bool):Nat→Nat→Nat→Nat
 | 0,i,_=>i
 | f+1,i,j=>if i < j then (if p ((i+j) / 2) then mU p f i ((i+j) / 2) else mU p f ((i+j) / 2+1) j) else i
theorem ade {p:Nat→Bool} {f i j:Nat} (hf:j - i≤f) (h:i < j):mU p f i j=if p ((i+j) / 2) then mU p (f - 1) i ((i+j) / 2) else mU p (f - 1) ((i+j) / 2+1) j:=by
 match f,hf with
 | 0,hf=>omega
 | f+1,_=>rw [mU,au h];rfl
theorem ada {p:Nat→Bool} {f i j:Nat} (h:¬ i < j):mU p f i j=i:=by
 match f with
 | 0=>rfl
 | f+1=>rw [mU,ah h]
theorem Qw {p:Nat→Bool}:∀ (f i j:Nat),i≤j→mU p f i j≤j
 | 0,i,j,h=>h
 | f+1,i,j,h=>by
  rw [mU]
  split
  ·split
   ·exact Nat.le_trans (Qw f i _ (by omega)) (by omega)
   ·exact Qw f _ j (by omega)
  ·exact h
theorem adf {z:Int} (h1:0≤z) (h2:z < 18446744073709551616):IntKind.u64.wrap z=z:=by
 simp only [IntKind.wrap,IntKind.bits,IntKind.signed,uf,lM,if_false]
 omega
theorem adb (n:Nat):((n:Nat):Int).fdiv (2 ^ 1)=((n / 2:Nat):Int):=by
 rw [Int.fdiv_eq_ediv_of_nonneg _ (by decide)];omega
def Dq (a b:Int):Int:=if a < b then -1 else if b < a then 1 else 0
theorem ZU {a b:Int}:Dq a b < 0↔a < b:=by
 unfold Dq
 split
 ·simp [*]
 ·split <;> simp_all
theorem OC {a b:Int}:Dq a b=0↔a=b:=by
 unfold Dq
 split
 ·omega
 ·split <;> omega
def rZ (ks:List Int) (t:Int):Nat:=mU (fun h=>decide (¬ ks.getD h 0 < t)) ks.length 0 ks.length
def vK (ks:List Int) (t:Int):Bool:=decide (ks[rZ ks t]?=some t)
theorem aho (ks:List Int) (t:Int):rZ ks t≤ks.length:=Qw _ _ _ (eG _)
theorem anI {ks:List Int} {t:Int} (h:vK ks t=true):rZ ks t < ks.length:=by
 have:=lQ h
 exact (jr.1 this).1
theorem PY {ks:List Int} {t:Int} {n:Nat} (e:rZ ks t=n) (h:n < ks.length):vK ks t=decide (Dq ks[n] t=0):=by
 unfold vK
 rw [e,dV h]
 simp [OC]
theorem PZ {ks:List Int} {t:Int} {n:Nat} (e:rZ ks t=n) (h:¬ n < ks.length):vK ks t=false:=by
 unfold vK
 rw [e,List.getElem?_eq_none (by omega)]
 simp
theorem getD_map {α:Type} {f:α→Int} {l:List α} {n:Nat} (h:n < l.length):(l.map f).getD n 0=f l[n]:=by
 simp [List.getD,h]
end
section
open Go.RowKit
structure Za (P:Program) (s n off:Nat):Prop where
 h:(match P.underlying s with|some (.struct fs)=>(fs[n]?).bind fun f=>((P.underlying f.type).map (fun|.struct _=>true|.array _ _=>true|_=>false)).map fun g=>(f.offset,g)|_=>none)=some (off,false)
theorem Za.parts {P:Program} {s n off:Nat} (h:Za P s n off):∃ fs fl u,P.underlying s=some (.struct fs)∧fs[n]?=some fl∧P.underlying fl.type=some u∧(match u with|.struct _=>true|.array _ _=>true|_=>false)=false∧fl.offset=off:=by
 obtain ⟨h⟩:=h
 split at h
 ·rename_i fs hs
  obtain ⟨fl,hf,h2⟩:=Option.bind_eq_some_iff.1 h
  obtain ⟨b,hb,h3⟩:=oO.1 h2
  obtain ⟨u,hu,h4⟩:=oO.1 hb
  simp only [iB] at h3
  refine ⟨fs,fl,u,hs,hf,hu,?_,h3.1⟩
  rw [← h3.2,← h4]
  cases u <;> rfl
 ·cases h
section
variable {N:Nat} {D:List Deferred} {w0:World} {F:Nat→Prop} {G0 G:GH} {L Li Lo:OL} {T:List (Nat × ak)}
variable {r:Option Nat} {P:Program} {ops:Array Oper} {Q:Exit→Act→World→Prop} {rest:List Oper} {a:Act} {w:World}
variable {d:Nat} {ty:TypeId} {pos:String} {aP:Array Edge} {g:Option (Nat × Bool)}
theorem XG {t:TypeId} {x y:Operand} {s:ByteArray} {ky:IntKind} {p:Int} (lo:Nat) (ht:P.underlying t=some .string) (H:St N D w0 F G0 G L T a w) (hw:Region.wanted ⟨some d,.slice t x (some y) none none,ty,pos,aP,g⟩ (yielded ops a.tmps)=true) (hx:ev T x=some (.string s)) (hy:ev T y=some (.int ky p)) (hp:p=(lo:Int)) (h1:lo≤s.size) (hd:Nat.blt d N=true)
  (k:∀ a',St N D w0 F G0 G L ((d,.string (s.extract lo s.size)) :: T) a' w→WL r P ops Q rest a' w):WL r P ops Q (⟨some d,.slice t x (some y) none none,ty,pos,aP,g⟩ :: rest) a w:=by
 subst hp
 have hr:=run_slice_string_l (P:=P) w t s ht ky (lo:Int) (by omega) (by omega)
 rw [Int.toNat_natCast] at hr
 refine fQ (v:=.string (s.extract lo s.size)) (w':=w) hw rfl ?_ (k _ (H.put hd _ H.hp))
 simp only [execOp,H.ev hx,BP,Option.map_none,H.ev hy,dX,run_sliceAt_string w t _ _ _ _ ht,hr,mM,tX]
theorem atI {t e:TypeId} {sz bytes:Nat} {zero:List ak} {agg:Bool} (hs:P.underlying t=some (.slice e)) (ht:Ty P e sz bytes zero agg) {x y:Operand} {A:Option Addr} {n c:Nat} (lo:Nat) {p:Int} (H:St N D w0 F G0 G L T a w)
  (hw:Region.wanted ⟨some d,.slice t x (some y) none none,ty,pos,aP,g⟩ (yielded ops a.tmps)=true) (hx:ev T x=some (.slice A n c)) (hy:ev T y=some (.int .i64 p)) (hp:p=(lo:Int)) (h1:lo≤n) (hd:Nat.blt d N=true)
  (k:∀ a',St N D w0 F G0 G L ((d,.slice (if c=lo then A else A.map (·.add (lo*sz))) (n - lo) (c - lo)) :: T) a' w→WL r P ops Q rest a' w):WL r P ops Q (⟨some d,.slice t x (some y) none none,ty,pos,aP,g⟩ :: rest) a w:=by
 subst hp
 refine fQ (v:=.slice (if c=lo then A else A.map (·.add (lo*sz))) (n - lo) (c - lo)) (w':=w) hw rfl ?_ (k _ (H.put hd _ H.hp))
 simp [execOp,H.ev hx,H.ev hy,Instr.sliceAt,Instr.slice,Instr.sliceBounds,Instr.sliceBound,dX,nO hs,ht.CO,asIntOf,h1]
end
end
section
open Go.RowKit
theorem afJ:prog.underlying 262=some (.slice 224):=by kernel_rfl
instance:kR prog 262 (.slice 224):=⟨afJ⟩
instance zy:Ty prog 224 6 56 [.int .i64 0,.int .i64 0,.int .i64 0,.int .i64 0,.int .i64 0,.string ⟨#[]⟩] true:=⟨by kernel_rfl,by kernel_rfl⟩
theorem afo:sV prog 224 [(0,1),(1,1),(2,1),(3,1),(4,1),(5,1)] [.int .i64 0,.int .i64 0,.int .i64 0,.int .i64 0,.int .i64 0,.string ⟨#[]⟩]:=⟨by kernel_rfl,by kernel_rfl⟩
theorem TT:∀ args w,(callFunc 173 args).run prog w=.ok (.enter 173 args) w:=enters func173 rfl (by kernel_rfl)
structure jR where
 num:Int
 Ch:Int
 low:Int
 high:Int
 std:Int
 name:ByteArray
def jR.dat (x:jR):List Dat:=[li x.num,li x.Ch,li x.low,li x.high,li x.std,.lf (.string x.name)]
def jR.cells (x:jR):List ak:=[vi x.num,vi x.Ch,vi x.low,vi x.high,vi x.std,.string x.name]
def gB.cells (x:gB):List ak:=[vi x.key,vi x.value]
theorem aqv (G:GH) (x:jR):aZ G x.dat x.cells:=by
 simp only [jR.dat,jR.cells,aZ]
 exact ⟨_,_,rfl,by simp [ay,Value.oneCell'],_,_,rfl,by simp [ay,Value.oneCell'],_,_,rfl,by simp [ay,Value.oneCell'],_,_,rfl,by simp [ay,Value.oneCell'],_,_,rfl,by simp [ay,Value.oneCell'],_,_,rfl,by simp [ay,Value.oneCell'],rfl⟩
theorem aqu {G:GH} {x:jR} {cs:List ak} (h:aZ G x.dat cs):cs=x.cells:=by
 simp only [jR.dat,aZ,ay] at h
 obtain ⟨v1,_,rfl,⟨rfl,-⟩,v2,_,rfl,⟨rfl,-⟩,v3,_,rfl,⟨rfl,-⟩,v4,_,rfl,⟨rfl,-⟩,v5,_,rfl,⟨rfl,-⟩,v6,_,rfl,⟨rfl,-⟩,rfl⟩:=h
 rfl
theorem Xm {G:GH} {x:gB} {cs:List ak} (h:aZ G x.dat cs):cs=x.cells:=by
 simp only [gB.dat,aZ,ay] at h
 obtain ⟨v1,_,rfl,⟨rfl,-⟩,v2,_,rfl,⟨rfl,-⟩,rfl⟩:=h
 rfl
theorem adD (G:GH):∀ (B A:List jR),bV G 6 (A.map jR.dat) (A.map jR.cells).flatten→bV G 6 ((A++B).map jR.dat) ((A++B).map jR.cells).flatten
 | [],A,h=>by rw [lD];exact h
 | x :: B,A,h=>by
  have h2:=h.snoc (aqv G x) rfl;have h3:=adD G B (A++[x]) (by simpa using h2)
  simpa using h3
theorem aqw (G:GH) (A:List jR):bV G 6 (A.map jR.dat) (A.map jR.cells).flatten:=adD G A [] bV.nil
theorem Ww {G:GH} {l:List jR} {A:Option Addr} {n c k:Nat} (hv:ay G (.sl 6 (l.map jR.dat)) (.slice A n c)) (hk:k < l.length):∃ b o,A=some ⟨b,o,none⟩∧(∀ j u,[vi l[k].num,vi l[k].Ch,vi l[k].low,vi l[k].high,vi l[k].std,.string l[k].name][j]?=some u→aC G b (o+k*6+j)=some u):=by
 obtain ⟨A',c',he,_,_,hg⟩:=hv.slice
 injection he with e1 e2 e3
 subst e1;obtain ⟨b,o,cs,h1,h2,h3,h4⟩:=hg k l[k].dat (by simp [hk]);obtain rfl:=aqu h4;exact ⟨b,o,h1,h3⟩
theorem Nz {G:GH} {l:List gB} {A:Option Addr} {n c k:Nat} (hv:ay G (.sl 2 (l.map gB.dat)) (.slice A n c)) (hk:k < l.length):∃ b o,A=some ⟨b,o,none⟩∧(∀ j u,[vi l[k].key,vi l[k].value][j]?=some u→aC G b (o+k*2+j)=some u):=by
 obtain ⟨A',c',he,_,_,hg⟩:=hv.slice
 injection he with e1 e2 e3
 subst e1;obtain ⟨b,o,cs,h1,h2,h3,h4⟩:=hg k l[k].dat (by simp [hk]);obtain rfl:=Xm h4;exact ⟨b,o,h1,h3⟩
def Iq:List jR:=[⟨1,1,0,1073741824,0,⟨#[99,104,97,114,97,99,116,101,114,45,115,116,121,108,101]⟩⟩,⟨2,1,0,1,0,⟨#[98,111,108,100]⟩⟩,⟨3,1,0,1,0,⟨#[105,116,97,108,105,99]⟩⟩,⟨4,1,0,3,0,⟨#[117,110,100,101,114,108,105,110,101]⟩⟩,⟨5,1,2,1638,22,⟨#[115,105,122,101]⟩⟩,⟨6,1,0,16777215,0,⟨#[99,111,108,111,114]⟩⟩,⟨7,1,0,63,0,⟨#[102,111,110,116]⟩⟩,⟨8,1,0,255,0,⟨#[108,97,110,103,117,97,103,101]⟩⟩,⟨9,1,-400,400,0,⟨#[114,97,105,115,101]⟩⟩,⟨10,1,0,1,0,⟨#[104,105,100,100,101,110]⟩⟩,⟨20,2,0,1073741824,0,⟨#[112,97,114,97,103,114,97,112,104,45,115,116,121,108,101]⟩⟩,⟨21,2,0,3,0,⟨#[97,108,105,103,110]⟩⟩,⟨22,2,-31680,31680,0,⟨#[108,101,102,116]⟩⟩,⟨23,2,-31680,31680,0,⟨#[114,105,103,104,116]⟩⟩,⟨24,2,-31680,31680,0,⟨#[102,105,114,115,116]⟩⟩,⟨25,2,0,31680,0,⟨#[98,101,102,111,114,101]⟩⟩,⟨26,2,0,31680,0,⟨#[97,102,116,101,114]⟩⟩,⟨27,2,0,31680,0,⟨#[108,101,97,100,105,110,103]⟩⟩,⟨28,2,0,1,0,⟨#[107,101,101,112,45,110,101,120,116]⟩⟩,⟨29,2,0,1,0,⟨#[107,101,101,112,45,108,105,110,101,115]⟩⟩,⟨30,2,0,1,1,⟨#[119,105,100,111,119]⟩⟩,⟨31,2,0,1,0,⟨#[112,97,103,101,45,98,101,102,111,114,101]⟩⟩,⟨32,2,0,9,0,⟨#[111,117,116,108,105,110,101]⟩⟩,⟨33,2,0,1073741824,0,⟨#[108,105,115,116]⟩⟩,⟨34,2,1,9,1,⟨#[108,101,118,101,108]⟩⟩,⟨35,2,0,32767,0,⟨#[114,101,115,116,97,114,116]⟩⟩,⟨36,2,1,31680,720,⟨#[116,97,98,45,115,116,111,112]⟩⟩,⟨37,2,0,1,0,⟨#[104,121,112,104,101,110,97,116,101]⟩⟩,⟨40,3,720,31680,12240,⟨#[112,97,103,101,45,119,105,100,116,104]⟩⟩,⟨41,3,720,31680,15840,⟨#[112,97,103,101,45,104,101,105,103,104,116]⟩⟩,⟨42,3,0,31680,1440,⟨#[116,111,112]⟩⟩,⟨43,3,0,31680,1440,⟨#[98,111,116,116,111,109]⟩⟩,⟨44,3,0,31680,1440,⟨#[105,110,110,101,114]⟩⟩,⟨45,3,0,31680,1440,⟨#[111,117,116,101,114]⟩⟩,⟨46,3,0,32767,0,⟨#[102,105,114,115,116,45,112,97,103,101]⟩⟩,⟨47,3,1,6,1,⟨#[112,97,103,101,45,102,111,114,109,97,116]⟩⟩,⟨50,4,0,1,0,⟨#[104,101,97,100,101,114]⟩⟩,⟨51,4,0,1,0,⟨#[99,97,110,116,45,115,112,108,105,116]⟩⟩,⟨52,4,0,31680,0,⟨#[114,111,119,45,104,101,105,103,104,116]⟩⟩,⟨60,5,1,32,1,⟨#[99,111,108,117,109,110,45,115,112,97,110]⟩⟩,⟨61,5,0,2,0,⟨#[118,101,114,116,105,99,97,108,45,109,101,114,103,101]⟩⟩,⟨62,5,0,31680,0,⟨#[99,101,108,108,45,119,105,100,116,104]⟩⟩,⟨63,5,0,16777215,16777215,⟨#[115,104,97,100,101]⟩⟩,⟨70,6,0,31680,0,⟨#[116,97,98,108,101,45,119,105,100,116,104]⟩⟩,⟨71,6,0,2,0,⟨#[116,97,98,108,101,45,97,108,105,103,110]⟩⟩]
set_option maxRecDepth 20000 in
theorem aqx (G:GH) (w0:World) (hG:Hold G w0):Calls prog 203 #[] w0 (bB w0 G fun u G'=>ay G' (.sl 6 (Iq.map jR.dat)) u):=by
 refine eN [] func203 rfl ntmps203 rfl rfl hG ?_;refine aj 4 ?_;intro a H;(iterate 45 refine jZ afo [_,_,_,_,_,_] H wn rfl rfl rfl rfl ?_;clear H;intro a H);refine atv afJ zy (Iq.map jR.cells) H wn rfl rfl rfl rfl rfl rfl rfl ?_;clear H;intro b46 a w awr H;refine aH 2 H ?_;clear H;intro a H;refine lr H results203 rfl ?_;obtain ⟨Gz,hmz,hbz,H⟩:=H.dS;exact H.rt (ay.eT (n:=45) (cap:=45) hbz rfl (bX _) (show 45≤maxLen by decide) (iL (bX _)) (aqw _ _))
theorem Wt (G:GH) (w0:World) (hG:Hold G w0) (x:Int):Calls prog 173 #[vi x] w0 (bB w0 G fun u G'=>u=.bool false∧G=G'):=by
 refine eN [(0,_)] func173 rfl ntmps173 rfl rfl hG ?_;refine aJ 9 ?_;exact ⟨by simp,rfl⟩
theorem TA {x y z:Int} (h:(x < y∧z=-1)∨(y < x∧z=1)∨(x=y∧z=0)):z=Dq x y:=by
 unfold Dq;split
 ·omega
 split <;> omega
theorem aiE (G:GH) (w0:World) (hG:Hold G w0) (x y:Int):Calls prog 206 #[vi x,vi y] w0 (bB w0 G fun u G'=>u=vi (Dq x y)):=by
 refine eN [(0,_),(1,_)] func206 rfl ntmps206 rfl rfl hG ?_;refine aj 5 ?_;intro a H;refine s_call TT H wn rfl (Wt _ _ H.ro x) rfl ?_;clear H;rintro v8 G8 a w ⟨rfl,-⟩ sK H;refine aH 4 H ?_;clear H;intro a H;refine s_call TT H wn rfl (Wt _ _ H.ro y) rfl ?_;clear H;rintro v10 Ak a w ⟨rfl,-⟩ oF H;refine fE 6 H ?_ ?_ <;> clear H
 ·intro h11
  intro a H
  cases h11
 intro h11
 try have qg:=dF h11
 refine goC 5 ?_ ?_
 ·intro oW
  intro a H
  cases oW
 intro oW
 try have oJ:=dF oW
 refine goB 7 ?_ ?_
 ·intro p16
  refine aJ 3 ?_;exact (aB vi (TA (by omega)))
 intro p16
 refine goB 7 ?_ ?_
 ·intro uQ
  refine aJ 3 ?_;exact (aB vi (TA (by omega)))
 intro uQ
 refine aJ 4 ?_;exact (aB vi (TA (by omega)))
end
section
open Go.RowKit
instance:dL prog 224 0 0:=⟨by kernel_rfl⟩
theorem akx:∀ args w,(callFunc 206 args).run prog w=.ok (.enter 206 args) w:=enters func206 rfl (by kernel_rfl)
theorem NS:prog.underlying 65=some (.int .u64):=by kernel_rfl
instance:kR prog 65 (.int .u64):=⟨NS⟩
theorem akw:∀ args w,(callFunc 205 args).run prog w=.ok (.enter 205 args) w:=enters func205 rfl (by kernel_rfl)
theorem ZF (G:GH) (w0:World) (hG:Hold G w0) (x:jR) (t:Int):wD prog (.func (.func 205) #[] #[]) [.agg x.cells.toArray,vi t] w0 (bB w0 G fun u G'=>u=vi (Dq x.num t)):=by
 refine jM (caps:=[]) akw ?_;refine eN [(0,_),(1,_)] func205 rfl ntmps205 rfl rfl hG ?_;refine aj 1 ?_;intro a H;refine dN (cs:=[_,_,_,_,_,_]) H wn rfl rfl rfl ?_;clear H;intro b2 a w hb2 H;refine aH 6 H ?_;clear H;intro a H;refine s_call akx H wn rfl (aiE _ _ H.ro x.num t) rfl ?_;clear H;rintro v8 G8 a w rfl sK H;refine gK 2 H ?_;exact rfl
theorem ahp (G:GH) (w0:World) (hG:Hold G w0) (l:List jR) (t:Int) (v:ak) (hv:ay G (.sl 6 (l.map jR.dat)) v) (hl:l.length≤4294967296) :
  Calls prog 204 #[v,vi t,.func (.func 205) #[] #[]] w0 (bB w0 G fun u G'=>u=.tuple #[vi (rZ (l.map jR.num) t),.bool (vK (l.map jR.num) t)]):=by
 obtain ⟨A,c,rfl,hc1,hc2,-⟩:=hv.slice;rw [bE] at *;obtain ⟨p,hp⟩:∃ p:Nat→Bool,p=fun h=>decide (¬ (l.map jR.num).getD h 0 < t):=⟨_,rfl⟩
 have hbs:rZ (l.map jR.num) t=mU p l.length 0 l.length:=by rw [hp,rZ,bE]
 refine eN [(0,_),(1,_),(2,_)] func204 rfl ntmps204 rfl rfl hG ?_;refine aj 16 ?_;intro a H;refine dD (ι:=Nat × Nat × Nat × GH) (Tc:=[(0,_),(1,_),(2,_),(8,_)]) (Lc:=[]) (fun gh=>[(9,vi gh.1),(10,vi gh.2.1)]) (fun gh=>[]) (fun gh=>gh.2.2.2) (fun gh=>gh.1≤gh.2.1∧gh.2.1≤l.length∧gh.2.1 - gh.1≤gh.2.2.1∧mU p gh.2.2.1 gh.1 gh.2.1=rZ (l.map jR.num) t∧(∀ b o,G b=some o→gh.2.2.2 b=some o)) (fun gh=>gh.2.1 - gh.1) ((0,l.length,l.length,G)) sB ?_ ?_
 ·exact ⟨eG _,bX _,Nat.sub_le _ _,hbs.symm,fun _ _ h=>h⟩
 clear H;rintro ⟨i,j,f,g⟩ a w hI H;dsimp only at hI H;obtain ⟨hij,hj,hf1,heq,hgm⟩:=hI;have Ij:=hv.mono hgm;dsimp only [lca,aQ] at H;refine cK 6 H ?_ ?_ <;> clear H
 ·intro kF
  have hlt:i < j:=by omega
  rw [ade hf1 hlt] at heq;obtain ⟨m,hm⟩:∃ m,m=(i+j) / 2:=⟨_,rfl⟩;rw [← hm] at heq
  have hml:m < l.length:=by omega
  obtain ⟨b,o,rfl,hrow⟩:=Ww Ij hml
  have hpm:p m=decide (¬ l[m].num < t):=by rw [hp];dsimp only;rw [getD_map hml]
  rw [hpm] at heq;refine aj 6 ?_;intro a H;rw [show ((i:Int)+(j:Int))=((i+j:Nat):Int) by push_cast;rfl] at H;refine FI ((i+j:Nat):Int) NS lZ H wn rfl (adf (by omega) (by omega)) rfl ?_;clear H;intro a H;refine XE _ H wn rfl rfl rfl (by decide) rfl ?_;clear H;intro a H;rw [adb,← hm] at H;refine FI (m:Int) lZ NS H wn rfl (Il (by omega) (by omega)) rfl ?_;clear H;refine aj 7 ?_;intro a H;refine aT zy (cs:=[_,_,_,_,_,_]) H wn rfl rfl (fun j v hj=>H.hp.aC (hrow j v hj)) rfl ?_;clear H;refine aj 1 ?_;intro a H;refine nZ H wn rfl rfl (ZF _ _ H.ro l[m] t) rfl ?_;clear H;rintro v30 Da a w rfl Fe H;refine eO 2 H ?_ ?_ <;> clear H
  ·intro p31
   rw [ah (by simpa using ZU.1 p31)] at heq;refine aj 4 ?_;intro a H;refine aI ?_;refine bR ((m+1,j,f - 1,Da)) sB ?_ ?_
   ·(try dsimp only);exact ⟨by omega,hj,by omega,heq,fun b o h=>Fe b o (hgm b o h)⟩
   first|omega|(dsimp only;omega)
  intro p31
  rw [au (by simpa using fun h=>p31 (ZU.2 h))] at heq;refine aj 3 ?_;intro a H;refine aI ?_;refine bR ((i,m,f - 1,Da)) sB ?_ ?_
  ·(try dsimp only);exact ⟨by omega,by omega,by omega,heq,fun b o h=>Fe b o (hgm b o h)⟩
  first|omega|(dsimp only;omega)
 intro kF
 refine aj 1 ?_;rw [ada (by omega)] at heq;refine iV 6 39 ?_ ?_
 ·intro yY
  try have p39:=dT yY
  have hil:i < l.length:=by omega
  obtain ⟨b,o,rfl,hrow⟩:=Ww Ij hil;refine aj 4 ?_;intro a H;refine aT zy (cs:=[_,_,_,_,_,_]) H (wg H rfl rfl yY) rfl rfl (fun j v hj=>H.hp.aC (hrow j v hj)) rfl ?_;clear H;refine aj 1 ?_;intro a H;refine nZ H (wg H rfl rfl yY) rfl rfl (ZF _ _ H.ro l[i] t) rfl ?_;clear H;rintro v46 SE a w rfl D7 H;refine aH 5 H ?_;clear H;intro a H;refine dw ?_;refine (gu H results204 (.cons (bG H rfl) (.cons (bG H rfl) .nil)) ?_).1;exact H.rt (by rw [PY heq.symm (by rw [bE];omega),← heq];simp)
 intro yY
 try have p39:=dF yY
 refine aj 12 ?_;intro a H;refine dw ?_;refine (gu H results204 (.cons (bG H rfl) (.cons (bG H rfl) .nil)) ?_).1;exact H.rt (by rw [PZ heq.symm (by rw [bE];omega),← heq])
end
section
open Go.RowKit
theorem Ug:∀ args w,(callFunc 84 args).run prog w=.ok (.enter 84 args) w:=enters func84 rfl (by kernel_rfl)
theorem OT:∀ args w,(callFunc 149 args).run prog w=.ok (.enter 149 args) w:=enters func149 rfl (by kernel_rfl)
instance kX:Ty prog 48 2 16 [.int .i64 0,.int .i64 0] true:=⟨by kernel_rfl,by kernel_rfl⟩
instance:Ty prog 212 1 8 [.nilFunc] false:=⟨by kernel_rfl,by kernel_rfl⟩
theorem ND:sV prog 48 [(0,1),(1,1)] [.int .i64 0,.int .i64 0]:=⟨by kernel_rfl,by kernel_rfl⟩
theorem aas:∀ args w,(callFunc 150 args).run prog w=.ok (.enter 150 args) w:=enters func150 rfl (by kernel_rfl)
theorem TV:∀ args w,(callFunc 193 args).run prog w=.ok (.enter 193 args) w:=enters func193 rfl (by kernel_rfl)
def wI (x:av):Nat:=if x.kind=1 then qP x.text else 1
mutual
def Xh (flow at_:Int):av→List ((Int × Int) × av)
 | .mk k c i t h f r=>if k=6 then ((flow,at_),.mk k c i t h f r) :: mW i 0 f else if k=7 then ((flow,at_),.mk k c i t h f r) :: Ny r else []
/-- The notes and tables of a flow, and those in them, with their positions. -/
def mW (flow:Int):Int→List av→List ((Int × Int) × av)
 | _,[]=>[]
 | at_,x :: l=>Xh flow at_ x++mW flow (at_+wI x) l
def Ny:List aS→List ((Int × Int) × av)
 | []=>[]
 | r :: l=>Xi r++Ny l
def Xi:aS→List ((Int × Int) × av)
 | .mk _ cs=>lW cs
def lW:List aR→List ((Int × Int) × av)
 | []=>[]
 | c :: l=>Q8 c++lW l
def Q8:aR→List ((Int × Int) × av)
 | .mk i _ f=>mW i 0 f
end
def jX (x:av):List aR:=if x.kind=7 then x.rows.flatMap aS.cells else [.mk x.id ⟨[],⟨0,0,[],[]⟩⟩ x.flow]
theorem aeG (x:aR):Q8 x=mW x.id 0 x.flow:=by cases x;simp [Q8,aR.id,aR.flow]
theorem asn (x:aS):Xi x=lW x.cells:=by cases x;simp [Xi,aS.cells]
theorem aeH:∀ a b:List aR,lW (a++b)=lW a++lW b
 | [],b=>by simp [lW]
 | x :: a,b=>by simp [lW,aeH a b]
theorem aeJ:∀ l:List aS,Ny l=lW (l.flatMap aS.cells)
 | []=>by simp [Ny,lW]
 | x :: l=>by simp [Ny,asn,aeH,aeJ l]
theorem Kl (flow at_:Int) (x:av):Xh flow at_ x=if x.kind=6∨x.kind=7 then ((flow,at_),x) :: lW (jX x) else []:=by
 obtain ⟨k,c,i,t,h,f,r⟩:=x
 simp only [Xh,jX,av.kind,av.rows,av.id,av.flow]
 by_cases h6:k=6
 ·subst h6;simp [lW,Q8]
 by_cases h7:k=7
 ·subst h7;simp [aeJ]
 simp [h6,h7]
theorem adx {x:av} {c:aR} (h:c∈jX x):aX c.flow < bM x.dat:=by
 have h4:=pU x
 unfold jX at h
 split at h
 ·obtain ⟨r,hr,hc⟩:=List.mem_flatMap.1 h;have h1:=Sk hr;have h2:=Sj hc;have h3:=tO r;have h5:=uZ c
  omega
 rw [qO.1 h];show aX x.flow < _;omega
def Ab (a:(Int × Int) × av):AP:=fun args g=>∃ cs,args=[.agg #[vi a.1.1,vi a.1.2],.agg cs.toArray]∧aZ g a.2.dat cs
theorem CJ {A:List ((Int × Int) × av)} {k:Nat} {args:List ak} {g:GH} (h:xK (A.map Ab) k args g):∃ (hk:k < A.length) (cs:List ak),args=[.agg #[vi A[k].1.1,vi A[k].1.2],.agg cs.toArray]∧aZ g A[k].2.dat cs:=by
 obtain ⟨p,hp,hargs⟩:=h;rw [om] at hp;obtain ⟨q,hq,rfl⟩:=oO.1 hp;obtain ⟨hk,rfl⟩:=jr.1 hq;exact ⟨hk,hargs⟩
def Jd (n:Nat):Prop:=∀ (G:GH) (l:List av) (id:Int) (bl bi:Nat) (v:ak),aX l < n→aC G bl 0=some v→aC G bi 0=some (vi id)→ay G (.sl 11 (l.map av.dat)) v →
 Iter prog G (.func (.func 149) #[] #[(aK bl 0),(aK bi 0)]) ((mW id 0 l).map Ab)
theorem Xk {n:Nat} (ih:Jd n) (G:GH) (w0:World) (hG:Hold G w0) (l:List av) (id:Int) (v:ak) (hz:aX l < n) (hv:ay G (.sl 11 (l.map av.dat)) v) :
  Calls prog 84 #[vi id,v] w0 (bB w0 G fun u G'=>∃ bl bi,u=.func (.func 149) #[] #[(aK bl 0),(aK bi 0)]∧Iter prog G' u ((mW id 0 l).map Ab)):=by
 obtain ⟨A,c,rfl,hc1,hc2,hg⟩:=hv.slice;refine eN [(0,_),(1,_)] func84 rfl ntmps84 rfl rfl hG ?_;refine aj 1 ?_;intro a H;refine dN (cs:=[_]) H wn rfl rfl rfl ?_;clear H;intro b2 a w hb2 H;refine dN (cs:=[_]) H wn rfl rfl rfl ?_;clear H;intro b3 a w hb3 H;refine aH 3 H ?_;clear H;intro a H;refine pK H wn rfl rfl ?_;clear H;refine aj 2 ?_;intro a H;refine dw ?_;obtain ⟨G2,hm2,hb3,H⟩:=H.dS;obtain ⟨G3,tJ,hb2,H⟩:=H.dS;refine lv H results84 rfl ?_;exact H.rt ⟨b3,b2,rfl,ih _ _ _ _ _ _ hz (aD tJ (by unfold aC;rw [hb3];rfl)) (by unfold aC;rw [hb2];rfl) (hv.mono fun b o h=>tJ _ _ (hm2 _ _ h))⟩
theorem Uz:∀ l:List aS,(l.flatMap aS.cells).length≤eD l
 | []=>bX _
 | x :: l=>by
  have h1:=Uz l;have h2:=BD x.cells;have h3:=tO x
  simp only [List.flatMap_cons,jc,eD,dR,dY] at *;omega
theorem avN (l:List aS) (k:Nat):eD (l.take k)≤eD l:=by
 have h:eD l=eD (l.take k++l.drop k):=by rw [List.take_append_drop]
 rw [h];simp only [eD,lg,NH];omega
theorem aeI (c:aR) (l:List aR):lW (c :: l)=mW c.id 0 c.flow++lW l:=by rw [lW,aeG]
theorem avC {n:Nat} (ih:Jd n) (hn:n≤4294967296) {G:GH} {x:av} {bx:Nat} {cs:List ak} (hsz:bM x.dat≤n) (hb:G bx=some (.cells cs.toArray 68 (0,0))) (hv:aZ G x.dat cs) :
  Iter prog G (.func (.func 193) #[] #[(aK bx 0)]) ((lW (jX x)).map Ab):=by
 intro J Jx fv G1 L w0 DV hGi lT hJx hJ hO hcb;refine jM (caps:=[(aK bx 0)]) TV ?_;obtain ⟨pA,pn,pc,dA,dn,dc,yA,yn,yc,fA,fn,fc,rA,rn,rc,rfl,hh,hf,hr⟩:=hv.item;have hsz1:=pU x;have hrn:=hr.len;rw [bE] at hrn;subst hrn;have hrs:=BH x.rows
 have hrow:∀ j u,[vi x.kind,vi x.code,vi x.id,.string x.text,.slice pA pn pc,vi x.head.marks.ins,vi x.head.marks.move,.slice dA dn dc,.slice yA yn yc,.slice fA fn fc,.slice rA x.rows.length rc][j]?=some u→aC G1 bx (0+j)=some u:=by
  intro j u hj;refine aD hGi ?_
  unfold aC;rw [hb];simpa using hj
 have hfc:aC G1 bx 0=some (vi x.kind)∧aC G1 bx 2=some (vi x.id)∧aC G1 bx 9=some (.slice fA fn fc)∧aC G1 bx 10=some (.slice rA x.rows.length rc):=⟨hrow 0 _ rfl,hrow 2 _ rfl,hrow 9 _ rfl,hrow 10 _ rfl⟩;obtain ⟨hc0,hc2,hc9,awD⟩:=hfc
 have hml:4294967297≤maxLen:=by decide
 refine iM (N:=50) (T:=[(0,_),(1,_)]) func193 rfl ntmps193 rfl rfl hO ?_;refine aj 1 ?_;intro a H;refine dN (cs:=[fv]) H wn rfl DV rfl ?_;clear H;intro b2 a w hb2 H;refine aH 6 H ?_;clear H;intro a H;refine jZ RI [_,_,_,_,_,_,_] H wn rfl rfl rfl rfl ?_;clear H;intro a H;refine iy FP iI [_,_,_,_,_,_,_] [_,_,_,_,_,_,_] H wn rfl rfl rfl rfl rfl (by intro i q h;match i,h with|0,h=>exact h|n+1,h=>simp at h) rfl rfl ?_;clear H;intro b15 a w Va H;refine eO 8 H ?_ ?_ <;> clear H
 ·intro nM
  refine aj 10 ?_;intro a H;refine dD (ι:=Nat × ak × List ak × OL) (Tc:=[(2,_),(20,_),(21,_)]) (Lc:=[(_,_)]) (fun gh=>[(3,gh.2.1),(22,vi gh.1)]) (fun gh=>[]++(L++gh.2.2.2)) (fun gh=>G1) (fun gh=>gh.1≤x.rows.length∧cB 147 7 gh.2.1 ((x.rows.take gh.1).flatMap aS.cells).length gh.2.2.1 gh.2.2.2∧bV G1 7 (((x.rows.take gh.1).flatMap aS.cells).map aR.dat) gh.2.2.1) (fun gh=>x.rows.length - gh.1) ((0,.slice none 0 0,[],[])) (by exact (St.WO (A:=[_]) (H.bY (Pl:=[_,_]) (bT:=[_]) [1] (by decide) rfl)).sub ⟨rfl,rfl,rfl,rfl,rfl,aY⟩) ?_ ?_
  ·exact ⟨by omega,cB.nil,by simpa using bV.nil⟩
  clear H;rintro ⟨rk,v3,xs,Lo⟩ a w hI H;dsimp only at hI H;obtain ⟨MZ,hrw3,eU⟩:=hI;dsimp only [lca,aQ] at H;refine cK 4 H ?_ ?_ <;> clear H
  ·intro Aa
   have hk2:rk < x.rows.length:=by omega
   obtain ⟨b,o,qA,qn,qc,eA,en,ec,zA,zn,zc,cA,cn,cc,rfl,hrow,yB,hcl⟩:=Eh hk2 hr.at_;replace hrow:=fun j u hj=>aD hGi (hrow j u hj);have abK:=hcl.len;rw [bE] at abK;subst abK;have hsz2:=Uz (x.rows.take (rk+1));have J3:=avN x.rows (rk+1);rw [gI hk2,List.flatMap_append,jc,List.flatMap_singleton] at hsz2;rw [gI hk2] at J3;refine aj 5 ?_;intro a H;refine aT jw (cs:=[_,_,_,_,_,_]) H wn rfl rfl (fun j v hj=>H.hp.aC (hrow j v hj)) rfl ?_;clear H;intro a H;refine dx jw H wn rfl ?_;clear H;intro b5 a w hb5 H;refine bq jw 0 (vs:=[_,_,_,_,_,_]) _ H wn rfl rfl rfl rfl rfl rfl rfl rfl ?_;clear H;intro w H;dsimp only [List.set,setRow] at H;refine aH 5 H ?_;clear H;intro a H;refine XA (Li:=[_,_]++L) (Lo:=Lo) FP iI rfl rfl (St.un (A:=[_,_]) H) wn rfl rfl hrw3 (hcl.mono hGi) (by omega) (by omega) rfl ?_;clear H;intro v29 agJ news a w apt hcn H;refine aH 1 H ?_;clear H;intro a H;refine aI ?_;replace H:=H.assoc.bY (Pl:=[_,_]) (bT:=[_]) [1] (by decide) rfl;refine dW ?_;refine dG 3 H ?_;clear H;intro a H;refine aI ?_;refine bR ((rk+1,v29,xs++news,agJ)) sB ?_ ?_
   ·(try dsimp only);exact ⟨by omega,by rw [gI hk2,List.flatMap_append,jc,List.flatMap_singleton];exact apt,by rw [gI hk2,List.flatMap_append,lg,List.flatMap_singleton];exact eU.append hcn⟩
   first|omega|(dsimp only;omega)
  intro Aa
  have apo:rk=x.rows.length:=by omega
  subst apo;rw [wL] at hrw3 eU;intro a H;obtain ⟨G3,tJ,hin,H⟩:=(St.un (A:=[_]) H).vI (rows:=((x.rows.flatMap aS.cells)).map aR.dat) hrw3 (by simp) eU
  replace hin:ay G3 (.sl 7 ((jX x).map aR.dat)) v3:=by rw [jX,au nM];exact hin
  obtain ⟨iA,ni,ic,rfl⟩:=hin.form;have VI:=hin.len;rw [bE] at VI
  have hisz:(jX x).length≤4294967296:=by
   have h1:=Uz x.rows;rw [jX,au nM];omega
  refine dG 7 H ?_;clear H;intro a H;refine OA (ι:=Nat × Nat × OL × GH × List Nat) (Tc:=[(2,_),(31,_),(32,_)]) (Lc:=[(_,_)]) (fun gh=>Kg gh.2.2.2.2) (fun gh=>[(33,vi gh.1)]) (fun gh=>[]++(lV gh.2.2.2.2++gh.2.2.1)) (fun gh=>gh.2.2.2.1) (fun gh=>gh.1≤(jX x).length∧(∀ b o,G3 b=some o→gh.2.2.2.1 b=some o)∧Now ((lW (jX x)).map Ab) Ab J (lW (jX x)).length gh.2.1 (lW ((jX x).drop gh.1)) gh.2.2.2.1 gh.2.2.1) (fun gh=>(jX x).length - gh.1) ((0,0,L,G3,[])) sB ?_ ?_
  ·exact ⟨by omega,fun _ _ h=>h,⟨lT _ _ _ _ tJ hJ,fun i a h=>by rw [gX,om];rw [GI] at h;rw [h];rfl,by simp⟩⟩
  clear H;rintro ⟨ck,j1,Lt,g,ds⟩ a w hI H;dsimp only at hI H;obtain ⟨hck,hgm,bQ⟩:=hI;dsimp only [lca,aQ] at H;refine cK 4 H ?_ ?_ <;> clear H
  ·intro p34
   have hk3:ck < (jX x).length:=by omega
   obtain ⟨b,o,sA,sn,sc,tA,tn,tc,uA,un,uc,gA,gn,gc,Vu,hrow,hch,hcf⟩:=BR hk3 hin.at_;subst Vu;replace hrow:=fun j u hj=>aD hgm (hrow j u hj);rw [jy hk3,aeI] at bQ;refine aj 5 ?_;intro a H;refine aT iI (cs:=[_,_,_,_,_,_,_]) H wn rfl rfl (fun j v hj=>H.hp.aC (hrow j v hj)) rfl ?_;clear H;intro a H;refine dx iI H wn rfl ?_;clear H;intro b7 a w qD H;refine bq iI 0 (vs:=[_,_,_,_,_,_,_]) _ H wn rfl rfl rfl rfl rfl rfl rfl rfl ?_;clear H;intro w H;dsimp only [List.set,setRow] at H;refine aH 6 H ?_;clear H;intro a H;refine s_call Ug H wn rfl (Xk ih _ _ H.ro (jX x)[ck].flow (jX x)[ck].id _ (by have:=adx (iq hk3);omega) (hcf.mono hgm)) rfl ?_;clear H;rintro v41 KN a w ⟨bl,bi,rfl,hit⟩ Cu H;refine aH 2 H ?_;clear H;intro a H;refine EN (ι:=OL) (κ:=OL) (Lc:=[(_,_),(_,_)]) (fun (k:Nat) (gh:OL)=>[]) (fun (k:Nat) (gh:OL)=>(lV ds++gh)) (fun (k:Nat) (gh:OL) (g:GH)=>J (j1+k) g gh) (fun (gx:OL)=>Code.ret) (fun (gx:OL)=>[]) (fun (gx:OL)=>(lV ds++gx)) (fun (gx:OL) (g:GH)=>Jx g gx) (Lt) (by exact H) rfl OT (hit) (fun _ _ h=>h) rfl (fun k args g h=>by obtain ⟨_,_,rfl,_⟩:=CJ h;rfl) (fun k i G G' hm h=>lT _ _ _ _ hm h) (fun x G G' hm h=>hJx _ _ _ hm h) (lT _ _ _ _ Cu bQ.now) ?_ ?_ ?_
   ·clear H;intro l13 yH vE bk k args wG oh w13 F13 B13 a Vw kV hI Vf VG VZ H;obtain ⟨hk,OG,rfl,zk⟩:=CJ Vw;obtain ⟨aA,an,ac,bA,bn,bc,OH,OM,OI,OO,OZ,OP,Qy,QB,Qz,rfl,-⟩:=zk.item;dsimp only [uj,List.cons_append,List.nil_append] at H;refine tq ?_;refine dx kX H wn rfl ?_;clear H;intro b8 a w wV H;refine bq kX 0 (vs:=[_,_]) _ H wn rfl rfl rfl rfl rfl rfl rfl rfl ?_;clear H;intro w H;dsimp only [List.set,setRow] at H;refine aH 2 H ?_;clear H;intro a H;refine dx dU H wn rfl ?_;clear H;intro b9 a w qE H;refine bq dU 0 (vs:=[_,_,_,_,_,_,_,_,_,_,_]) _ H wn rfl rfl rfl rfl rfl rfl rfl rfl ?_;clear H;intro w H;dsimp only [List.set,setRow] at H;refine aI ?_;refine Vf _ _ _ _ _ _ (by exact H.bY (Pl:=[_,_,_,_,_]) (bT:=[_,_,_,_,_]) [2,0,1,3,4] (by decide) rfl) ?_;clear H;intro w H;refine dG 3 H ?_;clear H;intro a H;refine aT kX (cs:=[_,_]) H wn rfl rfl (H.hp.cO 2 rfl rfl) rfl ?_;clear H;intro a H;refine aT dU (cs:=[_,_,_,_,_,_,_,_,_,_,_]) H wn rfl rfl (H.hp.cO 1 rfl rfl) rfl ?_;clear H;intro a H;refine tL (Li:=([_,_,_,_,_]++bk)++lV ds) (L:=wG) (St.un (A:=[_,_,_,_,_]++bk) (St.un (A:=[_,_,_,_,_]) H)) wn rfl rfl (hcb (j1+k) _ _ _ _ ⟨_,bQ.part k _ (dV hk),_,rfl,zk⟩ (fun b o h=>kV b o (Cu b o (hgm b o (tJ b o h)))) hI (Hp.owns (Li:=([_,_,_,_,_]++bk)++lV ds) (St.un (A:=[_,_,_,_,_]++bk) (St.un (A:=[_,_,_,_,_]) H)).hp)) rfl ?_;clear H;rintro v47 N8 KZ a w ⟨b47,rfl,hb1,hb2⟩ acn H
    simp only [fT,kr,jv] at H
    refine fE 2 H ?_ ?_ <;> clear H
    ·intro h48
     intro a H;refine dw ?_;refine (VZ (KZ) _ _ _ _ _ (by exact H.bY (Pl:=[_,_,_,_,_]) (bT:=[_,_,_]) [0,3,4] (by decide) rfl) ?_).1 rfl;exact hb2 (by simpa using h48)
    intro h48
    intro a H;refine iE ?_;refine VG (KZ) _ _ _ _ _ (by exact H.bY (Pl:=[_,_,_,_,_]) (bT:=[_,_,_]) [0,3,4] (by decide) rfl) ?_;exact hb1 (by simpa using h48)
   ·clear H;intro KG wG KP a w kV hI H;dsimp only [lca,aQ] at H;refine dW ?_;refine dG 3 H ?_;clear H;intro a H;refine aI ?_;refine Iu ((ck+1,j1+(mW (jX x)[ck].id 0 (jX x)[ck].flow).length,wG,KP,KG :: ds)) (by exact (H.bY (Pl:=[_,_,_]) (bT:=[_,_]) [2,0] (by decide) rfl).sub ⟨rfl,rfl,rfl,rfl,aY⟩) ?_ ?_
    ·(try dsimp only);exact ⟨by omega,fun b o h=>kV b o (Cu b o (hgm b o h)),bQ.jump (by simpa using hI)⟩
    first|omega|(dsimp only;omega)
   clear H;intro KG Lx KP a w kV hI H;dsimp only [lca,aQ] at H;refine dw ?_;refine (Bl H 0 rfl ?_).1;clear H;intro a w H;dsimp only [List.eraseIdx_cons_succ,List.eraseIdx_cons_zero] at H;refine (zZ (Lh:=[_,_]) _ H ?_).1;clear H;intro a w H;dsimp only [lca,aQ] at H;refine (leave0 H results193 ?_).1
   first
    | exact H.hp.bU (L':=Lx) (by repeat (first|exact bZ _|apply List.Sublist.cons)) (.inr hI)
    | exact H.hp.bU (L':=Lt) (by repeat (first|exact bZ _|apply List.Sublist.cons)) (.inl (by rw [eX (by omega),lW] at bQ;have:=bQ.len;simp only [List.length_nil,mO] at this;rw [bE,← this];exact bQ.now))
  intro p34
  intro a H;refine Au ?_;refine (zZ (Lh:=[_]) _ H ?_).2;clear H;intro a w H;dsimp only [lca,aQ] at H;refine (leave0 H results193 ?_).1
  first
   | exact H.hp.bU (L':=Lx) (by repeat (first|exact bZ _|apply List.Sublist.cons)) (.inr hI)
   | exact H.hp.bU (L':=Lt) (by repeat (first|exact bZ _|apply List.Sublist.cons)) (.inl (by rw [eX (by omega),lW] at bQ;have:=bQ.len;simp only [List.length_nil,mO] at this;rw [bE,← this];exact bQ.now))
 intro nM
 intro a H;obtain ⟨G3,tJ,hin,H⟩:=H.Pk (sz:=7) (d:=(aR.mk x.id ⟨[],⟨0,0,[],[]⟩⟩ x.flow).dat) rfl (aZ.Ke (x:=aR.mk x.id ⟨[],⟨0,0,[],[]⟩⟩ x.flow) ⟨ay.jB rfl (by decide),ay.jB rfl (by decide),ay.jB rfl (by decide)⟩ (hf.mono hGi))
 replace hin:ay G3 (.sl 7 ((jX x).map aR.dat)) (.slice (some ⟨b15,0,none⟩) 1 1):=by rw [jX,ah nM];exact hin
 obtain ⟨iA,hiA⟩:∃ z,z=some (Addr.mk b15 0 none):=⟨_,rfl⟩;obtain ⟨ni,hni⟩:∃ z,z=1:=⟨_,rfl⟩;obtain ⟨ic,hic⟩:∃ z,z=1:=⟨_,rfl⟩;rw [← hiA] at hin H;have VI:=hin.len;rw [bE] at VI
 have hisz:(jX x).length≤4294967296:=by omega
 refine dG 7 H ?_;clear H;intro a H;refine OA (ι:=Nat × Nat × OL × GH × List Nat) (Tc:=[(2,_),(31,_),(32,_)]) (Lc:=[(_,_)]) (fun gh=>Kg gh.2.2.2.2) (fun gh=>[(33,vi gh.1)]) (fun gh=>[]++(lV gh.2.2.2.2++gh.2.2.1)) (fun gh=>gh.2.2.2.1) (fun gh=>gh.1≤(jX x).length∧(∀ b o,G3 b=some o→gh.2.2.2.1 b=some o)∧Now ((lW (jX x)).map Ab) Ab J (lW (jX x)).length gh.2.1 (lW ((jX x).drop gh.1)) gh.2.2.2.1 gh.2.2.1) (fun gh=>(jX x).length - gh.1) ((0,0,L,G3,[])) sB ?_ ?_
 ·exact ⟨by omega,fun _ _ h=>h,⟨lT _ _ _ _ tJ hJ,fun i a h=>by rw [gX,om];rw [GI] at h;rw [h];rfl,by simp⟩⟩
 clear H;rintro ⟨ck,j1,Lt,g,ds⟩ a w hI H;dsimp only at hI H;obtain ⟨hck,hgm,bQ⟩:=hI;dsimp only [lca,aQ] at H;refine cK 4 H ?_ ?_ <;> clear H
 ·intro p34
  have hk3:ck < (jX x).length:=by omega
  obtain ⟨b,o,sA,sn,sc,tA,tn,tc,uA,un,uc,gA,gn,gc,Vu,hrow,hch,hcf⟩:=BR hk3 hin.at_;subst Vu;replace hrow:=fun j u hj=>aD hgm (hrow j u hj);rw [jy hk3,aeI] at bQ;refine aj 5 ?_;intro a H;refine aT iI (cs:=[_,_,_,_,_,_,_]) H wn rfl rfl (fun j v hj=>H.hp.aC (hrow j v hj)) rfl ?_;clear H;intro a H;refine dx iI H wn rfl ?_;clear H;intro b7 a w qD H;refine bq iI 0 (vs:=[_,_,_,_,_,_,_]) _ H wn rfl rfl rfl rfl rfl rfl rfl rfl ?_;clear H;intro w H;dsimp only [List.set,setRow] at H;refine aH 6 H ?_;clear H;intro a H;refine s_call Ug H wn rfl (Xk ih _ _ H.ro (jX x)[ck].flow (jX x)[ck].id _ (by have:=adx (iq hk3);omega) (hcf.mono hgm)) rfl ?_;clear H;rintro v41 KN a w ⟨bl,bi,rfl,hit⟩ Cu H;refine aH 2 H ?_;clear H;intro a H;refine EN (ι:=OL) (κ:=OL) (Lc:=[(_,_),(_,_)]) (fun (k:Nat) (gh:OL)=>[]) (fun (k:Nat) (gh:OL)=>(lV ds++gh)) (fun (k:Nat) (gh:OL) (g:GH)=>J (j1+k) g gh) (fun (gx:OL)=>Code.ret) (fun (gx:OL)=>[]) (fun (gx:OL)=>(lV ds++gx)) (fun (gx:OL) (g:GH)=>Jx g gx) (Lt) (by exact H) rfl OT (hit) (fun _ _ h=>h) rfl (fun k args g h=>by obtain ⟨_,_,rfl,_⟩:=CJ h;rfl) (fun k i G G' hm h=>lT _ _ _ _ hm h) (fun x G G' hm h=>hJx _ _ _ hm h) (lT _ _ _ _ Cu bQ.now) ?_ ?_ ?_
  ·clear H;intro l13 yH vE bk k args wG oh w13 F13 B13 a Vw kV hI Vf VG VZ H;obtain ⟨hk,OG,rfl,zk⟩:=CJ Vw;obtain ⟨aA,an,ac,bA,bn,bc,OH,OM,OI,OO,OZ,OP,Qy,QB,Qz,rfl,-⟩:=zk.item;dsimp only [uj,List.cons_append,List.nil_append] at H;refine tq ?_;refine dx kX H wn rfl ?_;clear H;intro b8 a w wV H;refine bq kX 0 (vs:=[_,_]) _ H wn rfl rfl rfl rfl rfl rfl rfl rfl ?_;clear H;intro w H;dsimp only [List.set,setRow] at H;refine aH 2 H ?_;clear H;intro a H;refine dx dU H wn rfl ?_;clear H;intro b9 a w qE H;refine bq dU 0 (vs:=[_,_,_,_,_,_,_,_,_,_,_]) _ H wn rfl rfl rfl rfl rfl rfl rfl rfl ?_;clear H;intro w H;dsimp only [List.set,setRow] at H;refine aI ?_;refine Vf _ _ _ _ _ _ (by exact H.bY (Pl:=[_,_,_,_,_]) (bT:=[_,_,_,_,_]) [2,0,1,3,4] (by decide) rfl) ?_;clear H;intro w H;refine dG 3 H ?_;clear H;intro a H;refine aT kX (cs:=[_,_]) H wn rfl rfl (H.hp.cO 2 rfl rfl) rfl ?_;clear H;intro a H;refine aT dU (cs:=[_,_,_,_,_,_,_,_,_,_,_]) H wn rfl rfl (H.hp.cO 1 rfl rfl) rfl ?_;clear H;intro a H;refine tL (Li:=([_,_,_,_,_]++bk)++lV ds) (L:=wG) (St.un (A:=[_,_,_,_,_]++bk) (St.un (A:=[_,_,_,_,_]) H)) wn rfl rfl (hcb (j1+k) _ _ _ _ ⟨_,bQ.part k _ (dV hk),_,rfl,zk⟩ (fun b o h=>kV b o (Cu b o (hgm b o (tJ b o h)))) hI (Hp.owns (Li:=([_,_,_,_,_]++bk)++lV ds) (St.un (A:=[_,_,_,_,_]++bk) (St.un (A:=[_,_,_,_,_]) H)).hp)) rfl ?_;clear H;rintro v47 N8 KZ a w ⟨b47,rfl,hb1,hb2⟩ acn H
   simp only [fT,kr,jv] at H
   refine fE 2 H ?_ ?_ <;> clear H
   ·intro h48
    intro a H;refine dw ?_;refine (VZ (KZ) _ _ _ _ _ (by exact H.bY (Pl:=[_,_,_,_,_]) (bT:=[_,_,_]) [0,3,4] (by decide) rfl) ?_).1 rfl;exact hb2 (by simpa using h48)
   intro h48
   intro a H;refine iE ?_;refine VG (KZ) _ _ _ _ _ (by exact H.bY (Pl:=[_,_,_,_,_]) (bT:=[_,_,_]) [0,3,4] (by decide) rfl) ?_;exact hb1 (by simpa using h48)
  ·clear H;intro KG wG KP a w kV hI H;dsimp only [lca,aQ] at H;refine dW ?_;refine dG 3 H ?_;clear H;intro a H;refine aI ?_;refine Iu ((ck+1,j1+(mW (jX x)[ck].id 0 (jX x)[ck].flow).length,wG,KP,KG :: ds)) (by exact (H.bY (Pl:=[_,_,_]) (bT:=[_,_]) [2,0] (by decide) rfl).sub ⟨rfl,rfl,rfl,rfl,aY⟩) ?_ ?_
   ·(try dsimp only);exact ⟨by omega,fun b o h=>kV b o (Cu b o (hgm b o h)),bQ.jump (by simpa using hI)⟩
   first|omega|(dsimp only;omega)
  clear H;intro KG Lx KP a w kV hI H;dsimp only [lca,aQ] at H;refine dw ?_;refine (Bl H 0 rfl ?_).1;clear H;intro a w H;dsimp only [List.eraseIdx_cons_succ,List.eraseIdx_cons_zero] at H;refine (zZ (Lh:=[_,_]) _ H ?_).1;clear H;intro a w H;dsimp only [lca,aQ] at H;refine (leave0 H results193 ?_).1
  first
   | exact H.hp.bU (L':=Lx) (by repeat (first|exact bZ _|apply List.Sublist.cons)) (.inr hI)
   | exact H.hp.bU (L':=Lt) (by repeat (first|exact bZ _|apply List.Sublist.cons)) (.inl (by rw [eX (by omega),lW] at bQ;have:=bQ.len;simp only [List.length_nil,mO] at this;rw [bE,← this];exact bQ.now))
 intro p34
 intro a H;refine Au ?_;refine (zZ (Lh:=[_]) _ H ?_).2;clear H;intro a w H;dsimp only [lca,aQ] at H;refine (leave0 H results193 ?_).1
 first
  | exact H.hp.bU (L':=Lx) (by repeat (first|exact bZ _|apply List.Sublist.cons)) (.inr hI)
  | exact H.hp.bU (L':=Lt) (by repeat (first|exact bZ _|apply List.Sublist.cons)) (.inl (by rw [eX (by omega),lW] at bQ;have:=bQ.len;simp only [List.length_nil,mO] at this;rw [bE,← this];exact bQ.now))
theorem agq {n:Nat} (ih:Jd n) (hn:n≤4294967296) (G:GH) (w0:World) (hG:Hold G w0) (x:av) (cs:List ak) (hsz:bM x.dat≤n) (hv:aZ G x.dat cs) :
  Calls prog 150 #[.agg cs.toArray] w0 (bB w0 G fun u G'=>∃ bx,u=.func (.func 193) #[] #[(aK bx 0)]∧Iter prog G' u ((lW (jX x)).map Ab)):=by
 obtain ⟨pA,pn,pc,dA,dn,dc,yA,yn,yc,fA,fn,fc,rA,rn,rc,hcs,-⟩:=hv.item;have hv2:=hv;rw [hcs] at hv2 ⊢;refine eN [(0,_)] func150 rfl ntmps150 rfl rfl hG ?_;refine aj 1 ?_;intro a H;refine dN (cs:=[_,_,_,_,_,_,_,_,_,_,_]) H wn rfl rfl rfl ?_;clear H;intro b1 a w hb1 H;refine aH 3 H ?_;clear H;intro a H;refine pK H wn rfl rfl ?_;clear H;refine aj 2 ?_;intro a H;refine dw ?_;obtain ⟨G2,hm2,hb1,H⟩:=H.dS;refine lv H results150 rfl ?_;exact H.rt ⟨b1,rfl,avC ih hn hsz hb1 (hv2.mono hm2)⟩
theorem aha (x:av):wI x < bM x.dat:=by
 have h1:=pU x;have h2:=GQ x.text
 unfold wI;split <;> omega
theorem asx {n:Nat} (ih:Jd n) (hn:n≤4294967296):Jd (n+1):=by
 intro G l id bl bi v hz hbl hbi hv J Jx fv G1 L w0 DV hGi lT hJx hJ hO hcb;refine jM (caps:=[(aK bl 0),(aK bi 0)]) OT ?_;obtain ⟨A,c,rfl,hc1,hc2,hg⟩:=hv.slice;rw [bE] at *;have hll:=BG l;replace hbl:=aD hGi hbl;replace hbi:=aD hGi hbi;refine iM (N:=55) (T:=[(0,_),(1,_),(2,_)]) func149 rfl ntmps149 rfl rfl hO ?_;refine aj 1 ?_;intro a H;refine dN (cs:=[fv]) H wn rfl DV rfl ?_;clear H;intro b3 a w hb3 H;refine aH 10 H ?_;clear H;intro a H;refine OA (ι:=Nat × Int × Nat × OL × GH × List Nat) (Tc:=[(2,_),(3,_),(12,_),(13,_)]) (Lc:=[(_,_)]) (fun gh=>Kg gh.2.2.2.2.2) (fun gh=>[(4,vi gh.2.1),(14,vi gh.1)]) (fun gh=>[]++(lV gh.2.2.2.2.2++gh.2.2.2.1)) (fun gh=>gh.2.2.2.2.1) (fun gh=>gh.1≤l.length∧(∀ b o,G1 b=some o→gh.2.2.2.2.1 b=some o)∧Now ((mW id 0 l).map Ab) Ab J (mW id 0 l).length gh.2.2.1 (mW id gh.2.1 (l.drop gh.1)) gh.2.2.2.2.1 gh.2.2.2.1∧0≤gh.2.1∧gh.2.1+aX (l.drop gh.1)≤n) (fun gh=>l.length - gh.1) ((0,0,0,L,G1,[])) sB ?_ ?_
 ·exact ⟨by omega,fun _ _ h=>h,⟨hJ,fun i a h=>by rw [gX,om];rw [GI] at h;rw [h];rfl,by simp⟩,Int.le_refl _,by simp;omega⟩
 clear H;rintro ⟨k,at_,j1,Lt,g,ds⟩ a w hI H;dsimp only at hI H;obtain ⟨hk,hgm,bQ,awh,hat⟩:=hI;dsimp only [lca,aQ] at H;refine cK 4 H ?_ ?_ <;> clear H
 ·intro mE
  have hk2:k < l.length:=by omega
  obtain ⟨b,o,pA,pn,pc,dA,dn,dc,yA,yn,yc,fA,fn,fc,rA,rn,rc,rfl,hrow,hhd,hfl,hrw⟩:=AA hk2 hg;have pz:∀ b o,G b=some o→g b=some o:=fun b o h=>hgm b o (hGi b o h);replace hrow:=fun j u hj=>aD pz (hrow j u hj);have awy:=aD hgm hbi;have hsz1:=pU l[k];have hsz2:=I5 (iq hk2);have awg:=aha l[k];rw [jy hk2] at bQ hat;rw [aX,dR,dY] at hat;rw [mW] at bQ;refine aj 5 ?_;intro a H;refine aT dU (cs:=[_,_,_,_,_,_,_,_,_,_,_]) H wn rfl rfl (fun j v hj=>H.hp.aC (hrow j v hj)) rfl ?_;clear H;intro a H;refine dx dU H wn rfl ?_;clear H;intro b6 a w hb6 H;refine bq dU 0 (vs:=[_,_,_,_,_,_,_,_,_,_,_]) _ H wn rfl rfl rfl rfl rfl rfl rfl rfl ?_;clear H;intro w H;dsimp only [List.set,setRow] at H;refine aH 4 H ?_;clear H;intro a H;refine jZ ND [_,_] H wn rfl rfl rfl rfl ?_;clear H;intro a H;refine dx kX H wn rfl ?_;clear H;intro b7 a w qD H;refine bq kX 0 (vs:=[_,_]) _ H wn rfl rfl rfl rfl rfl rfl rfl rfl ?_;clear H;intro w H;dsimp only [List.set,setRow] at H;refine eO 15 H ?_ ?_ <;> clear H
  ·intro p25
   have hcl:=GQ l[k].text;refine aj 3 ?_;intro a H;refine s_call OX H wn rfl (OE _ _ H.ro _ (by omega)) rfl ?_;clear H;rintro v30 Da a w ⟨rfl,rfl⟩ Fe H;refine aH 1 H ?_;clear H;intro a H;(iterate 2 refine qK H wn rfl rfl rfl ?_;clear H;intro a H);refine aH 9 H ?_;clear H
   have e:at_+1+((qP l[k].text:Int) - 1)=at_+(wI l[k]:Int):=by rw [wI,au p25];omega
   intro a H;rw [e] at H;refine aH 4 H ?_;clear H;intro a H;refine aI ?_;refine Iu ((k+1,at_+wI l[k],j1,Lt,g,ds)) (by exact (H.bY (Pl:=[_,_,_]) (bT:=[_]) [2] (by decide) rfl).sub ⟨rfl,rfl,rfl,rfl,rfl,rfl,aY⟩) ?_ ?_
   ·(try dsimp only);exact ⟨by omega,hgm,by rw [Kl,ah (by omega),jv] at bQ;exact bQ,by omega,by show at_+(wI l[k]:Int)+(dY ((l.drop (k+1)).map av.dat):Nat)≤n;omega⟩
   first|omega|(dsimp only;omega)
  intro p25
  have e:at_+1=at_+(wI l[k]:Int):=by rw [wI,ah p25];rfl
  intro a H;rw [e] at H;refine gcC 5 H ?_ ?_ <;> clear H
  ·intro h37
   try have p37:=dT h37
   have Hf:l[k].kind=6∨l[k].kind=7:=by first|exact .inl p37|exact .inr p37
   rw [Kl,au Hf] at bQ;refine aj 5 ?_;intro a H;refine aT kX (cs:=[_,_]) H wn rfl rfl (H.hp.cO 0 rfl rfl) rfl ?_;clear H;intro a H;refine aT dU (cs:=[_,_,_,_,_,_,_,_,_,_,_]) H wn rfl rfl (H.hp.cO 1 rfl rfl) rfl ?_;clear H;intro a H;refine tL (Li:=[_,_,_]++lV ds) (L:=Lt) (St.un (A:=[_,_,_]) H) wn rfl rfl (hcb j1 _ _ _ _ ⟨_,bQ.head,_,rfl,aZ.mkItem (hhd.mono pz) (hfl.mono pz) (hrw.mono pz)⟩ hgm bQ.now (Hp.owns (Li:=[_,_,_]++lV ds) (St.un (A:=[_,_,_]) H).hp)) rfl ?_;clear H;rintro v43 Am EC a w ⟨Oq,rfl,hb1,hb2⟩ nK H
   simp only [fT,kr,jv] at H
   refine fE 2 H ?_ ?_ <;> clear H
   ·intro sG
    try have p44:=dT sG
    intro a H;refine dw ?_;refine (zZ (Lh:=[_,_,_]) _ H ?_).1;clear H;intro a w H;dsimp only [lca,aQ] at H;refine (leave0 H results149 ?_).1
    first
     | exact H.hp.bU (L':=Lx) (by repeat (first|exact bZ _|apply List.Sublist.cons)) (.inr hI)
     | exact H.hp.bU (L':=EC) (by repeat (first|exact bZ _|apply List.Sublist.cons)) (.inr (hb2 (by simpa using sG)))
     | exact H.hp.bU (L':=Lt) (by repeat (first|exact bZ _|apply List.Sublist.cons)) (.inl (by rw [eX (by omega),mW] at bQ;have:=bQ.len;simp only [List.length_nil,mO] at this;(try rw [bE]);rw [← this];exact bQ.now))
   intro sG
   try have p44:=dF sG
   have pE:=bQ.step (hb1 (by simpa using sG));refine aj 2 ?_;intro a H;refine aT dU (cs:=[_,_,_,_,_,_,_,_,_,_,_]) H wn rfl rfl (H.hp.cO 1 rfl rfl) rfl ?_;clear H;intro a H;refine s_call aas H wn rfl (agq ih hn _ _ H.ro l[k] _ (by omega) (aZ.mkItem (hhd.mono fun b o h=>nK b o (pz b o h)) (hfl.mono fun b o h=>nK b o (pz b o h)) (hrw.mono fun b o h=>nK b o (pz b o h)))) rfl ?_;clear H;rintro v46 SE a w ⟨bx,rfl,hit⟩ D7 H;refine aH 2 H ?_;clear H;intro a H;refine EN (ι:=OL) (κ:=OL) (Lc:=[(_,_),(_,_),(_,_)]) (fun (k:Nat) (gh:OL)=>[]) (fun (k:Nat) (gh:OL)=>(lV ds++gh)) (fun (k:Nat) (gh:OL) (g:GH)=>J (j1+1+k) g gh) (fun (gx:OL)=>Code.ret) (fun (gx:OL)=>[]) (fun (gx:OL)=>(lV ds++gx)) (fun (gx:OL) (g:GH)=>Jx g gx) (EC) (by exact H) rfl TV (hit) (fun _ _ h=>h) rfl (fun k args g h=>by obtain ⟨_,_,rfl,_⟩:=CJ h;rfl) (fun k i G G' hm h=>lT _ _ _ _ hm h) (fun x G G' hm h=>hJx _ _ _ hm h) (lT _ _ _ _ D7 pE.now) ?_ ?_ ?_
   ·clear H;intro l15 yH vE bk k args wG Ey w15 F15 B15 a Vx tH hI Vg VH V3 H;obtain ⟨Vy,OG,rfl,zk⟩:=CJ Vx;obtain ⟨aA,an,ac,bA,bn,bc,OH,OM,OI,OO,OZ,OP,Qy,QB,Qz,rfl,-⟩:=zk.item;dsimp only [uj,List.cons_append,List.nil_append] at H;refine tq ?_;refine dx kX H wn rfl ?_;clear H;intro b10 a w E9 H;refine bq kX 0 (vs:=[_,_]) _ H wn rfl rfl rfl rfl rfl rfl rfl rfl ?_;clear H;intro w H;dsimp only [List.set,setRow] at H;refine aH 2 H ?_;clear H;intro a H;refine dx dU H wn rfl ?_;clear H;intro b11 a w Hu H;refine bq dU 0 (vs:=[_,_,_,_,_,_,_,_,_,_,_]) _ H wn rfl rfl rfl rfl rfl rfl rfl rfl ?_;clear H;intro w H;dsimp only [List.set,setRow] at H;refine aI ?_;refine Vg _ _ _ _ _ _ (by exact H.bY (Pl:=[_,_,_,_,_,_]) (bT:=[_,_,_,_,_,_]) [2,0,1,3,4,5] (by decide) rfl) ?_;clear H;intro w H;refine dG 3 H ?_;clear H;intro a H;refine aT kX (cs:=[_,_]) H wn rfl rfl (H.hp.cO 2 rfl rfl) rfl ?_;clear H;intro a H;refine aT dU (cs:=[_,_,_,_,_,_,_,_,_,_,_]) H wn rfl rfl (H.hp.cO 1 rfl rfl) rfl ?_;clear H;intro a H;refine tL (Li:=([_,_,_,_,_,_]++bk)++lV ds) (L:=wG) (St.un (A:=[_,_,_,_,_,_]++bk) (St.un (A:=[_,_,_,_,_,_]) H)) wn rfl rfl (hcb (j1+1+k) _ _ _ _ ⟨_,pE.part k _ (dV Vy),_,rfl,zk⟩ (fun b o h=>tH b o (D7 b o (nK b o (hgm b o h)))) hI (Hp.owns (Li:=([_,_,_,_,_,_]++bk)++lV ds) (St.un (A:=[_,_,_,_,_,_]++bk) (St.un (A:=[_,_,_,_,_,_]) H)).hp)) rfl ?_;clear H;rintro v52 SF Ld a w ⟨b52,rfl,hb3,hb4⟩ VB H
    simp only [fT,kr,jv] at H
    refine fE 2 H ?_ ?_ <;> clear H
    ·intro nG
     intro a H;refine dw ?_;refine (V3 (Ld) _ _ _ _ _ (by exact H.bY (Pl:=[_,_,_,_,_,_]) (bT:=[_,_,_,_]) [0,3,4,5] (by decide) rfl) ?_).1 rfl;exact hb4 (by simpa using nG)
    intro nG
    intro a H;refine iE ?_;refine VH (Ld) _ _ _ _ _ (by exact H.bY (Pl:=[_,_,_,_,_,_]) (bT:=[_,_,_,_]) [0,3,4,5] (by decide) rfl) ?_;exact hb3 (by simpa using nG)
   ·clear H;intro KH wG KQ a w tH hI H;dsimp only [lca,aQ] at H;refine dW ?_;refine dG 3 H ?_;clear H;intro a H;refine aI ?_;refine Iu ((k+1,at_+wI l[k],j1+1+(lW (jX l[k])).length,wG,KQ,KH :: ds)) (by exact (H.bY (Pl:=[_,_,_,_]) (bT:=[_,_]) [3,0] (by decide) rfl).sub ⟨rfl,rfl,rfl,rfl,rfl,rfl,aY⟩) ?_ ?_
    ·(try dsimp only);exact ⟨by omega,fun b o h=>tH b o (D7 b o (nK b o (hgm b o h))),pE.jump (by simpa using hI),by omega,by show at_+(wI l[k]:Int)+(dY ((l.drop (k+1)).map av.dat):Nat)≤n;omega⟩
    first|omega|(dsimp only;omega)
   clear H;intro KH Lx KQ a w tH hI H;dsimp only [lca,aQ] at H;refine dw ?_;refine (Bl H 0 rfl ?_).1;clear H;intro a w H;dsimp only [List.eraseIdx_cons_succ,List.eraseIdx_cons_zero] at H;refine (zZ (Lh:=[_,_,_]) _ H ?_).1;clear H;intro a w H;dsimp only [lca,aQ] at H;refine (leave0 H results149 ?_).1
   first
    | exact H.hp.bU (L':=Lx) (by repeat (first|exact bZ _|apply List.Sublist.cons)) (.inr hI)
    | exact H.hp.bU (L':=EC) (by repeat (first|exact bZ _|apply List.Sublist.cons)) (.inr (hb2 (by simpa using sG)))
    | exact H.hp.bU (L':=Lt) (by repeat (first|exact bZ _|apply List.Sublist.cons)) (.inl (by rw [eX (by omega),mW] at bQ;have:=bQ.len;simp only [List.length_nil,mO] at this;(try rw [bE]);rw [← this];exact bQ.now))
  intro h37
  try have p37:=dF h37
  intro a H
  first
   | (have hn6:¬ l[k].kind=6:=p37)
   | (have hn7:¬ l[k].kind=7:=p37)
  refine cK 4 H ?_ ?_ <;> clear H
  ·intro p37
   have Hf:l[k].kind=6∨l[k].kind=7:=by first|exact .inl p37|exact .inr p37
   rw [Kl,au Hf] at bQ;refine aj 3 ?_;intro a H;refine aT kX (cs:=[_,_]) H wn rfl rfl (H.hp.cO 0 rfl rfl) rfl ?_;clear H;intro a H;refine aT dU (cs:=[_,_,_,_,_,_,_,_,_,_,_]) H wn rfl rfl (H.hp.cO 1 rfl rfl) rfl ?_;clear H;intro a H;refine tL (Li:=[_,_,_]++lV ds) (L:=Lt) (St.un (A:=[_,_,_]) H) wn rfl rfl (hcb j1 _ _ _ _ ⟨_,bQ.head,_,rfl,aZ.mkItem (hhd.mono pz) (hfl.mono pz) (hrw.mono pz)⟩ hgm bQ.now (Hp.owns (Li:=[_,_,_]++lV ds) (St.un (A:=[_,_,_]) H).hp)) rfl ?_;clear H;rintro v43 Am EC a w ⟨Oq,rfl,hb1,hb2⟩ nK H
   simp only [fT,kr,jv] at H
   refine fE 2 H ?_ ?_ <;> clear H
   ·intro sG
    try have p44:=dT sG
    intro a H;refine dw ?_;refine (zZ (Lh:=[_,_,_]) _ H ?_).1;clear H;intro a w H;dsimp only [lca,aQ] at H;refine (leave0 H results149 ?_).1
    first
     | exact H.hp.bU (L':=Lx) (by repeat (first|exact bZ _|apply List.Sublist.cons)) (.inr hI)
     | exact H.hp.bU (L':=EC) (by repeat (first|exact bZ _|apply List.Sublist.cons)) (.inr (hb2 (by simpa using sG)))
     | exact H.hp.bU (L':=Lt) (by repeat (first|exact bZ _|apply List.Sublist.cons)) (.inl (by rw [eX (by omega),mW] at bQ;have:=bQ.len;simp only [List.length_nil,mO] at this;(try rw [bE]);rw [← this];exact bQ.now))
   intro sG
   try have p44:=dF sG
   have pE:=bQ.step (hb1 (by simpa using sG));refine aj 2 ?_;intro a H;refine aT dU (cs:=[_,_,_,_,_,_,_,_,_,_,_]) H wn rfl rfl (H.hp.cO 1 rfl rfl) rfl ?_;clear H;intro a H;refine s_call aas H wn rfl (agq ih hn _ _ H.ro l[k] _ (by omega) (aZ.mkItem (hhd.mono fun b o h=>nK b o (pz b o h)) (hfl.mono fun b o h=>nK b o (pz b o h)) (hrw.mono fun b o h=>nK b o (pz b o h)))) rfl ?_;clear H;rintro v46 SE a w ⟨bx,rfl,hit⟩ D7 H;refine aH 2 H ?_;clear H;intro a H;refine EN (ι:=OL) (κ:=OL) (Lc:=[(_,_),(_,_),(_,_)]) (fun (k:Nat) (gh:OL)=>[]) (fun (k:Nat) (gh:OL)=>(lV ds++gh)) (fun (k:Nat) (gh:OL) (g:GH)=>J (j1+1+k) g gh) (fun (gx:OL)=>Code.ret) (fun (gx:OL)=>[]) (fun (gx:OL)=>(lV ds++gx)) (fun (gx:OL) (g:GH)=>Jx g gx) (EC) (by exact H) rfl TV (hit) (fun _ _ h=>h) rfl (fun k args g h=>by obtain ⟨_,_,rfl,_⟩:=CJ h;rfl) (fun k i G G' hm h=>lT _ _ _ _ hm h) (fun x G G' hm h=>hJx _ _ _ hm h) (lT _ _ _ _ D7 pE.now) ?_ ?_ ?_
   ·clear H;intro l15 yH vE bk k args wG Ey w15 F15 B15 a Vx tH hI Vg VH V3 H;obtain ⟨Vy,OG,rfl,zk⟩:=CJ Vx;obtain ⟨aA,an,ac,bA,bn,bc,OH,OM,OI,OO,OZ,OP,Qy,QB,Qz,rfl,-⟩:=zk.item;dsimp only [uj,List.cons_append,List.nil_append] at H;refine tq ?_;refine dx kX H wn rfl ?_;clear H;intro b10 a w E9 H;refine bq kX 0 (vs:=[_,_]) _ H wn rfl rfl rfl rfl rfl rfl rfl rfl ?_;clear H;intro w H;dsimp only [List.set,setRow] at H;refine aH 2 H ?_;clear H;intro a H;refine dx dU H wn rfl ?_;clear H;intro b11 a w Hu H;refine bq dU 0 (vs:=[_,_,_,_,_,_,_,_,_,_,_]) _ H wn rfl rfl rfl rfl rfl rfl rfl rfl ?_;clear H;intro w H;dsimp only [List.set,setRow] at H;refine aI ?_;refine Vg _ _ _ _ _ _ (by exact H.bY (Pl:=[_,_,_,_,_,_]) (bT:=[_,_,_,_,_,_]) [2,0,1,3,4,5] (by decide) rfl) ?_;clear H;intro w H;refine dG 3 H ?_;clear H;intro a H;refine aT kX (cs:=[_,_]) H wn rfl rfl (H.hp.cO 2 rfl rfl) rfl ?_;clear H;intro a H;refine aT dU (cs:=[_,_,_,_,_,_,_,_,_,_,_]) H wn rfl rfl (H.hp.cO 1 rfl rfl) rfl ?_;clear H;intro a H;refine tL (Li:=([_,_,_,_,_,_]++bk)++lV ds) (L:=wG) (St.un (A:=[_,_,_,_,_,_]++bk) (St.un (A:=[_,_,_,_,_,_]) H)) wn rfl rfl (hcb (j1+1+k) _ _ _ _ ⟨_,pE.part k _ (dV Vy),_,rfl,zk⟩ (fun b o h=>tH b o (D7 b o (nK b o (hgm b o h)))) hI (Hp.owns (Li:=([_,_,_,_,_,_]++bk)++lV ds) (St.un (A:=[_,_,_,_,_,_]++bk) (St.un (A:=[_,_,_,_,_,_]) H)).hp)) rfl ?_;clear H;rintro v52 SF Ld a w ⟨b52,rfl,hb3,hb4⟩ VB H
    simp only [fT,kr,jv] at H
    refine fE 2 H ?_ ?_ <;> clear H
    ·intro nG
     intro a H;refine dw ?_;refine (V3 (Ld) _ _ _ _ _ (by exact H.bY (Pl:=[_,_,_,_,_,_]) (bT:=[_,_,_,_]) [0,3,4,5] (by decide) rfl) ?_).1 rfl;exact hb4 (by simpa using nG)
    intro nG
    intro a H;refine iE ?_;refine VH (Ld) _ _ _ _ _ (by exact H.bY (Pl:=[_,_,_,_,_,_]) (bT:=[_,_,_,_]) [0,3,4,5] (by decide) rfl) ?_;exact hb3 (by simpa using nG)
   ·clear H;intro KH wG KQ a w tH hI H;dsimp only [lca,aQ] at H;refine dW ?_;refine dG 3 H ?_;clear H;intro a H;refine aI ?_;refine Iu ((k+1,at_+wI l[k],j1+1+(lW (jX l[k])).length,wG,KQ,KH :: ds)) (by exact (H.bY (Pl:=[_,_,_,_]) (bT:=[_,_]) [3,0] (by decide) rfl).sub ⟨rfl,rfl,rfl,rfl,rfl,rfl,aY⟩) ?_ ?_
    ·(try dsimp only);exact ⟨by omega,fun b o h=>tH b o (D7 b o (nK b o (hgm b o h))),pE.jump (by simpa using hI),by omega,by show at_+(wI l[k]:Int)+(dY ((l.drop (k+1)).map av.dat):Nat)≤n;omega⟩
    first|omega|(dsimp only;omega)
   clear H;intro KH Lx KQ a w tH hI H;dsimp only [lca,aQ] at H;refine dw ?_;refine (Bl H 0 rfl ?_).1;clear H;intro a w H;dsimp only [List.eraseIdx_cons_succ,List.eraseIdx_cons_zero] at H;refine (zZ (Lh:=[_,_,_]) _ H ?_).1;clear H;intro a w H;dsimp only [lca,aQ] at H;refine (leave0 H results149 ?_).1
   first
    | exact H.hp.bU (L':=Lx) (by repeat (first|exact bZ _|apply List.Sublist.cons)) (.inr hI)
    | exact H.hp.bU (L':=EC) (by repeat (first|exact bZ _|apply List.Sublist.cons)) (.inr (hb2 (by simpa using sG)))
    | exact H.hp.bU (L':=Lt) (by repeat (first|exact bZ _|apply List.Sublist.cons)) (.inl (by rw [eX (by omega),mW] at bQ;have:=bQ.len;simp only [List.length_nil,mO] at this;(try rw [bE]);rw [← this];exact bQ.now))
  intro p37
  intro a H
  first
   | (have hn6:¬ l[k].kind=6:=p37)
   | (have hn7:¬ l[k].kind=7:=p37)
  refine dG 4 H ?_;clear H;intro a H;refine aI ?_;refine Iu ((k+1,at_+wI l[k],j1,Lt,g,ds)) (by exact (H.bY (Pl:=[_,_,_]) (bT:=[_]) [2] (by decide) rfl).sub ⟨rfl,rfl,rfl,rfl,rfl,rfl,aY⟩) ?_ ?_
  ·(try dsimp only);exact ⟨by omega,hgm,by rw [Kl,ah (by omega),jv] at bQ;exact bQ,by omega,by show at_+(wI l[k]:Int)+(dY ((l.drop (k+1)).map av.dat):Nat)≤n;omega⟩
  first|omega|(dsimp only;omega)
 intro mE
 intro a H;refine Au ?_;refine (zZ (Lh:=[_]) _ H ?_).2;clear H;intro a w H;dsimp only [lca,aQ] at H;refine (leave0 H results149 ?_).1
 first
  | exact H.hp.bU (L':=Lx) (by repeat (first|exact bZ _|apply List.Sublist.cons)) (.inr hI)
  | exact H.hp.bU (L':=EC) (by repeat (first|exact bZ _|apply List.Sublist.cons)) (.inr (hb2 (by simpa using sG)))
  | exact H.hp.bU (L':=Lt) (by repeat (first|exact bZ _|apply List.Sublist.cons)) (.inl (by rw [eX (by omega),mW] at bQ;have:=bQ.len;simp only [List.length_nil,mO] at this;(try rw [bE]);rw [← this];exact bQ.now))
theorem aeL:∀ n:Nat,n≤4294967297→Jd n
 | 0,_=>fun _ _ _ _ _ _ h=>absurd h (by omega)
 | n+1,hn=>asx (aeL n (by omega)) (by omega)
theorem asw (G:GH) (w0:World) (hG:Hold G w0) (l:List av) (id:Int) (v:ak) (hz:aX l≤4294967296) (hv:ay G (.sl 11 (l.map av.dat)) v) :
  Calls prog 84 #[vi id,v] w0 (bB w0 G fun u G'=>∃ bl bi,u=.func (.func 149) #[] #[(aK bl 0),(aK bi 0)]∧Iter prog G' u ((mW id 0 l).map Ab)) :=
 Xk (aeL 4294967297 (by omega)) G w0 hG l id v (by omega) hv
end
section
open Go.RowKit
theorem aat:∀ args w,(callFunc 151 args).run prog w=.ok (.enter 151 args) w:=enters func151 rfl (by kernel_rfl)
theorem ajH:∀ args w,(callFunc 152 args).run prog w=.ok (.enter 152 args) w:=enters func152 rfl (by kernel_rfl)
theorem alp:∀ args w,(callFunc 87 args).run prog w=.ok (.enter 87 args) w:=enters func87 rfl (by kernel_rfl)
theorem aln:∀ args w,(callFunc 85 args).run prog w=.ok (.enter 85 args) w:=enters func85 rfl (by kernel_rfl)
theorem alq:∀ args w,(callFunc 88 args).run prog w=.ok (.enter 88 args) w:=enters func88 rfl (by kernel_rfl)
theorem alo:∀ args w,(callFunc 86 args).run prog w=.ok (.enter 86 args) w:=enters func86 rfl (by kernel_rfl)
def rV (fv:ak) (G:GH) (d:List Dat) (b:Bool):Prop:=∀ (G1:GH) (w1:World) (cs:List ak),(∀ b o,G b=some o→G1 b=some o)→Hold G1 w1→aZ G1 d cs →
 wD prog fv [.agg cs.toArray] w1 (bB w1 G1 fun u G'=>u=.bool b)
def nL (o:Option Nat):Int:=match o with|some i=>i|none=>-1
theorem adu (G:GH) (w0:World) (hG:Hold G w0) (l:List aS) (p:aS→Bool) (v fv:ak) (hv:ay G (.sl 6 (l.map aS.dat)) v) (hf:∀ x∈l,rV fv G x.dat (p x)) :
  Calls prog 151 #[v,fv] w0 (bB w0 G fun u G'=>u=vi (nL (l.findIdx? p))):=by
 obtain ⟨A,c,rfl,hc1,hc2,hg⟩:=hv.slice;have hml:maxLen=9223372036854775807:=rfl;rw [bE] at *;refine eN [(0,_),(1,_)] func151 rfl ntmps151 rfl rfl hG ?_;refine aj 10 ?_;intro a H;refine dD (ι:=Nat × GH) (Tc:=[(0,_),(1,_),(7,_)]) (Lc:=[]) (fun gh=>[(8,vi gh.1)]) (fun gh=>[]) (fun gh=>gh.2) (fun gh=>gh.1≤l.length∧(l.take gh.1).findIdx? p=none∧(∀ b o,G b=some o→gh.2 b=some o)) (fun gh=>l.length - gh.1) ((0,G)) sB ?_ ?_
 ·exact ⟨by omega,rfl,fun _ _ h=>h⟩
 clear H;rintro ⟨k,g⟩ a w hI H;dsimp only at hI H;obtain ⟨hk,hno,hgm⟩:=hI;dsimp only [lca,aQ] at H;refine cK 4 H ?_ ?_ <;> clear H
 ·intro p9
  have hk2:k < l.length:=by omega
  obtain ⟨b,o,cs,rfl,hcl,hrow,hrep⟩:=hg k l[k].dat (by simp [hk2]);obtain ⟨pA,pn,pc,dA,dn,dc,yA,yn,yc,fA,fn,fc,rfl,-⟩:=hrep.row;replace hrow:=fun j u hj=>aD hgm (hrow j u hj);refine aj 12 ?_;intro a H;refine aT jw (cs:=[_,_,_,_,_,_]) H wn rfl rfl (fun j v hj=>H.hp.aC (hrow j v hj)) rfl ?_;clear H;intro a H;refine nZ H wn rfl rfl (hf _ (iq hk2) _ _ _ hgm H.ro (hrep.mono hgm)) rfl ?_;clear H;rintro v16 vg a w rfl vN H;refine fE 1 H ?_ ?_ <;> clear H
  ·intro h16
   try have p16:=dT h16
   refine aJ 4 ?_
   first
    | exact (by rw [xk hk2 hno h16];rfl)
    | exact (by rw [show l.take k=l from iL (by omega)] at hno;rw [hno];rfl)
  intro h16
  try have p16:=dF h16
  refine aj 4 ?_;intro a H;refine aI ?_;refine bR ((k+1,vg)) sB ?_ ?_
  ·(try dsimp only);exact ⟨by omega,Fq hk2 hno h16,fun b o h=>vN b o (hgm b o h)⟩
  first|omega|(dsimp only;omega)
 intro p9
 refine aJ 4 ?_
 first
  | exact (by rw [xk hk2 hno h16];rfl)
  | exact (by rw [show l.take k=l from iL (by omega)] at hno;rw [hno];rfl)
theorem aiH (G:GH) (w0:World) (hG:Hold G w0) (l:List aS) (p:aS→Bool) (v fv:ak) (hv:ay G (.sl 6 (l.map aS.dat)) v) (hf:∀ x∈l,rV fv G x.dat (p x)) :
  Calls prog 85 #[v,fv] w0 (bB w0 G fun u G'=>u=.bool (l.findIdx? p).isSome):=by
 refine eN [(0,_),(1,_)] func85 rfl ntmps85 rfl rfl hG ?_;refine aj 6 ?_;intro a H;refine s_call aat H wn rfl (adu _ _ H.ro l p _ _ hv hf) rfl ?_;clear H;rintro v7 G7 a w rfl vO H;refine gK 3 H ?_;cases h:l.findIdx? p <;> simp [nL]
theorem aqd (G:GH) (w0:World) (hG:Hold G w0) (l:List aR) (p:aR→Bool) (v fv:ak) (hv:ay G (.sl 7 (l.map aR.dat)) v) (hf:∀ x∈l,rV fv G x.dat (p x)) :
  Calls prog 152 #[v,fv] w0 (bB w0 G fun u G'=>u=vi (nL (l.findIdx? p))):=by
 obtain ⟨A,c,rfl,hc1,hc2,hg⟩:=hv.slice;have hml:maxLen=9223372036854775807:=rfl;rw [bE] at *;refine eN [(0,_),(1,_)] func152 rfl ntmps152 rfl rfl hG ?_;refine aj 10 ?_;intro a H;refine dD (ι:=Nat × GH) (Tc:=[(0,_),(1,_),(7,_)]) (Lc:=[]) (fun gh=>[(8,vi gh.1)]) (fun gh=>[]) (fun gh=>gh.2) (fun gh=>gh.1≤l.length∧(l.take gh.1).findIdx? p=none∧(∀ b o,G b=some o→gh.2 b=some o)) (fun gh=>l.length - gh.1) ((0,G)) sB ?_ ?_
 ·exact ⟨by omega,rfl,fun _ _ h=>h⟩
 clear H;rintro ⟨k,g⟩ a w hI H;dsimp only at hI H;obtain ⟨hk,hno,hgm⟩:=hI;dsimp only [lca,aQ] at H;refine cK 4 H ?_ ?_ <;> clear H
 ·intro p9
  have hk2:k < l.length:=by omega
  obtain ⟨b,o,cs,rfl,hcl,hrow,hrep⟩:=hg k l[k].dat (by simp [hk2]);obtain ⟨pA,pn,pc,dA,dn,dc,yA,yn,yc,fA,fn,fc,rfl,-⟩:=hrep.cell;replace hrow:=fun j u hj=>aD hgm (hrow j u hj);refine aj 12 ?_;intro a H;refine aT iI (cs:=[_,_,_,_,_,_,_]) H wn rfl rfl (fun j v hj=>H.hp.aC (hrow j v hj)) rfl ?_;clear H;intro a H;refine nZ H wn rfl rfl (hf _ (iq hk2) _ _ _ hgm H.ro (hrep.mono hgm)) rfl ?_;clear H;rintro v16 vg a w rfl vN H;refine fE 1 H ?_ ?_ <;> clear H
  ·intro h16
   try have p16:=dT h16
   refine aJ 4 ?_
   first
    | exact (by rw [xk hk2 hno h16];rfl)
    | exact (by rw [show l.take k=l from iL (by omega)] at hno;rw [hno];rfl)
  intro h16
  try have p16:=dF h16
  refine aj 4 ?_;intro a H;refine aI ?_;refine bR ((k+1,vg)) sB ?_ ?_
  ·(try dsimp only);exact ⟨by omega,Fq hk2 hno h16,fun b o h=>vN b o (hgm b o h)⟩
  first|omega|(dsimp only;omega)
 intro p9
 refine aJ 4 ?_
 first
  | exact (by rw [xk hk2 hno h16];rfl)
  | exact (by rw [show l.take k=l from iL (by omega)] at hno;rw [hno];rfl)
theorem aiG (G:GH) (w0:World) (hG:Hold G w0) (l:List aR) (p:aR→Bool) (v fv:ak) (hv:ay G (.sl 7 (l.map aR.dat)) v) (hf:∀ x∈l,rV fv G x.dat (p x)) :
  Calls prog 87 #[v,fv] w0 (bB w0 G fun u G'=>u=.bool (l.findIdx? p).isSome):=by
 refine eN [(0,_),(1,_)] func87 rfl ntmps87 rfl rfl hG ?_;refine aj 6 ?_;intro a H;refine s_call ajH H wn rfl (aqd _ _ H.ro l p _ _ hv hf) rfl ?_;clear H;rintro v7 G7 a w rfl vO H;refine gK 3 H ?_;cases h:l.findIdx? p <;> simp [nL]
def QC (id:Int) (r:aS):Bool:=(r.cells.findIdx? fun c=>decide (c.id=id)).isSome
def J6 (id:Int) (x:av):Bool:=decide (x.id=id) || (x.rows.findIdx? (QC id)).isSome
theorem asu {G:GH} {bi:Nat} {id:Int} (hb:aC G bi 0=some (vi id)) (c:aR):rV (.func (.func 88) #[] #[(aK bi 0)]) G c.dat (decide (c.id=id)):=by
 intro G1 w0 cs hm hG hr;refine jM (caps:=[(aK bi 0)]) alq ?_;obtain ⟨pA,pn,pc,dA,dn,dc,yA,yn,yc,fA,fn,fc,rfl,-⟩:=hr.cell;replace hb:=aD hm hb;refine eN [(0,_),(1,_)] func88 rfl ntmps88 rfl rfl hG ?_;refine aj 1 ?_;intro a H;refine dN (cs:=[_,_,_,_,_,_,_]) H wn rfl rfl rfl ?_;clear H;intro b2 a w hb2 H;refine gK 9 H ?_;exact rfl
theorem asr {G:GH} {bi:Nat} {id:Int} (hb:aC G bi 0=some (vi id)) (r:aS):rV (.func (.func 86) #[] #[(aK bi 0)]) G r.dat (QC id r):=by
 intro G1 w0 cs hm hG hr;refine jM (caps:=[(aK bi 0)]) alo ?_;obtain ⟨pA,pn,pc,dA,dn,dc,yA,yn,yc,fA,fn,fc,rfl,-,hcl⟩:=hr.row;replace hb:=aD hm hb;refine eN [(0,_),(1,_)] func86 rfl ntmps86 rfl rfl hG ?_;refine aj 1 ?_;intro a H;refine dN (cs:=[_,_,_,_,_,_]) H wn rfl rfl rfl ?_;clear H;intro b2 a w hb2 H;refine aH 5 H ?_;clear H;intro a H;refine pK H wn rfl rfl ?_;clear H;intro a H;refine s_call alp H wn rfl (aiG _ _ H.ro r.cells (fun c=>decide (c.id=id)) _ _ hcl (fun c _=>asu hb c)) rfl ?_;clear H;rintro v7 G7 a w rfl vO H;refine gK 2 H ?_;exact rfl
def CK (l:List av) (id:Int):Option (Int × Int):=((mW 0 0 l).find? fun a=>J6 id a.2).map (·.1)
theorem asv (G:GH) (w0:World) (hG:Hold G w0) (D:gM) (l:List av) (id:Int) (hv:ay G (.sl 11 (l.map av.dat)) (aM D.f)) (hz:aX l≤4294967296) :
  Calls prog 37 #[D.val,vi id] w0 (bB w0 G fun u G'=>u=.tuple #[.agg #[vi ((CK l id).getD (0,0)).1,vi ((CK l id).getD (0,0)).2],.bool (CK l id).isSome]):=by
 refine eN [(0,_),(1,_)] func37 rfl ntmps37 rfl rfl hG ?_;refine aj 1 ?_;intro a H;refine dN (cs:=[_,_,_,_,_,_,_,_,_,_,_]) H wn rfl rfl rfl ?_;clear H;intro b2 a w hb2 H;refine dN (cs:=[_]) H wn rfl rfl rfl ?_;clear H;intro b3 a w hb3 H;refine dx kX H wn rfl ?_;clear H;intro b4 a w hb4 H;refine dx Kv H wn rfl ?_;clear H;intro b5 a w hb5 H;refine aH 2 H ?_;clear H;intro a H;have H:=H.bY (Pl:=[_,_,_,_]) (bT:=[_,_,_,_]) [2,0,1,3] (by decide) rfl;obtain ⟨Ga,hma,hb3,H⟩:=H.dS
 have hbi:aC Ga b3 0=some (vi id):=by unfold aC;rw [hb3];rfl
 refine dG 3 H ?_;clear H;intro a H;refine s_call Ug H wn rfl (asw _ _ H.ro l 0 _ hz (hv.mono hma)) rfl ?_;clear H;rintro v11 qM a w ⟨bl,bi,rfl,hit⟩ DZ H;refine aH 2 H ?_;clear H;intro a H;refine EN (ι:=Unit) (κ:=Int × Int) (Lc:=[(_,_)]) (fun (k:Nat) (gh:Unit)=>[(b4,.cells #[vi 0,vi 0] 48 (0,0)),(b5,.cells #[.bool false] 4 (0,0))]) (fun (k:Nat) (gh:Unit)=>[]) (fun (k:Nat) (gh:Unit) (g:GH)=>((mW 0 0 l).take k).find? (fun a=>J6 id a.2)=none) (fun (gx:Int × Int)=>Code.ret) (fun (gx:Int × Int)=>[(b4,.cells #[vi gx.1,vi gx.2] 48 (0,0)),(b5,.cells #[.bool true] 4 (0,0))]) (fun (gx:Int × Int)=>[]) (fun (gx:Int × Int) (g:GH)=>CK l id=some gx) (()) (by exact H.bY (Pl:=[_,_,_]) (bT:=[_,_,_]) [2,1,0] (by decide) rfl) rfl OT (hit) (fun _ _ h=>h) rfl (fun k args g h=>by obtain ⟨_,_,rfl,_⟩:=CJ h;rfl) (fun _ _ _ _ _ h=>h) (fun _ _ _ _ h=>h) (rfl) ?_ ?_ ?_
 ·clear H;intro l2 yH vE bk k args gh G2 w2 F2 B2 a hk2 hm2 hI anW aoW acW H;obtain ⟨hk,OG,rfl,zk⟩:=CJ hk2;obtain ⟨aA,an,ac,bA,bn,bc,OH,OM,OI,OO,OZ,OP,Qy,QB,Qz,rfl,MN,hf8,hr8⟩:=zk.item;dsimp only [uj,List.cons_append,List.nil_append] at H;replace hbi:=aD hm2 (aD DZ hbi);refine tq ?_;refine dx kX H wn rfl ?_;clear H;intro b6 a w hb6 H;refine bq kX 0 (vs:=[_,_]) _ H wn rfl rfl rfl rfl rfl rfl rfl rfl ?_;clear H;intro w H;dsimp only [List.set,setRow] at H;refine aH 2 H ?_;clear H;intro a H;refine dx dU H wn rfl ?_;clear H;intro b7 a w qD H;refine bq dU 0 (vs:=[_,_,_,_,_,_,_,_,_,_,_]) _ H wn rfl rfl rfl rfl rfl rfl rfl rfl ?_;clear H;intro w H;dsimp only [List.set,setRow] at H;refine aI ?_;refine anW _ _ _ _ _ _ (by exact H.bY (Pl:=[_,_,_,_,_,_]) (bT:=[_,_,_,_,_,_]) [2,0,1,3,4,5] (by decide) rfl) ?_;clear H;intro w H;refine dG 4 H ?_;clear H;intro a H;refine pK H wn rfl rfl ?_;clear H;intro a H;refine s_call aln H wn rfl (aiH _ _ H.ro _ (QC id) _ _ hr8 (fun r _=>asr hbi r)) rfl ?_;clear H;rintro v17 Al a w rfl nJ H;replace hbi:=aD nJ hbi;refine ku 8 22 H ?_ ?_ <;> clear H
  ·intro iT
   refine aj 5 ?_;intro a H;refine aT kX (cs:=[_,_]) H wn rfl rfl (H.hp.cO 2 rfl rfl) rfl ?_;clear H;intro a H;refine bq kX 4 (vs:=[_,_]) _ H wn rfl rfl rfl rfl rfl rfl rfl rfl ?_;clear H;intro w H;dsimp only [List.set,setRow] at H;refine bq Kv 5 (vs:=[_]) _ H wn rfl rfl rfl rfl rfl rfl rfl rfl ?_;clear H;intro w H;dsimp only [List.set,setRow] at H;refine aI ?_;refine dW ?_;refine dw ?_;refine (acW ((mW 0 0 l)[k].1) _ _ _ _ _ (by exact H.bY (Pl:=[_,_,_,_,_,_]) (bT:=[_,_,_,_]) [0,3,4,5] (by decide) rfl) ?_).1 rfl;exact (by unfold CK;rw [abg hk hI (by unfold J6;simp_all)];rfl)
  intro iT
  refine goB 3 ?_ ?_
  ·intro kN
   refine aj 1 ?_;intro a H;refine aT kX (cs:=[_,_]) H wn rfl rfl (H.hp.cO 2 rfl rfl) rfl ?_;clear H;intro a H;refine bq kX 4 (vs:=[_,_]) _ H wn rfl rfl rfl rfl rfl rfl rfl rfl ?_;clear H;intro w H;dsimp only [List.set,setRow] at H;refine bq Kv 5 (vs:=[_]) _ H wn rfl rfl rfl rfl rfl rfl rfl rfl ?_;clear H;intro w H;dsimp only [List.set,setRow] at H;refine aI ?_;refine dW ?_;refine dw ?_;refine (acW ((mW 0 0 l)[k].1) _ _ _ _ _ (by exact H.bY (Pl:=[_,_,_,_,_,_]) (bT:=[_,_,_,_]) [0,3,4,5] (by decide) rfl) ?_).1 rfl;exact (by unfold CK;rw [abg hk hI (by unfold J6;simp_all)];rfl)
  intro kN
  intro a H;refine iE ?_;refine aoW (()) _ _ _ _ _ (by exact H.bY (Pl:=[_,_,_,_,_,_]) (bT:=[_,_,_,_]) [0,3,4,5] (by decide) rfl) ?_;exact amy hk hI (by unfold J6;simp_all)
 ·clear H;intro Dk2 gh Gd2 a w hm2 hI H;dsimp only [lca,aQ] at H;refine dW ?_;refine tq ?_;refine jZ ND [_,_] H wn rfl rfl rfl rfl ?_;clear H;intro a H;refine bq kX 2 (vs:=[_,_]) _ H wn rfl rfl rfl rfl rfl rfl rfl rfl ?_;clear H;intro w H;dsimp only [List.set,setRow] at H;refine bq Kv 3 (vs:=[_]) _ H wn rfl rfl rfl rfl rfl rfl rfl rfl ?_;clear H;intro w H;dsimp only [List.set,setRow] at H;refine aI ?_;refine dW ?_;refine dw ?_;refine (Bl H 0 rfl ?_).1;clear H;intro a w H;dsimp only [List.eraseIdx_cons_succ,List.eraseIdx_cons_zero] at H;refine (gu H results37 (.cons (xD kX (cs:=[_,_]) H rfl rfl (H.hp.cO 1 rfl rfl)) (.cons (Bq Kv H rfl (H.hp.qd 2 rfl rfl)) .nil)) ?_).1
  have h:CK l id=none:=by unfold CK;rw [amw (by simpa using hI)];rfl
  exact H.rt (by rw [h];rfl)
 clear H;intro Dk2 x Gd2 a w hm2 hI H;dsimp only [lca,aQ] at H;refine dw ?_;refine (Bl H 0 rfl ?_).1;clear H;intro a w H;dsimp only [List.eraseIdx_cons_succ,List.eraseIdx_cons_zero] at H;refine (gu H results37 (.cons (xD kX (cs:=[_,_]) H rfl rfl (H.hp.cO 1 rfl rfl)) (.cons (Bq Kv H rfl (H.hp.qd 2 rfl rfl)) .nil)) ?_).1;exact H.rt (by rw [hI];rfl)
end
section
open Go.RowKit
theorem aku:∀ args w,(callFunc 203 args).run prog w=.ok (.enter 203 args) w:=enters func203 rfl (by kernel_rfl)
theorem akv:∀ args w,(callFunc 204 args).run prog w=.ok (.enter 204 args) w:=enters func204 rfl (by kernel_rfl)
theorem tN:prog.underlying 52=some (.slice 3):=by kernel_rfl
instance:kR prog 52 (.slice 3):=⟨tN⟩
theorem ajG:∀ args w,(callFunc 141 args).run prog w=.ok (.enter 141 args) w:=enters func141 rfl (by kernel_rfl)
theorem aau:∀ args w,(callFunc 158 args).run prog w=.ok (.enter 158 args) w:=enters func158 rfl (by kernel_rfl)
theorem ajM:∀ args w,(callFunc 159 args).run prog w=.ok (.enter 159 args) w:=enters func159 rfl (by kernel_rfl)
instance amj:dL prog 224 1 1:=⟨by kernel_rfl⟩
theorem alm:∀ args w,(callFunc 77 args).run prog w=.ok (.enter 77 args) w:=enters func77 rfl (by kernel_rfl)
instance:dL prog 224 2 2:=⟨by kernel_rfl⟩
instance:dL prog 224 3 3:=⟨by kernel_rfl⟩
def kz:jR:=⟨0,0,0,0,0,⟨#[]⟩⟩
def Ip:List Int:=Iq.map jR.num
def nA (k:Int):jR × Bool:=if vK Ip k=true then (Iq.getD (rZ Ip k) kz,true) else (kz,false)
theorem find_spec (G:GH) (w0:World) (hG:Hold G w0) (k:Int):Calls prog 158 #[vi k] w0 (bB w0 G fun u G'=>u=.tuple #[.agg (nA k).1.cells.toArray,.bool (nA k).2]):=by
 refine eN [(0,_)] func158 rfl ntmps158 rfl rfl hG ?_;refine aj 1 ?_;intro a H;refine dx zy H wn rfl ?_;clear H;intro b2 a w hb2 H;refine aH 3 H ?_;clear H;intro a H;refine s_call aku H wn rfl (aqx _ _ H.ro) rfl ?_;clear H;rintro v7 G7 a w hv7 vO H;obtain ⟨A,c,rfl,hc1,hc2,-⟩:=hv7.slice;rw [bE] at *;refine aH 5 H ?_;clear H;intro a H;refine s_call akv H wn rfl (ahp _ _ H.ro Iq k _ hv7 (by decide)) rfl ?_;clear H;rintro v11 qM a w rfl DZ H;have hv7:=hv7.mono DZ;have hkn:Iq.map jR.num=Ip:=rfl;rw [hkn] at H;obtain ⟨n,hn⟩:∃ n,n=rZ Ip k:=⟨_,rfl⟩;obtain ⟨q,hq⟩:∃ q,q=vK Ip k:=⟨_,rfl⟩;rw [← hn,← hq] at H;refine aH 1 H ?_;clear H;intro a H;(iterate 2 refine qK H wn rfl rfl rfl ?_;clear H;intro a H);refine fE 8 H ?_ ?_ <;> clear H
 ·intro Ci
  refine aj 1 ?_;intro a H;refine jZ afo [_,_,_,_,_,_] H wn rfl rfl rfl rfl ?_;clear H;intro a H;refine bq zy 0 (vs:=[_,_,_,_,_,_]) _ H wn rfl rfl rfl rfl rfl rfl rfl rfl ?_;clear H;intro w H;dsimp only [List.set,setRow] at H;refine aH 2 H ?_;clear H;intro a H;refine dw ?_;refine (gu H results158 (.cons (xD zy (cs:=[_,_,_,_,_,_]) H rfl rfl (H.hp.cO 0 rfl rfl)) (.cons (bG H rfl) .nil)) ?_).1;exact H.rt (by rw [nA,ah (by rw [← hq];simpa using Ci)];rfl)
 intro Ci
 have hlt:n < Iq.length:=by have:=anI (ks:=Ip) (t:=k) (by rw [← hq];simpa using Ci);rw [← hn] at this;simpa [Ip] using this
 obtain ⟨b,o,rfl,hrow⟩:=Ww hv7 hlt;refine aj 5 ?_;intro a H;refine aT zy (cs:=[_,_,_,_,_,_]) H wn rfl rfl (fun j v hj=>H.hp.aC (hrow j v hj)) rfl ?_;clear H;intro a H;refine bq zy 0 (vs:=[_,_,_,_,_,_]) _ H wn rfl rfl rfl rfl rfl rfl rfl rfl ?_;clear H;intro w H;dsimp only [List.set,setRow] at H;refine aH 2 H ?_;clear H;intro a H;refine dw ?_;refine (gu H results158 (.cons (xD zy (cs:=[_,_,_,_,_,_]) H rfl rfl (H.hp.cO 0 rfl rfl)) (.cons (bG H rfl) .nil)) ?_).1;exact H.rt (by rw [nA,au (by rw [← hq];simpa using Ci),← hn,List.getD_eq_getElem?_getD,dV hlt];rfl)
def eu (e:Int):List Int:=if e=1∨e=4∨e=5∨e=6 then [1] else if e=2 then [1,2] else if e=3 then [3] else if e=7 then [6] else if e=9 then [4] else if e=10 then [5] else []
theorem fG (G:GH) (A:List Int):bV G 1 (A.map fun k=>[li k]) (A.map vi):=by
 refine ⟨A.map fun k=>[vi k],?_,by simp,fun j r cs hr hc=>?_⟩
 ·induction A with
  | nil=>rfl
  | cons a A ih=>simpa using ih
 rw [om] at hr hc
 cases h:A[j]? with
 | none=>rw [h] at hr;cases hr
 | some x =>
  rw [h] at hr hc
  cases hr;cases hc
  exact ⟨by simp only [aZ];exact ⟨_,_,rfl,by simp [ay,Value.oneCell'],rfl⟩,rfl⟩
theorem amR (G:GH) (w0:World) (hG:Hold G w0) (e:Int):Calls prog 159 #[vi e] w0 (bB w0 G fun u G'=>ay G' (.sl 1 ((eu e).map fun k=>[li k])) u):=by
  refine eN [(0,_)] func159 rfl ntmps159 rfl rfl hG ?_;refine goC 13 ?_ ?_
  · intro h4
    try have p4:=dT h4
    refine aj 3 ?_;intro a H;refine iy tN bC [_] [_] H wn rfl rfl rfl rfl rfl (by intro i q h;match i,h with|0,h=>exact h|n+1,h=>simp at h) rfl rfl ?_;clear H;intro b9 a w qE H;refine aH 2 H ?_;clear H;intro a H;refine lr H results159 rfl ?_
    first
      | exact H.rt (by rw [eu,ah (by omega),ah (by omega),ah (by omega),ah (by omega),ah (by omega),ah (by omega)];exact ay.jB rfl (by decide))
      | (obtain ⟨Gz,hmz,hbz,H⟩:=H.dS
         first
           | exact H.rt (by rw [eu,au (by omega)];exact ay.eT (n:=1) (cap:=1) hbz rfl (bX _) (show 1≤maxLen by decide) rfl (fG _ [1]))
           | exact H.rt (by rw [eu,ah (by omega),au (by omega)];exact ay.eT (n:=2) (cap:=2) hbz rfl (bX _) (show 2≤maxLen by decide) rfl (fG _ [1,2]))
           | exact H.rt (by rw [eu,ah (by omega),ah (by omega),au (by omega)];exact ay.eT (n:=1) (cap:=1) hbz rfl (bX _) (show 1≤maxLen by decide) rfl (fG _ [3]))
           | exact H.rt (by rw [eu,ah (by omega),ah (by omega),ah (by omega),au (by omega)];exact ay.eT (n:=1) (cap:=1) hbz rfl (bX _) (show 1≤maxLen by decide) rfl (fG _ [6]))
           | exact H.rt (by rw [eu,ah (by omega),ah (by omega),ah (by omega),ah (by omega),au (by omega)];exact ay.eT (n:=1) (cap:=1) hbz rfl (bX _) (show 1≤maxLen by decide) rfl (fG _ [4]))
           | exact H.rt (by rw [eu,ah (by omega),ah (by omega),ah (by omega),ah (by omega),ah (by omega),au (by omega)];exact ay.eT (n:=1) (cap:=1) hbz rfl (bX _) (show 1≤maxLen by decide) rfl (fG _ [5])))
  intro h4
  try have p4:=dF h4
  refine goC 4 ?_ ?_
  · intro h4
    try have p4:=dT h4
    refine aj 3 ?_;intro a H;refine iy tN bC [_] [_] H wn rfl rfl rfl rfl rfl (by intro i q h;match i,h with|0,h=>exact h|n+1,h=>simp at h) rfl rfl ?_;clear H;intro b9 a w qE H;refine aH 2 H ?_;clear H;intro a H;refine lr H results159 rfl ?_
    first
      | exact H.rt (by rw [eu,ah (by omega),ah (by omega),ah (by omega),ah (by omega),ah (by omega),ah (by omega)];exact ay.jB rfl (by decide))
      | (obtain ⟨Gz,hmz,hbz,H⟩:=H.dS
         first
           | exact H.rt (by rw [eu,au (by omega)];exact ay.eT (n:=1) (cap:=1) hbz rfl (bX _) (show 1≤maxLen by decide) rfl (fG _ [1]))
           | exact H.rt (by rw [eu,ah (by omega),au (by omega)];exact ay.eT (n:=2) (cap:=2) hbz rfl (bX _) (show 2≤maxLen by decide) rfl (fG _ [1,2]))
           | exact H.rt (by rw [eu,ah (by omega),ah (by omega),au (by omega)];exact ay.eT (n:=1) (cap:=1) hbz rfl (bX _) (show 1≤maxLen by decide) rfl (fG _ [3]))
           | exact H.rt (by rw [eu,ah (by omega),ah (by omega),ah (by omega),au (by omega)];exact ay.eT (n:=1) (cap:=1) hbz rfl (bX _) (show 1≤maxLen by decide) rfl (fG _ [6]))
           | exact H.rt (by rw [eu,ah (by omega),ah (by omega),ah (by omega),ah (by omega),au (by omega)];exact ay.eT (n:=1) (cap:=1) hbz rfl (bX _) (show 1≤maxLen by decide) rfl (fG _ [4]))
           | exact H.rt (by rw [eu,ah (by omega),ah (by omega),ah (by omega),ah (by omega),ah (by omega),au (by omega)];exact ay.eT (n:=1) (cap:=1) hbz rfl (bX _) (show 1≤maxLen by decide) rfl (fG _ [5])))
  intro h4
  try have p4:=dF h4
  refine goC 4 ?_ ?_
  · intro h4
    try have p4:=dT h4
    refine aj 3 ?_;intro a H;refine iy tN bC [_] [_] H wn rfl rfl rfl rfl rfl (by intro i q h;match i,h with|0,h=>exact h|n+1,h=>simp at h) rfl rfl ?_;clear H;intro b9 a w qE H;refine aH 2 H ?_;clear H;intro a H;refine lr H results159 rfl ?_
    first
      | exact H.rt (by rw [eu,ah (by omega),ah (by omega),ah (by omega),ah (by omega),ah (by omega),ah (by omega)];exact ay.jB rfl (by decide))
      | (obtain ⟨Gz,hmz,hbz,H⟩:=H.dS
         first
           | exact H.rt (by rw [eu,au (by omega)];exact ay.eT (n:=1) (cap:=1) hbz rfl (bX _) (show 1≤maxLen by decide) rfl (fG _ [1]))
           | exact H.rt (by rw [eu,ah (by omega),au (by omega)];exact ay.eT (n:=2) (cap:=2) hbz rfl (bX _) (show 2≤maxLen by decide) rfl (fG _ [1,2]))
           | exact H.rt (by rw [eu,ah (by omega),ah (by omega),au (by omega)];exact ay.eT (n:=1) (cap:=1) hbz rfl (bX _) (show 1≤maxLen by decide) rfl (fG _ [3]))
           | exact H.rt (by rw [eu,ah (by omega),ah (by omega),ah (by omega),au (by omega)];exact ay.eT (n:=1) (cap:=1) hbz rfl (bX _) (show 1≤maxLen by decide) rfl (fG _ [6]))
           | exact H.rt (by rw [eu,ah (by omega),ah (by omega),ah (by omega),ah (by omega),au (by omega)];exact ay.eT (n:=1) (cap:=1) hbz rfl (bX _) (show 1≤maxLen by decide) rfl (fG _ [4]))
           | exact H.rt (by rw [eu,ah (by omega),ah (by omega),ah (by omega),ah (by omega),ah (by omega),au (by omega)];exact ay.eT (n:=1) (cap:=1) hbz rfl (bX _) (show 1≤maxLen by decide) rfl (fG _ [5])))
  intro h4
  try have p4:=dF h4
  refine goB 4 ?_ ?_
  · intro p4
    refine aj 1 ?_;intro a H;refine iy tN bC [_] [_] H wn rfl rfl rfl rfl rfl (by intro i q h;match i,h with|0,h=>exact h|n+1,h=>simp at h) rfl rfl ?_;clear H;intro b9 a w qE H;refine aH 2 H ?_;clear H;intro a H;refine lr H results159 rfl ?_
    first
      | exact H.rt (by rw [eu,ah (by omega),ah (by omega),ah (by omega),ah (by omega),ah (by omega),ah (by omega)];exact ay.jB rfl (by decide))
      | (obtain ⟨Gz,hmz,hbz,H⟩:=H.dS
         first
           | exact H.rt (by rw [eu,au (by omega)];exact ay.eT (n:=1) (cap:=1) hbz rfl (bX _) (show 1≤maxLen by decide) rfl (fG _ [1]))
           | exact H.rt (by rw [eu,ah (by omega),au (by omega)];exact ay.eT (n:=2) (cap:=2) hbz rfl (bX _) (show 2≤maxLen by decide) rfl (fG _ [1,2]))
           | exact H.rt (by rw [eu,ah (by omega),ah (by omega),au (by omega)];exact ay.eT (n:=1) (cap:=1) hbz rfl (bX _) (show 1≤maxLen by decide) rfl (fG _ [3]))
           | exact H.rt (by rw [eu,ah (by omega),ah (by omega),ah (by omega),au (by omega)];exact ay.eT (n:=1) (cap:=1) hbz rfl (bX _) (show 1≤maxLen by decide) rfl (fG _ [6]))
           | exact H.rt (by rw [eu,ah (by omega),ah (by omega),ah (by omega),ah (by omega),au (by omega)];exact ay.eT (n:=1) (cap:=1) hbz rfl (bX _) (show 1≤maxLen by decide) rfl (fG _ [4]))
           | exact H.rt (by rw [eu,ah (by omega),ah (by omega),ah (by omega),ah (by omega),ah (by omega),au (by omega)];exact ay.eT (n:=1) (cap:=1) hbz rfl (bX _) (show 1≤maxLen by decide) rfl (fG _ [5])))
  intro p4
  refine goB 4 ?_ ?_
  · intro kE
    refine aj 1 ?_;intro a H;refine iy tN bC [_,_] [_,_] H wn rfl rfl rfl rfl rfl (by intro i q h;match i,h with|0,h=>exact h|1,h=>exact h|n+2,h=>simp at h) rfl rfl ?_;clear H;intro b12 a w DU H;refine aH 2 H ?_;clear H;intro a H;refine lr H results159 rfl ?_
    first
      | exact H.rt (by rw [eu,ah (by omega),ah (by omega),ah (by omega),ah (by omega),ah (by omega),ah (by omega)];exact ay.jB rfl (by decide))
      | (obtain ⟨Gz,hmz,hbz,H⟩:=H.dS
         first
           | exact H.rt (by rw [eu,au (by omega)];exact ay.eT (n:=1) (cap:=1) hbz rfl (bX _) (show 1≤maxLen by decide) rfl (fG _ [1]))
           | exact H.rt (by rw [eu,ah (by omega),au (by omega)];exact ay.eT (n:=2) (cap:=2) hbz rfl (bX _) (show 2≤maxLen by decide) rfl (fG _ [1,2]))
           | exact H.rt (by rw [eu,ah (by omega),ah (by omega),au (by omega)];exact ay.eT (n:=1) (cap:=1) hbz rfl (bX _) (show 1≤maxLen by decide) rfl (fG _ [3]))
           | exact H.rt (by rw [eu,ah (by omega),ah (by omega),ah (by omega),au (by omega)];exact ay.eT (n:=1) (cap:=1) hbz rfl (bX _) (show 1≤maxLen by decide) rfl (fG _ [6]))
           | exact H.rt (by rw [eu,ah (by omega),ah (by omega),ah (by omega),ah (by omega),au (by omega)];exact ay.eT (n:=1) (cap:=1) hbz rfl (bX _) (show 1≤maxLen by decide) rfl (fG _ [4]))
           | exact H.rt (by rw [eu,ah (by omega),ah (by omega),ah (by omega),ah (by omega),ah (by omega),au (by omega)];exact ay.eT (n:=1) (cap:=1) hbz rfl (bX _) (show 1≤maxLen by decide) rfl (fG _ [5])))
  intro kE
  refine goB 4 ?_ ?_
  · intro oJ
    refine aj 1 ?_;intro a H;refine iy tN bC [_] [_] H wn rfl rfl rfl rfl rfl (by intro i q h;match i,h with|0,h=>exact h|n+1,h=>simp at h) rfl rfl ?_;clear H;intro b15 a w Va H;refine aH 2 H ?_;clear H;intro a H;refine lr H results159 rfl ?_
    first
      | exact H.rt (by rw [eu,ah (by omega),ah (by omega),ah (by omega),ah (by omega),ah (by omega),ah (by omega)];exact ay.jB rfl (by decide))
      | (obtain ⟨Gz,hmz,hbz,H⟩:=H.dS
         first
           | exact H.rt (by rw [eu,au (by omega)];exact ay.eT (n:=1) (cap:=1) hbz rfl (bX _) (show 1≤maxLen by decide) rfl (fG _ [1]))
           | exact H.rt (by rw [eu,ah (by omega),au (by omega)];exact ay.eT (n:=2) (cap:=2) hbz rfl (bX _) (show 2≤maxLen by decide) rfl (fG _ [1,2]))
           | exact H.rt (by rw [eu,ah (by omega),ah (by omega),au (by omega)];exact ay.eT (n:=1) (cap:=1) hbz rfl (bX _) (show 1≤maxLen by decide) rfl (fG _ [3]))
           | exact H.rt (by rw [eu,ah (by omega),ah (by omega),ah (by omega),au (by omega)];exact ay.eT (n:=1) (cap:=1) hbz rfl (bX _) (show 1≤maxLen by decide) rfl (fG _ [6]))
           | exact H.rt (by rw [eu,ah (by omega),ah (by omega),ah (by omega),ah (by omega),au (by omega)];exact ay.eT (n:=1) (cap:=1) hbz rfl (bX _) (show 1≤maxLen by decide) rfl (fG _ [4]))
           | exact H.rt (by rw [eu,ah (by omega),ah (by omega),ah (by omega),ah (by omega),ah (by omega),au (by omega)];exact ay.eT (n:=1) (cap:=1) hbz rfl (bX _) (show 1≤maxLen by decide) rfl (fG _ [5])))
  intro oJ
  refine goB 4 ?_ ?_
  · intro p16
    refine aj 1 ?_;intro a H;refine iy tN bC [_] [_] H wn rfl rfl rfl rfl rfl (by intro i q h;match i,h with|0,h=>exact h|n+1,h=>simp at h) rfl rfl ?_;clear H;intro b18 a w P7 H;refine aH 2 H ?_;clear H;intro a H;refine lr H results159 rfl ?_
    first
      | exact H.rt (by rw [eu,ah (by omega),ah (by omega),ah (by omega),ah (by omega),ah (by omega),ah (by omega)];exact ay.jB rfl (by decide))
      | (obtain ⟨Gz,hmz,hbz,H⟩:=H.dS
         first
           | exact H.rt (by rw [eu,au (by omega)];exact ay.eT (n:=1) (cap:=1) hbz rfl (bX _) (show 1≤maxLen by decide) rfl (fG _ [1]))
           | exact H.rt (by rw [eu,ah (by omega),au (by omega)];exact ay.eT (n:=2) (cap:=2) hbz rfl (bX _) (show 2≤maxLen by decide) rfl (fG _ [1,2]))
           | exact H.rt (by rw [eu,ah (by omega),ah (by omega),au (by omega)];exact ay.eT (n:=1) (cap:=1) hbz rfl (bX _) (show 1≤maxLen by decide) rfl (fG _ [3]))
           | exact H.rt (by rw [eu,ah (by omega),ah (by omega),ah (by omega),au (by omega)];exact ay.eT (n:=1) (cap:=1) hbz rfl (bX _) (show 1≤maxLen by decide) rfl (fG _ [6]))
           | exact H.rt (by rw [eu,ah (by omega),ah (by omega),ah (by omega),ah (by omega),au (by omega)];exact ay.eT (n:=1) (cap:=1) hbz rfl (bX _) (show 1≤maxLen by decide) rfl (fG _ [4]))
           | exact H.rt (by rw [eu,ah (by omega),ah (by omega),ah (by omega),ah (by omega),ah (by omega),au (by omega)];exact ay.eT (n:=1) (cap:=1) hbz rfl (bX _) (show 1≤maxLen by decide) rfl (fG _ [5])))
  intro p16
  refine goB 4 ?_ ?_
  · intro uQ
    refine aj 1 ?_;intro a H;refine iy tN bC [_] [_] H wn rfl rfl rfl rfl rfl (by intro i q h;match i,h with|0,h=>exact h|n+1,h=>simp at h) rfl rfl ?_;clear H;intro b21 a w awl H;refine aH 2 H ?_;clear H;intro a H;refine lr H results159 rfl ?_
    first
      | exact H.rt (by rw [eu,ah (by omega),ah (by omega),ah (by omega),ah (by omega),ah (by omega),ah (by omega)];exact ay.jB rfl (by decide))
      | (obtain ⟨Gz,hmz,hbz,H⟩:=H.dS
         first
           | exact H.rt (by rw [eu,au (by omega)];exact ay.eT (n:=1) (cap:=1) hbz rfl (bX _) (show 1≤maxLen by decide) rfl (fG _ [1]))
           | exact H.rt (by rw [eu,ah (by omega),au (by omega)];exact ay.eT (n:=2) (cap:=2) hbz rfl (bX _) (show 2≤maxLen by decide) rfl (fG _ [1,2]))
           | exact H.rt (by rw [eu,ah (by omega),ah (by omega),au (by omega)];exact ay.eT (n:=1) (cap:=1) hbz rfl (bX _) (show 1≤maxLen by decide) rfl (fG _ [3]))
           | exact H.rt (by rw [eu,ah (by omega),ah (by omega),ah (by omega),au (by omega)];exact ay.eT (n:=1) (cap:=1) hbz rfl (bX _) (show 1≤maxLen by decide) rfl (fG _ [6]))
           | exact H.rt (by rw [eu,ah (by omega),ah (by omega),ah (by omega),ah (by omega),au (by omega)];exact ay.eT (n:=1) (cap:=1) hbz rfl (bX _) (show 1≤maxLen by decide) rfl (fG _ [4]))
           | exact H.rt (by rw [eu,ah (by omega),ah (by omega),ah (by omega),ah (by omega),ah (by omega),au (by omega)];exact ay.eT (n:=1) (cap:=1) hbz rfl (bX _) (show 1≤maxLen by decide) rfl (fG _ [5])))
  intro uQ
  refine goB 4 ?_ ?_
  · intro iT
    refine aj 1 ?_;intro a H;refine iy tN bC [_] [_] H wn rfl rfl rfl rfl rfl (by intro i q h;match i,h with|0,h=>exact h|n+1,h=>simp at h) rfl rfl ?_;clear H;intro b24 a w awn H;refine aH 2 H ?_;clear H;intro a H;refine lr H results159 rfl ?_
    first
      | exact H.rt (by rw [eu,ah (by omega),ah (by omega),ah (by omega),ah (by omega),ah (by omega),ah (by omega)];exact ay.jB rfl (by decide))
      | (obtain ⟨Gz,hmz,hbz,H⟩:=H.dS
         first
           | exact H.rt (by rw [eu,au (by omega)];exact ay.eT (n:=1) (cap:=1) hbz rfl (bX _) (show 1≤maxLen by decide) rfl (fG _ [1]))
           | exact H.rt (by rw [eu,ah (by omega),au (by omega)];exact ay.eT (n:=2) (cap:=2) hbz rfl (bX _) (show 2≤maxLen by decide) rfl (fG _ [1,2]))
           | exact H.rt (by rw [eu,ah (by omega),ah (by omega),au (by omega)];exact ay.eT (n:=1) (cap:=1) hbz rfl (bX _) (show 1≤maxLen by decide) rfl (fG _ [3]))
           | exact H.rt (by rw [eu,ah (by omega),ah (by omega),ah (by omega),au (by omega)];exact ay.eT (n:=1) (cap:=1) hbz rfl (bX _) (show 1≤maxLen by decide) rfl (fG _ [6]))
           | exact H.rt (by rw [eu,ah (by omega),ah (by omega),ah (by omega),ah (by omega),au (by omega)];exact ay.eT (n:=1) (cap:=1) hbz rfl (bX _) (show 1≤maxLen by decide) rfl (fG _ [4]))
           | exact H.rt (by rw [eu,ah (by omega),ah (by omega),ah (by omega),ah (by omega),ah (by omega),au (by omega)];exact ay.eT (n:=1) (cap:=1) hbz rfl (bX _) (show 1≤maxLen by decide) rfl (fG _ [5])))
  intro iT
  refine aj 4 ?_;intro a H;refine lr H results159 rfl ?_
  first
    | exact H.rt (by rw [eu,ah (by omega),ah (by omega),ah (by omega),ah (by omega),ah (by omega),ah (by omega)];exact ay.jB rfl (by decide))
    | (obtain ⟨Gz,hmz,hbz,H⟩:=H.dS
       first
         | exact H.rt (by rw [eu,au (by omega)];exact ay.eT (n:=1) (cap:=1) hbz rfl (bX _) (show 1≤maxLen by decide) rfl (fG _ [1]))
         | exact H.rt (by rw [eu,ah (by omega),au (by omega)];exact ay.eT (n:=2) (cap:=2) hbz rfl (bX _) (show 2≤maxLen by decide) rfl (fG _ [1,2]))
         | exact H.rt (by rw [eu,ah (by omega),ah (by omega),au (by omega)];exact ay.eT (n:=1) (cap:=1) hbz rfl (bX _) (show 1≤maxLen by decide) rfl (fG _ [3]))
         | exact H.rt (by rw [eu,ah (by omega),ah (by omega),ah (by omega),au (by omega)];exact ay.eT (n:=1) (cap:=1) hbz rfl (bX _) (show 1≤maxLen by decide) rfl (fG _ [6]))
         | exact H.rt (by rw [eu,ah (by omega),ah (by omega),ah (by omega),ah (by omega),au (by omega)];exact ay.eT (n:=1) (cap:=1) hbz rfl (bX _) (show 1≤maxLen by decide) rfl (fG _ [4]))
         | exact H.rt (by rw [eu,ah (by omega),ah (by omega),ah (by omega),ah (by omega),ah (by omega),au (by omega)];exact ay.eT (n:=1) (cap:=1) hbz rfl (bX _) (show 1≤maxLen by decide) rfl (fG _ [5])))
theorem aqi {G:GH} {l:List Int} {A:Option Addr} {n c k:Nat} (hv:ay G (.sl 1 (l.map fun k=>[li k])) (.slice A n c)) (hk:k < l.length):∃ b o,A=some ⟨b,o,none⟩∧aC G b (o+k*1)=some (vi l[k]):=by
 obtain ⟨A',c',he,_,_,hg⟩:=hv.slice
 injection he with e1 e2 e3
 subst e1;obtain ⟨b,o,cs,h1,h2,h3,h4⟩:=hg k [li l[k]] (by simp [hk])
 simp only [aZ,ay] at h4
 obtain ⟨v1,_,rfl,⟨rfl,-⟩,rfl⟩:=h4;exact ⟨b,o,h1,h3 0 _ rfl⟩
theorem aqe (G:GH) (w0:World) (hG:Hold G w0) (l:List Int) (t:Int) (v:ak) (hv:ay G (.sl 1 (l.map fun k=>[li k])) v) :
  Calls prog 141 #[v,vi t] w0 (bB w0 G fun u G'=>u=vi (nL (l.findIdx? fun x=>decide (t=x)))):=by
 obtain ⟨A,c,rfl,hc1,hc2,-⟩:=hv.slice;have hml:maxLen=9223372036854775807:=rfl;rw [bE] at *;refine eN [(0,_),(1,_)] func141 rfl ntmps141 rfl rfl hG ?_;refine aj 10 ?_;intro a H;refine dD (ι:=Nat) (Tc:=[(0,_),(1,_),(7,_)]) (Lc:=[]) (fun gh=>[(8,vi gh)]) (fun gh=>[]) (fun gh=>G) (fun gh=>gh≤l.length∧(l.take gh).findIdx? (fun x=>decide (t=x))=none) (fun gh=>l.length - gh) (0) sB ?_ ?_
 ·exact ⟨eG _,rfl⟩
 clear H;intro k a w hI H;obtain ⟨hk,hno⟩:=hI;dsimp only [lca,aQ] at H;refine cK 4 H ?_ ?_ <;> clear H
 ·intro p9
  have hk2:k < l.length:=by omega
  obtain ⟨b,o,rfl,hrow⟩:=aqi hv hk2;refine goB 15 ?_ ?_
  ·intro p16
   refine aJ 4 ?_;rw [xk hk2 hno (by simpa using p16)];rfl
  intro p16
  refine aj 4 ?_;intro a H;refine aI ?_;refine bR ((k+1)) sB ?_ ?_
  ·exact ⟨by omega,Fq hk2 hno (by simpa using p16)⟩
  first|omega|(dsimp only;omega)
 intro p9
 refine aJ 4 ?_;rw [show l.take k=l from iL (by omega)] at hno;rw [hno];rfl
theorem aiI (G:GH) (w0:World) (hG:Hold G w0) (l:List Int) (t:Int) (v:ak) (hv:ay G (.sl 1 (l.map fun k=>[li k])) v) :
  Calls prog 77 #[v,vi t] w0 (bB w0 G fun u G'=>u=.bool (decide (t∈l))):=by
 obtain ⟨A,c,rfl,hc1,hc2,-⟩:=hv.slice;rw [bE] at *;refine eN [(0,_),(1,_)] func77 rfl ntmps77 rfl rfl hG ?_;refine aj 6 ?_;intro a H;refine s_call ajG H wn rfl (aqe _ _ H.ro l t _ hv) rfl ?_;clear H;rintro v7 G7 a w rfl vO H;refine gK 3 H ?_;exact (by
  congr 1
  cases h:l.findIdx? (fun x=>decide (t=x)) with
  | none =>
   rw [List.findIdx?_eq_none_iff] at h;have:t∉l:=fun hm=>absurd (h t hm) (by simp)
   simp [nL,this]
  | some i =>
   obtain ⟨hi,he,-⟩:=List.findIdx?_eq_some_iff_getElem.1 h
   have:t∈l:=by rw [lQ he];exact iq _
   simp [nL,this])
def Ay (e k:Int):Bool:=(nA k).2 && decide ((nA k).1.Ch∈eu e)
theorem Uw (G:GH) (w0:World) (hG:Hold G w0) (e k:Int):Calls prog 98 #[vi e,vi k] w0 (bB w0 G fun u G'=>u=.bool (Ay e k)):=by
 refine eN [(0,_),(1,_)] func98 rfl ntmps98 rfl rfl hG ?_;refine aj 5 ?_;intro a H;refine s_call aau H wn rfl (find_spec _ _ H.ro k) rfl ?_;clear H;rintro v9 G9 a w rfl ze H;dsimp only [jR.cells] at H;refine aH 1 H ?_;clear H;intro a H;(iterate 2 refine qK H wn rfl rfl rfl ?_;clear H;intro a H);refine dx zy H wn rfl ?_;clear H;intro b5 a w hb5 H;refine bq zy 0 (vs:=[_,_,_,_,_,_]) _ H wn rfl rfl rfl rfl rfl rfl rfl rfl ?_;clear H;intro w H;dsimp only [List.set,setRow] at H;refine aH 3 H ?_;clear H
 intro a H;by_cases c0:(nA k).2=true
 ·skip
  have qG:∀ (bJ:Nat) (v:ak) (G G':GH),(∀ k o,G k=some o→G' k=some o)→(fun (bJ:Nat) (v:ak) (G:GH)=>match bJ with|0=>v=.bool (nA k).2|1=>v=.bool (decide ((nA k).2=true))|2=>v=vi e|3=>(nA k).2=true→ay G (.sl 1 ((eu e).map fun k=>[li k])) v|4=>v=(aK b5 1)|5=>v=vi (nA k).1.Ch|6=>v=.bool (decide ((nA k).1.Ch∈eu e))|7=>v=.bool (Ay e k)|_=>True) bJ v G→(fun (bJ:Nat) (v:ak) (G:GH)=>match bJ with|0=>v=.bool (nA k).2|1=>v=.bool (decide ((nA k).2=true))|2=>v=vi e|3=>(nA k).2=true→ay G (.sl 1 ((eu e).map fun k=>[li k])) v|4=>v=(aK b5 1)|5=>v=vi (nA k).1.Ch|6=>v=.bool (decide ((nA k).1.Ch∈eu e))|7=>v=.bool (Ay e k)|_=>True) bJ v G':=by
   intro bJ v G G' hm h
   match bJ,h with
   | 0,h=>exact h
   | 1,h=>exact h
   | 2,h=>exact h
   | 3,h=>exact fun hf=>(h hf).mono hm
   | 4,h=>exact h
   | 5,h=>exact h
   | 6,h=>exact h
   | 7,h=>exact h
   | 8,h=>exact trivial
   | _+9,h=>exact trivial
  refine Ar (hmx) [[],[0],[0,1],[0,1,2],[0,1],[0,1,4],(ra 0 6),(ra 0 7),(ra 0 8)] [8] (by kernel_rfl) (by kernel_rfl) (fun (bJ:Nat) (v:ak) (G:GH)=>match bJ with|0=>v=.bool (nA k).2|1=>v=.bool (decide ((nA k).2=true))|2=>v=vi e|3=>(nA k).2=true→ay G (.sl 1 ((eu e).map fun k=>[li k])) v|4=>v=(aK b5 1)|5=>v=vi (nA k).1.Ch|6=>v=.bool (decide ((nA k).1.Ch∈eu e))|7=>v=.bool (Ay e k)|_=>True) qG H ?_ ?_
  ·clear H;refine aF ?_ ?_ ?_ ?_ (aF ?_ ?_ ?_ ?_ (aW (bS rfl) cZ))
   ·refine dB [] rfl trivial (by kernel_rfl) qG rfl rfl ?_;intro bN a w G1 hG HT H fin;exact kH H (Rm rfl fun _ H=>fin H iJ rfl)
   ·refine dB [(0,12,_)] rfl ⟨fun _ _ h=>h,aY⟩ (by kernel_rfl) qG rfl rfl ?_;intro bN a w G1 hG HT H fin;refine aH 1 H ?_;clear H;intro a H;exact fin H iJ (by simp)
   ·refine dB [(1,13,_)] rfl ⟨fun _ _ h=>h,aY⟩ (by kernel_rfl) qG rfl rfl ?_;intro bN a w G1 hG HT H fin;exact kH H (YM (aG c0) rfl fun _ H=>fin H iJ rfl)
   ·refine dB [(2,14,_),(1,13,_)] rfl ⟨fun _ _ h=>h,fun _ _ h=>h,aY⟩ (by kernel_rfl) qG rfl rfl ?_;intro bN a w G1 hG HT H fin;refine s_call ajM H (wg H rfl rfl (aG c0)) rfl (amR _ _ H.ro e) rfl ?_;clear H;rintro v15 Ey a w Fp Hq H;exact fin H Hq (by first|exact fun _=>Fp|rfl)
   ·refine dB [(1,13,_)] rfl ⟨fun _ _ h=>h,aY⟩ (by kernel_rfl) qG rfl rfl ?_;intro bN a w G1 hG HT H fin;exact kH H (YF amj (aG c0) rfl fun _ H=>fin H iJ rfl)
   ·refine dB [(4,16,_),(1,13,_)] rfl ⟨fun _ _ h=>h,fun _ _ h=>h,aY⟩ (by kernel_rfl) qG rfl rfl ?_;intro bN a w G1 hG HT H fin;exact kH H (YO bC 0 (aG c0) rfl fun _ H=>fin H iJ rfl)
   ·intro bN a w G1 _ dh hc hG HT hv;have H:=HT;clear dh;obtain ⟨u15,apJ,Fp⟩:=hv 3 15 (hc 3 (by decide)) rfl;(try dsimp only at Fp);have H:=H.kI apJ;have H:=H.aV (hv 5 17 (hc 5 (by decide)) rfl) rfl;have H:=H.aV (hv 1 13 (hc 1 (by decide)) rfl) rfl;have Hb:=H.full;have H:=Hb;clear hc;refine s_call alm H (wg H rfl rfl (aG c0)) rfl (aiI _ _ H.ro _ _ _ (Fp c0)) rfl ?_;clear H;rintro v18 Sw a w rfl amZ H;refine aI ⟨rfl,?_⟩;exact jV (by kernel_rfl) qG rfl rfl HT Hb hG hv amZ (rfl) H
   refine dB [(1,13,_),(6,18,_)] rfl ⟨fun _ _ h=>h,fun _ _ h=>h,aY⟩ (by kernel_rfl) qG rfl rfl ?_;intro bN a w G1 hG HT H fin;refine aH 1 H ?_;clear H;intro a H;exact fin H iJ (by unfold Ay;simp_all)
  clear H;intro a w G DN H hv;have H:=H.aV (hv 7 19 rfl rfl) rfl;clear hv;refine t1 2 H ?_;clear H;refine aJ 0 ?_;exact rfl
 refine dI hmx [[],[0],[0,1],[0,1,2],[0,1],[0,1,4],(ra 0 6),(ra 0 7),(ra 0 8)] [8] (by kernel_rfl) [_,.bool (decide ((nA k).2=true)),undef,undef,undef,undef,undef,.bool (Ay e k)] H (aF (Z0 rfl (Rm rfl)) ?_ (aO 1 (aN c0) rfl rfl) ?_ (aF (aO 1 (aN c0) rfl rfl) (aO 1 (aN c0) rfl rfl) (aO 1 (aN c0) rfl rfl) ?_ (aW (bS rfl) cZ))) ?_
 ·refine dM 0 12 rfl rfl fun _ a w G1 hG HT H fin=>?_;refine aH 1 H ?_;clear H;intro a H;exact fin H iJ (by show _=_;simp)
 ·intro bN a w G1 _ dh hc hG HT hv;have H:=HT;clear dh;have H:=H.aV (hv 2 14 (hc 2 (by decide)) rfl) rfl;have H:=H.aV (hv 1 13 (hc 1 (by decide)) rfl) rfl;have Hb:=H.full;have H:=Hb;clear hc;refine aH 1 H ?_;clear H;intro a H;refine aI ⟨rfl,?_⟩;exact jV (by kernel_rfl) (fun _ _ _ _ _ h=>h) rfl rfl HT Hb hG hv (fun _ _ h=>h) (by first|exact fun _=>Fp|rfl) H
 ·refine dP 1 13 6 18 rfl rfl fun _ a w G1 hG HT H fin=>?_;refine aH 1 H ?_;clear H;intro a H;exact fin H iJ (by show _=_;unfold Ay;simp_all)
 clear H;intro a w G DN H hv;have H:=H.aV (hv 7 19 rfl rfl) rfl;clear hv;refine t1 2 H ?_;clear H;refine aJ 0 ?_;exact rfl
def sZ (k v:Int):Int:=if (nA k).2=false then 4 else if v < (nA k).1.low∨(nA k).1.high < v then 5 else 0
theorem GK (G:GH) (w0:World) (hG:Hold G w0) (k x:Int):Calls prog 99 #[vi k,vi x] w0 (bB w0 G fun u G'=>u=vi (sZ k x)):=by
 refine eN [(0,_),(1,_)] func99 rfl ntmps99 rfl rfl hG ?_;refine aj 5 ?_;intro a H;refine s_call aau H wn rfl (find_spec _ _ H.ro k) rfl ?_;clear H;rintro v9 G9 a w rfl ze H;dsimp only [jR.cells] at H;refine aH 1 H ?_;clear H;intro a H;(iterate 2 refine qK H wn rfl rfl rfl ?_;clear H;intro a H);refine dx zy H wn rfl ?_;clear H;intro b5 a w hb5 H;refine bq zy 0 (vs:=[_,_,_,_,_,_]) _ H wn rfl rfl rfl rfl rfl rfl rfl rfl ?_;clear H;intro w H;dsimp only [List.set,setRow] at H;refine eO 9 H ?_ ?_ <;> clear H
 ·intro lu
  refine aJ 3 ?_;unfold sZ;simp_all
 intro lu
 refine gV 6 20 ?_ ?_
 ·intro pJ
  refine aJ 11 ?_;unfold sZ;simp_all
 intro pJ
 refine goB 7 ?_ ?_
 ·intro mE
  refine aJ 3 ?_;unfold sZ;simp_all
 intro mE
 refine aJ 4 ?_;unfold sZ;simp_all
end
section
open Go.RowKit
instance Dz:dL prog 171 0 0:=⟨by kernel_rfl⟩
theorem Uk:∀ args w,(callFunc 98 args).run prog w=.ok (.enter 98 args) w:=enters func98 rfl (by kernel_rfl)
instance ami:dL prog 171 1 1:=⟨by kernel_rfl⟩
theorem GU:∀ args w,(callFunc 99 args).run prog w=.ok (.enter 99 args) w:=enters func99 rfl (by kernel_rfl)
def J8 (q:Option Int) (k:Int):Bool:=match q with|some j=>decide (k < j)|none=>false
def Dp (e:Int):Option Int→List gB→Int
 | _,[]=>0
 | q,p :: r=>if Ay e p.key=false then 4 else if q=some p.key then 7 else if J8 q p.key=true then 6 else if sZ p.key p.value=0 then Dp e (some p.key) r else sZ p.key p.value
def Bp (l:List gB) (k:Nat):Option Int:=if k=0 then none else l[k - 1]?.map gB.key
def gY (e:Int) (l:List gB):Int:=if e < 1∨10 < e then 3 else Dp e none l
theorem aib {e:Int} {l:List gB} {k:Nat} (h:k < l.length):Dp e (Bp l k) (l.drop k)=if Ay e l[k].key=false then 4 else if Bp l k=some l[k].key then 7 else if J8 (Bp l k) l[k].key=true then 6 else if sZ l[k].key l[k].value=0 then Dp e (Bp l (k+1)) (l.drop (k+1)) else sZ l[k].key l[k].value:=by
 rw [jy h,Dp]
 have:Bp l (k+1)=some l[k].key:=by rw [Bp,ah (by omega),Nat.add_sub_cancel,dV h];rfl
 rw [this]
theorem Rh {l:List gB} {k:Nat} (h:k=0):Bp l k=none:=au h
theorem Xl (G:GH) (w0:World) (hG:Hold G w0) (e:Int) (l:List gB) (v:ak) (hv:ay G (.sl 2 (l.map gB.dat)) v) :
  Calls prog 95 #[vi e,v] w0 (bB w0 G fun u G'=>u=vi (gY e l)):=by
 obtain ⟨A,c,rfl,hc1,hc2,-⟩:=hv.slice;have hml:maxLen=9223372036854775807:=rfl;rw [bE] at *;refine eN [(0,_),(1,_)] func95 rfl ntmps95 rfl rfl hG ?_;refine gV 8 10 ?_ ?_
 ·intro kE
  refine aJ 8 ?_
  first
   | exact (aB vi (by rw [ah (by simpa using p61)] at heq;rw [gY,ah (by omega)];exact heq))
   | exact (aB vi (by rw [au (by simpa using h21)] at heq;rw [gY,ah (by omega)];exact heq))
   | exact (aB vi (by rw [gY,ah (by omega)];exact heq))
   | exact (aB vi (by rw [gY,ah (by omega),← heq,show l.drop k=[] from eX (by omega)];rfl))
   | exact (aB vi (by rw [gY,au (by omega)]))
 intro kE
 refine goB 4 ?_ ?_
 ·intro oJ
  refine aJ 3 ?_
  first
   | exact (aB vi (by rw [ah (by simpa using p61)] at heq;rw [gY,ah (by omega)];exact heq))
   | exact (aB vi (by rw [au (by simpa using h21)] at heq;rw [gY,ah (by omega)];exact heq))
   | exact (aB vi (by rw [gY,ah (by omega)];exact heq))
   | exact (aB vi (by rw [gY,ah (by omega),← heq,show l.drop k=[] from eX (by omega)];rfl))
   | exact (aB vi (by rw [gY,au (by omega)]))
 intro oJ
 refine aj 8 ?_;intro a H;refine dD (ι:=Nat × GH) (Tc:=[(0,_),(1,_),(14,_),(15,_)]) (Lc:=[]) (fun gh=>[(16,vi gh.1)]) (fun gh=>[]) (fun gh=>gh.2) (fun gh=>gh.1≤l.length∧Dp e (Bp l gh.1) (l.drop gh.1)=Dp e none l∧(∀ b o,G b=some o→gh.2 b=some o)) (fun gh=>l.length - gh.1) ((0,G)) sB ?_ ?_
 ·exact ⟨eG _,rfl,fun _ _ h=>h⟩
 clear H;rintro ⟨k,g⟩ a w hI H;dsimp only at hI H;obtain ⟨hk,heq,hgm⟩:=hI;dsimp only [lca,aQ] at H;refine cK 4 H ?_ ?_ <;> clear H
 ·intro kF
  have hk2:k < l.length:=by omega
  have Ij:=hv.mono hgm;obtain ⟨b,o,rfl,hrow⟩:=Nz Ij hk2
  obtain ⟨pk,hpk⟩:∃ pk,0 < k→aC g b (o+(k - 1)*2+0)=some (vi pk)∧Bp l k=some pk:=by
   by_cases h0:0 < k
   ·obtain ⟨b',o',he,hr'⟩:=Nz Ij (show k - 1 < l.length by omega)
    injection he with he
    injection he with e1 e2 e3
    subst e1;subst e2;exact ⟨_,fun _=>⟨hr' 0 _ rfl,by rw [Bp,ah (by omega),dV (by omega)];rfl⟩⟩
   exact ⟨0,fun h=>absurd h h0⟩
  rw [aib hk2] at heq;have awK:=heq;refine aj 6 ?_;intro a H;refine aT ql (cs:=[_,_]) H wn rfl rfl (fun j v hj=>H.hp.aC (hrow j v hj)) rfl ?_;clear H;intro a H;refine dx ql H wn rfl ?_;clear H;intro b6 a w hb6 H;refine aH 1 H ?_;clear H;intro a H;refine bq ql 0 (vs:=[_,_]) _ H wn rfl rfl rfl rfl rfl rfl rfl rfl ?_;clear H;intro w H;dsimp only [List.set,setRow] at H;refine aI ?_;refine dW ?_;refine oQ (ι:=GH) (Tc:=[(0,_),(1,_),(6,_),(14,_),(15,_),(16,_)]) (Lc:=[(_,_)]) (fun gh=>[]) (fun gh=>[]) (fun gh=>gh) (fun gh=>(if sZ l[k].key l[k].value=0 then Dp e (Bp l (k+1)) (l.drop (k+1)) else sZ l[k].key l[k].value)=Dp e none l∧(∀ b o,g b=some o→gh b=some o)) sB ?_ ?_
  ·refine dG 5 H ?_;clear H;intro a H;refine s_call Uk H wn rfl (Uw _ _ H.ro e l[k].key) rfl ?_;clear H;rintro v25 YH a w rfl H8 H;replace hrow:=fun j u hj=>aD H8 (hrow j u hj);refine fE 3 H ?_ ?_ <;> clear H
   ·intro h21
    try have nN:=dT h21
    refine aJ 3 ?_
    first
     | exact (aB vi (by rw [ah (by simpa using p61)] at heq;rw [gY,ah (by omega)];exact heq))
     | exact (aB vi (by rw [au (by simpa using h21)] at heq;rw [gY,ah (by omega)];exact heq))
     | exact (aB vi (by rw [gY,ah (by omega)];exact heq))
     | exact (aB vi (by rw [gY,ah (by omega),← heq,show l.drop k=[] from eX (by omega)];rfl))
     | exact (aB vi (by rw [gY,au (by omega)]))
   intro h21
   try have nN:=dF h21
   rw [ah (by simpa using h21)] at heq;refine aj 1 ?_
   intro a H;by_cases c0:0 < (k:Int)
   ·skip
    by_cases c1:l[k].key=pk
    ·refine dI hmx [[],[0],[0,1],[0,1,2],(ra 0 4),[0,1,2],[0,1,2],[0,1,2,6],[0,1,2,5,6,7],[0,1,2,5,6,7,8],[0,1,2,5,6,7,8,9],(ra 0 11),(ra 0 12),(ra 0 13)] [13] (by kernel_rfl) [_,_,_,_,vi l[k].key,_,_,vi ((k - 1:Nat):Int),_,_,_,_,_] H (aF (Z0 rfl (Rm rfl)) (Z1 0 28 rfl (Rc rfl)) (Z1 1 29 rfl (Rm rfl)) (Z1 2 30 rfl (YF Dz (aG c0) rfl)) (aF (Z2 3 31 2 30 rfl (YO bC 0 (aG c0) rfl)) (Z1 2 30 rfl (YM (aG c0) rfl)) (Z1 2 30 rfl (YM (aG c0) rfl)) ?_ (aF (Z3 5 33 7 35 2 30 rfl (YI wu ql (aG c0) rfl rfl)) (Z2 8 36 2 30 rfl (YF Dz (aG c0) rfl)) (X2 9 37 2 30 rfl fun hG=>YR bC (aG c0) rfl (aD hG (aD H8 (hpk (by omega)).1))) (Z3 4 32 10 38 2 30 rfl (YC (aG c0) rfl)) (aW (Z2 2 30 11 39 rfl (Pt (aG c0) rfl)) (aW (bS rfl) cZ))))) ?_
     ·refine dP 6 34 2 30 rfl rfl fun _ a w G1 hG HT H fin=>?_;refine lC _ H (wg H rfl rfl (aG c0)) rfl rfl rfl (by omega) (by omega) rfl ?_;clear H;intro a H;exact fin H iJ (by show _=_;first|rfl|exact aB vi (by omega))
     clear H;intro a w G pW H hv;have H:=H.aV (hv 12 40 rfl rfl) rfl;clear hv;refine t1 3 H ?_;clear H;rw [au (by rw [(hpk (by omega)).2,c1])] at heq;refine aJ 3 ?_
     first
      | exact (aB vi (by rw [ah (by simpa using p61)] at heq;rw [gY,ah (by omega)];exact heq))
      | exact (aB vi (by rw [au (by simpa using h21)] at heq;rw [gY,ah (by omega)];exact heq))
      | exact (aB vi (by rw [gY,ah (by omega)];exact heq))
      | exact (aB vi (by rw [gY,ah (by omega),← heq,show l.drop k=[] from eX (by omega)];rfl))
      | exact (aB vi (by rw [gY,au (by omega)]))
    refine dI hmx [[],[0],[0,1],[0,1,2],(ra 0 4),[0,1,2],[0,1,2],[0,1,2,6],[0,1,2,5,6,7],[0,1,2,5,6,7,8],[0,1,2,5,6,7,8,9],(ra 0 11),(ra 0 12),(ra 0 13)] [13] (by kernel_rfl) [_,_,_,_,vi l[k].key,_,_,vi ((k - 1:Nat):Int),_,_,_,_,_] H (aF (Z0 rfl (Rm rfl)) (Z1 0 28 rfl (Rc rfl)) (Z1 1 29 rfl (Rm rfl)) (Z1 2 30 rfl (YF Dz (aG c0) rfl)) (aF (Z2 3 31 2 30 rfl (YO bC 0 (aG c0) rfl)) (Z1 2 30 rfl (YM (aG c0) rfl)) (Z1 2 30 rfl (YM (aG c0) rfl)) ?_ (aF (Z3 5 33 7 35 2 30 rfl (YI wu ql (aG c0) rfl rfl)) (Z2 8 36 2 30 rfl (YF Dz (aG c0) rfl)) (X2 9 37 2 30 rfl fun hG=>YR bC (aG c0) rfl (aD hG (aD H8 (hpk (by omega)).1))) (Z3 4 32 10 38 2 30 rfl (YC (aG c0) rfl)) (aW (Z2 2 30 11 39 rfl (Pt (aG c0) rfl)) (aW (bS rfl) cZ))))) ?_
    ·refine dP 6 34 2 30 rfl rfl fun _ a w G1 hG HT H fin=>?_;refine lC _ H (wg H rfl rfl (aG c0)) rfl rfl rfl (by omega) (by omega) rfl ?_;clear H;intro a H;exact fin H iJ (by show _=_;first|rfl|exact aB vi (by omega))
    clear H;intro a w G pW H hv;have H:=H.aV (hv 12 40 rfl rfl) rfl;clear hv;refine t1 4 H ?_;clear H
    have q1:¬ (0 < (k:Int)∧l[k].key=pk):=by first|exact fun h=>c1 h.2|exact fun h=>c0 h.1
    intro a H;rw [ah (fun h=>q1 (by
     by_cases h0:0 < k
     ·rw [(hpk h0).2] at h
      injection h with h
      exact ⟨by omega,h.symm⟩
     rw [Rh (by omega)] at h
     cases h))] at heq
    by_cases c3:l[k].key < pk
    ·refine dI hmx [[],[0],[0,1],[0,1,2],(ra 0 4),[0,1,2],[0,1,2],[0,1,2,6],[0,1,2,5,6,7],[0,1,2,5,6,7,8],[0,1,2,5,6,7,8,9],(ra 0 11),(ra 0 12),(ra 0 13)] [13] (by kernel_rfl) [_,_,_,_,vi l[k].key,_,_,vi ((k - 1:Nat):Int),_,_,vi pk,_,_] H (aF (Z0 rfl (Rm rfl)) (Z1 0 42 rfl (Rc rfl)) (Z1 1 43 rfl (Rm rfl)) (Z1 2 44 rfl (YF Dz (aG c0) rfl)) (aF (Z2 3 45 2 44 rfl (YO bC 0 (aG c0) rfl)) (Z1 2 44 rfl (YM (aG c0) rfl)) (Z1 2 44 rfl (YM (aG c0) rfl)) ?_ (aF (Z3 5 47 7 49 2 44 rfl (YI wu ql (aG c0) rfl rfl)) (Z2 8 50 2 44 rfl (YF Dz (aG c0) rfl)) ?_ (Z3 4 46 10 52 2 44 rfl (YC (aG c0) rfl)) (aW (Z2 2 44 11 53 rfl (Pt (aG c0) rfl)) (aW (bS rfl) cZ))))) ?_
     ·refine dP 6 48 2 44 rfl rfl fun _ a w G1 hG HT H fin=>?_;refine lC _ H (wg H rfl rfl (aG c0)) rfl rfl rfl (by omega) (by omega) rfl ?_;clear H;intro a H;exact fin H iJ (by show _=_;first|rfl|exact aB vi (by omega))
     ·refine dP 9 51 2 44 rfl rfl fun _ a w G1 hG HT H fin=>?_;refine iH bC H (wg H rfl rfl (aG c0)) rfl (H.hp.aC (aD hG (aD pW (aD H8 (hpk (by omega)).1)))) rfl ?_;clear H;intro a H;exact fin H iJ rfl
     clear H;intro a w G nV H hv;have H:=H.aV (hv 12 54 rfl rfl) rfl;clear hv;refine t1 3 H ?_;clear H;rw [au (by rw [(hpk (by omega)).2];exact aG c3)] at heq;refine aJ 3 ?_
     first
      | exact (aB vi (by rw [ah (by simpa using p61)] at heq;rw [gY,ah (by omega)];exact heq))
      | exact (aB vi (by rw [au (by simpa using h21)] at heq;rw [gY,ah (by omega)];exact heq))
      | exact (aB vi (by rw [gY,ah (by omega)];exact heq))
      | exact (aB vi (by rw [gY,ah (by omega),← heq,show l.drop k=[] from eX (by omega)];rfl))
      | exact (aB vi (by rw [gY,au (by omega)]))
    refine dI hmx [[],[0],[0,1],[0,1,2],(ra 0 4),[0,1,2],[0,1,2],[0,1,2,6],[0,1,2,5,6,7],[0,1,2,5,6,7,8],[0,1,2,5,6,7,8,9],(ra 0 11),(ra 0 12),(ra 0 13)] [13] (by kernel_rfl) [_,_,_,_,vi l[k].key,_,_,vi ((k - 1:Nat):Int),_,_,vi pk,_,_] H (aF (Z0 rfl (Rm rfl)) (Z1 0 42 rfl (Rc rfl)) (Z1 1 43 rfl (Rm rfl)) (Z1 2 44 rfl (YF Dz (aG c0) rfl)) (aF (Z2 3 45 2 44 rfl (YO bC 0 (aG c0) rfl)) (Z1 2 44 rfl (YM (aG c0) rfl)) (Z1 2 44 rfl (YM (aG c0) rfl)) ?_ (aF (Z3 5 47 7 49 2 44 rfl (YI wu ql (aG c0) rfl rfl)) (Z2 8 50 2 44 rfl (YF Dz (aG c0) rfl)) ?_ (Z3 4 46 10 52 2 44 rfl (YC (aG c0) rfl)) (aW (Z2 2 44 11 53 rfl (Pt (aG c0) rfl)) (aW (bS rfl) cZ))))) ?_
    ·refine dP 6 48 2 44 rfl rfl fun _ a w G1 hG HT H fin=>?_;refine lC _ H (wg H rfl rfl (aG c0)) rfl rfl rfl (by omega) (by omega) rfl ?_;clear H;intro a H;exact fin H iJ (by show _=_;first|rfl|exact aB vi (by omega))
    ·refine dP 9 51 2 44 rfl rfl fun _ a w G1 hG HT H fin=>?_;refine iH bC H (wg H rfl rfl (aG c0)) rfl (H.hp.aC (aD hG (aD pW (aD H8 (hpk (by omega)).1)))) rfl ?_;clear H;intro a H;exact fin H iJ rfl
    clear H;intro a w G nV H hv;have H:=H.aV (hv 12 54 rfl rfl) rfl;clear hv;refine t1 3 H ?_;clear H;intro a H;refine iE ?_;refine ⟨_,sB,?_⟩
    have q2:¬ (0 < (k:Int)∧l[k].key < pk):=by first|exact fun h=>c3 h.2|exact fun h=>c0 h.1
    rw [ah (fun h=>q2 (by
     by_cases h0:0 < k
     ·rw [(hpk h0).2] at h;exact ⟨by omega,lQ h⟩
     rw [Rh (by omega)] at h
     cases h))] at heq
    exact ⟨heq,fun b o h=>nV b o (pW b o (H8 b o h))⟩
   refine dI hmx [[],[0],[0,1],[0,1,2],(ra 0 4),[0,1,2],[0,1,2],[0,1,2,6],[0,1,2,5,6,7],[0,1,2,5,6,7,8],[0,1,2,5,6,7,8,9],(ra 0 11),(ra 0 12),(ra 0 13)] [13] (by kernel_rfl) [_,_,_,undef,undef,undef,undef,undef,undef,undef,undef,undef,_] H (aF (Z0 rfl (Rm rfl)) (Z1 0 28 rfl (Rc rfl)) (Z1 1 29 rfl (Rm rfl)) (aO 2 (aN c0) rfl rfl) (aF (aO 2 (aN c0) rfl rfl) (aO 2 (aN c0) rfl rfl) (aO 2 (aN c0) rfl rfl) (aO 2 (aN c0) rfl rfl) (aF (aO 2 (aN c0) rfl rfl) (aO 2 (aN c0) rfl rfl) (aO 2 (aN c0) rfl rfl) (aO 2 (aN c0) rfl rfl) (aW (Z2 2 30 11 39 rfl (Pf (aN c0) rfl)) (aW (bS rfl) cZ))))) ?_
   clear H;intro a w G pW H hv;have H:=H.aV (hv 12 40 rfl rfl) rfl;clear hv;refine t1 4 H ?_;clear H
   have q1:¬ (0 < (k:Int)∧l[k].key=pk):=by first|exact fun h=>c1 h.2|exact fun h=>c0 h.1
   intro a H;rw [ah (fun h=>q1 (by
    by_cases h0:0 < k
    ·rw [(hpk h0).2] at h
     injection h with h
     exact ⟨by omega,h.symm⟩
    rw [Rh (by omega)] at h
    cases h))] at heq
   refine dI hmx [[],[0],[0,1],[0,1,2],(ra 0 4),[0,1,2],[0,1,2],[0,1,2,6],[0,1,2,5,6,7],[0,1,2,5,6,7,8],[0,1,2,5,6,7,8,9],(ra 0 11),(ra 0 12),(ra 0 13)] [13] (by kernel_rfl) [_,_,_,undef,undef,undef,undef,undef,undef,undef,undef,undef,_] H (aF (Z0 rfl (Rm rfl)) (Z1 0 42 rfl (Rc rfl)) (Z1 1 43 rfl (Rm rfl)) (aO 2 (aN c0) rfl rfl) (aF (aO 2 (aN c0) rfl rfl) (aO 2 (aN c0) rfl rfl) (aO 2 (aN c0) rfl rfl) (aO 2 (aN c0) rfl rfl) (aF (aO 2 (aN c0) rfl rfl) (aO 2 (aN c0) rfl rfl) (aO 2 (aN c0) rfl rfl) (aO 2 (aN c0) rfl rfl) (aW (Z2 2 44 11 53 rfl (Pf (aN c0) rfl)) (aW (bS rfl) cZ))))) ?_
   clear H;intro a w G nV H hv;have H:=H.aV (hv 12 54 rfl rfl) rfl;clear hv;refine t1 3 H ?_;clear H;intro a H;refine iE ?_;refine ⟨_,sB,?_⟩
   have q2:¬ (0 < (k:Int)∧l[k].key < pk):=by first|exact fun h=>c3 h.2|exact fun h=>c0 h.1
   rw [ah (fun h=>q2 (by
    by_cases h0:0 < k
    ·rw [(hpk h0).2] at h;exact ⟨by omega,lQ h⟩
    rw [Rh (by omega)] at h
    cases h))] at heq
   exact ⟨heq,fun b o h=>nV b o (pW b o (H8 b o h))⟩
  clear H;intro g2 a w hI H;obtain ⟨heq,jI⟩:=hI;replace hrow:=fun j u hj=>aD jI (hrow j u hj);dsimp only [lca,aQ] at H;refine dG 5 H ?_;clear H;intro a H;refine s_call GU H wn rfl (GK _ _ H.ro l[k].key l[k].value) rfl ?_;clear H;rintro v59 G59 a w rfl aoN H;refine eO 6 H ?_ ?_ <;> clear H
  ·intro p61
   refine aJ 4 ?_
   first
    | exact (aB vi (by rw [ah (by simpa using p61)] at heq;rw [gY,ah (by omega)];exact heq))
    | exact (aB vi (by rw [au (by simpa using h21)] at heq;rw [gY,ah (by omega)];exact heq))
    | exact (aB vi (by rw [gY,ah (by omega)];exact heq))
    | exact (aB vi (by rw [gY,ah (by omega),← heq,show l.drop k=[] from eX (by omega)];rfl))
    | exact (aB vi (by rw [gY,au (by omega)]))
  intro p61
  refine aj 4 ?_;intro a H;refine aI ?_;refine bR ((k+1,G59)) (by exact (H.bY (Pl:=[_]) (bT:=[]) [] (by decide) rfl).sub ⟨rfl,rfl,rfl,rfl,rfl,aY⟩) ?_ ?_
  ·(try dsimp only);exact ⟨by omega,by rw [au (by simpa using p61)] at heq;exact heq,fun b o h=>aoN b o (jI b o (hgm b o h))⟩
  first|omega|(dsimp only;omega)
 intro kF
 refine aJ 4 ?_
 first
  | exact (aB vi (by rw [ah (by simpa using p61)] at heq;rw [gY,ah (by omega)];exact heq))
  | exact (aB vi (by rw [au (by simpa using h21)] at heq;rw [gY,ah (by omega)];exact heq))
  | exact (aB vi (by rw [gY,ah (by omega)];exact heq))
  | exact (aB vi (by rw [gY,ah (by omega),← heq,show l.drop k=[] from eX (by omega)];rfl))
  | exact (aB vi (by rw [gY,au (by omega)]))
end
section
open Go.RowKit
instance iN:Ty prog 42 1 8 [.int .i64 0] false:=⟨by kernel_rfl,by kernel_rfl⟩
theorem rQ:prog.underlying 195=some (.slice 42):=by kernel_rfl
instance:kR prog 195 (.slice 42):=⟨rQ⟩
theorem yU:∀ args w,(callFunc 134 args).run prog w=.ok (.enter 134 args) w:=enters func134 rfl (by kernel_rfl)
theorem zl (G:GH) (w0:World) (hG:Hold G w0) (n l h:Int):Calls prog 134 #[vi n,vi l,vi h] w0 (bB w0 G fun u G'=>u=.bool (decide (l≤n∧n≤h))∧G=G'):=by
 refine eN [(0,_),(1,_),(2,_)] func134 rfl ntmps134 rfl rfl hG ?_;refine gV 8 10 ?_ ?_
 ·intro kE
  refine aJ 6 ?_;exact ⟨dJ (by first|(simp_all;done)|(simp_all;omega)),rfl⟩
 intro kE
 refine aJ 6 ?_;exact ⟨dJ (by first|(simp_all;done)|(simp_all;omega)),rfl⟩
def bK (b:Bool) (e:Int):Int:=if b=true then e else 0
theorem jK (G:GH) (w0:World) (hG:Hold G w0) (b:Bool) (e:Int):Calls prog 47 #[.bool b,vi e] w0 (bB w0 G fun u G'=>u=vi (bK b e)∧G=G'):=by
 refine eN [(0,_),(1,_)] func47 rfl ntmps47 rfl rfl hG ?_;refine goB 7 ?_ ?_
 ·intro p5
  refine aJ 4 ?_;exact ⟨aB vi (by simp_all [bK]),rfl⟩
 intro p5
 refine aJ 4 ?_;exact ⟨aB vi (by simp_all [bK]),rfl⟩
def bP:List Int→Int
 | []=>0
 | e :: r=>if e≠0 then e else bP r
theorem O9 {l:List Int} {k:Nat} (h:k < l.length):bP (l.drop k)=if l[k]≠0 then l[k] else bP (l.drop (k+1)):=by
 rw [jy h,bP]
theorem sw (G:GH) (w0:World) (hG:Hold G w0) (l:List Int) (v:ak) (hv:ay G (.sl 1 (l.map fun k=>[li k])) v) :
  Calls prog 72 #[v] w0 (bB w0 G fun u G'=>u=vi (bP l)∧G=G'):=by
 obtain ⟨A,c,rfl,hc1,hc2,hg⟩:=hv.slice;have hml:maxLen=9223372036854775807:=rfl;rw [bE] at *;refine eN [(0,_)] func72 rfl ntmps72 rfl rfl hG ?_;refine aj 10 ?_;intro a H;refine dD (ι:=Nat) (Tc:=[(5,_),(6,_)]) (Lc:=[]) (fun gh=>[(7,vi gh)]) (fun gh=>[]) (fun gh=>G) (fun gh=>gh≤l.length∧bP (l.drop gh)=bP l) (fun gh=>l.length - gh) (0) sB ?_ ?_
 ·exact ⟨eG _,rfl⟩
 clear H;intro k a w hI H;obtain ⟨hk,he⟩:=hI;dsimp only [lca,aQ] at H;refine cK 4 H ?_ ?_ <;> clear H
 ·intro p8
  have hk2:k < l.length:=by omega
  obtain ⟨b,o,cs,rfl,hcl,hrow,hr⟩:=hg k [li l[k]] (by simp [hk2]);obtain ⟨v1,_,rfl,⟨rfl,-⟩,rfl⟩:∃ v vs,cs=v :: vs∧ay G (li l[k]) v∧aZ G [] vs:=hr
  have hcell:aC G b (o+k*1)=some (vi l[k]):=by simpa using hrow 0 _ rfl
  refine goB 12 ?_ ?_
  ·intro lu
   refine aJ 4 ?_;exact ⟨aB vi (by rw [O9 hk2,au lu] at he;exact he),rfl⟩
  intro lu
  refine aj 4 ?_;intro a H;refine aI ?_;refine bR ((k+1)) sB ?_ ?_
  ·exact ⟨by omega,by rw [O9 hk2,ah lu] at he;exact he⟩
  first|omega|(dsimp only;omega)
 intro p8
 refine aJ 4 ?_;exact ⟨aB vi (by rw [eX (by omega)] at he;exact he),rfl⟩
def vk (fv:ak) (Gi:GH) (n:Nat) (E:Nat→Int):Prop:=∀ i,i < n→∀ (G1:GH) (w1:World),(∀ b o,Gi b=some o→G1 b=some o)→Hold G1 w1→wD prog fv [vi i] w1 (bB w1 G1 fun u G'=>u=vi (E i))
theorem vk.mono {fv:ak} {G G':GH} {n:Nat} {E:Nat→Int} (h:vk fv G n E) (hm:∀ b o,G b=some o→G' b=some o):vk fv G' n E:=fun i hi G1 w1 hG1=>h i hi G1 w1 fun b o hb=>hG1 b o (hm b o hb)
def fV (E:Nat→Int) (n:Nat):Int:=bP ((List.range n).map E)
theorem qp {E:Nat→Int} {n k:Nat} (h:k < n):bP (((List.range n).map E).drop k)=if E k≠0 then E k else bP (((List.range n).map E).drop (k+1)):=by
 rw [O9 (by simpa using h)];simp
theorem LA (G:GH) (w0:World) (hG:Hold G w0) (n:Nat) (E:Nat→Int) (fv:ak) (hn:n≤4611686018427387904) (hf:vk fv G n E) :
  Calls prog 101 #[vi n,fv] w0 (bB w0 G fun u G'=>u=vi (fV E n)):=by
 refine eN [(0,_),(1,_)] func101 rfl ntmps101 rfl rfl hG ?_;refine aj 9 ?_;intro a H;refine dD (ι:=Nat × GH) (Tc:=[(1,_),(7,_)]) (Lc:=[]) (fun gh=>[(8,vi gh.1)]) (fun gh=>[]) (fun gh=>gh.2) (fun gh=>gh.1≤n∧bP (((List.range n).map E).drop gh.1)=fV E n∧(∀ b o,G b=some o→gh.2 b=some o)) (fun gh=>n - gh.1) ((0,G)) sB ?_ ?_
 ·exact ⟨eG _,rfl,fun _ _ h=>h⟩
 clear H;rintro ⟨k,g⟩ a w hI H;dsimp only at hI H;obtain ⟨hk,he,hgm⟩:=hI;dsimp only [lca,aQ] at H;refine cK 4 H ?_ ?_ <;> clear H
 ·intro p9
  have hk2:k < n:=by omega
  refine aj 10 ?_;intro a H;refine nZ H wn rfl rfl (hf k hk2 _ _ hgm H.ro) rfl ?_;clear H;rintro v13 oh a w rfl kV H;refine eO 6 H ?_ ?_ <;> clear H
  ·intro mE
   refine aJ 4 ?_;exact (aB vi (by rw [qp hk2,au mE] at he;exact he))
  intro mE
  refine aj 4 ?_;intro a H;refine aI ?_;refine bR ((k+1,oh)) sB ?_ ?_
  ·(try dsimp only);exact ⟨by omega,by rw [qp hk2,ah mE] at he;exact he,fun b o h=>kV b o (hgm b o h)⟩
  first|omega|(dsimp only;omega)
 intro p9
 refine aJ 4 ?_;exact (aB vi (by rw [eX (by simp;omega)] at he;exact he))
def jJ (id:Nat→Int) (i:Nat):Int:=if ¬ (1≤id i∧id i≤1073741824) then 18 else if 0 < i∧id i=id (i - 1) then 7 else if 0 < i∧id i < id (i - 1) then 6 else 0
theorem Ws (G:GH) (w0:World) (hG:Hold G w0) (i:Nat) (id:Nat→Int) (fv:ak) (hn:i≤4611686018427387904) (hf:vk fv G (i+1) id) :
  Calls prog 131 #[vi i,fv] w0 (bB w0 G fun u G'=>u=vi (jJ id i)):=by
 refine eN [(0,_),(1,_)] func131 rfl ntmps131 rfl rfl hG ?_;intro a H;refine kP H (SQ fun _ K1=>SC (jP K1 rfl (SQ fun _ K2=>SB (SQ fun _ K3=>SC (Rm rfl (Rm rfl ?_))))));clear H K1;intro a H;refine nZ H wn rfl rfl (hf i (Nat.lt_succ_self _) _ _ (fun _ _ h=>h) H.ro) rfl ?_;clear H;rintro v8 G8 a w rfl sK H;refine s_call yU H wn rfl (zl _ _ H.ro (id i) 1 1073741824) rfl ?_;clear H;rintro v9 _ a w ⟨rfl,rfl⟩ - H;refine kH H (Rn rfl (jP K3 rfl (Cd rfl ?_ ?_))) <;> clear H K3
 ·intro h5 a H
  try have p5:=dT h5
  refine kP H (SQ fun _ K4=>SC (jP K4 rfl ?_));clear H K4;intro a H;refine lr H results131 rfl ?_
  exact H.rt (aB vi (by unfold jJ;(repeat' split) <;> first|rfl|(exfalso;simp_all;done)|(exfalso;simp_all;omega)))
 intro h5 a H
 try have p5:=dF h5
 refine kP H (SQ fun _ K5=>SC (Rm rfl (Rc rfl (Rm rfl (Sp 14 rfl ?_ ?_))))) <;> clear H
 ·intro qV a H
  try have kM:=dT qV
  refine kH H (YM qV rfl (YM qV rfl ?_));clear H;intro a H;refine nZ H (wg H rfl rfl qV) rfl rfl (hf i (Nat.lt_succ_self _) _ _ sK H.ro) rfl ?_;clear H;rintro v17 Al a w rfl nJ H;refine kH H (YM qV rfl (YM qV rfl ?_));clear H;intro a H;refine lC _ H (wg H rfl rfl qV) rfl rfl rfl (by omega) (by omega) rfl ?_;clear H;intro a H;rw [show ((i:Int) - 1)=((i - 1:Nat):Int) by omega] at H;refine nZ H (wg H rfl rfl qV) rfl rfl (hf (i - 1) (by omega) _ _ (fun b o h=>nJ b o (sK b o h)) H.ro) rfl ?_;clear H;rintro v21 Sy a w rfl D5 H;refine kH H (YC qV rfl (Pt qV rfl (jP K5 rfl (Cd rfl ?_ ?_)))) <;> clear H K5
  ·intro h11 a H
   try have qg:=dT h11
   refine kP H (SQ fun _ K6=>SC (jP K6 rfl ?_));clear H K6;intro a H;refine lr H results131 rfl ?_
   exact H.rt (aB vi (by unfold jJ;(repeat' split) <;> first|rfl|(exfalso;simp_all;done)|(exfalso;simp_all;omega)))
  intro h11 a H
  try have qg:=dF h11
  refine kP H (SQ fun _ K7=>SC (Rm rfl (Rc rfl (Rm rfl (Sp 27 rfl ?_ ?_))))) <;> clear H
  ·intro h27 a H
   try have p27:=dT h27
   refine kH H (YM h27 rfl (YM h27 rfl ?_));clear H;intro a H;refine nZ H (wg H rfl rfl h27) rfl rfl (hf i (Nat.lt_succ_self _) _ _ (fun b o h=>by first|exact D5 b o (nJ b o (sK b o h))|(exfalso;omega)) H.ro) rfl ?_;clear H;rintro v30 Da a w rfl Fe H;refine kH H (YM h27 rfl (YM h27 rfl ?_));clear H;intro a H;refine lC _ H (wg H rfl rfl h27) rfl rfl rfl (by omega) (by omega) rfl ?_;clear H;intro a H;rw [show ((i:Int) - 1)=((i - 1:Nat):Int) by omega] at H;refine nZ H (wg H rfl rfl h27) rfl rfl (hf (i - 1) (by omega) _ _ (fun b o h=>by first|exact Fe b o (D5 b o (nJ b o (sK b o h)))|(exfalso;omega)) H.ro) rfl ?_;clear H;rintro v34 KL a w rfl Qg H;refine kH H (YC h27 rfl (Pt h27 rfl (jP K7 rfl (Cd rfl ?_ ?_)))) <;> clear H K7
   ·intro kT a H
    try have kN:=dT kT
    refine kP H (SQ fun _ K8=>SC (jP K8 rfl ?_));clear H K8;intro a H;refine lr H results131 rfl ?_
    exact H.rt (aB vi (by unfold jJ;(repeat' split) <;> first|rfl|(exfalso;simp_all;done)|(exfalso;simp_all;omega)))
   intro kT a H
   try have kN:=dF kT
   refine kP H (Kc K2 (SQ fun _ K9=>SC (jP K9 rfl ?_)));clear H K2 K9;intro a H;refine lr H results131 rfl ?_
   exact H.rt (aB vi (by unfold jJ;(repeat' split) <;> first|rfl|(exfalso;simp_all;done)|(exfalso;simp_all;omega)))
  intro h27 a H
  try have p27:=dF h27
  refine kH H (zM h27 rfl (zM h27 rfl (Db h27 rfl (Pf h27 rfl (jP K7 rfl (Cf rfl rfl (Kc K2 (SQ fun _ Ao=>SC (jP Ao rfl ?_)))))))));clear H K7 K2 Ao;intro a H;refine lr H results131 rfl ?_
  exact H.rt (aB vi (by unfold jJ;(repeat' split) <;> first|rfl|(exfalso;simp_all;done)|(exfalso;simp_all;omega)))
 intro qV a H
 try have kM:=dF qV
 refine kH H (zM qV rfl (zM qV rfl (Db qV rfl (Pf qV rfl (jP K5 rfl (Cf rfl rfl (SQ fun _ wF=>SC (Rm rfl (Rc rfl (Rm rfl (Sp 27 rfl ?_ ?_))))))))))) <;> clear H K5
 ·intro h27 a H
  try have p27:=dT h27
  refine kH H (YM h27 rfl (YM h27 rfl ?_));clear H;intro a H;refine nZ H (wg H rfl rfl h27) rfl rfl (hf i (Nat.lt_succ_self _) _ _ (fun b o h=>by first|exact D5 b o (nJ b o (sK b o h))|(exfalso;omega)) H.ro) rfl ?_;clear H;rintro v30 Da a w rfl Fe H;refine kH H (YM h27 rfl (YM h27 rfl ?_));clear H;intro a H;refine lC _ H (wg H rfl rfl h27) rfl rfl rfl (by omega) (by omega) rfl ?_;clear H;intro a H;rw [show ((i:Int) - 1)=((i - 1:Nat):Int) by omega] at H;refine nZ H (wg H rfl rfl h27) rfl rfl (hf (i - 1) (by omega) _ _ (fun b o h=>by first|exact Fe b o (D5 b o (nJ b o (sK b o h)))|(exfalso;omega)) H.ro) rfl ?_;clear H;rintro v34 KL a w rfl Qg H;refine kH H (YC h27 rfl (Pt h27 rfl (jP wF rfl (Cd rfl ?_ ?_)))) <;> clear H wF
  ·intro kT a H
   try have kN:=dT kT
   refine kP H (SQ fun _ zL=>SC (jP zL rfl ?_));clear H zL;intro a H;refine lr H results131 rfl ?_
   exact H.rt (aB vi (by unfold jJ;(repeat' split) <;> first|rfl|(exfalso;simp_all;done)|(exfalso;simp_all;omega)))
  intro kT a H
  try have kN:=dF kT
  refine kP H (Kc K2 (SQ fun _ KR=>SC (jP KR rfl ?_)));clear H K2 KR;intro a H;refine lr H results131 rfl ?_
  exact H.rt (aB vi (by unfold jJ;(repeat' split) <;> first|rfl|(exfalso;simp_all;done)|(exfalso;simp_all;omega)))
 intro h27 a H
 try have p27:=dF h27
 refine kH H (zM h27 rfl (zM h27 rfl (Db h27 rfl (Pf h27 rfl (jP wF rfl (Cf rfl rfl (Kc K2 (SQ fun _ KS=>SC (jP KS rfl ?_)))))))));clear H wF K2 KS;intro a H;refine lr H results131 rfl ?_
 exact H.rt (aB vi (by unfold jJ;(repeat' split) <;> first|rfl|(exfalso;simp_all;done)|(exfalso;simp_all;omega)))
end
section
open Go.RowKit
theorem jF:∀ args w,(callFunc 47 args).run prog w=.ok (.enter 47 args) w:=enters func47 rfl (by kernel_rfl)
theorem sj:∀ args w,(callFunc 72 args).run prog w=.ok (.enter 72 args) w:=enters func72 rfl (by kernel_rfl)
def oq (s:ByteArray):Bool:=decide (1≤s.size∧s.size≤40) && mX s
theorem Zg (G:GH) (w0:World) (hG:Hold G w0) (s:ByteArray) (hs:s.size < 4611686018427387904):Calls prog 133 #[.string s] w0 (bB w0 G fun u G'=>u=.bool (oq s)∧G=G'):=by
 refine eN [(0,_)] func133 rfl ntmps133 rfl rfl hG ?_;refine iV 8 6 ?_ ?_
 ·intro h6
  try have p6:=dT h6
  refine aj 1 ?_;intro a H;refine Bt jl H (wg H rfl rfl h6) rfl rfl ?_;clear H;refine iV 3 11 ?_ ?_
  ·intro h11
   try have qg:=dT h11
   refine aj 1 ?_;intro a H;refine s_call ER H (wg H rfl rfl h11) rfl (FU _ _ H.ro s hs) rfl ?_;clear H;rintro v13 _ a w ⟨rfl,rfl⟩ - H;refine gK 3 H ?_;exact ⟨dJ (by unfold oq;first|(simp_all;done)|(simp_all;omega)),rfl⟩
  intro h11
  try have qg:=dF h11
  refine aJ 5 ?_;exact ⟨dJ (by unfold oq;first|(simp_all;done)|(simp_all;omega)),rfl⟩
 intro h6
 try have p6:=dF h6
 refine aJ 10 ?_;exact ⟨dJ (by unfold oq;first|(simp_all;done)|(simp_all;omega)),rfl⟩
theorem Zf (G:GH) (w0:World) (hG:Hold G w0) (s:ByteArray) (hs:s.size < 4611686018427387904):Calls prog 42 #[.string s] w0 (bB w0 G fun u G'=>u=.bool (oq s)∧G=G'):=by
 refine eN [(0,_)] func42 rfl ntmps42 rfl rfl hG ?_;refine aj 5 ?_;intro a H;refine s_call ER H wn rfl (FU _ _ H.ro s hs) rfl ?_;clear H;rintro v4 _ a w ⟨rfl,rfl⟩ - H;refine jA 1 5 H ?_ ?_ <;> clear H
 ·intro h5
  try have p5:=dT h5
  refine aj 1 ?_;intro a H;refine Bt jl H (wg H rfl rfl h5) rfl rfl ?_;clear H;refine iV 3 10 ?_ ?_
  ·intro h10
   try have kE:=dT h10
   refine aj 1 ?_;intro a H;refine Bt jl H (wg H rfl rfl h10) rfl rfl ?_;clear H;refine aj 4 ?_;intro a H;refine lr H results42 rfl ?_;refine H.rt ⟨dJ ?_,rfl⟩
   unfold oq
   cases hvs:mX s <;> simp_all
   all_goals (first|omega|(rw [lq];simp;omega))
  intro h10
  try have kE:=dF h10
  refine aj 6 ?_;intro a H;refine lr H results42 rfl ?_;refine H.rt ⟨dJ ?_,rfl⟩
  unfold oq
  cases hvs:mX s <;> simp_all
  all_goals (first|omega|(rw [lq];simp;omega))
 intro h5
 try have p5:=dF h5
 refine aj 11 ?_;intro a H;refine lr H results42 rfl ?_;refine H.rt ⟨dJ ?_,rfl⟩
 unfold oq
 cases hvs:mX s <;> simp_all
 all_goals (first|omega|(rw [lq];simp;omega))
def sP (s:ByteArray):Int:=bP [bK (!mX s) 12,bK (decide (1024 < (s.size:Int))) 10]
theorem Ae {G:GH} {b:Nat} {x y:Int} (h:G b=some (.cells #[vi x,vi y] 42 (0,0))):ay G (.sl 1 ([x,y].map fun k=>[li k])) (.slice (some ⟨b,0,none⟩) 2 2) :=
 ay.eT (n:=2) (cap:=2) h rfl (bX _) (show 2≤maxLen by decide) (iL (bX _)) (fG G [x,y])
theorem XV (G:GH) (w0:World) (hG:Hold G w0) (s:ByteArray) (hs:s.size < 4611686018427387904):Calls prog 190 #[.string s] w0 (bB w0 G fun u G'=>u=vi (sP s)):=by
 refine eN [(0,_)] func190 rfl ntmps190 rfl rfl hG ?_;refine aj 5 ?_;intro a H;refine s_call ER H wn rfl (FU _ _ H.ro s hs) rfl ?_;clear H;rintro v4 _ a w ⟨rfl,rfl⟩ - H;refine aH 1 H ?_;clear H;intro a H;refine s_call jF H wn rfl (jK _ _ H.ro _ 12) rfl ?_;clear H;rintro v6 _ a w ⟨rfl,rfl⟩ - H;refine aH 3 H ?_;clear H;intro a H;refine s_call jF H wn rfl (jK _ _ H.ro _ 10) rfl ?_;clear H;rintro v10 _ a w ⟨rfl,rfl⟩ - H;refine iy rQ iN [_,_] [_,_] H wn rfl rfl rfl rfl rfl (by intro i q h;match i,h with|0,h=>exact h|1,h=>exact h|n+2,h=>simp at h) rfl rfl ?_;clear H;intro b11 a w Hu H;obtain ⟨qM,DZ,JD,H⟩:=H.dS;refine s_call sj H wn rfl (sw _ _ H.ro _ _ (Ae JD)) rfl ?_;clear H;rintro v12 _ a w ⟨rfl,rfl⟩ - H;refine gK 2 H ?_;exact rfl
theorem afz (G:GH) (w0:World) (hG:Hold G w0) (s:ByteArray) (hs:s.size < 4611686018427387904):Calls prog 92 #[.string s] w0 (bB w0 G fun u G'=>u=vi (sP s)∧G=G'):=by
 refine eN [(0,_)] func92 rfl ntmps92 rfl rfl hG ?_;refine aj 7 ?_;intro a H;refine s_call ER H wn rfl (FU _ _ H.ro s hs) rfl ?_;clear H;rintro v5 _ a w ⟨rfl,rfl⟩ - H;refine eO 3 H ?_ ?_ <;> clear H
 ·intro p3
  refine aJ 3 ?_;exact ⟨aB vi (by unfold sP;simp_all [bP,bK]),rfl⟩
 intro p3
 refine goB 6 ?_ ?_
 ·intro p7
  refine aJ 3 ?_;exact ⟨aB vi (by unfold sP;simp_all [bP,bK]),rfl⟩
 intro p7
 refine aJ 4 ?_;exact ⟨aB vi (by unfold sP;simp_all [bP,bK]),rfl⟩
def xq (id before:Int) (fst:Bool):Int:=if id < 1∨1073741824 < id then 18 else if fst=false∧id=before then 7 else if fst=false∧id < before then 6 else 0
theorem Wq (G:GH) (w0:World) (hG:Hold G w0) (id before:Int) (fst:Bool):Calls prog 41 #[vi id,vi before,.bool fst] w0 (bB w0 G fun u G'=>u=vi (xq id before fst)∧G=G'):=by
 refine eN [(0,_),(1,_),(2,_)] func41 rfl ntmps41 rfl rfl hG ?_;intro a H;refine kP H (SQ fun _ K1=>SC (jP K1 rfl (SQ fun _ K2=>SB (SQ fun _ K3=>SC (Rm rfl (Rc rfl (Rm rfl (Sp 10 rfl ?_ ?_)))))))) <;> clear H K1
 ·intro h10 a H
  try have kE:=dT h10
  refine kH H (Db h10 rfl (Pt h10 rfl (jP K3 rfl (Ct rfl rfl (SQ fun _ K4=>SC (jP K4 rfl ?_))))));clear H K3 K4;intro a H;refine lr H results41 rfl ?_
  exact H.rt ⟨aB vi (by unfold xq;(repeat' split) <;> first|rfl|(exfalso;simp_all;done)|(exfalso;simp_all;omega)),rfl⟩
 intro h10 a H
 try have kE:=dF h10
 refine kH H (YM h10 rfl (YC h10 rfl (Pf h10 rfl (jP K3 rfl (Cd rfl ?_ ?_))))) <;> clear H K3
 ·intro h7 a H
  try have p7:=dT h7
  refine kP H (SQ fun _ K5=>SC (jP K5 rfl ?_));clear H K5;intro a H;refine lr H results41 rfl ?_
  exact H.rt ⟨aB vi (by unfold xq;(repeat' split) <;> first|rfl|(exfalso;simp_all;done)|(exfalso;simp_all;omega)),rfl⟩
 intro h7 a H
 try have p7:=dF h7
 refine kP H (SQ fun _ K6=>SC (Rm rfl (Rn rfl (Rm rfl (Sp 17 rfl ?_ ?_))))) <;> clear H
 ·intro jd a H
  try have kF:=dT jd
  refine kH H (YM jd rfl (YM jd rfl (YC jd rfl (Pt jd rfl (jP K6 rfl (Cd rfl ?_ ?_)))))) <;> clear H K6
  ·intro qV a H
   try have kM:=dT qV
   refine kP H (SQ fun _ K7=>SC (jP K7 rfl ?_));clear H K7;intro a H;refine lr H results41 rfl ?_
   exact H.rt ⟨aB vi (by unfold xq;(repeat' split) <;> first|rfl|(exfalso;simp_all;done)|(exfalso;simp_all;omega)),rfl⟩
  intro qV a H
  try have kM:=dF qV
  refine kP H (SQ fun _ K8=>SC (Rm rfl (Rn rfl (Rm rfl (Sp 25 rfl ?_ ?_))))) <;> clear H
  ·intro ou a H
   try have p25:=dT ou
   refine kH H (YM ou rfl (YM ou rfl (YC ou rfl (Pt ou rfl (jP K8 rfl (Cd rfl ?_ ?_)))))) <;> clear H K8
   ·intro h22 a H
    try have iT:=dT h22
    refine kP H (SQ fun _ K9=>SC (jP K9 rfl ?_));clear H K9;intro a H;refine lr H results41 rfl ?_
    exact H.rt ⟨aB vi (by unfold xq;(repeat' split) <;> first|rfl|(exfalso;simp_all;done)|(exfalso;simp_all;omega)),rfl⟩
   intro h22 a H
   try have iT:=dF h22
   refine kP H (Kc K2 (SQ fun _ Ao=>SC (jP Ao rfl ?_)));clear H K2 Ao;intro a H;refine lr H results41 rfl ?_
   exact H.rt ⟨aB vi (by unfold xq;(repeat' split) <;> first|rfl|(exfalso;simp_all;done)|(exfalso;simp_all;omega)),rfl⟩
  intro ou a H
  try have p25:=dF ou
  refine kH H (zM ou rfl (Pf ou rfl (jP K8 rfl (Cf rfl rfl (Kc K2 (SQ fun _ wF=>SC (jP wF rfl ?_)))))));clear H K8 K2 wF;intro a H;refine lr H results41 rfl ?_
  exact H.rt ⟨aB vi (by unfold xq;(repeat' split) <;> first|rfl|(exfalso;simp_all;done)|(exfalso;simp_all;omega)),rfl⟩
 intro jd a H
 try have kF:=dF jd
 refine kH H (zM jd rfl (Pf jd rfl (jP K6 rfl (Cf rfl rfl (SQ fun _ zL=>SC (Rm rfl (Rn rfl (Rm rfl (Sp 25 rfl ?_ ?_))))))))) <;> clear H K6
 ·intro ou a H
  try have p25:=dT ou
  refine kH H (YM ou rfl (YM ou rfl (YC ou rfl (Pt ou rfl (jP zL rfl (Cd rfl ?_ ?_)))))) <;> clear H zL
  ·intro h22 a H
   try have iT:=dT h22
   refine kP H (SQ fun _ KR=>SC (jP KR rfl ?_));clear H KR;intro a H;refine lr H results41 rfl ?_
   exact H.rt ⟨aB vi (by unfold xq;(repeat' split) <;> first|rfl|(exfalso;simp_all;done)|(exfalso;simp_all;omega)),rfl⟩
  intro h22 a H
  try have iT:=dF h22
  refine kP H (Kc K2 (SQ fun _ KS=>SC (jP KS rfl ?_)));clear H K2 KS;intro a H;refine lr H results41 rfl ?_
  exact H.rt ⟨aB vi (by unfold xq;(repeat' split) <;> first|rfl|(exfalso;simp_all;done)|(exfalso;simp_all;omega)),rfl⟩
 intro ou a H
 try have p25:=dF ou
 refine kH H (zM ou rfl (Pf ou rfl (jP zL rfl (Cf rfl rfl (Kc K2 (SQ fun _ Y0=>SC (jP Y0 rfl ?_)))))));clear H zL K2 Y0;intro a H;refine lr H results41 rfl ?_
 exact H.rt ⟨aB vi (by unfold xq;(repeat' split) <;> first|rfl|(exfalso;simp_all;done)|(exfalso;simp_all;omega)),rfl⟩
theorem Wp (id:Nat→Int) (i:Nat):xq (id i) (id (i - 1)) (decide (i=0))=jJ id i:=by
 unfold xq jJ
 (repeat' split) <;> first|rfl|(exfalso;simp_all;done)|(exfalso;simp_all;omega)
def QO (c:Int):Bool:=decide (97≤xS .or .u8 c 32) && decide (xS .or .u8 c 32≤122)
def IC (c:Int):Bool:=(decide (48≤c) && decide (c≤57)) || decide (c=45) || decide (c=95)
def CF (s:ByteArray) (k:Nat):Bool:=QO (gF s k) || (decide (k≠0) && IC (gF s k))
def oU (s:ByteArray):Bool:=decide (1≤s.size∧s.size≤40) && (List.range s.size).all (CF s)
theorem LP (G:GH) (w0:World) (hG:Hold G w0) (s:ByteArray) (hs:s.size < 4611686018427387904):Calls prog 93 #[.string s] w0 (bB w0 G fun u G'=>u=.bool (oU s)∧G=G'):=by
 refine eN [(0,_)] func93 rfl ntmps93 rfl rfl hG ?_;refine iV 9 10 ?_ ?_
 ·intro h10
  try have kE:=dT h10
  refine aJ 9 ?_;exact ⟨dJ (by unfold oU;rw [gD (by omega)];rfl),rfl⟩
 intro h10
 try have kE:=dF h10
 refine aj 1 ?_;intro a H;refine Bt jl H (wg H rfl rfl h10) rfl rfl ?_;clear H;refine goB 3 ?_ ?_
 ·intro kM
  refine aJ 3 ?_;exact ⟨dJ (by unfold oU;rw [gD (by omega)];rfl),rfl⟩
 intro kM
 refine aj 8 ?_;intro a H;refine dD (ι:=Nat) (Tc:=[(0,_),(16,_)]) (Lc:=[]) (fun gh=>[(17,vi gh)]) (fun gh=>[]) (fun gh=>G) (fun gh=>gh≤s.size∧(List.range gh).all (CF s)=true) (fun gh=>s.size - gh) (0) sB ?_ ?_
 ·exact ⟨eG _,rfl⟩
 clear H;intro k a w hI H;obtain ⟨hk,hall⟩:=hI;dsimp only [lca,aQ] at H;refine cK 4 H ?_ ?_ <;> clear H
 ·intro nM
  have hk2:k < s.size:=by omega
  refine aj 10 ?_;intro a H;refine qj k jl H wn rfl rfl rfl (by omega) rfl ?_;clear H;intro a H;rw [← lS] at H;refine RB rfl H wn rfl rfl rfl ?_;clear H;refine aj 2 ?_;intro a H;refine oQ (ι:=Bool) (Tc:=[(0,_),(3,_),(16,_),(17,_)]) (Lc:=[]) (fun gh=>[(5,.bool gh)]) (fun gh=>[]) (fun gh=>G) (fun gh=>gh=QO (gF s k)) sB ?_ ?_
  ·refine wT 4 26 H ?_ ?_ <;> clear H
   ·intro p26
    refine aj 4 ?_;intro a H;refine aI ?_;refine ⟨_,sB,?_⟩
    unfold QO;first|(simp_all;done)|(simp_all;omega)
   intro p26
   refine aj 4 ?_;intro a H;refine aI ?_;refine ⟨_,sB,?_⟩
   unfold QO;first|(simp_all;done)|(simp_all;omega)
  clear H;intro lt a w hI H;have hlt:=hI;dsimp only [lca,aQ] at H;refine oQ (ι:=Bool) (Tc:=[(0,_),(3,_),(5,_),(16,_),(17,_)]) (Lc:=[]) (fun gh=>[(6,.bool gh)]) (fun gh=>[]) (fun gh=>G) (fun gh=>gh=IC (gF s k)) sB ?_ ?_
  ·refine dG 3 H ?_;clear H;intro a H;refine qj k jl H wn rfl rfl rfl (by omega) rfl ?_;clear H;intro a H;rw [← lS] at H;refine jA 2 34 H ?_ ?_ <;> clear H
   ·intro xX
    try have p34:=dT xX
    refine aj 2 ?_;intro a H;refine qj k jl H (wg H rfl rfl xX) rfl rfl rfl (by omega) rfl ?_;clear H;intro a H;rw [← lS] at H;refine jA 3 40 H ?_ ?_ <;> clear H
    ·intro Cj
     try have p40:=dT Cj
     refine aj 12 ?_;intro a H;refine aI ?_;refine ⟨_,sB,?_⟩
     unfold IC;first|(simp_all;done)|(simp_all;omega)
    intro Cj
    try have p40:=dF Cj
    refine aj 2 ?_;intro a H;refine qj k jl H (wg H rfl rfl Cj) rfl rfl rfl (by omega) rfl ?_;clear H;intro a H;rw [← lS] at H;refine jA 3 46 H ?_ ?_ <;> clear H
    ·intro h46
     try have p46:=dT h46
     refine aj 6 ?_;intro a H;refine aI ?_;refine ⟨_,sB,?_⟩
     unfold IC;first|(simp_all;done)|(simp_all;omega)
    intro h46
    try have p46:=dF h46
    refine aj 2 ?_;intro a H;refine qj k jl H (wg H rfl rfl h46) rfl rfl rfl (by omega) rfl ?_;clear H;intro a H;rw [← lS] at H;refine aH 3 H ?_;clear H;intro a H;refine aI ?_;refine ⟨_,sB,?_⟩
    unfold IC;first|(simp_all;done)|(simp_all;omega)
   intro xX
   try have p34:=dF xX
   refine aj 6 ?_;intro a H;(iterate 2 refine FK H (wg H rfl rfl rfl) rfl rfl ?_;clear H;intro a H);refine qj k jl H (wg H rfl rfl rfl) rfl rfl rfl (by omega) rfl ?_;clear H;intro a H;rw [← lS] at H;refine Ej H (wg H rfl rfl rfl) rfl rfl rfl rfl ?_;clear H;refine iV 2 46 ?_ ?_
   ·intro h46
    try have p46:=dT h46
    refine aj 6 ?_;intro a H;refine aI ?_;refine ⟨_,sB,?_⟩
    unfold IC;first|(simp_all;done)|(simp_all;omega)
   intro h46
   try have p46:=dF h46
   refine aj 2 ?_;intro a H;refine qj k jl H (wg H rfl rfl h46) rfl rfl rfl (by omega) rfl ?_;clear H;intro a H;rw [← lS] at H;refine aH 3 H ?_;clear H;intro a H;refine aI ?_;refine ⟨_,sB,?_⟩
   unfold IC;first|(simp_all;done)|(simp_all;omega)
  clear H;intro ot a w hI H;have hot:=hI;dsimp only [lca,aQ] at H;refine wT 4 54 H ?_ ?_ <;> clear H
  ·intro p54
   refine gV 3 57 ?_ ?_
   ·intro p57
    refine aJ 9 ?_
    first
     | exact ⟨dJ (by
       unfold oU
       rw [show k=s.size by omega] at hall
       rw [hall,eZ (by omega)];rfl),rfl⟩
     | exact ⟨dJ (by
       unfold oU
       rw [show (List.range s.size).all (CF s)=false from List.all_eq_false.2 ⟨k,by simpa using hk2,by unfold CF;simp_all⟩,Bool.and_false]),rfl⟩
   intro p57
   refine goB 5 ?_ ?_
   ·intro p61
    refine aJ 3 ?_
    first
     | exact ⟨dJ (by
       unfold oU
       rw [show k=s.size by omega] at hall
       rw [hall,eZ (by omega)];rfl),rfl⟩
     | exact ⟨dJ (by
       unfold oU
       rw [show (List.range s.size).all (CF s)=false from List.all_eq_false.2 ⟨k,by simpa using hk2,by unfold CF;simp_all⟩,Bool.and_false]),rfl⟩
   intro p61
   refine aj 4 ?_;intro a H;refine aI ?_;refine bR ((k+1)) sB ?_ ?_
   ·exact ⟨by omega,by rw [List.range_succ,List.all_append,hall];simp [CF];simp_all⟩
   first|omega|(dsimp only;omega)
  intro p54
  refine aj 13 ?_;intro a H;refine aI ?_;refine bR ((k+1)) sB ?_ ?_
  ·exact ⟨by omega,by rw [List.range_succ,List.all_append,hall];simp [CF];simp_all⟩
  first|omega|(dsimp only;omega)
 intro nM
 refine aJ 4 ?_
 first
  | exact ⟨dJ (by
    unfold oU
    rw [show k=s.size by omega] at hall
    rw [hall,eZ (by omega)];rfl),rfl⟩
  | exact ⟨dJ (by
    unfold oU
    rw [show (List.range s.size).all (CF s)=false from List.all_eq_false.2 ⟨k,by simpa using hk2,by unfold CF;simp_all⟩,Bool.and_false]),rfl⟩
end
section
open Go.RowKit
section
variable {N:Nat} {D:List Deferred} {w0:World} {F:Nat→Prop} {G0 G:GH} {L:OL} {T:List (Nat × ak)}
variable {r:Option Nat} {P:Program} {ops:Array Oper} {Q:Exit→Act→World→Prop} {rest:List Oper} {a:Act} {w:World}
variable {d:Nat} {ty:TypeId} {pos:String} {aP:Array Edge} {g:Option (Nat × Bool)}
end
end
section
open Go.RowKit
section
variable {N:Nat} {D:List Deferred} {w0:World} {F:Nat→Prop} {G0 G:GH} {L:OL} {T T':List (Nat × ak)}
variable {r:Option Nat} {P:Program} {Q:Exit→Act→World→Prop} {l:List Oper} {a a':Act} {w w':World} {ε:Type}
def Jf (l:List Oper) (pr:ε→Nat→ak→Prop) (T:List (Nat × ak)) (S:Nat→Bool) (E:ε) (T':List (Nat × ak)):Prop :=
 (∀ t v,lk T t=some v→lk T' t=some v)∧∀ i d,S i=true→fH l i=some d→∃ v,lk T' d=some v∧pr E i v
theorem Jf.put {pr:ε→Nat→ak→Prop} {S:Nat→Bool} {E E':ε} {i d:Nat} {v:ak} (h:Jf l pr T S E T') (hok:aiU l T=true) (hi:fH l i=some d) (hv:pr E' i v) (hE:∀ j u,j≠i→pr E j u→pr E' j u):Jf l pr T (gy S i) E' ((d,v) :: T'):=by
 have hil:=BU hi
 have hok1:=mZ.1 hok i (vw.2 hil)
 rw [oV,hi] at hok1
 simp only [nk,Option.isNone_iff_eq_none,mZ,vw] at hok1
 refine ⟨fun t u ht=>?_,fun j e hj he=>?_⟩
 ·rw [xw (fun e=>by subst e;rw [hok1.1] at ht;cases ht)];exact h.1 t u ht
 ·by_cases hji:j=i
  ·subst hji;rw [hi] at he;cases he;exact ⟨v,yF _ _ _,hv⟩
  ·have hSj:S j=true:=by unfold gy at hj;rwa [ah hji] at hj
   obtain ⟨u,hu1,hu2⟩:=h.2 j e hSj he
   have hne:d≠e:=by
    intro e';subst e'
    have h2:=hok1.2 j (BU he)
    have hb:Nat.beq i j=false:=Dl (fun h=>hji h.symm)
    rw [hb,he] at h2
    simp at h2
   exact ⟨u,by rw [xw hne];exact hu1,hE j u hji hu2⟩
theorem Jf.add {pr:ε→Nat→ak→Prop} {S:Nat→Bool} {E:ε} (h:Jf l pr T S E T') {t:Nat} {u:ak} (hu:lk T' t=some u):Jf l pr T S E ((t,u) :: T'):=by
 have e:∀ s v,lk T' s=some v→lk ((t,u) :: T') s=some v:=fun s v hs=>by
  by_cases hst:t=s
  ·subst hst;rw [hu] at hs;cases hs;exact yF _ _ _
  ·rw [xw hst];exact hs
 exact ⟨fun s v hs=>e s v (h.1 s v hs),fun i d hi hd=>by
  obtain ⟨v,h1,h2⟩:=h.2 i d hi hd
  exact ⟨v,e d v h1,h2⟩⟩
end
end
section
open Go.RowKit
section
variable {N:Nat} {D:List Deferred} {w0:World} {F:Nat→Prop} {G0 G G1 G2:GH} {L L1:OL} {T Xs:List (Nat × ak)}
variable {r:Option Nat} {P:Program} {Q:Exit→Act→World→Prop} {l:List Oper} {a a':Act} {w w':World}
theorem ZA {id:Nat} (hm:P.follows .mixedOrders=true) (dH:List (List Nat)) (B:List Nat) (hk:EP l dH=true) (hB:CX l dH B=true) (X:(Nat→Bool)→Act→World→Prop) (h0:X (fun _=>false) a w.drew)
  (hstep:∀ i o S a w,l[i]?=some o→B.contains i=false→S i=false→(∀ j∈dH.getD i [],S j=true)→(∀ j,j < l.length→i∈dH.getD j []→S j=false)→X S a w→WL r P l.toArray (fun e a' w'=>e=.normal∧X (gy S i) a' w') [o] a w)
  (hend:∀ S a w,(∀ i,i < l.length→B.contains i=false→S i=true)→(∀ i,B.contains i=true→S i=false)→X S a w→WL r P l.toArray (fun e a w=>e=.normal∧Q .normal a w) (tK l B) a w):WP r P (.region id l.toArray true) Q a w:=by
 have hB1:∀ p b,B[p]?=some b→b < l.length∧∀ i,i < l.length→(B.contains i=false∨(B.take p).contains i=true)→i∈dH.getD b []:=by
  intro p b hp
  simp only [CX,nk] at hB
  have h1:=mZ.1 hB.1 p (vw.2 (jr.1 hp).1)
  rw [hp] at h1
  simp only [nk,mZ,vw] at h1
  refine ⟨Eq.mp Nat.blt_eq h1.1,fun i hi hor=>?_⟩
  have h2:=h1.2 i hi
  rcases hor with h3|h3
  ·have h4:i∉B:=by simpa using h3
   simpa [h4] using h2
  ·have h4:i∈B.take p:=by simpa using h3
   simpa [h4] using h2
 have hB2:∀ i,i < l.length→B.contains i=false→∀ j∈dH.getD i [],B.contains j=false:=by
  intro i hi hb j hj
  simp only [CX,nk] at hB
  have h1:=mZ.1 hB.2 i (vw.2 hi)
  rw [hb] at h1
  simp only [Bool.false_or,mZ] at h1
  simpa using h1 j hj
 refine Zz hm dH hk (fun S a w=>((∀ i,B.contains i=true→S i=false)∧X S a w) ∨
   ∃ p,(∀ i,i < l.length→B.contains i=false→S i=true)∧(∀ i,(B.take p).contains i=true→S i=true)∧(∀ q b,B[q]?=some b→p≤q→S b=false)∧WL r P l.toArray (fun e a w=>e=.normal∧Q .normal a w) (tK l (B.drop p)) a w)
  (.inl ⟨fun _ _=>rfl,h0⟩) ?_ ?_
 ·intro i o S a w ho hX dh qX hdesc
  have hil:i < l.length:=(jr.1 ho).1
  by_cases hbi:B.contains i=true
  ·-- an operation of the tail: all that stands ahead of it is done
   obtain ⟨p0,hp0⟩:=List.getElem?_of_mem (by simpa using hbi:i∈B)
   have hall:∀ j,j < l.length→B.contains j=false→S j=true:=fun j hj hb=>qX j ((hB1 p0 i hp0).2 j hj (.inl hb))
   have VN:∃ p,(∀ i,(B.take p).contains i=true→S i=true)∧(∀ q b,B[q]?=some b→p≤q→S b=false)∧WL r P l.toArray (fun e a w=>e=.normal∧Q .normal a w) (tK l (B.drop p)) a w:=by
    rcases hX with ⟨h1,hD⟩|⟨p,_,h2,h3,h4⟩
    ·exact ⟨0,by simp,fun q b hq _=>h1 b (by simpa using mg hq),hend S a w hall h1 hD⟩
    ·exact ⟨p,h2,h3,h4⟩
   obtain ⟨p,h2,h3,h4⟩:=VN
   -- i is the next one
   have hpp:p≤p0:=by
    rcases Nat.lt_or_ge p0 p with hlt|hge
    ·have:(B.take p).contains i=true:=by
      simp only [Aq]
      exact mg (i:=p0) (by rw [xQ,au hlt];exact hp0)
     rw [h2 i this] at dh;cases dh
    ·exact hge
   have Ic:p < B.length:=by have:=(jr.1 hp0).1;omega
   have hbp:B[p]?=some B[p]:=dV Ic
   have heq:B[p]=i:=by
    rcases Nat.lt_or_ge p p0 with hlt|hge
    ·exfalso
     have hin:B[p]∈dH.getD i []:=(hB1 p0 i hp0).2 _ (hB1 p _ hbp).1 (.inr (by
      simp only [Aq]
      exact mg (i:=p) (by rw [xQ,au hlt];exact hbp)))
     have:=qX _ hin
     rw [h3 p _ hbp (bX _)] at this;cases this
    ·have:p=p0:=by omega
     subst this
     rw [hbp] at hp0;simpa using hp0
   have hdrop:B.drop p=i :: B.drop (p+1):=by rw [jy Ic,heq]
   have hops:tK l (B.drop p)=o :: tK l (B.drop (p+1)):=by rw [hdrop];simp [tK,ho]
   rw [hops] at h4
   refine ags (fun a' w' h5=>.inr ⟨p+1,fun j hj hb=>?_,fun j hj=>?_,fun q b hq hpq=>?_,h5⟩) h4
   ·unfold gy;split
    ·rfl
    ·exact hall j hj hb
   ·unfold gy;split
    ·rfl
    ·rename_i hne
     refine h2 j ?_
     simp only [Aq] at hj ⊢
     rw [gI Ic,ng] at hj
     rcases hj with hj|hj
     ·exact hj
     ·simp only [qO] at hj;exact absurd (hj.trans heq) hne
   ·unfold gy
    rw [ah ?_]
    ·exact h3 q b hq (by omega)
    ·rintro rfl
     -- i would stand twice in B: it would come ahead of itself
     have h6:=(hB1 q b hq).2 b (hB1 q b hq).1 (.inr (by
      simp only [Aq]
      exact mg (i:=p) (by rw [xQ,au (by omega)];rw [hbp,heq])))
     rw [qX _ h6] at dh;cases dh
  ·have Hy:B.contains i=false:=by cases h:B.contains i with|false=>rfl|true=>exact absurd h hbi
   rcases hX with ⟨h1,hX⟩|⟨p,h0,_,_,_⟩
   ·refine xI (fun e a' w' ⟨he,hD⟩=>⟨he,.inl ⟨fun j hj=>?_,hD⟩⟩) (hstep i o S a w ho Hy dh qX hdesc hX)
    unfold gy
    rw [ah (by rintro rfl;rw [Hy] at hj;cases hj)]
    exact h1 j hj
   ·rw [h0 i hil Hy] at dh;cases dh
 ·intro S a w hall hX
  rcases hX with ⟨h1,hD⟩|⟨p,_,_,h3,h4⟩
  ·have hnil:B=[]:=by
    cases B with
    | nil=>rfl
    | cons b B=>have h5:=h1 b (by simp);rw [hall b (hB1 0 b rfl).1] at h5;cases h5
   subst hnil
   exact (hend S a w (fun j hj _=>hall j hj) h1 hD).2
  ·have hnil:B.drop p=[]:=by
    cases hd:B.drop p with
    | nil=>rfl
    | cons b B' =>
     have hb:B[p]?=some b:=by
      have:=aB (fun x:List Nat=>x[0]?) hd
      simpa using this
     have h5:=h3 p b hb (bX _)
     rw [hall b (hB1 p b hb).1] at h5;cases h5
   rw [hnil] at h4
   exact h4.2
theorem aag {pr:Nat→ak→GH→Prop} {S:Nat→Bool} {i d:Nat} {v:ak} (hok:oV l T i=true) (hi:fH l i=some d) 
  (HT:St N D w0 F G0 G1 L T a w) (Hb:St N D w0 F G0 G1 L (Xs++full N a) a w) (hG:∀ k o,G k=some o→G1 k=some o) (hv:∀ j d,j≠i→S j=true→fH l j=some d→∃ v,a.tmps[d]?=some v∧pr j v G1)
  (hp:pr i v G1) (H:St N D w0 F G0 G1 L1 ((d,v) :: (Xs++full N a)) a' w'):DX N D w0 F G0 G L1 T l pr (gy S i) a' w':=by
 have hil:i < l.length:=BU hi
 have hok1:=hok
 rw [oV,hi] at hok1
 simp only [nk,Option.isNone_iff_eq_none,mZ,vw] at hok1
 have hsame:∀ t,t≠d→a'.tmps[t]?=a.tmps[t]?:=by
  intro t ht
  by_cases hlt:t < N
  ·have h1:∃ u,lk (Xs++full N a) t=some u:=by
    rw [QM]
    cases lk Xs t with
    | some u=>exact ⟨u,rfl⟩
    | none=>exact ⟨_,QN a hlt⟩
   obtain ⟨u,hu⟩:=h1
   rw [Hb.get t u hu,H.get t u (by rw [xw (Ne.symm ht)];exact hu)]
  ·rw [Array.getElem?_eq_none (by rw [H.nu];omega),Array.getElem?_eq_none (by rw [Hb.nu];omega)]
 refine ⟨G1,hG,⟨H.nu,fun t u ht=>?_,H.uz,H.hp⟩,fun j e hj he=>?_⟩
 ·rw [hsame t (fun e=>by rw [e,hok1.1] at ht;cases ht)]
  exact HT.get t u ht
 ·by_cases hji:j=i
  ·subst hji
   rw [hi] at he
   simp only [nQ] at he
   subst he
   exact ⟨v,H.get d v (yF _ _ _),hp⟩
  ·have hSj:S j=true:=by unfold gy at hj;rwa [ah hji] at hj
   obtain ⟨u,hu1,hu2⟩:=hv j e hji hSj he
   have hne:e≠d:=by
    intro e'
    subst e'
    have h2:=hok1.2 j (BU he)
    rw [Dl (fun h=>hji h.symm),he] at h2
    simp at h2
   exact ⟨u,by rw [hsame e hne];exact hu1,hu2⟩
end
end
section
open Go.RowKit
section
variable {N:Nat} {D:List Deferred} {w0:World} {F:Nat→Prop} {G0 G:GH} {L:OL} {T:List (Nat × ak)}
variable {r:Option Nat} {P:Program} {ops:Array Oper} {Q:Exit→Act→World→Prop} {rest:List Oper} {a:Act} {w:World}
variable {d:Nat} {ty:TypeId} {pos:String} {aP:Array Edge} {g:Option (Nat × Bool)}
theorem IK {t:TypeId} (H:St N D w0 F G0 G L T a w) (hw:Region.wanted ⟨some d,.makeMap t none,ty,pos,aP,g⟩ (yielded ops a.tmps)=true) (hd:Nat.blt d N=true)
  (k:∀ b a' w',w0.heap.size≤b→St N D w0 F G0 G ((b,.map #[] 0) :: L) ((d,.map (some b)) :: T) a' w'→WL r P ops Q rest a' w'):WL r P ops Q (⟨some d,.makeMap t none,ty,pos,aP,g⟩ :: rest) a w:=by
 refine fQ (v:=.map (some w.heap.size)) (w':=w.alloc (.map #[] 0)) hw rfl ?_ (k _ _ _ H.hp.size (H.put hd _ (H.hp.alloc _)))
 simp [execOp,Instr.makeMap,newObj,Sem.run,dX]
def Ea (an:Option (Nat × ak)) (zv:ak):ak × Bool:=match an with|some (_,v)=>(v,true)|none=>(zv,false)
theorem atC {t kt et:TypeId} {kd:TypeDesc} {x y:Operand} {b i clock:Nat} {es:Array MapEntry} {ky zv:ak} (an:Option (Nat × ak)) (hm:P.underlying t=some (.map kt et)) (hk:P.underlying kt=some kd) (hz:(P.info? et).map (fun i=>i.zero)=some (some zv)) (H:St N D w0 F G0 G L T a w)
  (hw:Region.wanted ⟨some d,.lookup t x y true,ty,pos,aP,g⟩ (yielded ops a.tmps)=true) (hx:ev T x=some (.map (some b))) (hy:ev T y=some ky) (hi:L[i]?=some (b,.map es clock)) (hky:MapKept.IsKey kd ky) (hf:Instr.findNow kd ky es.toList 0=some an) (hd:Nat.blt d N=true)
  (k:∀ a',St N D w0 F G0 G L ((d,.tuple #[(Ea an zv).1,.bool (Ea an zv).2]) :: T) a' w→WL r P ops Q rest a' w):WL r P ops Q (⟨some d,.lookup t x y true,ty,pos,aP,g⟩ :: rest) a w:=by
 have hb:w.heap[b]?=some (.map es clock):=H.hp.own _ (mg hi)
 obtain ⟨inf,hi1,hi2⟩:=oO.1 hz
 refine fQ (v:=.tuple #[(Ea an zv).1,.bool (Ea an zv).2]) (w':=w) hw rfl ?_ (k _ (H.put hd _ H.hp))
 have h1:=MapKept.run_checkKey (w:=w) hk hky es.isEmpty 9999
 have h2:=MapKept.run_findKey (w:=w) hk hf
 cases an with
 | none=>simp [execOp,Instr.lookup,H.ev hx,H.ev hy,dX,nO hm,MapKept.run_getObj_map hb,h1,h2,Result.andThen,zeroValue,FE hi1,hi2,Ea]
 | some q=>simp [execOp,Instr.lookup,H.ev hx,H.ev hy,dX,nO hm,MapKept.run_getObj_map hb,h1,h2,Result.andThen,Ea]
theorem Yf {w:World} {b clock:Nat} {es:Array MapEntry} {o:Obj} (h:w.heap[b]?=some (.map es clock)):xP b o w { w with heap:=w.heap.setIfInBounds b o }:=by
 have hlt:b < w.heap.size:=(Array.getElem?_eq_some_iff.1 h).1
 refine ⟨rfl,rfl,rfl,by simp,by simp [hlt],fun k hk=>?_⟩
 simp only
 rw [Array.getElem?_setIfInBounds_ne (Ne.symm hk)]
theorem afc {t kt et:TypeId} {kd:TypeDesc} {x y z:Operand} {b i clock:Nat} {es:Array MapEntry} {ky v:ak} (hm:P.underlying t=some (.map kt et)) (hk:P.underlying kt=some kd) (H:St N D w0 F G0 G L T a w)
  (hw:Region.wanted ⟨none,.mapUpdate t x y z,ty,pos,aP,g⟩ (yielded ops a.tmps)=true) (hx:ev T x=some (.map (some b))) (hy:ev T y=some ky) (hzv:ev T z=some v) (hi:L[i]?=some (b,.map es clock)) (hky:MapKept.IsKey kd ky) (hf:Instr.findNow kd ky es.toList 0=some none)
  (k:∀ w',St N D w0 F G0 G (L.set i (b,.map (es.push ⟨ky,v,clock⟩) (clock+1))) T a w'→WL r P ops Q rest a w'):WL r P ops Q (⟨none,.mapUpdate t x y z,ty,pos,aP,g⟩ :: rest) a w:=by
 have hb:w.heap[b]?=some (.map es clock):=H.hp.own _ (mg hi)
 have h1:=MapKept.run_checkKey (w:=w) hk hky false 9999
 have h2:=MapKept.run_findKey (w:=w) hk hf
 refine Yk (w':={ w with heap:=w.heap.setIfInBounds b (.map (es.push ⟨ky,v,clock⟩) (clock+1)) }) hw rfl ?_ (k _ (H.move (H.hp.upd hi (Yf hb))))
 simp [execOp,Instr.mapUpdate,H.ev hx,H.ev hy,H.ev hzv,dX,nO hm,MapKept.run_getObj_map hb,h1,h2,MapKept.run_setObj_map _ hb,Result.andThen]
theorem afd {t yt:TypeId} {x y:Operand} {p q:ByteArray} (H:St N D w0 F G0 G L T a w) (hw:Region.wanted ⟨some d,.binOp .neq t x y yt,ty,pos,aP,g⟩ (yielded ops a.tmps)=true) (hx:ev T x=some (.string p)) (hy:ev T y=some (.string q)) (hd:Nat.blt d N=true)
  (k:∀ a',St N D w0 F G0 G L ((d,.bool (!(p.toList == q.toList))) :: T) a' w→WL r P ops Q rest a' w):WL r P ops Q (⟨some d,.binOp .neq t x y yt,ty,pos,aP,g⟩ :: rest) a w:=by
 refine fQ (v:=.bool (!(p.toList == q.toList))) (w':=w) hw rfl ?_ (k _ (H.put hd _ H.hp))
 simp [execOp,H.ev hx,H.ev hy,dX,eqGuard,binOp,Op.stringOp]
theorem Hp.QT (h:Hp w0 F G0 G L w) {b o:Nat} {c:Array ak} {e:TypeId} {fz:Nat × Nat} {v:ak} (hm:(b,Obj.cells c e fz)∈L) (hv:c[o]?=some v):w.cell? ⟨b,o,none⟩=some v:=by
 have:=h.own _ hm
 simp only [World.cell?,this]
 exact hv
end
end
section
open Go.RowKit
section
variable {N:Nat} {D:List Deferred} {w0:World} {F:Nat→Prop} {G0 G G1 G2:GH} {L L1:OL} {T Xs:List (Nat × ak)}
variable {r:Option Nat} {P:Program} {Q:Exit→Act→World→Prop} {l:List Oper} {a a':Act} {w w':World}
end
end
section
open Go.RowKit
section
variable {N:Nat} {D:List Deferred} {w0:World} {F:Nat→Prop} {G0 G G1 G2:GH} {L L1 L2:OL} {T Xs:List (Nat × ak)}
variable {r:Option Nat} {P:Program} {Q:Exit→Act→World→Prop} {l:List Oper} {a a':Act} {w w':World}
end
end
end Go.Proofs.YthmanofbmnfemaaGreat
