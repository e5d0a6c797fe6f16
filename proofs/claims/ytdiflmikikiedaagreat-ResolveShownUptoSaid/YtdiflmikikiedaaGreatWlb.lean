/-
  What the claim stands on, part 2: Run Rg Pos Pq Doc Dq Eq Idx Bld Hv Prk Prp Plc Plr Prq Prc Fst Nam Pn De Dj Mp Dk Dw Lsc Dm Dl Lfl Dv.
-/
import Derived.Test.YtdiflmikikiedaaGreatWla
import Derived.Laws.StructEq
import Derived.ChangeKeysEq
import Derived.MapKept
namespace Go.Proofs.YtdiflmikikiedaaGreat
set_option linter.all false
open Go.Proofs.Tryz
open Go.RowKit
theorem hmx:prog.follows .mixedOrders=true:=by kernel_rfl
theorem kF:dR prog 68 0 0:=⟨V⟩
theorem aF:Ty prog 3 1 8 [.int .i64 0] false:=⟨V,V⟩
theorem wh:dR prog 68 3 3:=⟨V⟩
theorem jf:Ty prog 9 1 16 [.string ⟨#[]⟩] false:=⟨V,V⟩
theorem afI:aR 197:=aS func197 M
theorem iB:prog.underlying 22=some (.slice 68):=by kernel_rfl
theorem eZ:Ty prog 68 11 176 [.int .i64 0,.int .i64 0,.int .i64 0,.string ⟨#[]⟩,.slice none 0 0,.int .i64 0,.int .i64 0,.slice none 0 0,.slice none 0 0,.slice none 0 0,.slice none 0 0] true:=⟨V,V⟩
theorem aqP:aR 143:=aS func143 M
theorem iw:prog.underlying 23=some (.slice 187):=by kernel_rfl
theorem iK:Ty prog 187 2 16 [.int .i64 0,.int .i64 0] true:=⟨V,V⟩
theorem mQ:prog.underlying 24=some (.slice 159):=by kernel_rfl
theorem oJ:Ty prog 159 2 16 [.int .i64 0,.int .i64 0] true:=⟨V,V⟩
theorem mq:prog.underlying 25=some (.slice 161):=by kernel_rfl
theorem jY:Ty prog 161 4 32 [.int .i64 0,.int .i64 0,.int .i64 0,.bool false] true:=⟨V,V⟩
theorem gB:Ty prog 29 5 88 [.slice none 0 0,.int .i64 0,.int .i64 0,.slice none 0 0,.slice none 0 0] true:=⟨V,V⟩
theorem zk:dR prog 29 0 0:=⟨V⟩
theorem vK:Ty prog 23 1 24 [.slice none 0 0] false:=⟨V,V⟩
theorem QZ:aR 168:=aS func168 M
theorem oh:dR prog 29 1 1:=⟨V⟩
theorem qH:dR prog 27 2 2:=⟨V⟩
theorem qO:Ty prog 24 1 24 [.slice none 0 0] false:=⟨V,V⟩
theorem arh:aR 169:=aS func169 M
theorem Bd:dR prog 27 3 3:=⟨V⟩
theorem BQ:Ty prog 25 1 24 [.slice none 0 0] false:=⟨V,V⟩
theorem ari:aR 170:=aS func170 M
theorem mR:prog.underlying 66=some (.slice 74):=by kernel_rfl
theorem jO:Ty prog 74 6 112 [.slice none 0 0,.int .i64 0,.int .i64 0,.slice none 0 0,.slice none 0 0,.slice none 0 0] true:=⟨V,V⟩
theorem oK:prog.underlying 72=some (.slice 76):=by kernel_rfl
theorem kL:Ty prog 76 7 120 [.int .i64 0,.slice none 0 0,.int .i64 0,.int .i64 0,.slice none 0 0,.slice none 0 0,.slice none 0 0] true:=⟨V,V⟩
theorem NK:dR prog 76 0 0:=⟨V⟩
theorem Ii:dR prog 76 1 1:=⟨V⟩
theorem QY:aR 108:=aS func108 M
theorem Ij:dR prog 76 2 6:=⟨V⟩
theorem jy:Ty prog 22 1 24 [.slice none 0 0] false:=⟨V,V⟩
theorem Q6:aR 80:=aS func80 M
theorem aaB:qV prog 76 [(0,1),(1,5),(6,1)] [.int .i64 0,.slice none 0 0,.int .i64 0,.int .i64 0,.slice none 0 0,.slice none 0 0,.slice none 0 0]:=⟨V,V⟩
theorem KN:dR prog 74 0 0:=⟨V⟩
theorem wm:dR prog 74 1 5:=⟨V⟩
theorem wL:Ty prog 72 1 24 [.slice none 0 0] false:=⟨V,V⟩
theorem afD:aR 172:=aS func172 M
theorem aaA:qV prog 74 [(0,5),(5,1)] [.slice none 0 0,.int .i64 0,.int .i64 0,.slice none 0 0,.slice none 0 0,.slice none 0 0]:=⟨V,V⟩
theorem wU:dR prog 68 4 4:=⟨V⟩
theorem Af:dR prog 68 5 9:=⟨V⟩
theorem qd:dR prog 68 6 10:=⟨V⟩
theorem qw:Ty prog 66 1 24 [.slice none 0 0] false:=⟨V,V⟩
theorem afs:aR 110:=aS func110 M
theorem afz:aR 140:=aS func140 M
theorem arH:aR 203:=aS func203 M
theorem aqO:aR 142:=aS func142 M
theorem aqN:aR 141:=aS func141 M
def jo (x:ak):Nat:=if x.kind=1 then oU x.text else 1
def Av (x:ak):Int:=if x.kind=1 then JF x.text else 0
theorem aDx (G:GH) (w0:World) (hG:Hold G w0) (x:ak) (i2 i3:Int) (p i5 i6 d l f r:ah) (hs:x.text.size < 4611686018427387904) :
  Calls prog 143 #[.agg #[vi x.kind,vi i2,vi i3,.string x.text,p,i5,i6,d,l,f,r]] w0 (bE w0 G fun v G'=>v=.tuple #[vi (jo x),vi (Av x)]∧G=G'):=by
 refine eN [(0,_)] func143 M ntmps143 M M hG ?_;intro a H;refine cZ (fun _ K1=>?_);refine dZ (cs:=[_,_,_,_,_,_,_,_,_,_,_]) H wn M M M ?_;clear H;intro b1 a w hb1 H;refine kH H (Ra M (aj K1 M (SQ fun _ K2=>SR fun _ K3=>bC kF aF 0 M M (Rc M (Kz K3 (Cd M ?_ ?_)))))) <;> clear H K1 K3
 ·intro h6 a H
  try have p6:=dT h6
  refine kP H (SR fun _ K4=>Ra M (aj K4 M ?_));clear H K4;intro a H;refine eP ?_;refine (kG H results143 (.cons (fB H M) (.cons (fB H M) .nil)) ?_).1;exact H.rt ⟨by simp only [jo,Av,au p6];rfl,rfl⟩
 intro h6 a H
 try have p6:=dF h6
 refine kP H (Kc K2 (SR fun _ K5=>bC wh jf 0 M M ?_));clear H K2;intro a H;refine s_call afI H wn M (aeV _ _ H.ro _ hs) M ?_;clear H;rintro v9 _ a w ⟨rfl,rfl⟩ - H;(iterate 2 refine lJ H wn M M M ?_;clear H;intro a H);refine kH H (Ra M (aj K5 M ?_));clear H K5;intro a H;refine eP ?_;refine (kG H results143 (.cons (fB H M) (.cons (fB H M) .nil)) ?_).1;exact H.rt ⟨by rw [oD] at p6;simp only [jo,Av,ay p6],M⟩
def yZ (l:List ak):Bool:=l.all fun x=>decide (Av x=0)
def tY:List ak->Nat
 | []=>0
 | x :: l=>jo x+tY l
def zB (l:List ak):Int:=if yZ l then tY l else 0
def ZB (l:List ak):Int:=if yZ l then 0 else 12
def nA:List ak->Nat
 | []=>0
 | x :: l=>x.text.size+1+nA l
theorem alC:∀ l:List ak,tY l<=nA l
 | []=>dS _
 | x :: l=>by
  have:=alC l;have h2:=QL x.text
  simp only [tY,nA,jo];split <;> omega
theorem alL {x:ak}:∀ {l:List ak},x∈l->x.text.size < nA l
 | [],h=>by cases h
 | y :: l,h=>by
  simp only [nA]
  rcases gu.1 h with rfl|h
  ·omega
  have:=alL h;omega
theorem aDf (l m:List ak):tY (l++m)=tY l+tY m:=by
 induction l with
 | nil=>simp [tY]
 | cons x l ih=>simp [tY,ih];omega
theorem aDg {l:List ak} {k:Nat} (h:k < l.length):tY (l.take (k+1))=tY (l.take k)+jo l[k]:=by
 rw [jK h,aDf];simp [tY]
theorem JC (l m:List ak):nA (l++m)=nA l+nA m:=by
 induction l with
 | nil=>simp [nA]
 | cons x l ih=>simp [nA,ih];omega
theorem aaK (l:List ak) (k:Nat):nA (l.take k)<=nA l:=by
 have:=JC (l.take k) (l.drop k);rw [List.take_append_drop] at this;omega
theorem DV {G:GH} {l:List ak} {A:Option Addr} {k:Nat} (hk:k < l.length) (hg:∀ k r,(l.map ak.dat)[k]?=some r->∃ b o cs,A=some ⟨b,o,none⟩∧cs.length=11∧(∀ j u,cs[j]?=some u->aI G b (o+k*11+j)=some u)∧aX G r cs) :
  ∃ b o pA pn pc dA dn dc yA yn yc fA fn fc rA rn rc,A=some ⟨b,o,none⟩∧(∀ j u,[vi l[k].kind,vi l[k].code,vi l[k].id,.string l[k].text,.slice pA pn pc,vi l[k].head.marks.ins,vi l[k].head.marks.move,.slice dA dn dc,.slice yA yn yc,.slice fA fn fc,.slice rA rn rc][j]?=some u->aI G b (o+k*11+j)=some u) ∧
   jG G l[k].head (.slice pA pn pc) (.slice dA dn dc) (.slice yA yn yc)∧av G (.sl 11 (l[k].flow.map ak.dat)) (.slice fA fn fc)∧av G (.sl 6 (l[k].rows.map aO.dat)) (.slice rA rn rc):=by
 obtain ⟨b,o,cs,h1,h2,h3,h4⟩:=hg k l[k].dat (by simp [hk]);obtain ⟨pA,pn,pc,dA,dn,dc,yA,yn,yc,fA,fn,fc,rA,rn,rc,rfl,h5,h6,h7⟩:=h4.item;exact ⟨b,o,pA,pn,pc,dA,dn,dc,yA,yn,yc,fA,fn,fc,rA,rn,rc,h1,h3,h5,h6,h7⟩
theorem aqa {l:List ak} {k:Nat} (h:k < l.length):yZ (l.take (k+1))=(yZ (l.take k) && decide (Av l[k]=0)):=by
 unfold yZ
 rw [jK h,List.all_append];simp
theorem apZ {l:List ak} {k:Nat} (h:k < l.length) (hn:¬ Av l[k]=0):yZ l=false:=by
 unfold yZ
 rw [List.all_eq_false];exact ⟨l[k],jS h,by simpa using hn⟩
theorem Sy:∀ l:List ak,l.length<=nA l
 | []=>dS _
 | x :: l=>by have:=Sy l;simp only [kR,nA];omega
theorem aaJ:∀ l:List ak,nA l<=bq l
 | []=>dS _
 | x :: l=>by
  have:=aaJ l;have h2:=uP x
  simp only [nA,bq,dO,dM] at *;omega
theorem ayU (G:GH) (w0:World) (hG:Hold G w0) (l:List ak) (v:ah) (hv:av G (.sl 11 (l.map ak.dat)) v) (hz:bq l<=4294967296) :
  Calls prog 81 #[v] w0 (bE w0 G fun v G'=>v=.tuple #[vi (zB l),vi (ZB l)]∧G=G'):=by
 obtain ⟨A,c,rfl,hc1,hc2,hg⟩:=hv.slice;rw [bK] at *;have hll:=Sy l;have htz:=aaJ l;refine eN [(0,_)] func81 M ntmps81 M M hG ?_;intro a H;refine kP H (SR fun _ K1=>Ra M (aj K1 M (SR fun _ K2=>aj K2 M (SQ fun _ K3=>SR fun _ K4=>Rm M (Rl iB M (Rm M (Kz K4 (SB ?_))))))));clear H K1 K2 K4;intro a H;skip;refine fD (ι:=Nat) (Tc:=[(9,_),(10,_)]) (Lc:=[]) (fun gh=>[(4,vi (tY (l.take gh))),(11,vi gh)]) (fun gh=>[]) (fun gh=>G) (fun gh=>gh<=l.length∧yZ (l.take gh)=true) (fun gh=>l.length - gh) (0) (by exact H.sub ⟨M,M,M,M,aC⟩) ?_ ?_
 ·exact ⟨O,by simp [yZ]⟩
 clear H;intro k a w hI H;obtain ⟨hk,hd⟩:=hI;dsimp only [lca,bM] at H;refine kP H (SR fun _ K5=>Rc M (Kz K5 (SQ fun _ K6=>Cd M ?_ ?_))) <;> clear H K5
 ·intro h12 a H
  try have rM:=dT h12
  have hk2:k < l.length:=by omega
  obtain ⟨b,o,pA,pn,pc,dA,dn,dc,yA,yn,yc,fA,fn,fc,rA,rn,rc,rfl,hrow,-⟩:=DV hk2 hg;have hsm:=aDg hk2;have hle:=alC (l.take (k+1));have hle2:=aaK l (k+1);refine kP H (Kc K6 (SQ fun _ K7=>SB (SR fun _ K8=>Ri iB eZ M M ?_)));clear H K6;intro a H;refine bQ eZ (cs:=[_,_,_,_,_,_,_,_,_,_,_]) H wn M M (fun j v hj=>H.hp.aI (hrow j v hj)) M ?_;clear H;intro a H;refine dW eZ H wn M ?_;clear H;intro b6 a w hb6 H;refine bJ eZ 0 (vs:=[_,_,_,_,_,_,_,_,_,_,_]) H wn M ?_;clear H;intro w H;refine K8 _ _ ?_;clear K8;refine cZ (fun _ K9=>?_);refine bQ eZ (cs:=[_,_,_,_,_,_,_,_,_,_,_]) H wn M M (H.hp.dG 0 M M) M ?_;clear H;intro a H;refine s_call aqP H wn M (aDx _ _ H.ro _ _ _ _ _ _ _ _ _ _ (by have:=alL (jS hk2);omega)) rfl ?_;clear H;rintro v17 _ a w ⟨rfl,rfl⟩ - H;refine kH H (Rm M ?_);clear H;intro a H;(iterate 2 refine lJ H wn M M M ?_;clear H;intro a H);refine kH H (Ra M (aj K9 M (SQ fun _ aT=>SR fun _ bR=>Rm M (Rc M (Kz bR (Cd M ?_ ?_)))))) <;> clear H K9 bR
  ·intro h21 a H
   try have xG:=dT h21
   refine kP H (SR fun _ cu=>Ra M (aj cu M ?_));clear H cu;intro a H;refine eP ?_;refine (kG H results81 (.cons (fB H M) (.cons (fB H M) .nil)) ?_).1;exact H.rt ⟨by simp [zB,ZB,apZ hk2 xG],M⟩
  intro h21 a H
  try have xG:=dF h21
  refine kP H (Kc aT (SC (Rm M (Rm M (Rd M ?_)))));clear H aT;intro a H;rw [<- Int.natCast_add,<- hsm] at H;refine kH H (bF K7 M (SC (Rd M (Rm M ?_))));clear H K7;intro a H;refine aD ?_;refine dQ ((k+1)) (by exact (H.eD (Pl:=[_]) (dK:=[]) [] Z M).sub ⟨M,M,M,M,aC⟩) ?_
  exact ⟨O,by rw [aqa hk2,hd];simpa using xG⟩
 intro h12 a H
 try have rM:=dF h12
 refine dY ?_;refine K3 _ _ ?_;clear K3;refine kP H (SR fun _ dw=>Rm M (Ra M (aj dw M ?_)));clear H dw;intro a H;refine eP ?_;refine (kG H results81 (.cons (fB H M) (.cons (fB H M) .nil)) ?_).1;exact H.rt ⟨by rw [show l.take k=l from nZ O] at hd |-;simp [zB,ZB,hd],M⟩
theorem Wp (G:GH) (w0:World) (hG:Hold G w0) (rows:List (List Dat)) (A:Option Addr) (n c:Nat) (hv:av G (.sl 2 rows) (.slice A n c)) (hz:rows.length<=4294967296) :
  Calls prog 168 #[.slice A n c] w0 (bE w0 G fun v G'=>av G' (.sl 2 rows) v):=by
 obtain ⟨hn,hc1,hc2,hnil,hx⟩:=hv.cells;refine eN [(0,_)] func168 M ntmps168 M M hG ?_;intro a H;refine kP H (SR fun _ K1=>aj K1 M (SQ fun _ K2=>SR fun _ K3=>Rm M ?_));clear H K1;intro a H;refine Dg iw H wn M M ?_;clear H;intro a H;refine K3 _ _ ?_;clear K3;refine jL H M ?_ ?_
 ·intro h4
  exact kP H (SR fun _ K4=>aj K4 M (LR results168 M fun H=>H.rt (by rw [hnil (by simpa using h4)];exact av.uM M (by simp [maxLen]))))
 intro h4
 try have p4:=dF h4
 refine iD ?_;refine K2 _ _ ?_;clear K2;refine bL (fun _ K5=>?_)
 have hA:¬ A=none:=by intro e;rw [e] at h4;cases h4
 refine oQ ?_;refine Dc iw iK H wn M ?_;clear H;intro b5 a w hb5 H;refine kH H (Rm M ?_);clear H;intro a H
 by_cases hr0:rows=[]
 ·have hn0:n=0:=by rw [hn,hr0];rfl
  subst hn0;refine BK iw iK H wn M M (dS _) M ?_;clear H;intro a H;exact kH H (bF K5 M (LR results168 M fun H=>H.rt (by rw [hr0];exact av.uM M (by simp [maxLen]))))
 obtain ⟨b,o,xs,rfl,hxl,hxc,hx1,fu⟩:=hx hr0;refine ny (Li:=[]) (Lo:=[_]) (news:=xs) iw iK M M H wn M M bY.empty hxl (fun j u hj=>H.hp.aI (hxc j u hj)) hx1 O O M ?_;clear H;intro v7 Lo a w hrow H;obtain ⟨G',hm,hrep,H⟩:=H.qh hrow (rows:=rows) O (by simpa using fu)
 try clear hG
 obtain ⟨G2,hG2⟩:∃ g,g=G':=⟨_,M⟩;subst hG2;exact kH H (bF K5 M (LR results168 M fun H=>H.rt hrep))
theorem apk (G:GH) (w0:World) (hG:Hold G w0) (rows:List (List Dat)) (A:Option Addr) (n c:Nat) (hv:av G (.sl 2 rows) (.slice A n c)) (hz:rows.length<=4294967296) :
  Calls prog 169 #[.slice A n c] w0 (bE w0 G fun v G'=>av G' (.sl 2 rows) v):=by
 obtain ⟨hn,hc1,hc2,hnil,hx⟩:=hv.cells;refine eN [(0,_)] func169 M ntmps169 M M hG ?_;intro a H;refine kP H (SR fun _ K1=>aj K1 M (SQ fun _ K2=>SR fun _ K3=>Rm M ?_));clear H K1;intro a H;refine Dg mQ H wn M M ?_;clear H;intro a H;refine K3 _ _ ?_;clear K3;refine jL H M ?_ ?_
 ·intro h4
  exact kP H (SR fun _ K4=>aj K4 M (LR results169 M fun H=>H.rt (by rw [hnil (by simpa using h4)];exact av.uM M (by simp [maxLen]))))
 intro h4
 try have p4:=dF h4
 refine iD ?_;refine K2 _ _ ?_;clear K2;refine bL (fun _ K5=>?_)
 have hA:¬ A=none:=by intro e;rw [e] at h4;cases h4
 refine oQ ?_;refine Dc mQ oJ H wn M ?_;clear H;intro b5 a w hb5 H;refine kH H (Rm M ?_);clear H;intro a H
 by_cases hr0:rows=[]
 ·have hn0:n=0:=by rw [hn,hr0];rfl
  subst hn0;refine BK mQ oJ H wn M M (dS _) M ?_;clear H;intro a H;exact kH H (bF K5 M (LR results169 M fun H=>H.rt (by rw [hr0];exact av.uM M (by simp [maxLen]))))
 obtain ⟨b,o,xs,rfl,hxl,hxc,hx1,fu⟩:=hx hr0;refine ny (Li:=[]) (Lo:=[_]) (news:=xs) mQ oJ M M H wn M M bY.empty hxl (fun j u hj=>H.hp.aI (hxc j u hj)) hx1 O O M ?_;clear H;intro v7 Lo a w hrow H;obtain ⟨G',hm,hrep,H⟩:=H.qh hrow (rows:=rows) O (by simpa using fu)
 try clear hG
 obtain ⟨G2,hG2⟩:∃ g,g=G':=⟨_,M⟩;subst hG2;exact kH H (bF K5 M (LR results169 M fun H=>H.rt hrep))
theorem apq (G:GH) (w0:World) (hG:Hold G w0) (rows:List (List Dat)) (A:Option Addr) (n c:Nat) (hv:av G (.sl 4 rows) (.slice A n c)) (hz:rows.length<=4294967296) :
  Calls prog 170 #[.slice A n c] w0 (bE w0 G fun v G'=>av G' (.sl 4 rows) v):=by
 obtain ⟨hn,hc1,hc2,hnil,hx⟩:=hv.cells;refine eN [(0,_)] func170 M ntmps170 M M hG ?_;intro a H;refine kP H (SR fun _ K1=>aj K1 M (SQ fun _ K2=>SR fun _ K3=>Rm M ?_));clear H K1;intro a H;refine Dg mq H wn M M ?_;clear H;intro a H;refine K3 _ _ ?_;clear K3;refine jL H M ?_ ?_
 ·intro h4
  exact kP H (SR fun _ K4=>aj K4 M (LR results170 M fun H=>H.rt (by rw [hnil (by simpa using h4)];exact av.uM M (by simp [maxLen]))))
 intro h4
 try have p4:=dF h4
 refine iD ?_;refine K2 _ _ ?_;clear K2;refine bL (fun _ K5=>?_)
 have hA:¬ A=none:=by intro e;rw [e] at h4;cases h4
 refine oQ ?_;refine Dc mq jY H wn M ?_;clear H;intro b5 a w hb5 H;refine kH H (Rm M ?_);clear H;intro a H
 by_cases hr0:rows=[]
 ·have hn0:n=0:=by rw [hn,hr0];rfl
  subst hn0;refine BK mq jY H wn M M (dS _) M ?_;clear H;intro a H;exact kH H (bF K5 M (LR results170 M fun H=>H.rt (by rw [hr0];exact av.uM M (by simp [maxLen]))))
 obtain ⟨b,o,xs,rfl,hxl,hxc,hx1,fu⟩:=hx hr0;refine ny (Li:=[]) (Lo:=[_]) (news:=xs) mq jY M M H wn M M bY.empty hxl (fun j u hj=>H.hp.aI (hxc j u hj)) hx1 O O M ?_;clear H;intro v7 Lo a w hrow H;obtain ⟨G',hm,hrep,H⟩:=H.qh hrow (rows:=rows) O (by simpa using fu)
 try clear hG
 obtain ⟨G2,hG2⟩:∃ g,g=G':=⟨_,M⟩;subst hG2;exact kH H (bF K5 M (LR results170 M fun H=>H.rt hrep))
theorem anE {p:Prop} (h:p:=by
 exact kH H (Rf oh M fun _ H=>fin H iJ M)):p:=h
theorem VT {p:Prop} (h:p:=by
 refine eY [] M trivial V tV M M ?_;intro aW a w G1 hG HT H fin;exact anE):p:=h
theorem Vo {p:Prop} (h:p:=by
 clear H;rintro v10 GL a w rE uD H;exact fin H uD (rE)):p:=h
theorem QJ (G:GH) (w0:World) (hG:Hold G w0) (h:dD) (pA dA yA:Option Addr) (pn pc dn dc yn yc:Nat) (hv:jG G h (.slice pA pn pc) (.slice dA dn dc) (.slice yA yn yc)) (hz:nH h<=4294967296) :
  Calls prog 108 #[.agg #[.slice pA pn pc,vi h.marks.ins,vi h.marks.move,.slice dA dn dc,.slice yA yn yc]] w0 (bE w0 G fun v G'=>∃ p d l,v=.agg #[p,vi h.marks.ins,vi h.marks.move,d,l]∧jG G' h p d l):=by
 have he:=GJ h;have h1:=sG (h.props.map aN.dat);have h2:=sG (h.marks.bD.map gT.dat);have h3:=sG (h.marks.layers.map bW.dat);refine eN [(0,_)] func108 M ntmps108 M M hG ?_;intro a H;refine cZ (fun _ K1=>?_);refine dZ (cs:=[_,_,_,_,_]) H wn M M M ?_;clear H;intro b1 a w hb1 H;refine dW gB H wn M ?_;clear H;intro b2 a w hb2 H;refine K1 _ _ ?_;clear K1;refine kP H (SR fun _ K2=>bC zk vK 1 M M ?_);clear H;intro a H;refine s_call QZ H wn M (Wp _ _ H.ro _ _ _ _ hv.props O) M ?_;clear H;rintro v5 G5 a w wC yh H;obtain ⟨A5,n5,c5,rfl⟩:=wC.form;refine kH H (Rf zk M ?_);clear H;intro a H;refine bJ vK 1 (vs:=[_]) H wn M ?_;clear H;intro w H;refine K2 _ _ ?_;clear K2;refine bL (fun _ K3=>?_);obtain ⟨hvp,hvd,hvy⟩:=hv.mono yh;clear hv
 have tV:zR (fun (bV:Nat) (v:ah) (G:GH)=>match bV with|0=>v=(aH b1 1)|1=>v=(aH b1 3)|2=>v=.slice dA dn dc|3=>av G (.sl 2 (h.marks.bD.map gT.dat)) v|4=>v=(aH b1 1)|5=>v=(aH b1 4)|6=>v=.slice yA yn yc|7=>av G (.sl 4 (h.marks.layers.map bW.dat)) v|8=>v=(aH b1 1)|9=>v=(aH b1 3)|_=>True):=by intro bV v G G' hm h;(iterate 14 (rcases bV with _|bV;(first|exact h|exact av.mono hm h)));exact trivial
 refine yU (hmx) [[],[0],[0,1],[0,1,2],[],[4],[4,5],ra 0 7,ra 0 7,(ra 0 7++[8]),ra 0 10,ra 0 11,ra 0 12,ra 0 13] (ra 10 4) V V _ tV H ?_ ?_
 ·clear H;refine aB ?_ ?_ ?_ ?_ (aB ?_ ?_ ?_ ?_ (aB ?_ ?_ (bS M) (bS M) (bN (bS M) (bN (bS M) dz))))
  ·exact VT
  ·refine eY [(0,7,_)] M ⟨fun _ _ h=>h,aC⟩ V tV M M ?_;intro aW a w G1 hG HT H fin;exact kH H (Rf qH M fun _ H=>fin H iJ M)
  ·refine eY [(1,8,_)] M ⟨fun _ _ h=>h,aC⟩ V tV M M ?_;intro aW a w G1 hG HT H fin;exact kH H (Ro qO 1 M fun _ H=>fin H iJ M)
  ·refine eY [(2,9,_)] M ⟨fun _ _ h=>h,aC⟩ V tV M M ?_;intro aW a w G1 hG HT H fin;refine s_call arh H wn M (apk _ _ H.ro _ _ _ _ (hvd.mono hG) O) M ?_;exact Vo
  ·exact VT
  ·refine eY [(4,11,_)] M ⟨fun _ _ h=>h,aC⟩ V tV M M ?_;intro aW a w G1 hG HT H fin;exact kH H (Rf Bd M fun _ H=>fin H iJ M)
  ·refine eY [(5,12,_)] M ⟨fun _ _ h=>h,aC⟩ V tV M M ?_;intro aW a w G1 hG HT H fin;exact kH H (Ro BQ 1 M fun _ H=>fin H iJ M)
  ·refine eY [(6,13,_)] M ⟨fun _ _ h=>h,aC⟩ V tV M M ?_;intro aW a w G1 hG HT H fin;refine s_call ari H wn M (apq _ _ H.ro _ _ _ _ (hvy.mono hG) O) M ?_;clear H;rintro v14 EN a w vC Bo H;exact fin H Bo (vC)
  ·exact VT
  refine eY [(8,15,_)] M ⟨fun _ _ h=>h,aC⟩ V tV M M ?_;intro aW a w G1 hG HT H fin;exact kH H (Rf qH M fun _ H=>fin H iJ M)
 clear H;intro a w G Ec H hv;obtain ⟨u10,I6,rE⟩:=hv 3 10 Z M;(try dsimp only at rE);obtain ⟨Uo,n10,c10,rfl⟩:=rE.form;have H:=H.gU I6;obtain ⟨u14,OB,vC⟩:=hv 7 14 Z M;(try dsimp only at vC);obtain ⟨PD,n14,c14,rfl⟩:=vC.form;have H:=H.gU OB;have H:=H.aM (hv 9 16 M M) M;clear hv;refine bJ qO 1 (vs:=[_]) H wn M ?_;clear H;intro w H;refine kH H (Rf oh M (Rf Bd M ?_));clear H;intro a H;refine bJ BQ 1 (vs:=[_]) H wn M ?_;clear H;intro w H;refine aD ⟨M,?_⟩;refine K3 _ _ ?_;clear K3;refine cZ (fun _ K4=>?_);refine bQ gB (cs:=[_,_,_,_,_]) H wn M M (H.hp.dG 1 M M) M ?_;clear H;intro a H;refine bJ gB 0 (vs:=[_,_,_,_,_]) H wn M ?_;clear H;intro w H;refine K4 _ _ ?_;clear K4;refine eP ?_;refine (leave1 H results108 (.cons (qM gB (cs:=[_,_,_,_,_]) H M M (H.hp.dG 0 M M)) .nil) ?_).1;exact H.rt ⟨_,_,_,M,wC.mono Ec,rE,vC⟩
theorem zD {G:GH} {w:World} (h:Hold G w):gq G [] w:=⟨h,fun _ h=>(by cases h),fun _ h=>(by cases h),List.Pairwise.nil⟩
theorem abV {p:Prop} (h:p:=by
 exact ⟨none,0,by simp,by simp,by simp [maxLen],fun h=>absurd M h⟩):p:=h
theorem Kw {P:Program} {f:FuncId} {args:Array ah} {w0:World} {G:GH} {e sz n:Nat} {rows:List (List Dat)} (hG:Hold G w0) (h:Calls P f args w0 (fM w0 G [] fun u G' L'=>∃ xs,bY e sz u n xs L'∧dx G' sz rows xs)) (hl:rows.length=n) :
  Calls P f args w0 (bE w0 G fun u G'=>av G' (.sl sz rows) u):=by
 intro cs;obtain ⟨e1,w',fr,⟨v,G',L',rfl,hch,xs,hrow,fu⟩,h2,h3,h4⟩:=h cs;have hp0:Hp w0 (fun k=>k < w0.heap.size) G G ([]++[]) w0:=⟨M,M,M,dS _,fun _ h=>h,fun _ _=>rfl,hG,fun _ _ h=>h,fun _ _ h=>.inl h,fun _ h=>(by cases h),fun _ h=>(by cases h),fun _ h=>(by cases h),List.Pairwise.nil⟩;have hp1:=hp0.change hch;rw [jA] at hp1;refine ⟨_,w',fr,?_,h2,h3,h4⟩
 rcases hrow.2 with ⟨rfl,h5,rfl⟩|⟨b,cap,cur,rfl,rfl,h5,h6,h7,h8⟩
 ·refine hp1.ret ?_;have:rows=[]:=List.eq_nil_of_length_eq_zero O;subst this
  simp only [av]
  exact abV
 have hn:=hp1.vI (b,.cells cur e (0,0)) (by simp);exact (hp1.giveUp 0 M).ret (av.wI (GH.J5 G' b _) hl h5 h6 h8 (fu.mono fun k o h=>GH.J4 G' hn k o h))
def Dy (fv:ah) (w0:World) (G:GH) (d d':List Dat):Prop:=∀ (G1:GH) (w1:World) (cs:List ah),(∀ b o,G b=some o->G1 b=some o)->Hold G1 w1->aX G1 d cs ->
 uh prog fv [.agg cs.toArray] w1 (bE w1 G1 fun u G'=>∃ cs',u=.agg cs'.toArray∧aX G' d' cs')
abbrev JM (fv:ah) (w0:World) (G:GH) (d:List Dat):Prop:=Dy fv w0 G d d
theorem Vd {p:Prop} (h:p:=by
 exact ⟨O,bY.nil,by simpa using dx.nil,fun _ _ h=>h⟩):p:=h
theorem anL {p:Prop} (h:p:=by
 exact (fu.mono uJ).snoc (by simpa using fH) (by rw [Ai];rfl)):p:=h
theorem Vi {p:Prop} (h:p:=by
 exact H.hp.gQ ⟨_,hrw,by rw [nZ (by simp)] at fu;exact fu⟩):p:=h
theorem Vp {p:Prop} (h:p:=by
 clear H;intro v19 UJ a w FU H;refine kH H (bF K7 M (SC (Rd M (Rm M ?_))));clear H K7;intro a H;refine aD ?_;refine dQ ((k+1,v19,xs++DN,UJ,AB)) (by exact (H.eD (Pl:=[_,_]) (dK:=[]) [] Z M).sub ⟨M,M,M,M,M,aC⟩) ?_
 (try dsimp only);refine ⟨O,FU,?_,fun b o h=>uJ b o (hgm b o h)⟩;rw [jK (by simpa using hk2)];exact anL):p:=h
theorem afo (φ:ak->ak) (G:GH) (w0:World) (hO:gq G [] w0) (l:List ak) (v fv:ah) (hv:av G (.sl 11 (l.map ak.dat)) v) (hz:l.length<=4294967296) (hf:∀ x∈l,Dy fv w0 G x.dat (φ x).dat) :
  Calls prog 140 #[v,fv] w0 (fM w0 G [] fun u G' L'=>∃ xs,bY 68 11 u l.length xs L'∧dx G' 11 (l.map fun x=>(φ x).dat) xs):=by
 obtain ⟨A,c,rfl,hc1,hc2,hg⟩:=hv.slice
 have hml:4294967297<=maxLen:=by decide
 rw [bK] at *;refine jc (N:=22) (T:=[(0,_),(1,_)]) func140 M ntmps140 M M hO ?_;intro a H;refine kP H (SR fun _ K1=>aj K1 M (SR fun _ K2=>aj K2 M (SQ fun _ K3=>SR fun _ K4=>Rm M (Rl iB M (Rm M (Kz K4 (SB ?_)))))));clear H K1 K2 K4;intro a H;skip;refine fD (ι:=Nat × ah × List ah × OL × GH) (Tc:=[(1,_),(8,_),(9,_)]) (Lc:=[]) (fun gh=>[(5,gh.2.1),(10,vi gh.1)]) (fun gh=>[]++gh.2.2.2.1) (fun gh=>gh.2.2.2.2) (fun gh=>gh.1<=l.length∧bY 68 11 gh.2.1 gh.1 gh.2.2.1 gh.2.2.2.1∧dx gh.2.2.2.2 11 ((l.map fun x=>(φ x).dat).take gh.1) gh.2.2.1∧(∀ b o,G b=some o->gh.2.2.2.2 b=some o)) (fun gh=>l.length - gh.1) ((0,.slice none 0 0,[],[],G)) (by exact H.sub ⟨M,M,M,M,M,aC⟩) ?_ ?_
 ·exact Vd
 clear H;rintro ⟨k,v,xs,Lo,g⟩ a w hI H;dsimp only at hI H;obtain ⟨hk,hrw,fu,hgm⟩:=hI;dsimp only [lca,bM] at H;refine kP H (SR fun _ K5=>Rc M (Kz K5 (SQ fun _ K6=>Cd M ?_ ?_))) <;> clear H K5
 ·intro h11 a H
  try have rJ:=dT h11
  have hk2:k < l.length:=by omega
  obtain ⟨b,o,cs,rfl,hcl,hrow,hrep⟩:=hg k l[k].dat (by simp [hk2]);obtain ⟨pA,pn,pc,dA,dn,dc,yA,yn,yc,fA,fn,fc,rA,rn,rc,rfl,-⟩:=hrep.item;replace hrow:=fun j u hj=>aG hgm (hrow j u hj);refine kP H (Kc K6 (SQ fun _ K7=>SB (SR fun _ K8=>Ri iB eZ M M ?_)));clear H K6;intro a H;refine bQ eZ (cs:=[_,_,_,_,_,_,_,_,_,_,_]) H wn M M (fun j v hj=>H.hp.aI (hrow j v hj)) M ?_;clear H;intro a H;refine dW eZ H wn M ?_;clear H;intro b7 a w CB H;refine bJ eZ 0 (vs:=[_,_,_,_,_,_,_,_,_,_,_]) H wn M ?_;clear H;intro w H;refine K8 _ _ ?_;clear K8;refine kP H (SC (Rm M (Rm M ?_)));clear H;intro a H;refine bQ eZ (cs:=[_,_,_,_,_,_,_,_,_,_,_]) H wn M M (H.hp.dG 0 M M) M ?_;clear H;intro a H;refine lI H wn M M (hf _ (jS hk2) _ _ _ hgm H.ro (hrep.mono hgm)) M ?_;clear H;rintro v17 AB a w ⟨DN,rfl,fH⟩ uJ H;obtain ⟨cs,hcs⟩:∃ cs,cs=DN:=⟨_,M⟩;obtain ⟨pA,pn,pc,dA,dn,dc,yA,yn,yc,fA,fn,fc,rA,rn,rc,Ai,-⟩:=fH.item;rw [Ai] at H;refine iV iB eZ [_,_,_,_,_,_,_,_,_,_,_] [_,_,_,_,_,_,_,_,_,_,_] H wn M M M M M (by intro i q h;match i,h with|0,h=>exact h|n+1,h=>simp at h) M M ?_;clear H;intro b18 a w RL H;refine ny (Li:=[_,_]) (Lo:=Lo) (news:=DN) iB eZ M M H wn M M hrw (by rw [Ai];rfl) (by rw [Ai];exact H.hp.dG 0 M M) fH.one O O M ?_;exact Vp
 intro h11 a H
 try have rJ:=dF h11
 refine dY ?_;refine K3 _ _ ?_;clear K3;refine kP H (SR fun _ K9=>Rm M (aj K9 M ?_));clear H K9;intro a H;refine lr H results140 M ?_
 obtain rfl:k=l.length:=by omega
 exact Vi
theorem aql (φ:ak->ak) (G:GH) (w0:World) (hG:Hold G w0) (l:List ak) (v fv:ah) (hv:av G (.sl 11 (l.map ak.dat)) v) (hz:l.length<=4294967296) (hf:∀ x∈l,Dy fv w0 G x.dat (φ x).dat) :
  Calls prog 140 #[v,fv] w0 (bE w0 G fun u G'=>av G' (.sl 11 (l.map fun x=>(φ x).dat)) u):=Kw hG (afo φ G w0 (zD hG) l v fv hv hz hf) (by simp)
theorem aqh (G:GH) (w0:World) (hG:Hold G w0) (l:List ak) (v fv:ah) (hv:av G (.sl 11 (l.map ak.dat)) v) (hz:l.length<=4294967296) (hf:∀ x∈l,JM fv w0 G x.dat) :
  Calls prog 140 #[v,fv] w0 (bE w0 G fun u G'=>av G' (.sl 11 (l.map ak.dat)) u):=aql (fun x=>x) G w0 hG l v fv hv hz hf
theorem aqj (φ:aO->aO) (G:GH) (w0:World) (hO:gq G [] w0) (l:List aO) (v fv:ah) (hv:av G (.sl 6 (l.map aO.dat)) v) (hz:l.length<=4294967296) (hf:∀ x∈l,Dy fv w0 G x.dat (φ x).dat) :
  Calls prog 110 #[v,fv] w0 (fM w0 G [] fun u G' L'=>∃ xs,bY 74 6 u l.length xs L'∧dx G' 6 (l.map fun x=>(φ x).dat) xs):=by
 obtain ⟨A,c,rfl,hc1,hc2,hg⟩:=hv.slice
 have hml:4294967297<=maxLen:=by decide
 rw [bK] at *;refine jc (N:=22) (T:=[(0,_),(1,_)]) func110 M ntmps110 M M hO ?_;intro a H;refine kP H (SR fun _ K1=>aj K1 M (SR fun _ K2=>aj K2 M (SQ fun _ K3=>SR fun _ K4=>Rm M (Rl mR M (Rm M (Kz K4 (SB ?_)))))));clear H K1 K2 K4;intro a H;skip;refine fD (ι:=Nat × ah × List ah × OL × GH) (Tc:=[(1,_),(8,_),(9,_)]) (Lc:=[]) (fun gh=>[(5,gh.2.1),(10,vi gh.1)]) (fun gh=>[]++gh.2.2.2.1) (fun gh=>gh.2.2.2.2) (fun gh=>gh.1<=l.length∧bY 74 6 gh.2.1 gh.1 gh.2.2.1 gh.2.2.2.1∧dx gh.2.2.2.2 6 ((l.map fun x=>(φ x).dat).take gh.1) gh.2.2.1∧(∀ b o,G b=some o->gh.2.2.2.2 b=some o)) (fun gh=>l.length - gh.1) ((0,.slice none 0 0,[],[],G)) (by exact H.sub ⟨M,M,M,M,M,aC⟩) ?_ ?_
 ·exact Vd
 clear H;rintro ⟨k,v,xs,Lo,g⟩ a w hI H;dsimp only at hI H;obtain ⟨hk,hrw,fu,hgm⟩:=hI;dsimp only [lca,bM] at H;refine kP H (SR fun _ K5=>Rc M (Kz K5 (SQ fun _ K6=>Cd M ?_ ?_))) <;> clear H K5
 ·intro h11 a H
  try have rJ:=dT h11
  have hk2:k < l.length:=by omega
  obtain ⟨b,o,cs,rfl,hcl,hrow,hrep⟩:=hg k l[k].dat (by simp [hk2]);obtain ⟨pA,pn,pc,dA,dn,dc,yA,yn,yc,fA,fn,fc,rfl,-⟩:=hrep.row;replace hrow:=fun j u hj=>aG hgm (hrow j u hj);refine kP H (Kc K6 (SQ fun _ K7=>SB (SR fun _ K8=>Ri mR jO M M ?_)));clear H K6;intro a H;refine bQ jO (cs:=[_,_,_,_,_,_]) H wn M M (fun j v hj=>H.hp.aI (hrow j v hj)) M ?_;clear H;intro a H;refine dW jO H wn M ?_;clear H;intro b7 a w CB H;refine bJ jO 0 (vs:=[_,_,_,_,_,_]) H wn M ?_;clear H;intro w H;refine K8 _ _ ?_;clear K8;refine kP H (SC (Rm M (Rm M ?_)));clear H;intro a H;refine bQ jO (cs:=[_,_,_,_,_,_]) H wn M M (H.hp.dG 0 M M) M ?_;clear H;intro a H;refine lI H wn M M (hf _ (jS hk2) _ _ _ hgm H.ro (hrep.mono hgm)) M ?_;clear H;rintro v17 AB a w ⟨DN,rfl,fH⟩ uJ H;obtain ⟨cs,hcs⟩:∃ cs,cs=DN:=⟨_,M⟩;obtain ⟨pA,pn,pc,dA,dn,dc,yA,yn,yc,fA,fn,fc,Ai,-⟩:=fH.row;rw [Ai] at H;refine iV mR jO [_,_,_,_,_,_] [_,_,_,_,_,_] H wn M M M M M (by intro i q h;match i,h with|0,h=>exact h|n+1,h=>simp at h) M M ?_;clear H;intro b18 a w RL H;refine ny (Li:=[_,_]) (Lo:=Lo) (news:=DN) mR jO M M H wn M M hrw (by rw [Ai];rfl) (by rw [Ai];exact H.hp.dG 0 M M) fH.one O O M ?_;exact Vp
 intro h11 a H
 try have rJ:=dF h11
 refine dY ?_;refine K3 _ _ ?_;clear K3;refine kP H (SR fun _ K9=>Rm M (aj K9 M ?_));clear H K9;intro a H;refine lr H results110 M ?_
 obtain rfl:k=l.length:=by omega
 exact Vi
theorem afq (φ:aO->aO) (G:GH) (w0:World) (hG:Hold G w0) (l:List aO) (v fv:ah) (hv:av G (.sl 6 (l.map aO.dat)) v) (hz:l.length<=4294967296) (hf:∀ x∈l,Dy fv w0 G x.dat (φ x).dat) :
  Calls prog 110 #[v,fv] w0 (bE w0 G fun u G'=>av G' (.sl 6 (l.map fun x=>(φ x).dat)) u):=Kw hG (aqj φ G w0 (zD hG) l v fv hv hz hf) (by simp)
theorem aqk (G:GH) (w0:World) (hG:Hold G w0) (l:List aO) (v fv:ah) (hv:av G (.sl 6 (l.map aO.dat)) v) (hz:l.length<=4294967296) (hf:∀ x∈l,JM fv w0 G x.dat) :
  Calls prog 110 #[v,fv] w0 (bE w0 G fun u G'=>av G' (.sl 6 (l.map aO.dat)) u):=afq (fun x=>x) G w0 hG l v fv hv hz hf
theorem aqi (φ:aQ->aQ) (G:GH) (w0:World) (hO:gq G [] w0) (l:List aQ) (v fv:ah) (hv:av G (.sl 7 (l.map aQ.dat)) v) (hz:l.length<=4294967296) (hf:∀ x∈l,Dy fv w0 G x.dat (φ x).dat) :
  Calls prog 172 #[v,fv] w0 (fM w0 G [] fun u G' L'=>∃ xs,bY 76 7 u l.length xs L'∧dx G' 7 (l.map fun x=>(φ x).dat) xs):=by
 obtain ⟨A,c,rfl,hc1,hc2,hg⟩:=hv.slice
 have hml:4294967297<=maxLen:=by decide
 rw [bK] at *;refine jc (N:=22) (T:=[(0,_),(1,_)]) func172 M ntmps172 M M hO ?_;intro a H;refine kP H (SR fun _ K1=>aj K1 M (SR fun _ K2=>aj K2 M (SQ fun _ K3=>SR fun _ K4=>Rm M (Rl oK M (Rm M (Kz K4 (SB ?_)))))));clear H K1 K2 K4;intro a H;skip;refine fD (ι:=Nat × ah × List ah × OL × GH) (Tc:=[(1,_),(8,_),(9,_)]) (Lc:=[]) (fun gh=>[(5,gh.2.1),(10,vi gh.1)]) (fun gh=>[]++gh.2.2.2.1) (fun gh=>gh.2.2.2.2) (fun gh=>gh.1<=l.length∧bY 76 7 gh.2.1 gh.1 gh.2.2.1 gh.2.2.2.1∧dx gh.2.2.2.2 7 ((l.map fun x=>(φ x).dat).take gh.1) gh.2.2.1∧(∀ b o,G b=some o->gh.2.2.2.2 b=some o)) (fun gh=>l.length - gh.1) ((0,.slice none 0 0,[],[],G)) (by exact H.sub ⟨M,M,M,M,M,aC⟩) ?_ ?_
 ·exact Vd
 clear H;rintro ⟨k,v,xs,Lo,g⟩ a w hI H;dsimp only at hI H;obtain ⟨hk,hrw,fu,hgm⟩:=hI;dsimp only [lca,bM] at H;refine kP H (SR fun _ K5=>Rc M (Kz K5 (SQ fun _ K6=>Cd M ?_ ?_))) <;> clear H K5
 ·intro h11 a H
  try have rJ:=dT h11
  have hk2:k < l.length:=by omega
  obtain ⟨b,o,cs,rfl,hcl,hrow,hrep⟩:=hg k l[k].dat (by simp [hk2]);obtain ⟨pA,pn,pc,dA,dn,dc,yA,yn,yc,fA,fn,fc,rfl,-⟩:=hrep.cell;replace hrow:=fun j u hj=>aG hgm (hrow j u hj);refine kP H (Kc K6 (SQ fun _ K7=>SB (SR fun _ K8=>Ri oK kL M M ?_)));clear H K6;intro a H;refine bQ kL (cs:=[_,_,_,_,_,_,_]) H wn M M (fun j v hj=>H.hp.aI (hrow j v hj)) M ?_;clear H;intro a H;refine dW kL H wn M ?_;clear H;intro b7 a w CB H;refine bJ kL 0 (vs:=[_,_,_,_,_,_,_]) H wn M ?_;clear H;intro w H;refine K8 _ _ ?_;clear K8;refine kP H (SC (Rm M (Rm M ?_)));clear H;intro a H;refine bQ kL (cs:=[_,_,_,_,_,_,_]) H wn M M (H.hp.dG 0 M M) M ?_;clear H;intro a H;refine lI H wn M M (hf _ (jS hk2) _ _ _ hgm H.ro (hrep.mono hgm)) M ?_;clear H;rintro v17 AB a w ⟨DN,rfl,fH⟩ uJ H;obtain ⟨cs,hcs⟩:∃ cs,cs=DN:=⟨_,M⟩;obtain ⟨pA,pn,pc,dA,dn,dc,yA,yn,yc,fA,fn,fc,Ai,-⟩:=fH.cell;rw [Ai] at H;refine iV oK kL [_,_,_,_,_,_,_] [_,_,_,_,_,_,_] H wn M M M M M (by intro i q h;match i,h with|0,h=>exact h|n+1,h=>simp at h) M M ?_;clear H;intro b18 a w RL H;refine ny (Li:=[_,_]) (Lo:=Lo) (news:=DN) oK kL M M H wn M M hrw (by rw [Ai];rfl) (by rw [Ai];exact H.hp.dG 0 M M) fH.one O O M ?_;exact Vp
 intro h11 a H
 try have rJ:=dF h11
 refine dY ?_;refine K3 _ _ ?_;clear K3;refine kP H (SR fun _ K9=>Rm M (aj K9 M ?_));clear H K9;intro a H;refine lr H results172 M ?_
 obtain rfl:k=l.length:=by omega
 exact Vi
theorem afp (φ:aQ->aQ) (G:GH) (w0:World) (hG:Hold G w0) (l:List aQ) (v fv:ah) (hv:av G (.sl 7 (l.map aQ.dat)) v) (hz:l.length<=4294967296) (hf:∀ x∈l,Dy fv w0 G x.dat (φ x).dat) :
  Calls prog 172 #[v,fv] w0 (bE w0 G fun u G'=>av G' (.sl 7 (l.map fun x=>(φ x).dat)) u):=Kw hG (aqi φ G w0 (zD hG) l v fv hv hz hf) (by simp)
theorem aqg (G:GH) (w0:World) (hG:Hold G w0) (l:List aQ) (v fv:ah) (hv:av G (.sl 7 (l.map aQ.dat)) v) (hz:l.length<=4294967296) (hf:∀ x∈l,JM fv w0 G x.dat) :
  Calls prog 172 #[v,fv] w0 (bE w0 G fun u G'=>av G' (.sl 7 (l.map aQ.dat)) u):=afp (fun x=>x) G w0 hG l v fv hv hz hf
def GK (n:Nat):Prop:=∀ (G:GH) (w0:World),Hold G w0->∀ (l:List ak) (v:ah),av G (.sl 11 (l.map ak.dat)) v->bq l < n ->
 Calls prog 80 #[v] w0 (bE w0 G fun u G'=>av G' (.sl 11 (l.map ak.dat)) u)
theorem Kg {p:Prop} (h:p:=by
 exact fin H iJ M):p:=h
theorem acw {p:Prop} (h:p:=by
 exact kH H (Ro jy 1 M fun _ H=>fin H iJ M)):p:=h
theorem jH {p:Prop} (h:p:=by
 clear H;intro a H;exact Kg):p:=h
theorem adG {p:Prop} (h:p:=by
 refine eY [(3,6,_)] M ⟨fun _ _ h=>h,aC⟩ V jd M M ?_;intro aW a w G1 hG HT H fin;refine s_call QY H wn M (QJ _ _ H.ro x.head _ _ _ _ _ _ _ _ _ (hh.mono hG) O) M ?_;clear H;rintro v7 G7 a w IV KR H;exact fin H KR (IV)):p:=h
theorem adZ {p:Prop} (h:p:=by
 refine eY [(0,3,_)] M ⟨fun _ _ h=>h,aC⟩ V jd M M ?_;intro aW a w G1 hG HT H fin;exact kH H (Ro aF 1 M fun _ H=>fin H iJ M)):p:=h
theorem aeb {p:Prop} (h:p:=by
 refine eY [] M trivial V jd M M ?_;intro aW a w G1 hG HT H fin;exact kH H (Rf NK M fun _ H=>fin H iJ M)):p:=h
theorem aec {p:Prop} (h:p:=by
 refine eY [] M trivial V jd M M ?_;intro aW a w G1 hG HT H fin;exact kH H (Rf Ii M fun _ H=>fin H iJ M)):p:=h
theorem aed {p:Prop} (h:p:=by
 refine eY [] M trivial V jd M M ?_;intro aW a w G1 hG HT H fin;exact kH H (Rf Ij M fun _ H=>fin H iJ M)):p:=h
theorem aeh {p:Prop} (h:p:=by
 refine eY [(5,8,_)] M ⟨fun _ _ h=>h,aC⟩ V jd M M ?_;intro aW a w G1 hG HT H fin;exact acw):p:=h
theorem Vv {p:Prop} (h:p:=by
 refine bQ gB (cs:=[_,_,_,_,_]) H wn M M (H.hp.dG 1 M M) M ?_;exact jH):p:=h
theorem adw {p:Prop} (h:p:=by
 refine eY [(2,5,_)] M ⟨fun _ _ h=>h,aC⟩ V jd M M ?_;intro aW a w G1 hG HT H fin;exact Vv):p:=h
theorem apj {n:Nat} (ih:GK n) (hn:n<=4294967296) (G:GH) (w0:World) (hG:Hold G w0) (x:aQ) (cs:List ah) (hv:aX G x.dat cs) (hz:bX x.dat < n+1) :
  Calls prog 203 #[.agg cs.toArray] w0 (bE w0 G fun u G'=>∃ cs',u=.agg cs'.toArray∧aX G' x.dat cs'):=by
 have he:=zO x;obtain ⟨pA,pn,pc,dA,dn,dc,yA,yn,yc,fA,fn,fc,rfl,hh,hf⟩:=hv.cell;refine eN [(0,_)] func203 M ntmps203 M M hG ?_;intro a H;refine cZ (fun _ K1=>?_);refine dZ (cs:=[_,_,_,_,_,_,_]) H wn M M M ?_;clear H;intro b1 a w hb1 H;refine dW kL H wn M ?_;clear H;intro b2 a w hb2 H;refine K1 _ _ ?_;clear K1;refine bL (fun _ K2=>?_)
 have jd:zR (fun (bV:Nat) (v:ah) (G:GH)=>match bV with|0=>v=(aH b1 0)|1=>v=vi x.id|2=>v=(aH b1 1)|3=>v=.agg #[.slice pA pn pc,vi x.head.marks.ins,vi x.head.marks.move,.slice dA dn dc,.slice yA yn yc]|4=>∃ p d l,v=.agg #[p,vi x.head.marks.ins,vi x.head.marks.move,d,l]∧jG G x.head p d l|5=>v=(aH b1 6)|6=>v=.slice fA fn fc|7=>av G (.sl 11 (x.flow.map ak.dat)) v|_=>True):=by intro bV v G G' hm h;(iterate 10 (rcases bV with _|bV;(first|exact h|exact let ⟨p,d,l,h1,h2⟩:=h;⟨p,d,l,h1,h2.mono hm⟩|exact av.mono hm h)));exact trivial
 refine yU (hmx) [[],[0],[],[2],[2,3],[],[5],ra 2 5,ra 0 8,ra 0 9] [8,9] V V _ jd H ?_ ?_
 ·clear H;refine aB ?_ ?_ ?_ ?_ (aB ?_ ?_ ?_ ?_ (bN (bS M) (bN (bS M) dz)))
  ·exact aeb
  ·exact adZ
  ·exact aec
  ·exact adw
  ·exact adG
  ·exact aed
  ·exact aeh
  refine eY [(6,9,_)] M ⟨fun _ _ h=>h,aC⟩ V jd M M ?_;intro aW a w G1 hG HT H fin;refine s_call Q6 H wn M (ih _ _ H.ro x.flow _ (hf.mono hG) O) M ?_;exact Vo
 clear H;intro a w G nO H hv;have H:=H.aM (hv 1 4 M M) M;obtain ⟨u7,YW,IV⟩:=hv 4 7 Z M;(try dsimp only at IV);obtain ⟨p7,d7,l7,rfl,Ef⟩:=IV;obtain ⟨a1,a2,a3,rfl⟩:=Ef.props.form;obtain ⟨a4,a5,a6,rfl⟩:=Ef.bD.form;obtain ⟨a7,a8,a9,rfl⟩:=Ef.layers.form;have H:=H.gU YW;obtain ⟨u10,I6,rE⟩:=hv 7 10 Z M;(try dsimp only at rE);obtain ⟨Uo,n10,c10,rfl⟩:=rE.form;have H:=H.gU I6;clear hv;refine jM aaB [_,_,_,_,_,_,_] H wn M M M M ?_;clear H;intro a H;refine bJ kL 0 (vs:=[_,_,_,_,_,_,_]) H wn M ?_;clear H;intro w H;refine aD ⟨M,?_⟩;refine K2 _ _ ?_;clear K2;refine eP ?_;refine (leave1 H results203 (.cons (qM kL (cs:=[_,_,_,_,_,_,_]) H M M (H.hp.dG 0 M M)) .nil) ?_).1;exact H.rt ⟨_,M,aX.SG Ef rE⟩
theorem aph {n:Nat} (ih:GK n) (hn:n<=4294967296) {G:GH} {w0:World} (x:aQ) (hz:bX x.dat < n+1):JM (.func (.func 203) #[] #[]) w0 G x.dat:=by
 intro G1 w1 cs hm1 hG1 hr;have h:=apj ih hn _ _ hG1 x cs hr hz;have h2:=kD (P:=prog) (caps:=[]) (args:=[.agg cs.toArray]) arH h;exact h2
theorem VF {p:Prop} (h:p:=by
 refine eY [(1,4,_)] M ⟨fun _ _ h=>h,aC⟩ V jd M M ?_;intro aW a w G1 hG HT H fin;refine s_call QY H wn M (QJ _ _ H.ro x.head _ _ _ _ _ _ _ _ _ (hh.mono hG) O) M ?_;clear H;rintro v5 G5 a w wC rz H;exact fin H rz (wC)):p:=h
theorem adY {p:Prop} (h:p:=by
 refine eY [(3,6,_)] M ⟨fun _ _ h=>h,aC⟩ V jd M M ?_;intro aW a w G1 hG HT H fin;exact kH H (Ro wL 1 M fun _ H=>fin H iJ M)):p:=h
theorem aee {p:Prop} (h:p:=by
 refine eY [] M trivial V jd M M ?_;intro aW a w G1 hG HT H fin;exact kH H (Rf KN M fun _ H=>fin H iJ M)):p:=h
theorem aef {p:Prop} (h:p:=by
 refine eY [] M trivial V jd M M ?_;intro aW a w G1 hG HT H fin;exact kH H (Rf wm M fun _ H=>fin H iJ M)):p:=h
theorem Vq {p:Prop} (h:p:=by
 clear H;rintro v8 G8 a w mI wz H;exact fin H wz (mI)):p:=h
theorem VD {p:Prop} (h:p:=by
 refine eY [(0,3,_)] M ⟨fun _ _ h=>h,aC⟩ V jd M M ?_;intro aW a w G1 hG HT H fin;exact Vv):p:=h
theorem apy {n:Nat} (ih:GK n) (hn:n<=4294967296) (G:GH) (w0:World) (hG:Hold G w0) (x:aO) (cs:List ah) (hv:aX G x.dat cs) (hz:bX x.dat < n+1) :
  Calls prog 142 #[.agg cs.toArray] w0 (bE w0 G fun u G'=>∃ cs',u=.agg cs'.toArray∧aX G' x.dat cs'):=by
 have he:=zP x;have hl:=JG x.cells;obtain ⟨pA,pn,pc,dA,dn,dc,yA,yn,yc,fA,fn,fc,rfl,hh,hf⟩:=hv.row;refine eN [(0,_)] func142 M ntmps142 M M hG ?_;intro a H;refine cZ (fun _ K1=>?_);refine dZ (cs:=[_,_,_,_,_,_]) H wn M M M ?_;clear H;intro b1 a w hb1 H;refine dW jO H wn M ?_;clear H;intro b2 a w hb2 H;refine K1 _ _ ?_;clear K1;refine bL (fun _ K2=>?_)
 have jd:zR (fun (bV:Nat) (v:ah) (G:GH)=>match bV with|0=>v=(aH b1 0)|1=>v=.agg #[.slice pA pn pc,vi x.head.marks.ins,vi x.head.marks.move,.slice dA dn dc,.slice yA yn yc]|2=>∃ p d l,v=.agg #[p,vi x.head.marks.ins,vi x.head.marks.move,d,l]∧jG G x.head p d l|3=>v=(aH b1 5)|4=>v=.slice fA fn fc|5=>av G (.sl 7 (x.cells.map aQ.dat)) v|_=>True):=by intro bV v G G' hm h;(iterate 8 (rcases bV with _|bV;(first|exact h|exact let ⟨p,d,l,h1,h2⟩:=h;⟨p,d,l,h1,h2.mono hm⟩|exact av.mono hm h)));exact trivial
 refine yU (hmx) [[],[0],[0,1],[],[3],ra 0 5,ra 0 6,ra 0 7] [6,7] V V _ jd H ?_ ?_
 ·clear H;refine aB ?_ ?_ ?_ ?_ (aB ?_ ?_ (bS M) (bS M) dz)
  ·exact aee
  ·exact VD
  ·exact VF
  ·exact aef
  ·exact adY
  refine eY [(4,7,_)] M ⟨fun _ _ h=>h,aC⟩ V jd M M ?_;intro aW a w G1 hG HT H fin;refine s_call afD H wn M (aqg _ _ H.ro x.cells _ _ (hf.mono hG) O (fun y hy=>aph ih hn y (by have:=amA hy;omega))) rfl ?_;exact Vq
 clear H;intro a w G nO H hv;obtain ⟨u5,I8,wC⟩:=hv 2 5 Z M;(try dsimp only at wC);obtain ⟨p5,d5,l5,rfl,uG⟩:=wC;obtain ⟨a1,a2,a3,rfl⟩:=uG.props.form;obtain ⟨a4,a5,a6,rfl⟩:=uG.bD.form;obtain ⟨a7,a8,a9,rfl⟩:=uG.layers.form;have H:=H.gU I8;obtain ⟨u8,zx,mI⟩:=hv 5 8 Z M;(try dsimp only at mI);obtain ⟨A8,n8,c8,rfl⟩:=mI.form;have H:=H.gU zx;clear hv;refine jM aaA [_,_,_,_,_,_] H wn M M M M ?_;clear H;intro a H;refine bJ jO 0 (vs:=[_,_,_,_,_,_]) H wn M ?_;clear H;intro w H;refine aD ⟨M,?_⟩;refine K2 _ _ ?_;clear K2;refine eP ?_;refine (leave1 H results142 (.cons (qM jO (cs:=[_,_,_,_,_,_]) H M M (H.hp.dG 0 M M)) .nil) ?_).1;exact H.rt ⟨_,M,aX.SH uG mI⟩
theorem apx {n:Nat} (ih:GK n) (hn:n<=4294967296) {G:GH} {w0:World} (x:aO) (hz:bX x.dat < n+1):JM (.func (.func 142) #[] #[]) w0 G x.dat:=by
 intro G1 w1 cs hm1 hG1 hr;have h:=apy ih hn _ _ hG1 x cs hr hz;have h2:=kD (P:=prog) (caps:=[]) (args:=[.agg cs.toArray]) aqO h;exact h2
theorem apg {n:Nat} (ih:GK n) (hn:n<=4294967296) (G:GH) (w0:World) (hG:Hold G w0) (x:ak) (cs:List ah) (hv:aX G x.dat cs) (hz:bX x.dat < n+1) :
  Calls prog 141 #[.agg cs.toArray] w0 (bE w0 G fun u G'=>∃ cs',u=.agg cs'.toArray∧aX G' x.dat cs'):=by
 have he:=uP x;have hl:=JH x.rows;obtain ⟨pA,pn,pc,dA,dn,dc,yA,yn,yc,fA,fn,fc,rA,rn,rc,rfl,hh,hf,hr⟩:=hv.item;refine eN [(0,_)] func141 M ntmps141 M M hG ?_;intro a H;refine cZ (fun _ K1=>?_);refine dZ (cs:=[_,_,_,_,_,_,_,_,_,_,_]) H wn M M M ?_;clear H;intro b1 a w hb1 H;refine dW eZ H wn M ?_;clear H;intro b2 a w hb2 H;refine K1 _ _ ?_;clear K1;refine bL (fun _ K2=>?_)
 have jd:zR (fun (bV:Nat) (v:ah) (G:GH)=>match bV with|0=>v=(aH b1 4)|1=>v=.agg #[.slice pA pn pc,vi x.head.marks.ins,vi x.head.marks.move,.slice dA dn dc,.slice yA yn yc]|2=>∃ p d l,v=.agg #[p,vi x.head.marks.ins,vi x.head.marks.move,d,l]∧jG G x.head p d l|3=>v=(aH b1 9)|4=>v=.slice fA fn fc|5=>av G (.sl 11 (x.flow.map ak.dat)) v|6=>v=(aH b1 10)|7=>v=.slice rA rn rc|8=>av G (.sl 6 (x.rows.map aO.dat)) v|9=>v=(aH b1 4)|_=>True):=by intro bV v G G' hm h;(iterate 15 (rcases bV with _|bV;(first|exact h|exact let ⟨p,d,l,h1,h2⟩:=h;⟨p,d,l,h1,h2.mono hm⟩|exact av.mono hm h)));exact trivial
 refine yU (hmx) [[],[0],[0,1],[],[3],ra 0 5,[],[6],ra 0 8,[0,1,2,3,4,6,7],ra 0 10,ra 0 11,ra 0 12,ra 0 13,ra 0 14] (ra 10 5) V V _ jd H ?_ ?_
 ·clear H;refine aB ?_ ?_ ?_ ?_ (aB ?_ ?_ ?_ ?_ (aB ?_ ?_ (bS M) (bS M) (bN (bS M) (bN (bS M) (bN (bS M) dz)))))
  ·refine eY [] M trivial V jd M M ?_;intro aW a w G1 hG HT H fin;exact kH H (Rf wU M fun _ H=>fin H iJ M)
  ·exact VD
  ·exact VF
  ·refine eY [] M trivial V jd M M ?_;intro aW a w G1 hG HT H fin;exact kH H (Rf Af M fun _ H=>fin H iJ M)
  ·refine eY [(3,6,_)] M ⟨fun _ _ h=>h,aC⟩ V jd M M ?_;intro aW a w G1 hG HT H fin;exact acw
  ·refine eY [(4,7,_)] M ⟨fun _ _ h=>h,aC⟩ V jd M M ?_;intro aW a w G1 hG HT H fin;refine s_call Q6 H wn M (ih _ _ H.ro x.flow _ (hf.mono hG) O) M ?_;exact Vq
  ·refine eY [] M trivial V jd M M ?_;intro aW a w G1 hG HT H fin;exact kH H (Rf qd M fun _ H=>fin H iJ M)
  ·refine eY [(6,9,_)] M ⟨fun _ _ h=>h,aC⟩ V jd M M ?_;intro aW a w G1 hG HT H fin;exact kH H (Ro qw 1 M fun _ H=>fin H iJ M)
  ·refine eY [(7,10,_)] M ⟨fun _ _ h=>h,aC⟩ V jd M M ?_;intro aW a w G1 hG HT H fin;refine s_call afs H wn M (aqk _ _ H.ro x.rows _ _ (hr.mono hG) O (fun y hy=>apx ih hn y (by have:=amE hy;omega))) rfl ?_;clear H;rintro v11 yM a w vB tQ H;exact fin H tQ (vB)
  refine eY [] M trivial V jd M M ?_;intro aW a w G1 hG HT H fin;exact kH H (Rf wU M fun _ H=>fin H iJ M)
 clear H;intro a w G nO H hv;obtain ⟨u5,I8,wC⟩:=hv 2 5 Z M;(try dsimp only at wC);obtain ⟨p5,d5,l5,rfl,uG⟩:=wC;obtain ⟨a1,a2,a3,rfl⟩:=uG.props.form;obtain ⟨a4,a5,a6,rfl⟩:=uG.bD.form;obtain ⟨a7,a8,a9,rfl⟩:=uG.layers.form;have H:=H.gU I8;obtain ⟨u8,zx,mI⟩:=hv 5 8 Z M;(try dsimp only at mI);obtain ⟨A8,n8,c8,rfl⟩:=mI.form;have H:=H.gU zx;obtain ⟨u11,I7,vB⟩:=hv 8 11 Z M;(try dsimp only at vB);obtain ⟨Uq,n11,c11,rfl⟩:=vB.form;have H:=H.gU I7;have H:=H.aM (hv 9 12 M M) M;clear hv;refine bJ gB 1 (vs:=[_,_,_,_,_]) H wn M ?_;clear H;intro w H;refine kH H (Rf Af M ?_);clear H;intro a H;refine bJ jy 1 (vs:=[_]) H wn M ?_;clear H;intro w H;refine kH H (Rf qd M ?_);clear H;intro a H;refine bJ qw 1 (vs:=[_]) H wn M ?_;clear H;intro w H;refine aD ⟨M,?_⟩;refine K2 _ _ ?_;clear K2;refine cZ (fun _ K3=>?_);refine bQ eZ (cs:=[_,_,_,_,_,_,_,_,_,_,_]) H wn M M (H.hp.dG 1 M M) M ?_;clear H;intro a H;refine bJ eZ 0 (vs:=[_,_,_,_,_,_,_,_,_,_,_]) H wn M ?_;clear H;intro w H;refine K3 _ _ ?_;clear K3;refine eP ?_;refine (leave1 H results141 (.cons (qM eZ (cs:=[_,_,_,_,_,_,_,_,_,_,_]) H M M (H.hp.dG 0 M M)) .nil) ?_).1;exact H.rt ⟨_,M,aX.mkItem uG mI vB⟩
theorem aeI {n:Nat} (ih:GK n) (hn:n<=4294967296) {G:GH} {w0:World} (x:ak) (hz:bX x.dat < n+1):JM (.func (.func 141) #[] #[]) w0 G x.dat:=by
 intro G1 w1 cs hm1 hG1 hr;have h:=apg ih hn _ _ hG1 x cs hr hz;have h2:=kD (P:=prog) (caps:=[]) (args:=[.agg cs.toArray]) aqN h;exact h2
theorem QK:∀ n:Nat,n<=4294967297->GK n
 | 0,_=>fun _ _ _ _ _ _ h=>absurd h O
 | n+1,hn=>by
  intro G w0 hG l v hv hz;have ih:=QK n O;have hl:=Dw l;refine eN [(0,_)] func80 M ntmps80 M M hG ?_;intro a H;refine kP H (SR fun _ K1=>aj K1 M (SR fun _ K2=>Rm M ?_));clear H K1;intro a H;refine s_call afz H wn M (aqh _ _ H.ro l _ _ hv O (fun y hy=>aeI ih O y (by have:=abb hy;omega))) rfl ?_;clear H;rintro v4 G4 a w Oo FB H;exact kH H (aj K2 M (LR results80 M fun H=>H.rt Oo))
theorem apA (G:GH) (w0:World) (hG:Hold G w0) (l:List ak) (v:ah) (hv:av G (.sl 11 (l.map ak.dat)) v) (hz:bq l<=4294967296) :
  Calls prog 80 #[v] w0 (bE w0 G fun u G'=>av G' (.sl 11 (l.map ak.dat)) u):=QK 4294967297 O G w0 hG l v hv O
section
section
variable {P:Program} {N:Nat} {D:List Deferred} {w0 w w':World} {F:Nat->Prop} {G0 G G':GH} {L L' Li Lo:OL} {T:List (Nat × ah)} {a a':Act} {Q:Exit->Act->World->Prop}
theorem St.cast (h:St N D w0 F G0 G L T a w) (e:L=L'):St N D w0 F G0 G L' T a w:=e ▸ h
theorem St.assoc {A B C:OL} (h:St N D w0 F G0 G ((A++B)++C) T a w):St N D w0 F G0 G (A++(B++C)) T a w:=h.cast (iL _ _ _)
theorem St.un {A B C:OL} (h:St N D w0 F G0 G (A++(B++C)) T a w):St N D w0 F G0 G ((A++B)++C) T a w:=h.cast (iL _ _ _).symm
theorem St.Jm {A B:OL} (h:St N D w0 F G0 G (A++B) T a w):St N D w0 F G0 G (A++(B++[])) T a w:=h.cast (by rw [fG])
theorem QE {ι κ:Type} {Lc:OL} {Bf:Operand} {ps:List Nat} {assign body:Code} {gf:FuncId} {caps:List ah} {xs:List AP} {Gi:GH}
  (Lv:Nat->ι->OL) (Lt:Nat->ι->OL) (inv:Nat->ι->GH->Prop) (cx:κ->Code) (Lx GZ:κ->OL) (Bz:κ->GH->Prop) (i0:ι)
  (H:St N D w0 F G0 G (Lc++Lv 0 i0++Lt 0 i0) T a w) (hg:ev T Bf=some (.func (.func gf) #[] caps.toArray)) (en:∀ args w,(callFunc gf args).run P w=.ok (.enter gf args) w) (hit:Iter P Gi (.func (.func gf) #[] caps.toArray) xs) (hGi:∀ b o,Gi b=some o->G b=some o)
  (hps:ps.all (Nat.blt · N)=true) (hlen:∀ k args g,xJ xs k args g->args.length=ps.length) (hinv:∀ k i (G G':GH),(∀ b o,G b=some o->G' b=some o)->inv k i G->inv k i G') (Yn:∀ x (G G':GH),(∀ b o,G b=some o->G' b=some o)->Bz x G->Bz x G') (h0:inv 0 i0 G)
  (round:∀ (l:Nat) (Da zY:Obj) (bk:OL) (k:Nat) (args:List ah) (i:ι) (G1:GH) (w1:World) (F1:Nat->Prop) (B1:Code->Exit->Act->World->Prop) (a1:Act),xJ xs k args G1->(∀ b o,G b=some o->G1 b=some o)->inv k i G1 ->
   (∀ T' G2 L2 a2 w2 c,St N [] w1 F1 G1 G2 ((l,Da) :: L2) T' a2 w2->(∀ w3,St N [] w1 F1 G1 G2 ((l,zY) :: L2) T' a2 w3->WP (some l) P c (B1 c) a2 w3)->Exit.then (fun a2 w2=>∃ w3,(Instr.beginRound l).run P w2=.ok () w3∧c.wpIn (FW (some l)) 0 P (B1 c) a2 w3) (fun _ _ _=>False) .normal a2 w2) ->
   (∀ i' T' G2 a2 w2 c,St N [] w1 F1 G1 G2 ((l,zY) :: (Lc++Lv (k+1) i'++(bk++Lt (k+1) i'))) T' a2 w2->inv (k+1) i' G2->B1 c .normal a2 w2) ->
   (∀ x T' G2 a2 w2 c,St N [] w1 F1 G1 G2 ((l,zY) :: (Lc++Lx x++(bk++GZ x))) T' a2 w2->Bz x G2->(cx x=.ret->B1 c .ret a2 w2)∧∀ n,cx x=.exit n->B1 c (.exit n) a2 w2) ->
   St N [] w1 F1 G1 G1 ((l,Da) :: (Lc++Lv k i++(bk++Lt k i))) (yP ps args T) a1 w1 ->
   WP (some l) P assign (Exit.then (fun a2 w2=>∃ w3,(Instr.beginRound l).run P w2=.ok () w3∧body.wpIn (FW (some l)) 0 P (B1 body) a2 w3) (fun _ _ _=>False)) a1 w1)
  (hdone:∀ Dk i G1 a1 w1,(∀ b o,G b=some o->G1 b=some o)->inv xs.length i G1->St N ({ target:=.collected Dk,args:=#[] } :: D) w0 F G0 G1 ((Dk,.deferred (some [])) :: (Lc++Lv xs.length i++Lt xs.length i)) T a1 w1->Q .normal a1 w1)
  (hstop:∀ Dk x G1 a1 w1,(∀ b o,G b=some o->G1 b=some o)->Bz x G1->St N ({ target:=.collected Dk,args:=#[] } :: D) w0 F G0 G1 ((Dk,.deferred (some [])) :: (Lc++Lx x++GZ x)) T a1 w1->WP none P (cx x) Q a1 w1) :
  WP none P (.rangeFunc Bf ps.toArray assign body) Q a w:=by
 refine aov (J:=fun k g L=>∃ i,L=Lc++Lv k i++Lt k i∧inv k i g) (Jx:=fun c g L=>∃ x,c=cx x∧L=Lc++Lx x++GZ x∧Bz x g) H hg en hit hGi hps hlen (fun k G G' L hm ⟨i,e,h⟩=>⟨i,e,hinv k i G G' hm h⟩) (fun c G G' L hm ⟨x,e1,e2,h⟩=>⟨x,e1,e2,Yn x G G' hm h⟩) ⟨i0,M,h0⟩ ?_ ?_ ?_
 ·rintro l q bk k args G1 L1 w1 a1 hk hm ⟨i,rfl,hi⟩ H1
  have pm:∀ A B:OL,(bk++(A++B)).Perm (A++(bk++B)):=fun A B=>by
   rw [<- iL,<- iL]
   exact List.Perm.append_right B uU
  refine round l (q.at .ready none) (q.at .busy none) bk k args i G1 w1 _ (fun _=>roundPost P l _) a1 hk hm hi ?_ ?_ ?_ (H1.perm (List.Perm.cons _ (pm _ _)))
  ·intro T' G2 L2 a2 w2 c H2 h
   exact aer H2 h
  ·intro i' T' G2 a2 w2 c H2 h2
   exact Ml none (H2.perm (List.Perm.cons _ (pm _ _).symm)) ⟨_,M,i',M,h2⟩
  ·intro x T' G2 a2 w2 c H2 h2
   have H3:=H2.perm (List.Perm.cons _ (pm _ _).symm)
   refine ⟨fun e=>?_,fun n e=>?_⟩
   ·exact Ml (some .ret) H3 ⟨_,_,M,x,e.symm,M,h2⟩
   ·exact Ml (some (.exit n)) H3 ⟨_,_,M,x,e.symm,M,h2⟩
 ·rintro Dk G1 L1 a1 w1 hm ⟨i,rfl,hi⟩ H1
  exact hdone Dk i G1 a1 w1 hm hi H1
 ·rintro Dk c G1 L1 a1 w1 hm ⟨x,rfl,rfl,hx⟩ H1
  exact hstop Dk x G1 a1 w1 hm hx H1
def ZL (ds:List Nat):List Deferred:=ds.map fun b=>{ target:=.collected b,args:=#[] }
def Ji (ds:List Nat):OL:=ds.map fun b=>(b,.deferred (some []))
theorem aou {r:Option Nat} {ι:Type} {c:Code} {Tc:List (Nat × ah)} {Lc:List (Nat × Obj)} (Dv:ι->List Deferred) (Tv:ι->List (Nat × ah)) (Lv:ι->List (Nat × Obj)) (Gv:ι->GH) (Pr:ι->Prop) (m:ι->Nat) (i0:ι)
  (H:St N (Dv i0) w0 F G0 (Gv i0) (Lc++Lv i0) (Tv i0++Tc) a w) (hP:Pr i0)
  (round:∀ i a w,Pr i->St N (Dv i) w0 F G0 (Gv i) (Lc++Lv i) (Tv i++Tc) a w ->
   WP r P c (Exit.then (fun a' w'=>∃ i',(St N (Dv i') w0 F G0 (Gv i') (Lc++Lv i') (Tv i'++Tc) a' w'∧Pr i')∧m i' < m i) Q) a w):WP r P (.loop c) Q a w :=
 aeu (fun i a w=>St N (Dv i) w0 F G0 (Gv i) (Lc++Lv i) (Tv i++Tc) a w∧Pr i) m i0 ⟨H,hP⟩ fun i a w hI=>round i a w hI.2 hI.1
theorem aze {ι:Type} {Dv:ι->List Deferred} {Tc:List (Nat × ah)} {Lc:List (Nat × Obj)} {Tv:ι->List (Nat × ah)} {Lv:ι->List (Nat × Obj)} {Gv:ι->GH} {Pr:ι->Prop} {m:ι->Nat} {i:ι} (i':ι)
  (H:St N (Dv i') w0 F G0 (Gv i') (Lc++Lv i') (Tv i'++Tc) a w) (hP:Pr i') (hm:m i' < m i) :
  ∃ i',(St N (Dv i') w0 F G0 (Gv i') (Lc++Lv i') (Tv i'++Tc) a w∧Pr i')∧m i' < m i:=⟨i',⟨H,hP⟩,hm⟩
theorem ZA {fn:Func} {R:Ending->World->Prop} {Lh Lt:OL}:∀ (ds:List Nat) {a:Act} {w:World},St N (ZL ds) w0 F G0 G (Lh++(Ji ds++Lt)) T a w ->
  (∀ a' w',St N [] w0 F G0 G (Lh++Lt) T a' w'->bodyPostM (FW none) 0 P fn R .ret a' w')->bodyPostM (FW none) 0 P fn R .ret a w∧bodyPostM (FW none) 0 P fn R .normal a w
 | [],a,w,H,k=>⟨k a w H,k a w H⟩
 | b :: ds,a,w,H,k=>by
  refine Je (b:=b) (D:=ZL ds) H Lh.length (by rw [um (dS _),Nat.sub_self];rfl) fun a' w' H'=>?_
  refine (ZA ds (Lh:=Lh) (Lt:=Lt) (H'.cast ?_) k).1
  rw [List.eraseIdx_append_of_length_le (dS _),Nat.sub_self];rfl
end
end
def n1 (x:ak):Nat:=if Av x=0 then jo x else 0
theorem ayT (x:ak):zB [x]=n1 x:=by
 simp only [zB,yZ,n1,tY,List.all_cons,List.all_nil,Bool.and_true,lD]
 split <;> simp_all
theorem azr (x:ak):n1 x < bX x.dat:=by
 have h1:=uP x;have h2:=QL x.text
 unfold n1 jo;split <;> (try split) <;> omega
theorem av.len {G:GH} {sz:Nat} {rows:List (List Dat)} {A:Option Addr} {n c:Nat} (h:av G (.sl sz rows) (.slice A n c)):n=rows.length:=h.cells.1
theorem av.at_ {G:GH} {sz:Nat} {rows:List (List Dat)} {A:Option Addr} {n c:Nat} (h:av G (.sl sz rows) (.slice A n c)):∀ k r,rows[k]?=some r->∃ b o cs,A=some ⟨b,o,none⟩∧cs.length=sz∧(∀ j u,cs[j]?=some u->aI G b (o+k*sz+j)=some u)∧aX G r cs:=by
 obtain ⟨A2,c2,e,_,_,hg⟩:=h.slice
 cases e;exact hg
theorem OW {G:GH} {l:List aO} {A:Option Addr} {k:Nat} (hk:k < l.length) (hg:∀ k r,(l.map aO.dat)[k]?=some r->∃ b o cs,A=some ⟨b,o,none⟩∧cs.length=6∧(∀ j u,cs[j]?=some u->aI G b (o+k*6+j)=some u)∧aX G r cs) :
  ∃ b o pA pn pc dA dn dc yA yn yc cA cn cc,A=some ⟨b,o,none⟩∧(∀ j u,[.slice pA pn pc,vi l[k].head.marks.ins,vi l[k].head.marks.move,.slice dA dn dc,.slice yA yn yc,.slice cA cn cc][j]?=some u->aI G b (o+k*6+j)=some u) ∧
   jG G l[k].head (.slice pA pn pc) (.slice dA dn dc) (.slice yA yn yc)∧av G (.sl 7 (l[k].cells.map aQ.dat)) (.slice cA cn cc):=by
 obtain ⟨b,o,cs,h1,h2,h3,h4⟩:=hg k l[k].dat (by simp [hk]);obtain ⟨pA,pn,pc,dA,dn,dc,yA,yn,yc,cA,cn,cc,rfl,h5,h6⟩:=h4.row;exact ⟨b,o,pA,pn,pc,dA,dn,dc,yA,yn,yc,cA,cn,cc,h1,h3,h5,h6⟩
theorem Ky {G:GH} {l:List aQ} {A:Option Addr} {k:Nat} (hk:k < l.length) (hg:∀ k r,(l.map aQ.dat)[k]?=some r->∃ b o cs,A=some ⟨b,o,none⟩∧cs.length=7∧(∀ j u,cs[j]?=some u->aI G b (o+k*7+j)=some u)∧aX G r cs) :
  ∃ b o pA pn pc dA dn dc yA yn yc fA fn fc,A=some ⟨b,o,none⟩∧(∀ j u,[vi l[k].id,.slice pA pn pc,vi l[k].head.marks.ins,vi l[k].head.marks.move,.slice dA dn dc,.slice yA yn yc,.slice fA fn fc][j]?=some u->aI G b (o+k*7+j)=some u) ∧
   jG G l[k].head (.slice pA pn pc) (.slice dA dn dc) (.slice yA yn yc)∧av G (.sl 11 (l[k].flow.map ak.dat)) (.slice fA fn fc):=by
 obtain ⟨b,o,cs,h1,h2,h3,h4⟩:=hg k l[k].dat (by simp [hk]);obtain ⟨pA,pn,pc,dA,dn,dc,yA,yn,yc,fA,fn,fc,rfl,h5,h6⟩:=h4.cell;exact ⟨b,o,pA,pn,pc,dA,dn,dc,yA,yn,yc,fA,fn,fc,h1,h3,h5,h6⟩
structure kN where
 (f p d y r s1 s2 s3 s4:Option Addr × Nat × Nat)
 (ins move:Int)
abbrev dh (x:Option Addr × Nat × Nat):ah:=.slice x.1 x.2.1 x.2.2
abbrev kN.cells (D:kN):List ah:=[dh D.f,dh D.p,vi D.ins,vi D.move,dh D.d,dh D.y,dh D.r,dh D.s1,dh D.s2,dh D.s3,dh D.s4]
abbrev kN.val (D:kN):ah:=.agg D.cells.toArray
theorem WR:aR 202:=aS func202 M
theorem TV:Ty prog 129 3 16 [.bool false,.bool false,.int .i64 0] true:=⟨V,V⟩
theorem aC0:qV prog 146 [(0,1),(1,3)] [.slice none 0 0,.bool false,.bool false,.int .i64 0]:=⟨V,V⟩
theorem KM:dR prog 68 2 2:=⟨V⟩
theorem NC:dR prog 129 2 2:=⟨V⟩
theorem Gx:qV prog 129 [(0,1),(1,1),(2,1)] [.bool false,.bool false,.int .i64 0]:=⟨V,V⟩
theorem Xb:dR prog 129 1 1:=⟨V⟩
theorem ug:Ty prog 4 1 1 [.bool false] false:=⟨V,V⟩
theorem vZ:dR prog 38 0 0:=⟨V⟩
theorem aqL:aR 139:=aS func139 M
theorem WQ:aR 201:=aS func201 M
structure jF where
 id:Int
 items:List ak
 body:Bool
 note:Bool
 tables:Int
mutual
def zM (note:Bool) (t:Int):ak->List jF
 | .mk k _ i _ _ f r=>if k=6 then ⟨i,f,false,true,t⟩ :: lu true t f else if k=7 then rQ note t r else []
def lu (note:Bool) (t:Int):List ak->List jF
 | []=>[]
 | x :: l=>zM note t x++lu note t l
def rQ (note:Bool) (t:Int):List aO->List jF
 | []=>[]
 | r :: l=>zN note t r++rQ note t l
def zN (note:Bool) (t:Int):aO->List jF
 | .mk _ cs=>sI note t cs
def sI (note:Bool) (t:Int):List aQ->List jF
 | []=>[]
 | c :: l=>zL note t c++sI note t l
def zL (note:Bool) (t:Int):aQ->List jF
 | .mk i _ f=>⟨i,f,false,note,t+1⟩ :: lu note (t+1) f
end
theorem aDV (note:Bool) (t:Int) (x:ak):zM note t x=if x.kind=6 then ⟨x.id,x.flow,false,true,t⟩ :: lu true t x.flow else if x.kind=7 then rQ note t x.rows else []:=by cases x;rw [zM];rfl
theorem aDY (note:Bool) (t:Int) (x:aO):zN note t x=sI note t x.cells:=by cases x;rw [zN];rfl
theorem aDQ (note:Bool) (t:Int) (x:aQ):zL note t x=⟨x.id,x.flow,false,note,t+1⟩ :: lu note (t+1) x.flow:=by cases x;rw [zL];rfl
def DU (a:jF):AP:=fun args g=>∃ v,args=[vi a.id,.agg #[v,.bool a.body,.bool a.note,vi a.tables]]∧av g (.sl 11 (a.items.map ak.dat)) v
def U2 (n:Nat):Prop:=∀ (fv:ah) (Gi:GH) (xs:List AP) (J:Nat->GH->OL->Prop) (Jx:GH->OL->Prop) (G:GH) (L:OL) (w0:World) (j:Nat) (l:List ak) (id:Int) (body note:Bool) (t:Int) (v:ah),
 (∀ b o,Gi b=some o->G b=some o)->MJ prog fv Gi xs J Jx->ET J->J3 Jx->J j G L->gq G L w0->av G (.sl 11 (l.map ak.dat)) v->bq l < n->0<=t->t+bq l<=4294967296->(∀ i a,(⟨id,l,body,note,t⟩ :: lu note t l)[i]?=some a->xs[j+i]?=some (DU a)) ->
 Calls prog 202 #[vi id,v,.agg #[.bool body,.bool note,vi t],fv] w0 (fM w0 G L fun u G' L'=>∃ b,u=.bool b∧(b=true->J (j+((lu note t l).length+1)) G' L')∧(b=false->Jx G' L'))
theorem Qn {p:Prop} (h:p:=by
 first
  | exact H.hp.lW (L':=abp) (by repeat (first|exact kS _|apply List.Sublist.cons)) ⟨_,M,fun e=>(by cases e),fun _=>hb2 (by simpa using h21)⟩
  | exact H.hp.lW (L':=P7) (by repeat (first|exact kS _|apply List.Sublist.cons)) ⟨_,M,fun e=>(by cases e),fun _=>hb4 (by simpa using NU)⟩
  | exact H.hp.lW (L':=abt) (by repeat (first|exact kS _|apply List.Sublist.cons)) ⟨_,M,fun e=>(by cases e),fun _=>hb6 (by simpa using Cy)⟩
  | exact H.hp.lW (L':=Lt) (by repeat (first|exact kS _|apply List.Sublist.cons)) ⟨_,M,fun _=>(by rw [rU O,lu] at iG;have:=iG.len;simp only [List.length_nil,sJ] at this;rw [<- this];exact iG.now),fun e=>(by cases e)⟩):p:=h
set_option maxHeartbeats 1000000 in
theorem aD1 {n:Nat} (ih:U2 n) (hn:n<=4294967296):U2 (n+1):=by
 intro fv Gi xs J Jx G L w0 j0 l id body note t v hGi hcb tT hJx hJ0 hO hv hz ht0 ht1 hx0;obtain ⟨A,c,rfl,hc1,hc2,hg⟩:=hv.slice;rw [bK] at *;have hll:=Dw l;have LC:Now xs DU J (j0+((lu note t l).length+1)) j0 (⟨id,l,body,note,t⟩ :: lu note t l) G L:=⟨hJ0,hx0,M⟩;refine jc (N:=74) (T:=[(0,_),(1,_),(2,_),(3,_)]) func202 M ntmps202 M M hO ?_;intro a H;refine cZ (fun _ K1=>?_);refine dZ (cs:=[_,_,_]) H wn M M M ?_;clear H;intro b6 a w hb6 H;refine kH H (aj K1 M (SQ fun _ K2=>SR fun _ K3=>Rm M (Rm M (Rm M ?_))));clear H K1;intro a H;refine bQ TV (cs:=[_,_,_]) H wn M M (H.hp.dG 0 M M) M ?_;clear H;intro a H;refine jM aC0 [_,_,_,_] H wn M M M M ?_;clear H;intro a H;refine BL (Li:=[_]) (L:=L) H wn M M (hcb _ _ _ _ _ ⟨_,LC.head,_,M,hv⟩ hGi LC.now (Hp.owns (Li:=[_]) H.hp)) M ?_;clear H;rintro v20 GR abp a w ⟨b20,rfl,hb1,hb2⟩ rY H;refine kH H (Rn M (Kz K3 (Cd M ?_ ?_))) <;> clear H K3
 ·intro h21 a H
  try have xG:=dT h21
  refine kP H (SR fun _ K4=>aj K4 M ?_);clear H K4;intro a H;refine lr H results202 M ?_
  exact Qn
 intro h21 a H
 try have xG:=dF h21
 refine kP H (Kc K2 (SQ fun _ K5=>SR fun _ K6=>Rm M (Rl iB M (Rm M (Kz K6 (SB ?_))))));clear H K2 K6;intro a H;skip;refine fD (ι:=Nat × Nat × OL × GH) (Tc:=[(3,_),(6,_),(22,_),(23,_)]) (Lc:=[(_,_)]) (fun gh=>[(24,vi gh.1)]) (fun gh=>[]++gh.2.2.1) (fun gh=>gh.2.2.2) (fun gh=>gh.1<=l.length∧(∀ b o,G b=some o->gh.2.2.2 b=some o)∧Now xs DU J (j0+((lu note t l).length+1)) gh.2.1 (lu note t (l.drop gh.1)) gh.2.2.2 gh.2.2.1) (fun gh=>l.length - gh.1) ((0,j0+1,abp,GR)) (by exact H.sub ⟨M,M,M,M,M,aC⟩) ?_ ?_
 ·exact ⟨O,rY,LC.step (hb1 (by simpa using h21))⟩
 clear H;rintro ⟨k,j1,Lt,g⟩ a w hI H;dsimp only at hI H;obtain ⟨hk,hgm,iG⟩:=hI;dsimp only [lca,bM] at H;refine kP H (SR fun _ K7=>Rc M (Kz K7 (SQ fun _ K8=>Cd M ?_ ?_))) <;> clear H K7
 ·intro iR a H
  try have p25:=dT iR
  have hk2:k < l.length:=by omega
  obtain ⟨b,o,pA,pn,pc,dA,dn,dc,yA,yn,yc,fA,fn,fc,rA,rn,rc,rfl,hrow,hhd,hfl,hrw⟩:=DV hk2 hg;replace hrow:=fun j u hj=>aG hgm (hrow j u hj);have hrn:=hrw.len;rw [bK] at hrn;subst hrn;have hrs:=JH l[k].rows;have hsz1:=Uk hk2;rw [nK hk2] at iG
  simp only [lu,aDV] at iG
  refine kP H (Kc K8 (SQ fun _ K9=>SB (SR fun _ aT=>Ri iB eZ M M ?_)));clear H K8;intro a H;refine bQ eZ (cs:=[_,_,_,_,_,_,_,_,_,_,_]) H wn M M (fun j v hj=>H.hp.aI (hrow j v hj)) M ?_;clear H;intro a H;refine dW eZ H wn M ?_;clear H;intro b10 a w aht H;refine bJ eZ 0 (vs:=[_,_,_,_,_,_,_,_,_,_,_]) H wn M ?_;clear H;intro w H;refine aT _ _ ?_;clear aT;refine kP H (SR fun _ bR=>bC kF aF 0 M M (Kz bR (SB (SR fun _ cu=>Rc M (aj cu M (Cd M ?_ ?_)))))) <;> clear H bR cu
  ·intro qJ a H
   try have p30:=dT qJ
   rw [ay p30] at iG;refine kP H (SR fun _ dw=>bC KM aF 0 M M (bC Af jy 0 M M (bC NC aF 1 M M ?_)));clear H;intro a H;refine jM Gx [_,_,_] H wn M M M M ?_;clear H;intro a H;refine kH H (Rm M ?_);clear H;intro a H;refine gW WR (Li:=[_,_]) (L:=Lt) H wn M (ih fv Gi xs J Jx _ _ _ j1 l[k].flow l[k].id false true t _ (fun b o h=>hgm b o (hGi b o h)) hcb tT hJx iG.now (Hp.owns (Li:=[_,_]) H.hp) (hfl.mono hgm) O ht0 O iG.part) M ?_;clear H;rintro v40 ML P7 a w ⟨b40,rfl,hb3,hb4⟩ En H;refine kH H (Rn M (Kz dw (Cd M ?_ ?_))) <;> clear H dw
   ·intro NU a H
    try have p41:=dT NU
    refine kP H (SR fun _ dB=>aj dB M ?_);clear H dB;intro a H;refine lr H results202 M ?_
    exact Qn
   intro NU a H
   try have p41:=dF NU
   refine kP H (Kc K9 (SC (Rd M (Rm M ?_))));clear H K9;intro a H;refine aD ?_;refine dQ ((k+1,j1+((lu true t l[k].flow).length+1),P7,ML)) (by exact (H.eD (Pl:=[_,_]) (dK:=[_]) [1] Z M).sub ⟨M,M,M,M,M,aC⟩) ?_
   (try dsimp only);exact ⟨O,fun b o h=>En b o (hgm b o h),iG.jump (hb3 (by simpa using NU))⟩
  intro qJ a H
  try have p30:=dF qJ
  refine kP H (SR fun _ dX=>Rc M (aj dX M (Cd M ?_ ?_))) <;> clear H dX
  ·intro jV a H
   try have p42:=dT jV
   rw [au p30,ay p42] at iG;refine kP H (SR fun _ eu=>bC qd qw 0 M M (Rl mR M (Rm M (Kz eu (SB ?_)))));clear H eu;intro a H;skip;refine fD (ι:=Nat × Nat × OL × GH) (Tc:=[(3,_),(6,_),(22,_),(23,_),(24,_),(45,_),(46,_)]) (Lc:=[(_,_),(_,_)]) (fun gh=>[(47,vi gh.1)]) (fun gh=>[]++gh.2.2.1) (fun gh=>gh.2.2.2) (fun gh=>gh.1<=l[k].rows.length∧(∀ b o,G b=some o->gh.2.2.2 b=some o)∧Now xs DU J (j0+((lu note t l).length+1)) gh.2.1 (rQ note t (l[k].rows.drop gh.1)++lu note t (l.drop (k+1))) gh.2.2.2 gh.2.2.1) (fun gh=>l[k].rows.length - gh.1) ((0,j1,Lt,g)) (by exact H.sub ⟨M,M,M,M,M,M,M,M,aC⟩) ?_ ?_
   ·exact ⟨O,hgm,iG⟩
   clear H;rintro ⟨rk,j3,Lt3,g3⟩ a w hI H;dsimp only at hI H;obtain ⟨hrk,rC,uK⟩:=hI;dsimp only [lca,bM] at H;refine kP H (SR fun _ dN=>Rc M (Kz dN (SQ fun _ eO=>Cd M ?_ ?_))) <;> clear H dN
   ·intro h48 a H
    try have p48:=dT h48
    have hk3:rk < l[k].rows.length:=by omega
    obtain ⟨b2,o2,qA,qn,qc,eA,en,ec,zA,zn,zc,cA,cn,cc,rfl,hrow,FR,hcl⟩:=OW hk3 hrw.at_;replace hrow:=fun j u hj=>aG rC (hrow j u hj);have hcn:=hcl.len;rw [bK] at hcn;subst hcn;have hsz2:=Ul hk3;have hcs:=JG l[k].rows[rk].cells;rw [nK hk3] at uK
    simp only [rQ,aDY,iL] at uK
    refine kP H (Kc eO (SQ fun _ gD=>SB (SR fun _ fF=>Ri mR jO M M ?_)));clear H eO;intro a H;refine bQ jO (cs:=[_,_,_,_,_,_]) H wn M M (fun j v hj=>H.hp.aI (hrow j v hj)) M ?_;clear H;intro a H;refine dW jO H wn M ?_;clear H;intro b12 a w IC H;refine bJ jO 0 (vs:=[_,_,_,_,_,_]) H wn M ?_;clear H;intro w H;refine fF _ _ ?_;clear fF;refine kP H (SR fun _ gK=>bC wm wL 0 M M (Rl oK M (Rm M (Kz gK (SB ?_)))));clear H gK;intro a H;skip;refine fD (ι:=Nat × Nat × OL × GH) (Tc:=[(3,_),(6,_),(22,_),(23,_),(24,_),(45,_),(46,_),(47,_),(52,_),(53,_)]) (Lc:=[(_,_),(_,_),(_,_)]) (fun gh=>[(54,vi gh.1)]) (fun gh=>[]++gh.2.2.1) (fun gh=>gh.2.2.2) (fun gh=>gh.1<=l[k].rows[rk].cells.length∧(∀ b o,G b=some o->gh.2.2.2 b=some o)∧Now xs DU J (j0+((lu note t l).length+1)) gh.2.1 (sI note t (l[k].rows[rk].cells.drop gh.1)++(rQ note t (l[k].rows.drop (rk+1))++lu note t (l.drop (k+1)))) gh.2.2.2 gh.2.2.1) (fun gh=>l[k].rows[rk].cells.length - gh.1) ((0,j3,Lt3,g3)) (by exact H.sub ⟨M,M,M,M,M,M,M,M,M,M,M,aC⟩) ?_ ?_
    ·exact ⟨O,rC,uK⟩
    clear H;rintro ⟨ck,j4,Lt4,g4⟩ a w hI H;dsimp only at hI H;obtain ⟨hck,sV,xq⟩:=hI;dsimp only [lca,bM] at H;refine kP H (SR fun _ jg=>Rc M (Kz jg (SQ fun _ kX=>Cd M ?_ ?_))) <;> clear H jg
    ·intro oG a H
     try have p55:=dT oG
     have hk4:ck < l[k].rows[rk].cells.length:=by omega
     obtain ⟨b3,o3,sA,sn,sc,tA,tn,tc,uA,un,uc,gA,gn,gc,rfl,hrow,hch,hcf⟩:=Ky hk4 hcl.at_;replace hrow:=fun j u hj=>aG sV (hrow j u hj);have axH:=Uj hk4;rw [nK hk4] at xq
     simp only [sI,aDQ,iL] at xq
     refine kP H (Kc kX (SQ fun _ kQ=>SB (SR fun _ jP=>Ri oK kL M M ?_)));clear H kX;intro a H;refine bQ kL (cs:=[_,_,_,_,_,_,_]) H wn M M (fun j v hj=>H.hp.aI (hrow j v hj)) M ?_;clear H;intro a H;refine dW kL H wn M ?_;clear H;intro b14 a w XZ H;refine bJ kL 0 (vs:=[_,_,_,_,_,_,_]) H wn M ?_;clear H;intro w H;refine jP _ _ ?_;clear jP;refine kP H (SR fun _ mE=>bC NK aF 0 M M (bC Ij jy 0 M M (bC Xb ug 3 M M (bC NC aF 3 M M (Rd M ?_)))));clear H;intro a H;refine jM Gx [_,_,_] H wn M M M M ?_;clear H;intro a H;refine kH H (Rm M ?_);clear H;intro a H;refine gW WR (Li:=[_,_,_,_]) (L:=Lt4) H wn M (ih fv Gi xs J Jx _ _ _ j4 l[k].rows[rk].cells[ck].flow l[k].rows[rk].cells[ck].id false note (t+1) _ (fun b o h=>sV b o (hGi b o h)) hcb tT hJx xq.now (Hp.owns (Li:=[_,_,_,_]) H.hp) (hcf.mono sV) O O O xq.part) M ?_;clear H;rintro v69 G69 abt a w ⟨b69,rfl,hb5,hb6⟩ awK H;refine kH H (Rn M (Kz mE (Cd M ?_ ?_))) <;> clear H mE
     ·intro Cy a H
      try have p70:=dT Cy
      refine kP H (SR fun _ mF=>aj mF M ?_);clear H mF;intro a H;refine lr H results202 M ?_
      exact Qn
     intro Cy a H
     try have p70:=dF Cy
     refine kP H (Kc kQ (SC (Rd M (Rm M ?_))));clear H kQ;intro a H;refine aD ?_;refine dQ ((ck+1,j4+((lu note (t+1) l[k].rows[rk].cells[ck].flow).length+1),abt,G69)) (by exact (H.eD (Pl:=[_,_,_,_]) (dK:=[_,_,_]) [1,2,3] Z M).sub ⟨M,M,M,M,M,M,M,M,M,M,M,aC⟩) ?_
     (try dsimp only);exact ⟨O,fun b o h=>awK b o (sV b o h),xq.jump (hb5 (by simpa using Cy))⟩
    intro oG a H
    try have p55:=dF oG
    refine dY ?_;refine gD _ _ ?_;clear gD;refine kP H (SC (Rd M (Rm M ?_)));clear H;intro a H;refine aD ?_;refine dQ ((rk+1,j4,Lt4,g4)) (by exact (H.eD (Pl:=[_,_,_]) (dK:=[_,_]) [1,2] Z M).sub ⟨M,M,M,M,M,M,M,M,aC⟩) ?_
    (try dsimp only);exact ⟨O,sV,by rw [rU O,sI,jA] at xq;exact xq⟩
   intro h48 a H
   try have p48:=dF h48
   refine dY ?_;refine K9 _ _ ?_;clear K9;refine kP H (SC (Rd M (Rm M ?_)));clear H;intro a H;refine aD ?_;refine dQ ((k+1,j3,Lt3,g3)) (by exact (H.eD (Pl:=[_,_]) (dK:=[_]) [1] Z M).sub ⟨M,M,M,M,M,aC⟩) ?_
   (try dsimp only);exact ⟨O,rC,by rw [rU O,rQ,jA] at uK;exact uK⟩
  intro jV a H
  try have p42:=dF jV
  refine kP H (Kc K9 (SC (Rd M (Rm M ?_))));clear H K9;intro a H;refine aD ?_;refine dQ ((k+1,j1,Lt,g)) (by exact (H.eD (Pl:=[_,_]) (dK:=[_]) [1] Z M).sub ⟨M,M,M,M,M,aC⟩) ?_
  (try dsimp only);exact ⟨O,hgm,by rw [au p30,au p42,jA] at iG;exact iG⟩
 intro iR a H
 try have p25:=dF iR
 refine dY ?_;refine K5 _ _ ?_;clear K5;refine kP H (SR fun _ jQ=>aj jQ M ?_);clear H jQ;intro a H;refine lr H results202 M ?_
 exact Qn
theorem amm:∀ n:Nat,n<=4294967297->U2 n
 | 0,_=>fun _ _ _ _ _ _ _ _ _ _ _ _ _ _ _ _ _ _ _ _ _ _ h=>absurd h O
 | n+1,hn=>aD1 (amm n O) O
def qg (l:List ak):List jF:=⟨0,l,true,false,0⟩ :: lu false 0 l
theorem aua {G:GH} {ba bl bp:Nat} {l:List ak} {v:ah} {id t:Int} {body note:Bool} (h1:aI G ba 0=some (vi id)) (h2:aI G bl 0=some v) (h3:G bp=some (.cells #[.bool body,.bool note,vi t] 129 (0,0))) (hv:av G (.sl 11 (l.map ak.dat)) v) (hz:bq l<=4294967296) (ht0:0<=t) (ht1:t+bq l<=4294967296) :
  Iter prog G (.func (.func 201) #[] #[(aH ba 0),(aH bl 0),(aH bp 0)]) ((⟨id,l,body,note,t⟩ :: lu note t l).map DU):=by
 intro J Jx fv G1 L w0 Yj hGi tT hJx hJ hO hcb;refine kD (caps:=[(aH ba 0),(aH bl 0),(aH bp 0)]) WQ ?_;replace h1:=aG hGi h1;replace h2:=aG hGi h2
 have hrow:∀ j u,[.bool body,.bool note,vi t][j]?=some u->aI G1 bp (0+j)=some u:=by
  intro j u hj;refine aG hGi ?_
  unfold aI;rw [h3];simpa using hj
 refine jc (N:=10) (T:=[(0,_),(1,_),(2,_),(3,_)]) func201 M ntmps201 M M hO ?_;intro a H;refine kP H (SC (Rg aF M (by assumption) ?_));clear H;intro a H;refine kH H (Rg jy M (by assumption) ?_);clear H;intro a H;refine bQ TV (cs:=[_,_,_]) H wn M M (fun j v hj=>H.hp.aI (hrow j v hj)) M ?_;clear H;intro a H;refine kH H (Rm M ?_);clear H;intro a H;refine gW WR (Li:=[]) (L:=L) H wn M (amm 4294967297 O _ G1 _ J Jx G1 _ _ 0 l id body note t _ (fun _ _ h=>h) hcb tT hJx hJ (Hp.owns (Li:=[]) H.hp) (hv.mono hGi) O ht0 ht1 (fun i a h=>by rw [gZ,qD,h];rfl)) rfl ?_;clear H;rintro v9 G9 L9 a w ⟨b9,rfl,h1,h2⟩ yj H;refine aD ?_;refine (leave0 H results201 ?_).2
 cases b9
 ·exact H.hp.gQ (.inr (h2 M))
 exact H.hp.gQ (.inl (by simpa using h1 M))
theorem aub (G:GH) (w0:World) (hG:Hold G w0) (l:List ak) (v:ah) (id t:Int) (body note:Bool) (hv:av G (.sl 11 (l.map ak.dat)) v) (hz:bq l<=4294967296) (ht0:0<=t) (ht1:t+bq l<=4294967296) :
  Calls prog 139 #[vi id,v,.agg #[.bool body,.bool note,vi t]] w0 (bE w0 G fun u G'=>∃ ba bl bp,u=.func (.func 201) #[] #[(aH ba 0),(aH bl 0),(aH bp 0)]∧Iter prog G' u ((⟨id,l,body,note,t⟩ :: lu note t l).map DU)):=by
 obtain ⟨A,c,rfl,hc1,hc2,hg⟩:=hv.slice;refine eN [(0,_),(1,_),(2,_)] func139 M ntmps139 M M hG ?_;intro a H;refine cZ (fun _ K1=>?_);refine dZ (cs:=[_]) H wn M M M ?_;clear H;intro b3 a w hb3 H;refine dZ (cs:=[_]) H wn M M M ?_;clear H;intro b4 a w hb4 H;refine dZ (cs:=[_,_,_]) H wn M M M ?_;clear H;intro b5 a w hb5 H;refine kH H (aj K1 M (SR fun _ K2=>?_));clear H K1;intro a H;refine vG H wn M M ?_;clear H;intro a H;refine kH H (aj K2 M ?_);clear H K2;intro a H;refine eP ?_;obtain ⟨G2,hm2,hb5,H⟩:=H.fU;obtain ⟨G3,zw,hb4,H⟩:=H.fU;obtain ⟨G4,rD,hb3,H⟩:=H.fU;refine lv H results139 M ?_;exact H.rt ⟨b3,b4,b5,M,aua (by unfold aI;rw [hb3];rfl) (aG rD (by unfold aI;rw [hb4];rfl)) (rD _ _ (zw _ _ hb5)) (hv.mono fun b o h=>rD _ _ (zw _ _ (hm2 _ _ h))) hz ht0 ht1⟩
theorem ajR (G:GH) (w0:World) (hG:Hold G w0) (D:kN) (l:List ak) (hv:av G (.sl 11 (l.map ak.dat)) (dh D.f)) (hz:bq l<=4294967296) :
  Calls prog 79 #[D.val] w0 (bE w0 G fun u G'=>∃ ba bl bp,u=.func (.func 201) #[] #[(aH ba 0),(aH bl 0),(aH bp 0)]∧Iter prog G' u ((qg l).map DU)):=by
 refine eN [(0,_)] func79 M ntmps79 M M hG ?_;intro a H;refine cZ (fun _ K1=>?_);refine dZ (cs:=[_,_,_,_,_,_,_,_,_,_,_]) H wn M M M ?_;clear H;intro b1 a w hb1 H;refine kH H (aj K1 M (SR fun _ K2=>bC vZ jy 0 M M ?_));clear H K1;intro a H;refine jM Gx [_,_,_] H wn M M M M ?_;clear H;intro a H;refine s_call aqL H wn M (aub _ _ H.ro l _ 0 0 true false hv hz O O) M ?_;clear H;rintro v6 G6 a w ⟨ba,bl,bp,rfl,hit⟩ Eo H;exact kH H (aj K2 M (LR results79 M fun H=>H.rt ⟨ba,bl,bp,M,hit⟩))
theorem jN:Ty prog 38 11 232 [.slice none 0 0,.slice none 0 0,.int .i64 0,.int .i64 0,.slice none 0 0,.slice none 0 0,.slice none 0 0,.slice none 0 0,.slice none 0 0,.slice none 0 0,.slice none 0 0] true:=⟨V,V⟩
theorem afY:aR 79:=aS func79 M
theorem alM:Ty prog 146 4 40 [.slice none 0 0,.bool false,.bool false,.int .i64 0] true:=⟨V,V⟩
theorem atA:dR prog 146 0 0:=⟨V⟩
mutual
theorem aDX {note:Bool} {t:Int} {f:jF}:∀ {x:ak},f∈zM note t x->bq f.items < bX x.dat
 | .mk k c i tx h fl r,hf=>by
  have h4:=uP (.mk k c i tx h fl r)
  simp only [ak.text,ak.head,ak.flow,ak.rows] at h4
  rw [zM] at hf
  split at hf
  ·rcases gu.1 hf with rfl|hf
   ·show bq fl < _;omega
   have:=Ue hf;omega
  split at hf
  ·have:=aml hf;omega
  cases hf
theorem Ue {note:Bool} {t:Int} {f:jF}:∀ {l:List ak},f∈lu note t l->bq f.items<=bq l
 | [],hf=>by simp [lu] at hf
 | x :: l,hf=>by
  rw [lu] at hf
  simp only [bq,dO,dM]
  rcases kC.1 hf with hf|hf
  ·have:=aDX hf;simp only [bq] at this;omega
  have:=Ue hf;simp only [bq] at this;omega
theorem aml {note:Bool} {t:Int} {f:jF}:∀ {l:List aO},f∈rQ note t l->bq f.items<=fQ l
 | [],hf=>by simp [rQ] at hf
 | x :: l,hf=>by
  rw [rQ] at hf
  simp only [fQ,dO,dM]
  rcases kC.1 hf with hf|hf
  ·have:=aD0 hf;simp only [bq] at *;omega
  have:=aml hf;simp only [bq,fQ] at *;omega
theorem aD0 {note:Bool} {t:Int} {f:jF}:∀ {x:aO},f∈zN note t x->bq f.items<=bX x.dat
 | .mk h cs,hf=>by
  have h4:=zP (.mk h cs)
  simp only [aO.head,aO.cells] at h4
  rw [zN] at hf;have:=amh hf;omega
theorem amh {note:Bool} {t:Int} {f:jF}:∀ {l:List aQ},f∈sI note t l->bq f.items<=gH l
 | [],hf=>by simp [sI] at hf
 | x :: l,hf=>by
  rw [sI] at hf
  simp only [gH,dO,dM]
  rcases kC.1 hf with hf|hf
  ·have:=aDS hf;simp only [bq] at *;omega
  have:=amh hf;simp only [bq,gH] at *;omega
theorem aDS {note:Bool} {t:Int} {f:jF}:∀ {x:aQ},f∈zL note t x->bq f.items<=bX x.dat
 | .mk i h fl,hf=>by
  have h4:=zO (.mk i h fl)
  simp only [aQ.head,aQ.flow] at h4
  rw [zL] at hf
  rcases gu.1 hf with rfl|hf
  ·show bq fl<=_;omega
  have:=Ue hf;omega
end
theorem agI {f:jF} {l:List ak} (h:f∈qg l):bq f.items<=bq l:=by
 rcases gu.1 h with rfl|h
 ·exact dS _
 exact Ue h
def tO (l:List ak) (id:Int):Option (List ak):=((qg l).find? fun f=>decide (f.id=id)).map jF.items
theorem Xp {f:List ak} {l:List ak} {id:Int} (h:tO l id=some f):bq f<=bq l:=by
 obtain ⟨a,ha,rfl⟩:=oO.1 h;exact agI (List.mem_of_find?_eq_some ha)
theorem atQ {α:Type} {p:α->Bool} {A:List α} {k:Nat} (hk:k < A.length) (h:(A.take k).find? p=none) (hp:p A[k]=false):(A.take (k+1)).find? p=none:=by
 rw [jK hk,List.find?_append,h]
 simp [hp]
theorem atS {α:Type} {p:α->Bool} {A:List α} {k:Nat} (hk:k < A.length) (h:(A.take k).find? p=none) (hp:p A[k]=true):A.find? p=some A[k]:=by
 have e:A.find? p=(A.take k++A.drop k).find? p:=by rw [List.take_append_drop]
 rw [e,List.find?_append,h,nK hk,List.find?_cons,hp]
 rfl
theorem agz {α:Type} {p:α->Bool} {A:List α} (h:(A.take A.length).find? p=none):A.find? p=none:=by rwa [uV] at h
theorem Rx {A:List jF} {k:Nat} {args:List ah} {g:GH} (h:xJ (A.map DU) k args g):∃ (hk:k < A.length) (a:Option Addr) (n c:Nat),args=[vi A[k].id,.agg #[.slice a n c,.bool A[k].body,.bool A[k].note,vi A[k].tables]]∧av g (.sl 11 (A[k].items.map ak.dat)) (.slice a n c):=by
 obtain ⟨p,hp,hargs⟩:=h;rw [qD] at hp;obtain ⟨q,hq,rfl⟩:=oO.1 hp;obtain ⟨hk,rfl⟩:=jZ.1 hq;obtain ⟨v,h1,h2⟩:=hargs;obtain ⟨a,n,c,rfl⟩:=h2.form;exact ⟨hk,a,n,c,h1,h2⟩
theorem Xq (G:GH) (w0:World) (hG:Hold G w0) (D:kN) (l:List ak) (id:Int) (hv:av G (.sl 11 (l.map ak.dat)) (dh D.f)) (hz:bq l<=4294967296) :
  Calls prog 28 #[D.val,vi id] w0 (bE w0 G fun u G'=>∃ v,u=.tuple #[v,.bool (tO l id).isSome]∧av G' (.sl 11 (((tO l id).getD []).map ak.dat)) v):=by
 refine eN [(0,_),(1,_)] func28 M ntmps28 M M hG ?_;intro a H;refine cZ (fun _ K1=>?_);refine dZ (cs:=[_,_,_,_,_,_,_,_,_,_,_]) H wn M M M ?_;clear H;intro b2 a w hb2 H;refine dZ (cs:=[_]) H wn M M M ?_;clear H;intro b3 a w hb3 H;refine dW jy H wn M ?_;clear H;intro b4 a w hb4 H;refine dW ug H wn M ?_;clear H;intro b5 a w hb5 H;refine K1 _ _ ?_;clear K1;refine bL (fun _ K2=>?_);refine cZ (fun _ K3=>?_);refine bQ jN (cs:=[_,_,_,_,_,_,_,_,_,_,_]) H wn M M (H.hp.dG 3 M M) M ?_;clear H;intro a H;refine s_call afY H wn M (ajR _ _ H.ro D l hv hz) M ?_;clear H;rintro v9 G9 a w ⟨ba,bl,bp,rfl,hit⟩ yj H;refine K3 _ _ ?_;clear K3;refine AY ?_;skip;refine QE (ι:=Unit) (κ:=ah) (Lc:=[(_,_),(_,_)]) (fun (k:Nat) (gh:Unit)=>[(b4,.cells #[.slice none 0 0] 22 (0,0)),(b5,.cells #[.bool false] 4 (0,0))]) (fun (k:Nat) (gh:Unit)=>[]) (fun (k:Nat) (gh:Unit) (g:GH)=>((qg l).take k).find? (fun f=>decide (f.id=id))=none) (fun (gx:ah)=>Code.ret) (fun (gx:ah)=>[(b4,.cells #[gx] 22 (0,0)),(b5,.cells #[.bool true] 4 (0,0))]) (fun (gx:ah)=>[]) (fun (gx:ah) (g:GH)=>∃ f,tO l id=some f∧av g (.sl 11 (f.map ak.dat)) gx) (()) (by exact H.eD (Pl:=[_,_,_,_]) (dK:=[_,_,_,_]) [2,3,1,0] Z M) M WQ (hit) (fun _ _ h=>h) M (fun k args g h=>by obtain ⟨_,_,_,_,rfl,_⟩:=Rx h;rfl) (fun _ _ _ _ _ h=>h) (fun x G G' hm h=>let ⟨f,h1,h2⟩:=h;⟨f,h1,h2.mono hm⟩) (rfl) ?_ ?_ ?_
 ·clear H;intro l2 Da zY bk k args gh G2 w2 F2 B2 a hk2 hm2 hI X8 Yv aiF H;obtain ⟨hk,vA,vn,vc,rfl,hrep⟩:=Rx hk2;dsimp only [yP,List.cons_append,List.nil_append] at H;refine kP H (SR fun _ K4=>aj K4 M (SC ?_));clear H K4;intro a H;refine dW alM H wn M ?_;clear H;intro b7 a w CB H;refine bJ alM 0 (vs:=[_,_,_,_]) H wn M ?_;clear H;intro w H;refine aD ?_;refine X8 _ _ _ _ _ _ (by exact H.eD (Pl:=[_,_,_,_,_,_]) (dK:=[_,_,_,_,_,_]) [1,0,2,3,4,5] Z M) ?_;clear H;intro w H;refine kP H (SB (SR fun _ K5=>Rm M (Ro aF 2 M (Rc M (Kz K5 (Cd M ?_ ?_)))))) <;> clear H K5
  ·intro iq a H
   try have qL:=dT iq
   refine kP H (SR fun _ K6=>bC atA jy 1 M M ?_);clear H;intro a H;refine s_call Q6 H wn M (apA _ _ H.ro _ _ hrep (by have:=agI (jS hk);omega)) rfl ?_;clear H;rintro v17 AB a w FN uJ H;obtain ⟨Ur,n17,c17,rfl⟩:=FN.form;refine bJ jy 4 (vs:=[_]) H wn M ?_;clear H;intro w H;refine bJ ug 5 (vs:=[_]) H wn M ?_;clear H;intro w H;refine K6 _ _ ?_;clear K6;refine eP ?_;refine (aiF (.slice Ur n17 c17) _ _ _ _ _ (by exact H.eD (Pl:=[_,_,_,_,_,_]) (dK:=[_,_,_,_,_]) [0,2,3,4,5] Z M) ?_).1 M;exact ⟨_,by unfold tO;rw [atS hk hI iq];rfl,FN⟩
  intro iq a H
  refine iD ?_;refine Yv (()) _ _ _ _ _ (by exact H.eD (Pl:=[_,_,_,_,_,_]) (dK:=[_,_,_,_,_]) [0,2,3,4,5] Z M) ?_;exact atQ hk hI iq
 ·clear H;intro Dk2 gh Gd2 a w hm2 hI H;dsimp only [lca,bM] at H;refine K2 _ _ ?_;clear K2;refine cZ (fun _ K7=>?_);refine bJ jy 3 (vs:=[_]) H wn M ?_;clear H;intro w H;refine bJ ug 4 (vs:=[_]) H wn M ?_;clear H;intro w H;refine K7 _ _ ?_;clear K7;refine eP ?_;refine (Je H 0 M ?_).1;clear H;intro a w H;dsimp only [List.eraseIdx_cons_succ,List.eraseIdx_cons_zero] at H;refine (kG H results28 (.cons (Gn jy H M (H.hp.uN 2 M M)) (.cons (Gn ug H M (H.hp.uN 3 M M)) .nil)) ?_).1;exact H.rt ⟨_,by unfold tO;rw [agz (by simpa using hI)];rfl,by unfold tO;rw [agz (by simpa using hI)];exact av.uM M Z⟩
 clear H;intro Dk2 x Gd2 a w hm2 hI H;dsimp only [lca,bM] at H;obtain ⟨f,hf,hrep⟩:=hI;obtain ⟨xA,xn,xc,rfl⟩:=hrep.form;refine eP ?_;refine (Je H 0 M ?_).1;clear H;intro a w H;dsimp only [List.eraseIdx_cons_succ,List.eraseIdx_cons_zero] at H;refine (kG H results28 (.cons (Gn jy H M (H.hp.uN 2 M M)) (.cons (Gn ug H M (H.hp.uN 3 M M)) .nil)) ?_).1;exact H.rt ⟨_,by rw [hf];rfl,by rw [hf];exact hrep⟩
section
def nM (xs:Array ah) (o:Nat × Bool):Option (Int × Bool):=match xs[o.1]?,o.2 with|some (.int .i64 n),false=>some (n,false)|some (.bool b),true=>some (0,b)|_,_=>none
def CY (u:Option TypeDesc) (b:Bool):Bool:=match u,b with|some (.int .i64),false=>true|some .bool,true=>true|_,_=>false
structure PI (P:Program) (t:TypeId) (Me:List (Nat × Bool)):Prop where
 und:P.underlying t=some (.struct (P.fieldsOf t))
 held:P.stoodInHeld t=false
 guard:P.eqGuardType P.depth t=false
 NM:(P.fieldsOf t).toList.map (fun f=>(f.offset,CY (P.underlying f.type) true))=Me
 ok:(P.fieldsOf t).toList.all (fun f=>decide (f.name ≠ "_") && P.plainKey f.type && CY (P.underlying f.type) (CY (P.underlying f.type) true))=true
theorem akJ {P:Program} {w:World} {d:Nat} {xs ys:Array ah}:∀ fs:List Field,fs.all (fun f=>decide (f.name ≠ "_") && P.plainKey f.type && CY (P.underlying f.type) (CY (P.underlying f.type) true))=true ->
  (fs.map (fun f=>(f.offset,CY (P.underlying f.type) true))).all (fun o=>(nM xs o).isSome && (nM ys o).isSome)=true->(Op.eqFields (d+1) xs ys fs).run P w=.ok ((fs.map (fun f=>(f.offset,CY (P.underlying f.type) true))).all fun o=>nM xs o == nM ys o) w
 | [],_,_=>by simp [Op.eqFields]
 | f :: fs,h1,h2=>by
  simp only [List.all_cons,iC,lD,dO] at h1 h2
  obtain ⟨⟨⟨hn,hp⟩,hi⟩,h1⟩:=h1
  obtain ⟨⟨hx,hy⟩,h2⟩:=h2
  have ih:=akJ (w:=w) (d:=d) fs (by simpa using h1) h2
  obtain ⟨kb,hkb⟩:∃ kb,kb=CY (P.underlying f.type) true:=⟨_,M⟩
  rw [<- hkb] at hi hx hy
  cases kb with
  | false =>
   have hu:P.underlying f.type=some (.int .i64):=by clear hkb ih h1 h2 hx hy;unfold CY at hi;split at hi <;> simp_all
   obtain ⟨m,hxm⟩:∃ m,xs[f.offset]?=some (.int .i64 m):=by clear hkb ih h1 h2 hi hy;unfold nM at hx;split at hx <;> simp_all
   obtain ⟨m2,hym⟩:∃ m,ys[f.offset]?=some (.int .i64 m):=by clear hkb ih h1 h2 hi hx;unfold nM at hy;split at hy <;> simp_all
   have e1:nM xs (f.offset,false)=some (m,false):=by unfold nM;rw [hxm]
   have e2:nM ys (f.offset,false)=some (m2,false):=by unfold nM;rw [hym]
   simp only [Op.eqFields,hn,ne_eq,not_false_eq_true,if_true,dP,run_part_plain w hp hxm,run_part_plain w hp hym,nY,run_equalIn_int w d f.type .i64 .i64 m m2 hu,dO,List.all_cons,<- hkb,e1,e2]
   by_cases e:m=m2
   ·subst e;simp [ih,List.all_map]
   ·simp [e]
  | true =>
   have hu:P.underlying f.type=some .bool:=by clear hkb ih h1 h2 hx hy;unfold CY at hi;split at hi <;> simp_all
   obtain ⟨m,hxm⟩:∃ m,xs[f.offset]?=some (.bool m):=by clear hkb ih h1 h2 hi hy;unfold nM at hx;split at hx <;> simp_all
   obtain ⟨m2,hym⟩:∃ m,ys[f.offset]?=some (.bool m):=by clear hkb ih h1 h2 hi hx;unfold nM at hy;split at hy <;> simp_all
   have e1:nM xs (f.offset,true)=some (0,m):=by unfold nM;rw [hxm]
   have e2:nM ys (f.offset,true)=some (0,m2):=by unfold nM;rw [hym]
   simp only [Op.eqFields,hn,ne_eq,not_false_eq_true,if_true,dP,run_part_plain w hp hxm,run_part_plain w hp hym,nY,run_equalIn_bool' w d f.type m m2 hu,dO,List.all_cons,<- hkb,e1,e2]
   by_cases e:m=m2
   ·subst e;simp [ih,List.all_map]
   ·simp [e]
section
variable {N:Nat} {D:List Deferred} {w0:World} {F:Nat->Prop} {G0 G:GH} {L:List (Nat × Obj)} {T:List (Nat × ah)}
variable {r:Option Nat} {P:Program} {ops:Array Oper} {Q:Exit->Act->World->Prop} {rest:List Oper} {a:Act} {w:World}
variable {d:Nat} {ty:TypeId} {pos:String} {aL:Array Edge} {g:Option (Nat × Bool)}
theorem Gp {t yt:TypeId} {x y:Operand} {p q:ByteArray} (H:St N D w0 F G0 G L T a w) (hw:Region.wanted ⟨some d,.binOp .eql t x y yt,ty,pos,aL,g⟩ (yielded ops a.tmps)=true) (hx:ev T x=some (.string p)) (hy:ev T y=some (.string q)) (hd:Nat.blt d N=true)
  (k:∀ a',St N D w0 F G0 G L ((d,.bool (p.toList == q.toList)) :: T) a' w->WL r P ops Q rest a' w):WL r P ops Q (⟨some d,.binOp .eql t x y yt,ty,pos,aL,g⟩ :: rest) a w:=by
 refine fI (v:=.bool (p.toList == q.toList)) (w':=w) hw M ?_ (k _ (H.put hd _ H.hp))
 simp [execOp,H.ev hx,H.ev hy,dP,eqGuard,binOp,Op.stringOp]
theorem aar {op:BinOp} {t yt:TypeId} {Me:List (Nat × Bool)} (ho:op=.eql∨op=.neq) (he:PI P t Me) {x y:Operand} {xs ys:Array ah} (H:St N D w0 F G0 G L T a w) (hw:Region.wanted ⟨some d,.binOp op t x y yt,ty,pos,aL,g⟩ (yielded ops a.tmps)=true) (hx:ev T x=some (.agg xs)) (hy:ev T y=some (.agg ys))
  (hi:Me.all (fun o=>(nM xs o).isSome && (nM ys o).isSome)=true) (hd:Nat.blt d N=true)
  (k:∀ a',St N D w0 F G0 G L ((d,.bool (if op=.eql then Me.all fun o=>nM xs o == nM ys o else !(Me.all fun o=>nM xs o == nM ys o))) :: T) a' w->WL r P ops Q rest a' w):WL r P ops Q (⟨some d,.binOp op t x y yt,ty,pos,aL,g⟩ :: rest) a w:=by
 have h1:=akJ (P:=P) (w:=w) (d:=9998) (xs:=xs) (ys:=ys) _ he.ok (by rw [he.NM];exact hi)
 rw [he.NM] at h1
 rcases ho with rfl|rfl
 ·refine fI (v:=_) (w':=w) hw M ?_ (k _ (H.put hd _ H.hp))
  simp only [execOp,H.ev hx,H.ev hy,dP,run_eqGuard_agg w .eql t x y xs ys he.guard,nY,run_eql_struct,run_equalIn_struct w 9999 t xs ys he.und he.held,h1]
  rfl
 ·refine fI (v:=_) (w':=w) hw M ?_ (k _ (H.put hd _ H.hp))
  simp only [execOp,H.ev hx,H.ev hy,dP,run_eqGuard_agg w .neq t x y xs ys he.guard,nY,run_neq_struct,run_equalIn_struct w 9999 t xs ys he.und he.held,h1]
  rfl
end
end
theorem Sn {α:Type} {p:α->Bool} {A:List α} {k:Nat} (hk:k < A.length) (h:(A.take k).findIdx? p=none) (hp:p A[k]=false):(A.take (k+1)).findIdx? p=none:=by
 rw [List.findIdx?_eq_none_iff] at h |-;rw [jK hk];intro x hx
 rcases kC.1 hx with hx|hx
 ·exact h x hx
 rw [qY.1 hx];exact hp
theorem OG {α:Type} {p:α->Bool} {A:List α} {k:Nat} (hk:k < A.length) (h:(A.take k).findIdx? p=none) (hp:p A[k]=true):A.findIdx? p=some k:=by
 have e:A.findIdx? p=(A.take k++A.drop k).findIdx? p:=by rw [List.take_append_drop]
 rw [e,List.findIdx?_append,h,nK hk,List.findIdx?_cons,hp]
 simp;omega
theorem Mw:JZ prog 172:=⟨V⟩
theorem u8B:U8 prog 5:=⟨V⟩
theorem ayZ:liesAt prog prog.depth 172 (2 / prog.cellsOf 172) 0 172 1=true:=by kernel_rfl
theorem aez:prog.cellsOf 5=1:=by kernel_rfl
theorem ajO (v:ah) (w:World):(callFunc 210 #[v]).run prog w=.ok (.value v) w:=aBF func210 V V V V v w
theorem Dt:prog.underlying 169=some (.pointer 172):=by kernel_rfl
theorem T9:prog.underlying 280=some .unsafePointer:=by kernel_rfl
theorem Fj:dR prog 172 0 0:=⟨V⟩
theorem Gy:Ty prog 169 1 8 [.pointer none] false:=⟨V,V⟩
theorem afA:aR 154:=aS func154 M
theorem Du:prog.underlying 170=some (.slice 5):=by kernel_rfl
theorem Ad:dR prog 172 1 1:=⟨V⟩
theorem Ar:Ty prog 170 1 24 [.slice none 0 0] false:=⟨V,V⟩
theorem alR:prog.underlying 231=some (.pointer 5):=by kernel_rfl
abbrev bB (b:Nat) (p v:ah):Nat × Obj:=(b,.cells #[p,v] 172 (0,0))
theorem Qh {p:Prop} (h:p:=by
 exact H.hp.gQ ⟨M,M⟩):p:=h
theorem adO {p:Prop} (h:p:=by
 clear H;intro a H;refine kH H (Rk M (Rf Fj M ?_));clear H;intro a H;refine bJ Gy 0 (vs:=[_]) H wn M ?_;clear H;intro w H;refine aD ?_;refine (leave0 H results154 ?_).2;exact Qh):p:=h
theorem apP (G:GH) (L:OL) (w0:World) (b:Nat) (A:Option Addr) (n c:Nat) (hO:gq G (bB b (.pointer none) (.slice A n c) :: L) w0) :
  Calls prog 154 #[(aH b 0)] w0 (fM w0 G (bB b (.pointer none) (.slice A n c) :: L) fun u G' L'=>L'=bB b (aH b 0) (.slice A n c) :: L∧G'=G):=by
 refine jc (N:=20) (T:=[(0,_)]) func154 M ntmps154 M M hO ?_;intro a H;refine kP H (SR fun _ K1=>Rm M (Rk M (bC Fj Gy 0 M M ?_)));clear H;intro a H;refine TM Dt H wn M M ?_;clear H;intro a H;refine K1 _ _ ?_;clear K1;refine jL H M ?_ ?_
 ·intro h6
  refine kP H (SC (Rm M (Rm M ?_)));clear H;intro a H;refine ala Dt T9 Mw H wn M 0 M M M ?_;clear H;intro a H;refine akW (xs:=[.tmp 9]) (ajO _) H wn M M ?_;clear H;intro a H;refine akR T9 Dt Mw H wn M 0 M ayZ M ?_;exact adO
 intro h6
 exact absurd h6 Z
theorem apQ (G:GH) (L:OL) (w0:World) (b:Nat) (A:Option Addr) (n c:Nat) (hO:gq G (bB b (aH b 0) (.slice A n c) :: L) w0) :
  Calls prog 154 #[(aH b 0)] w0 (fM w0 G (bB b (aH b 0) (.slice A n c) :: L) fun u G' L'=>L'=bB b (aH b 0) (.slice A n c) :: L∧G'=G):=by
 refine jc (N:=20) (T:=[(0,_)]) func154 M ntmps154 M M hO ?_;intro a H;refine kP H (SR fun _ K1=>Rm M (Rk M (bC Fj Gy 0 M M ?_)));clear H;intro a H;refine TM Dt H wn M M ?_;clear H;intro a H;refine K1 _ _ ?_;clear K1;refine jL H M ?_ ?_
 ·intro h6
  exact absurd h6 (by simp)
 intro h6
 refine kP H (SR fun _ K2=>Rm M (Rk M (bC Fj Gy 0 M M (Rm M ?_))));clear H;intro a H;refine akU Dt Mw H wn M M M ?_;clear H;intro a H;refine K2 _ _ ?_;clear K2;refine jL H M ?_ ?_
 ·intro h19
  exact absurd h19 Z
 intro h19
 refine iD ?_;refine (leave0 H results154 ?_).2;exact Qh
theorem apR (G:GH) (L:OL) (w0:World) (b:Nat) (p:ah) (A:Option Addr) (n c:Nat) (hp:p=.pointer none∨p=(aH b 0)) (hO:gq G (bB b p (.slice A n c) :: L) w0) :
  Calls prog 154 #[(aH b 0)] w0 (fM w0 G (bB b p (.slice A n c) :: L) fun u G' L'=>L'=bB b (aH b 0) (.slice A n c) :: L∧G'=G):=by
 rcases hp with rfl|rfl
 ·exact apP G L w0 b A n c hO
 exact apQ G L w0 b A n c hO
theorem amw (G:GH) (Lo:OL) (w0:World) (b:Nat) (p v:ah) (n:Nat) (xs:List ah) (s:ByteArray) (hp:p=.pointer none∨p=(aH b 0)) (hO:gq G (bB b p v :: Lo) w0) (hrow:bY 5 1 v n xs Lo) (hn:n+s.size<=140737488355328) :
  Calls prog 92 #[(aH b 0),.string s] w0 (fM w0 G (bB b p v :: Lo) fun u G' L'=>∃ v' jr,L'=bB b (aH b 0) v' :: jr∧bY 5 1 v' (n+s.size) (xs++Lib.strCells s) jr∧G'=G):=by
 obtain ⟨A,c,rfl,-,-⟩:=hrow.shape;refine jc (N:=19) (T:=[(0,_),(1,_)]) func92 M ntmps92 M M hO ?_;intro a H;refine kP H (SR fun _ K1=>Ra M (aj K1 M (SR fun _ K2=>Rm M ?_)));clear H K1;intro a H;refine gW afA (Li:=[]) (L:=bB b p _ :: Lo) H wn M (apR _ _ _ b p A n c hp (Hp.owns (Li:=[]) H.hp)) M ?_;clear H;rintro v7 _ L7 a w ⟨rfl,rfl⟩ CP H;dsimp only [List.nil_append] at H;refine K2 _ _ ?_;clear K2;refine kP H (SR fun _ K3=>Rm M (Rm M (Rk M (bC Ad Ar 0 M M (Rm M ?_)))));clear H;intro a H;refine aBN (Li:=[_]) (Lo:=Lo) Du iW u8B H wn M M hrow hn M ?_;clear H;intro v14 abm a w FT H;obtain ⟨PD,c14,rfl,-,-⟩:=FT.shape;refine kH H (Rk M (Rf Ad M ?_));clear H;intro a H;refine bJ Ar 0 (vs:=[_]) H wn M ?_;clear H;intro w H;refine K3 _ _ ?_;clear K3;refine kP H (SR fun _ K4=>Rm M (Rv iW M (Ra M (aj K4 M ?_))));clear H K4;intro a H;refine eP ?_;refine (kG H results92 (.cons (fB H M) (.cons (fB H M) .nil)) ?_).1;exact H.hp.gQ ⟨_,_,M,FT,M⟩
theorem adq {p:Prop} (h:p:=by
 refine iO 3 6 M M fun _ a w G1 hG HT H fin=>?_;refine aB4 H wn M O M ?_;exact jH):p:=h
theorem aDc (G:GH) (Lo:OL) (w0:World) (b:Nat) (p v:ah) (l:List UInt8) (hO:gq G (bB b p v :: Lo) w0) (hrow:bY 5 1 v l.length (Lib.byteCells l) Lo) (h0:l≠[]) :
  Calls prog 94 #[(aH b 0)] w0 (fM w0 G (bB b p v :: Lo) fun u G' L'=>u=.string ⟨l.toArray⟩):=by
 rcases hrow.2 with ⟨-,h,-⟩|⟨b2,cap,cur,rfl,rfl,hc1,hc2,hc3,hc4⟩
 ·exact absurd (List.eq_nil_of_length_eq_zero h) h0
 have hl0:l.length≠0:=fun h=>h0 (List.eq_nil_of_length_eq_zero h);have hml:maxLen=9223372036854775807:=rfl;refine jc (N:=14) (T:=[(0,_)]) func94 M ntmps94 M M hO ?_;intro a H;refine kP H (SR fun _ K1=>aj K1 M (SQ fun _ K2=>?_));clear H K1;intro a H;have H:=H.sub (T':=[(0,_)]) ⟨M,aC⟩;refine dI hmx [[],[0],[0,1],[0,1,2],ra 0 4,[],[5],[5,6],[5,6,7],ra 5 4,ra 0 10,ra 0 11] [10,11] V [_,_,_,.slice (some ⟨b2,0,none⟩) l.length cap,(aH b2 0),_,_,_,.slice (some ⟨b2,0,none⟩) l.length cap,_] H (aB (Z0 M (Rm M)) (Z1 0 3 M (Rk M)) (Z1 1 4 M (Rf Ad M)) (Z1 2 5 M (Ro Ar 0 M)) (aB ?_ (Z0 M (Rm M)) (Z1 5 8 M (Rk M)) (Z1 6 9 M (Rf Ad M)) (aB (Z1 7 10 M (Ro Ar 0 M)) (Z1 8 11 M (Rl Du M)) (bS M) (bS M) dz))) ?_
 ·exact adq
 clear H;intro a w G nO H hv;have H:=H.aM (hv 4 7 M M) M;have H:=H.aM (hv 9 12 M M) M;clear hv;refine alb (i:=1) l alR aez h0 O H wn M M M (by rw [<- hc4,Nat.mul_one]) M ?_;clear H;intro fz a w H;dsimp only [List.set] at H;refine kH H (Ra M ?_);clear H;intro a H;refine aD ⟨M,?_⟩;refine K2 _ _ ?_;clear K2;refine lr H results94 M ?_;exact H.hp.gQ M
def ng (p:Nat->Bool):Nat->Nat->Nat->Nat
 | 0,i,_=>i
 | f+1,i,j=>if i < j then (if p ((i+j) / 2) then ng p f i ((i+j) / 2) else ng p f ((i+j) / 2+1) j) else i
theorem Y4 {p:Nat->Bool} {f i j:Nat} (hf:j - i<=f) (h:i < j):ng p f i j=if p ((i+j) / 2) then ng p (f - 1) i ((i+j) / 2) else ng p (f - 1) ((i+j) / 2+1) j:=by
 match f,hf with
 | 0,hf=>omega
 | f+1,_=>rw [ng,ay h];rfl
theorem Y1 {p:Nat->Bool} {f i j:Nat} (h:¬ i < j):ng p f i j=i:=by
 match f with
 | 0=>rfl
 | f+1=>rw [ng,au h]
theorem Sl {p:Nat->Bool}:∀ (f i j:Nat),i<=j->ng p f i j<=j
 | 0,i,j,h=>h
 | f+1,i,j,h=>by
  rw [ng]
  split
  ·split
   ·exact Nat.le_trans (Sl f i _ O) O
   ·exact Sl f _ j O
  ·exact h
theorem Y5 {z:Int} (h1:0<=z) (h2:z < 18446744073709551616):IntKind.u64.wrap z=z:=by
 simp only [IntKind.wrap,IntKind.bits,IntKind.signed,Hq,Hl,if_false]
 omega
theorem Y2 (n:Nat):((n:Nat):Int).fdiv (2 ^ 1)=((n / 2:Nat):Int):=by
 rw [Int.fdiv_eq_ediv_of_nonneg _ Z];omega
def Cr (a b:Int):Int:=if a < b then -1 else if b < a then 1 else 0
theorem aeN {a b:Int}:Cr a b < 0↔a < b:=by
 unfold Cr
 split
 ·simp [*]
 ·split <;> simp_all
theorem aeM {a b:Int}:Cr a b=0↔a=b:=by
 unfold Cr
 split
 ·omega
 ·split <;> omega
def gY (ks:List Int) (t:Int):Nat:=ng (fun h=>decide (¬ ks.getD h 0 < t)) ks.length 0 ks.length
def qm (ks:List Int) (t:Int):Bool:=decide (ks[gY ks t]?=some t)
theorem Ib (ks:List Int) (t:Int):gY ks t<=ks.length:=Sl _ _ _ (kY _)
theorem RI {ks:List Int} {t:Int} (h:qm ks t=true):gY ks t < ks.length:=by
 have:=rT h
 exact (jZ.1 this).1
theorem ahq {ks:List Int} {t:Int} {n:Nat} (e:gY ks t=n) (h:n < ks.length):qm ks t=decide (Cr ks[n] t=0):=by
 unfold qm
 rw [e,eB h]
 simp [aeM]
theorem ahr {ks:List Int} {t:Int} {n:Nat} (e:gY ks t=n) (h:¬ n < ks.length):qm ks t=false:=by
 unfold qm
 rw [e,List.getElem?_eq_none O]
 simp
theorem getD_map {α:Type} {f:α->Int} {l:List α} {n:Nat} (h:n < l.length):(l.map f).getD n 0=f l[n]:=by
 simp [List.getD,h]
theorem Pk:prog.underlying 322=some (.slice 296):=by kernel_rfl
theorem wK:Ty prog 296 6 56 [.int .i64 0,.int .i64 0,.int .i64 0,.int .i64 0,.int .i64 0,.string ⟨#[]⟩] true:=⟨V,V⟩
theorem alq:qV prog 296 [(0,1),(1,1),(2,1),(3,1),(4,1),(5,1)] [.int .i64 0,.int .i64 0,.int .i64 0,.int .i64 0,.int .i64 0,.string ⟨#[]⟩]:=⟨V,V⟩
theorem WK:aR 174:=aS func174 M
structure lC where
 num:Int
 KP:Int
 low:Int
 high:Int
 std:Int
 name:ByteArray
def lC.dat (x:lC):List Dat:=[li x.num,li x.KP,li x.low,li x.high,li x.std,.lf (.string x.name)]
def lC.cells (x:lC):List ah:=[vi x.num,vi x.KP,vi x.low,vi x.high,vi x.std,.string x.name]
def aN.cells (x:aN):List ah:=[vi x.key,vi x.value]
theorem ayE (G:GH) (x:lC):aX G x.dat x.cells:=by
 simp only [lC.dat,lC.cells,aX]
 exact ⟨_,_,M,by simp [av,Value.oneCell'],_,_,M,by simp [av,Value.oneCell'],_,_,M,by simp [av,Value.oneCell'],_,_,M,by simp [av,Value.oneCell'],_,_,M,by simp [av,Value.oneCell'],_,_,M,by simp [av,Value.oneCell'],M⟩
theorem ayD {G:GH} {x:lC} {cs:List ah} (h:aX G x.dat cs):cs=x.cells:=by
 simp only [lC.dat,aX,av] at h
 obtain ⟨v1,_,rfl,⟨rfl,-⟩,v2,_,rfl,⟨rfl,-⟩,v3,_,rfl,⟨rfl,-⟩,v4,_,rfl,⟨rfl,-⟩,v5,_,rfl,⟨rfl,-⟩,v6,_,rfl,⟨rfl,-⟩,rfl⟩:=h
 rfl
theorem aAC (G:GH) (x:aN):aX G x.dat x.cells:=by
 simp only [aN.dat,aN.cells,aX]
 exact ⟨_,_,M,by simp [av,Value.oneCell'],_,_,M,by simp [av,Value.oneCell'],M⟩
theorem Tg {G:GH} {x:aN} {cs:List ah} (h:aX G x.dat cs):cs=x.cells:=by
 simp only [aN.dat,aX,av] at h
 obtain ⟨v1,_,rfl,⟨rfl,-⟩,v2,_,rfl,⟨rfl,-⟩,rfl⟩:=h
 rfl
theorem ajc (G:GH):∀ (B A:List lC),dx G 6 (A.map lC.dat) (A.map lC.cells).flatten->dx G 6 ((A++B).map lC.dat) ((A++B).map lC.cells).flatten
 | [],A,h=>by rw [fG];exact h
 | x :: B,A,h=>by
  have h2:=h.snoc (ayE G x) M;have h3:=ajc G B (A++[x]) (by simpa using h2)
  simpa using h3
theorem ayF (G:GH) (A:List lC):dx G 6 (A.map lC.dat) (A.map lC.cells).flatten:=ajc G A [] dx.nil
theorem Hu {p:Prop} (h:p:=by
 exact ⟨b,o,h1,h3⟩):p:=h
theorem Zi {G:GH} {l:List lC} {A:Option Addr} {n c k:Nat} (hv:av G (.sl 6 (l.map lC.dat)) (.slice A n c)) (hk:k < l.length):∃ b o,A=some ⟨b,o,none⟩∧(∀ j u,[vi l[k].num,vi l[k].KP,vi l[k].low,vi l[k].high,vi l[k].std,.string l[k].name][j]?=some u->aI G b (o+k*6+j)=some u):=by
 obtain ⟨A',c',he,_,_,hg⟩:=hv.slice
 injection he with e1 e2 e3
 subst e1;obtain ⟨b,o,cs,h1,h2,h3,h4⟩:=hg k l[k].dat (by simp [hk]);obtain rfl:=ayD h4;exact Hu
theorem akh (G:GH):∀ (B A:List aN),dx G 2 (A.map aN.dat) (A.map aN.cells).flatten->dx G 2 ((A++B).map aN.dat) ((A++B).map aN.cells).flatten
 | [],A,h=>by rw [fG];exact h
 | x :: B,A,h=>by
  have h2:=h.snoc (aAC G x) M;have h3:=akh G B (A++[x]) (by simpa using h2)
  simpa using h3
theorem Ti (G:GH) (A:List aN):dx G 2 (A.map aN.dat) (A.map aN.cells).flatten:=akh G A [] dx.nil
theorem Js {G:GH} {l:List aN} {A:Option Addr} {n c k:Nat} (hv:av G (.sl 2 (l.map aN.dat)) (.slice A n c)) (hk:k < l.length):∃ b o,A=some ⟨b,o,none⟩∧(∀ j u,[vi l[k].key,vi l[k].value][j]?=some u->aI G b (o+k*2+j)=some u):=by
 obtain ⟨A',c',he,_,_,hg⟩:=hv.slice
 injection he with e1 e2 e3
 subst e1;obtain ⟨b,o,cs,h1,h2,h3,h4⟩:=hg k l[k].dat (by simp [hk]);obtain rfl:=Tg h4;exact Hu
def Jc:List lC:=[⟨1,1,0,1073741824,0,⟨#[99,104,97,114,97,99,116,101,114,45,115,116,121,108,101]⟩⟩,⟨2,1,0,1,0,⟨#[98,111,108,100]⟩⟩,⟨3,1,0,1,0,⟨#[105,116,97,108,105,99]⟩⟩,⟨4,1,0,3,0,⟨#[117,110,100,101,114,108,105,110,101]⟩⟩,⟨5,1,2,1638,22,⟨#[115,105,122,101]⟩⟩,⟨6,1,0,16777215,0,⟨#[99,111,108,111,114]⟩⟩,⟨7,1,0,63,0,⟨#[102,111,110,116]⟩⟩,⟨8,1,0,255,0,⟨#[108,97,110,103,117,97,103,101]⟩⟩,⟨9,1,-400,400,0,⟨#[114,97,105,115,101]⟩⟩,⟨10,1,0,1,0,⟨#[104,105,100,100,101,110]⟩⟩,⟨20,2,0,1073741824,0,⟨#[112,97,114,97,103,114,97,112,104,45,115,116,121,108,101]⟩⟩,⟨21,2,0,3,0,⟨#[97,108,105,103,110]⟩⟩,⟨22,2,-31680,31680,0,⟨#[108,101,102,116]⟩⟩,⟨23,2,-31680,31680,0,⟨#[114,105,103,104,116]⟩⟩,⟨24,2,-31680,31680,0,⟨#[102,105,114,115,116]⟩⟩,⟨25,2,0,31680,0,⟨#[98,101,102,111,114,101]⟩⟩,⟨26,2,0,31680,0,⟨#[97,102,116,101,114]⟩⟩,⟨27,2,0,31680,0,⟨#[108,101,97,100,105,110,103]⟩⟩,⟨28,2,0,1,0,⟨#[107,101,101,112,45,110,101,120,116]⟩⟩,⟨29,2,0,1,0,⟨#[107,101,101,112,45,108,105,110,101,115]⟩⟩,⟨30,2,0,1,1,⟨#[119,105,100,111,119]⟩⟩,⟨31,2,0,1,0,⟨#[112,97,103,101,45,98,101,102,111,114,101]⟩⟩,⟨32,2,0,9,0,⟨#[111,117,116,108,105,110,101]⟩⟩,⟨33,2,0,1073741824,0,⟨#[108,105,115,116]⟩⟩,⟨34,2,1,9,1,⟨#[108,101,118,101,108]⟩⟩,⟨35,2,0,32767,0,⟨#[114,101,115,116,97,114,116]⟩⟩,⟨36,2,1,31680,720,⟨#[116,97,98,45,115,116,111,112]⟩⟩,⟨37,2,0,1,0,⟨#[104,121,112,104,101,110,97,116,101]⟩⟩,⟨40,3,720,31680,12240,⟨#[112,97,103,101,45,119,105,100,116,104]⟩⟩,⟨41,3,720,31680,15840,⟨#[112,97,103,101,45,104,101,105,103,104,116]⟩⟩,⟨42,3,0,31680,1440,⟨#[116,111,112]⟩⟩,⟨43,3,0,31680,1440,⟨#[98,111,116,116,111,109]⟩⟩,⟨44,3,0,31680,1440,⟨#[105,110,110,101,114]⟩⟩,⟨45,3,0,31680,1440,⟨#[111,117,116,101,114]⟩⟩,⟨46,3,0,32767,0,⟨#[102,105,114,115,116,45,112,97,103,101]⟩⟩,⟨47,3,1,6,1,⟨#[112,97,103,101,45,102,111,114,109,97,116]⟩⟩,⟨50,4,0,1,0,⟨#[104,101,97,100,101,114]⟩⟩,⟨51,4,0,1,0,⟨#[99,97,110,116,45,115,112,108,105,116]⟩⟩,⟨52,4,0,31680,0,⟨#[114,111,119,45,104,101,105,103,104,116]⟩⟩,⟨60,5,1,32,1,⟨#[99,111,108,117,109,110,45,115,112,97,110]⟩⟩,⟨61,5,0,2,0,⟨#[118,101,114,116,105,99,97,108,45,109,101,114,103,101]⟩⟩,⟨62,5,0,31680,0,⟨#[99,101,108,108,45,119,105,100,116,104]⟩⟩,⟨63,5,0,16777215,16777215,⟨#[115,104,97,100,101]⟩⟩,⟨70,6,0,31680,0,⟨#[116,97,98,108,101,45,119,105,100,116,104]⟩⟩,⟨71,6,0,2,0,⟨#[116,97,98,108,101,45,97,108,105,103,110]⟩⟩]
set_option maxRecDepth 20000 in
theorem ayP (G:GH) (w0:World) (hG:Hold G w0):Calls prog 250 #[] w0 (bE w0 G fun u G'=>av G' (.sl 6 (Jc.map lC.dat)) u):=by
 refine eN [] func250 M ntmps250 M M hG ?_;intro a H;refine kP H (SR fun _ K1=>aj K1 M (SR fun _ K2=>?_));clear H K1;intro a H;(iterate 45 refine jM alq [_,_,_,_,_,_] H wn M M M M ?_;clear H;intro a H);refine aBQ Pk wK (Jc.map lC.cells) H wn M M M M M M M ?_;clear H;intro b46 a w aEU H;refine kH H (aj K2 M ?_);clear H K2;intro a H;refine lr H results250 M ?_;obtain ⟨Gz,hmz,hbz,H⟩:=H.fU;exact H.rt (av.wI (n:=45) (cap:=45) hbz M (dS _) (show 45<=maxLen by decide) (nZ (dS _)) (ayF _ _))
theorem Zd (G:GH) (w0:World) (hG:Hold G w0) (x:Int):Calls prog 174 #[vi x] w0 (bE w0 G fun u G'=>u=.bool false∧G=G'):=by
 refine eN [(0,_)] func174 M ntmps174 M M hG ?_;intro a H;exact kP H (SR fun _ K1=>aj K1 M (SR fun _ K2=>Rm M (Rm M (Rc M (aj K2 M (LR results174 M fun H=>H.rt ⟨by simp,M⟩))))))
theorem Wt {x y z:Int} (h:(x < y∧z=-1)∨(y < x∧z=1)∨(x=y∧z=0)):z=Cr x y:=by
 unfold Cr;exact M8
theorem aeS (G:GH) (w0:World) (hG:Hold G w0) (x y:Int):Calls prog 253 #[vi x,vi y] w0 (bE w0 G fun u G'=>u=vi (Cr x y)):=by
 refine eN [(0,_),(1,_)] func253 M ntmps253 M M hG ?_;intro a H;refine kP H (SR fun _ K1=>aj K1 M (SR fun _ K2=>Rm M ?_));clear H K1;intro a H;refine s_call WK H wn M (Zd _ _ H.ro x) M ?_;clear H;rintro v8 G8 a w ⟨rfl,-⟩ xk H;refine kH H (aj K2 M (SR fun _ K3=>Rm M ?_));clear H K2;intro a H;refine s_call WK H wn M (Zd _ _ H.ro y) M ?_;clear H;rintro v10 GL a w ⟨rfl,-⟩ FH H;refine kH H (aj K3 M (SQ fun _ K4=>SR fun _ K5=>Rm M (Kz K5 (Cd M ?_ ?_)))) <;> clear H K3 K5
 ·intro h11 a H
  cases h11
 intro h11 a H
 try have rJ:=dF h11
 refine kP H (Kc K4 (SQ fun _ K6=>SR fun _ K7=>Rm M (Kz K7 (Cd M ?_ ?_)))) <;> clear H K4 K7
 ·intro ig a H
  cases ig
 intro ig a H
 try have sZ:=dF ig
 refine kP H (Kc K6 (SQ fun _ K8=>SR fun _ K9=>Rm M (Rm M (Rc M (Kz K9 (Cd M ?_ ?_)))))) <;> clear H K6 K9
 ·intro h16 a H
  try have p16:=dT h16
  exact kP H (SR fun _ aT=>aj aT M (LR results253 M fun H=>H.rt (cO vi (Wt O))))
 intro h16 a H
 try have p16:=dF h16
 refine kP H (Kc K8 (SQ fun _ bR=>SR fun _ cu=>Rm M (Rm M (Rc M (Kz cu (Cd M ?_ ?_)))))) <;> clear H K8 cu
 ·intro h19 a H
  try have tX:=dT h19
  exact kP H (SR fun _ dw=>aj dw M (LR results253 M fun H=>H.rt (cO vi (Wt O))))
 intro h19 a H
 try have tX:=dF h19
 exact kP H (Kc bR (SR fun _ dB=>aj dB M (LR results253 M fun H=>H.rt (cO vi (Wt O)))))
theorem atB:dR prog 296 0 0:=⟨V⟩
theorem afN:aR 253:=aS func253 M
theorem ME:prog.underlying 199=some (.int .u64):=by kernel_rfl
theorem xW:dR prog 187 0 0:=⟨V⟩
theorem asi:aR 252:=aS func252 M
theorem asn:aR 261:=aS func261 M
theorem aew (G:GH) (w0:World) (hG:Hold G w0) (x:lC) (t:Int):uh prog (.func (.func 252) #[] #[]) [.agg x.cells.toArray,vi t] w0 (bE w0 G fun u G'=>u=vi (Cr x.num t)):=by
 refine kD (caps:=[]) asi ?_;refine eN [(0,_),(1,_)] func252 M ntmps252 M M hG ?_;intro a H;refine cZ (fun _ K1=>?_);refine dZ (cs:=[_,_,_,_,_,_]) H wn M M M ?_;clear H;intro b2 a w hb2 H;refine kH H (aj K1 M (SR fun _ K2=>bC atB aF 0 M M (Rm M ?_)));clear H K1;intro a H;refine s_call afN H wn M (aeS _ _ H.ro x.num t) M ?_;clear H;rintro v8 G8 a w rfl xk H;exact kH H (aj K2 M (LR results252 M fun H=>H.rt M))
theorem abO {p:Prop} (h:p:=by
 exact ⟨kY _,dS _,Nat.sub_le _ _,hbs.symm,fun _ _ h=>h⟩):p:=h
theorem anC {p:Prop} (h:p:=by
 exact ⟨O,hj,O,heq,fun b o h=>IK b o (hgm b o h)⟩):p:=h
theorem anD {p:Prop} (h:p:=by
 exact ⟨O,O,O,heq,fun b o h=>IK b o (hgm b o h)⟩):p:=h
theorem abP {p:Prop} (h:p:=by
 exact H.rt (by rw [ahq heq.symm (by rw [bK];omega),<- heq];simp)):p:=h
theorem abQ {p:Prop} (h:p:=by
 exact H.rt (by rw [ahr heq.symm (by rw [bK];omega),<- heq])):p:=h
theorem adA {p:Prop} (h:p:=by
 clear H;rintro v30 ER a w rfl IK H;refine kH H (Rc M (Kz K8 (Cd M ?_ ?_))) <;> clear H K8
 ·intro h31 a H
  try have p31:=dT h31
  rw [au (by simpa using aeN.1 p31)] at heq;refine kP H (SC (Rm M (Rd M (Ra M ?_))));clear H;intro a H;refine aD ?_;refine dQ ((m+1,j,f - 1,ER)) (by exact H.sub ⟨M,M,M,M,M,M,aC⟩) ?_
  (try dsimp only);exact anC
 intro h31 a H
 try have p31:=dF h31
 rw [ay (by simpa using fun h=>p31 (aeN.2 h))] at heq;refine kP H (SC (Rm M (Ra M ?_)));clear H;intro a H;refine aD ?_;refine dQ ((i,m,f - 1,ER)) (by exact H.sub ⟨M,M,M,M,M,M,aC⟩) ?_
 (try dsimp only);exact anD):p:=h
theorem aoi (G:GH) (w0:World) (hG:Hold G w0) (l:List lC) (t:Int) (v:ah) (hv:av G (.sl 6 (l.map lC.dat)) v) (hl:l.length<=4294967296) :
  Calls prog 251 #[v,vi t,.func (.func 252) #[] #[]] w0 (bE w0 G fun u G'=>u=.tuple #[vi (gY (l.map lC.num) t),.bool (qm (l.map lC.num) t)]):=by
 obtain ⟨A,c,rfl,hc1,hc2,-⟩:=hv.slice;rw [bK] at *;obtain ⟨p,hp⟩:∃ p:Nat->Bool,p=fun h=>decide (¬ (l.map lC.num).getD h 0 < t):=⟨_,M⟩
 have hbs:gY (l.map lC.num) t=ng p l.length 0 l.length:=by rw [hp,gY,bK]
 refine eN [(0,_),(1,_),(2,_)] func251 M ntmps251 M M hG ?_;intro a H;refine kP H (SR fun _ K1=>Ra M (aj K1 M (SR fun _ K2=>Rm M (Rl Pk M (aj K2 M (SR fun _ K3=>Rm M (Ra M (aj K3 M (SQ fun _ K4=>SB ?_)))))))));clear H K1 K2 K3;intro a H;skip;refine fD (ι:=Nat × Nat × Nat × GH) (Tc:=[(0,_),(1,_),(2,_),(8,_)]) (Lc:=[]) (fun gh=>[(9,vi gh.1),(10,vi gh.2.1)]) (fun gh=>[]) (fun gh=>gh.2.2.2) (fun gh=>gh.1<=gh.2.1∧gh.2.1<=l.length∧gh.2.1 - gh.1<=gh.2.2.1∧ng p gh.2.2.1 gh.1 gh.2.1=gY (l.map lC.num) t∧(∀ b o,G b=some o->gh.2.2.2 b=some o)) (fun gh=>gh.2.1 - gh.1) ((0,l.length,l.length,G)) (by exact H.sub ⟨M,M,M,M,M,M,aC⟩) ?_ ?_
 ·exact abO
 clear H;rintro ⟨i,j,f,g⟩ a w hI H;dsimp only at hI H;obtain ⟨hij,hj,hf1,heq,hgm⟩:=hI;have CW:=hv.mono hgm;dsimp only [lca,bM] at H;refine kP H (SQ fun _ K5=>SR fun _ K6=>Rm M (Rm M (Rc M (Kz K6 (Cd M ?_ ?_))))) <;> clear H K6
 ·intro fH a H
  try have oI:=dT fH
  have hlt:i < j:=by omega
  rw [Y4 hf1 hlt] at heq;obtain ⟨m,hm⟩:∃ m,m=(i+j) / 2:=⟨_,M⟩;rw [<- hm] at heq
  have hml:m < l.length:=by omega
  obtain ⟨b,o,rfl,hrow⟩:=Zi CW hml
  have hpm:p m=decide (¬ l[m].num < t):=by rw [hp];dsimp only;rw [getD_map hml]
  rw [hpm] at heq;refine kP H (Kc K5 (SB (SR fun _ K7=>Rm M (Rm M (Rd M ?_)))));clear H K5;intro a H;rw [show ((i:Int)+(j:Int))=((i+j:Nat):Int) by push_cast;rfl] at H;refine Df ((i+j:Nat):Int) ME mX H wn M (Y5 O O) M ?_;clear H;intro a H;refine TQ _ H wn M M M Z M ?_;clear H;intro a H;rw [Y2,<- hm] at H;refine Df (m:Int) mX ME H wn M (I9 O O) M ?_;clear H;intro a H;refine kH H (aj K7 M (SR fun _ K8=>Rm M (Rm M (Rm M (Ri Pk wK M M ?_)))));clear H K7;intro a H;refine bQ wK (cs:=[_,_,_,_,_,_]) H wn M M (fun j v hj=>H.hp.aI (hrow j v hj)) M ?_;clear H;intro a H;refine kH H (Rm M ?_);clear H;intro a H;refine lI H wn M M (aew _ _ H.ro l[m] t) M ?_;exact adA
 intro fH a H
 try have oI:=dF fH
 refine dY ?_;refine K4 _ _ ?_;clear K4;refine bL (fun _ K9=>?_);rw [Y1 O] at heq;refine kP H (SC (Rm M (Rm M (Rm M (Rc M (Rm M (Sp 39 M ?_ ?_))))))) <;> clear H
 ·intro jU a H
  try have p39:=dT jU
  have hil:i < l.length:=by omega
  obtain ⟨b,o,rfl,hrow⟩:=Zi CW hil;refine kH H (YM jU M (YM jU M (YM jU M (YI Pk wK jU M M ?_))));clear H;intro a H;refine bQ wK (cs:=[_,_,_,_,_,_]) H (wg H M M jU) M M (fun j v hj=>H.hp.aI (hrow j v hj)) M ?_;clear H;intro a H;refine kH H (YM jU M ?_);clear H;intro a H;refine lI H (wg H M M jU) M M (aew _ _ H.ro l[i] t) M ?_;clear H;rintro v46 G46 a w rfl ahP H;refine kH H (YC jU M (Pt jU M (Ra M (bF K9 M ?_))));clear H K9;intro a H;refine eP ?_;refine (kG H results251 (.cons (fB H M) (.cons (fB H M) .nil)) ?_).1;exact abP
 intro jU a H
 try have p39:=dF jU
 refine kH H (bH jU M (bH jU M (aU jU M (Pf jU M (Ra M (bF K9 M ?_))))));clear H K9;intro a H;refine eP ?_;refine (kG H results251 (.cons (fB H M) (.cons (fB H M) .nil)) ?_).1;exact abQ
theorem aex (G:GH) (w0:World) (hG:Hold G w0) (x:aN) (t:Int):uh prog (.func (.func 261) #[] #[]) [.agg x.cells.toArray,vi t] w0 (bE w0 G fun u G'=>u=vi (Cr x.key t)):=by
 refine kD (caps:=[]) asn ?_;refine eN [(0,_),(1,_)] func261 M ntmps261 M M hG ?_;intro a H;refine cZ (fun _ K1=>?_);refine dZ (cs:=[_,_]) H wn M M M ?_;clear H;intro b2 a w hb2 H;refine kH H (aj K1 M (SR fun _ K2=>bC xW aF 0 M M (Rm M ?_)));clear H K1;intro a H;refine s_call afN H wn M (aeS _ _ H.ro x.key t) M ?_;clear H;rintro v8 G8 a w rfl xk H;exact kH H (aj K2 M (LR results261 M fun H=>H.rt M))
theorem aoj (G:GH) (w0:World) (hG:Hold G w0) (l:List aN) (t:Int) (v:ah) (hv:av G (.sl 2 (l.map aN.dat)) v) (hl:l.length<=4294967296) :
  Calls prog 260 #[v,vi t,.func (.func 261) #[] #[]] w0 (bE w0 G fun u G'=>u=.tuple #[vi (gY (l.map aN.key) t),.bool (qm (l.map aN.key) t)]):=by
 obtain ⟨A,c,rfl,hc1,hc2,-⟩:=hv.slice;rw [bK] at *;obtain ⟨p,hp⟩:∃ p:Nat->Bool,p=fun h=>decide (¬ (l.map aN.key).getD h 0 < t):=⟨_,M⟩
 have hbs:gY (l.map aN.key) t=ng p l.length 0 l.length:=by rw [hp,gY,bK]
 refine eN [(0,_),(1,_),(2,_)] func260 M ntmps260 M M hG ?_;intro a H;refine kP H (SR fun _ K1=>Ra M (aj K1 M (SR fun _ K2=>Rm M (Rl iw M (aj K2 M (SR fun _ K3=>Rm M (Ra M (aj K3 M (SQ fun _ K4=>SB ?_)))))))));clear H K1 K2 K3;intro a H;skip;refine fD (ι:=Nat × Nat × Nat × GH) (Tc:=[(0,_),(1,_),(2,_),(8,_)]) (Lc:=[]) (fun gh=>[(9,vi gh.1),(10,vi gh.2.1)]) (fun gh=>[]) (fun gh=>gh.2.2.2) (fun gh=>gh.1<=gh.2.1∧gh.2.1<=l.length∧gh.2.1 - gh.1<=gh.2.2.1∧ng p gh.2.2.1 gh.1 gh.2.1=gY (l.map aN.key) t∧(∀ b o,G b=some o->gh.2.2.2 b=some o)) (fun gh=>gh.2.1 - gh.1) ((0,l.length,l.length,G)) (by exact H.sub ⟨M,M,M,M,M,M,aC⟩) ?_ ?_
 ·exact abO
 clear H;rintro ⟨i,j,f,g⟩ a w hI H;dsimp only at hI H;obtain ⟨hij,hj,hf1,heq,hgm⟩:=hI;have CW:=hv.mono hgm;dsimp only [lca,bM] at H;refine kP H (SQ fun _ K5=>SR fun _ K6=>Rm M (Rm M (Rc M (Kz K6 (Cd M ?_ ?_))))) <;> clear H K6
 ·intro fH a H
  try have oI:=dT fH
  have hlt:i < j:=by omega
  rw [Y4 hf1 hlt] at heq;obtain ⟨m,hm⟩:∃ m,m=(i+j) / 2:=⟨_,M⟩;rw [<- hm] at heq
  have hml:m < l.length:=by omega
  obtain ⟨b,o,rfl,hrow⟩:=Js CW hml
  have hpm:p m=decide (¬ l[m].key < t):=by rw [hp];dsimp only;rw [getD_map hml]
  rw [hpm] at heq;refine kP H (Kc K5 (SB (SR fun _ K7=>Rm M (Rm M (Rd M ?_)))));clear H K5;intro a H;rw [show ((i:Int)+(j:Int))=((i+j:Nat):Int) by push_cast;rfl] at H;refine Df ((i+j:Nat):Int) ME mX H wn M (Y5 O O) M ?_;clear H;intro a H;refine TQ _ H wn M M M Z M ?_;clear H;intro a H;rw [Y2,<- hm] at H;refine Df (m:Int) mX ME H wn M (I9 O O) M ?_;clear H;intro a H;refine kH H (aj K7 M (SR fun _ K8=>Rm M (Rm M (Rm M (Ri iw iK M M ?_)))));clear H K7;intro a H;refine bQ iK (cs:=[_,_]) H wn M M (fun j v hj=>H.hp.aI (hrow j v hj)) M ?_;clear H;intro a H;refine kH H (Rm M ?_);clear H;intro a H;refine lI H wn M M (aex _ _ H.ro l[m] t) M ?_;exact adA
 intro fH a H
 try have oI:=dF fH
 refine dY ?_;refine K4 _ _ ?_;clear K4;refine bL (fun _ K9=>?_);rw [Y1 O] at heq;refine kP H (SC (Rm M (Rm M (Rm M (Rc M (Rm M (Sp 39 M ?_ ?_))))))) <;> clear H
 ·intro jU a H
  try have p39:=dT jU
  have hil:i < l.length:=by omega
  obtain ⟨b,o,rfl,hrow⟩:=Js CW hil;refine kH H (YM jU M (YM jU M (YM jU M (YI iw iK jU M M ?_))));clear H;intro a H;refine bQ iK (cs:=[_,_]) H (wg H M M jU) M M (fun j v hj=>H.hp.aI (hrow j v hj)) M ?_;clear H;intro a H;refine kH H (YM jU M ?_);clear H;intro a H;refine lI H (wg H M M jU) M M (aex _ _ H.ro l[i] t) M ?_;clear H;rintro v46 G46 a w rfl ahP H;refine kH H (YC jU M (Pt jU M (Ra M (bF K9 M ?_))));clear H K9;intro a H;refine eP ?_;refine (kG H results260 (.cons (fB H M) (.cons (fB H M) .nil)) ?_).1;exact abP
 intro jU a H
 try have p39:=dF jU
 refine kH H (bH jU M (bH jU M (aU jU M (Pf jU M (Ra M (bF K9 M ?_))))));clear H K9;intro a H;refine eP ?_;refine (kG H results260 (.cons (fB H M) (.cons (fB H M) .nil)) ?_).1;exact abQ

theorem afC:aR 171:=aS func171 M
theorem arI:aR 204:=aS func204 M
def qW (fv:ah) (G:GH) (d:List Dat) (b:Bool):Prop:=∀ (G1:GH) (w1:World) (cs:List ah),(∀ b o,G b=some o->G1 b=some o)->Hold G1 w1->aX G1 d cs ->
 uh prog fv [.agg cs.toArray] w1 (bE w1 G1 fun u G'=>u=.bool b)
def pz (o:Option Nat):Int:=match o with|some i=>i|none=>-1
theorem zV {p:Prop} (h:p:=by
 exact ⟨O,M,fun _ _ h=>h⟩):p:=h
theorem xS {p:Prop} (h:p:=by
 first
  | exact H.rt (by rw [OG hk2 hno h16];rfl)
  | exact H.rt (by rw [show l.take k=l from nZ O] at hno;rw [hno];rfl)):p:=h
theorem abR {p:Prop} (h:p:=by
 exact ⟨O,Sn hk2 hno h16,fun b o h=>uH b o (hgm b o h)⟩):p:=h
theorem H9 {p:Prop} (h:p:=by
 intro h16
 try have p16:=dF h16
 refine kP H (Kc K6 (SC (Rd M (Rm M ?_))));clear H K6;intro a H;refine aD ?_;refine dQ ((k+1,vQ)) (by exact H.sub ⟨M,M,M,M,aC⟩) ?_
 (try dsimp only);exact abR):p:=h
theorem aiT (G:GH) (w0:World) (hG:Hold G w0) (l:List aO) (p:aO->Bool) (v fv:ah) (hv:av G (.sl 6 (l.map aO.dat)) v) (hf:∀ x∈l,qW fv G x.dat (p x)) :
  Calls prog 171 #[v,fv] w0 (bE w0 G fun u G'=>u=vi (pz (l.findIdx? p))):=by
 obtain ⟨A,c,rfl,hc1,hc2,hg⟩:=hv.slice;have hml:maxLen=9223372036854775807:=rfl;rw [bK] at *;refine eN [(0,_),(1,_)] func171 M ntmps171 M M hG ?_;intro a H;refine kP H (SR fun _ K1=>aj K1 M (SQ fun _ K2=>SR fun _ K3=>Rm M (Rl mR M (Rm M (Kz K3 (SB ?_))))));clear H K1 K3;intro a H;skip;refine fD (ι:=Nat × GH) (Tc:=[(0,_),(1,_),(7,_)]) (Lc:=[]) (fun gh=>[(8,vi gh.1)]) (fun gh=>[]) (fun gh=>gh.2) (fun gh=>gh.1<=l.length∧(l.take gh.1).findIdx? p=none∧(∀ b o,G b=some o->gh.2 b=some o)) (fun gh=>l.length - gh.1) ((0,G)) (by exact H.sub ⟨M,M,M,M,aC⟩) ?_ ?_
 ·exact zV
 clear H;rintro ⟨k,g⟩ a w hI H;dsimp only at hI H;obtain ⟨hk,hno,hgm⟩:=hI;dsimp only [lca,bM] at H;refine kP H (SR fun _ K4=>Rc M (Kz K4 (SQ fun _ K5=>Cd M ?_ ?_))) <;> clear H K4
 ·intro h9 a H
  try have p9:=dT h9
  have hk2:k < l.length:=by omega
  obtain ⟨b,o,cs,rfl,hcl,hrow,hrep⟩:=hg k l[k].dat (by simp [hk2]);obtain ⟨pA,pn,pc,dA,dn,dc,yA,yn,yc,fA,fn,fc,rfl,-⟩:=hrep.row;replace hrow:=fun j u hj=>aG hgm (hrow j u hj);refine kP H (Kc K5 (SQ fun _ K6=>SB (SR fun _ K7=>Rm M (aj K7 M (SR fun _ K8=>Rm M (Rm M (Rm M (Ri mR jO M M ?_))))))));clear H K5 K7;intro a H;refine bQ jO (cs:=[_,_,_,_,_,_]) H wn M M (fun j v hj=>H.hp.aI (hrow j v hj)) M ?_;clear H;intro a H;refine lI H wn M M (hf _ (jS hk2) _ _ _ hgm H.ro (hrep.mono hgm)) M ?_;clear H;rintro v16 vQ a w rfl uH H;refine K8 _ _ ?_;clear K8;refine jL H M ?_ ?_
  ·intro h16
   try have p16:=dT h16
   refine kP H (SR fun _ K9=>Rm M (aj K9 M ?_));clear H K9;intro a H;refine lr H results171 M ?_
   exact xS
  exact H9
 intro h9 a H
 try have p9:=dF h9
 refine dY ?_;refine K2 _ _ ?_;clear K2;refine kP H (SR fun _ aT=>aj aT M ?_);clear H aT;intro a H;refine lr H results171 M ?_
 exact xS
theorem Va {p:Prop} (h:p:=by
 exact H.rt (by cases h:l.findIdx? p <;> simp [pz])):p:=h
theorem apL (G:GH) (w0:World) (hG:Hold G w0) (l:List aO) (p:aO->Bool) (v fv:ah) (hv:av G (.sl 6 (l.map aO.dat)) v) (hf:∀ x∈l,qW fv G x.dat (p x)) :
  Calls prog 200 #[v,fv] w0 (bE w0 G fun u G'=>u=.bool (l.findIdx? p).isSome):=by
 refine eN [(0,_),(1,_)] func200 M ntmps200 M M hG ?_;intro a H;refine kP H (SR fun _ K1=>aj K1 M (SR fun _ K2=>Rm M (Rm M ?_)));clear H K1;intro a H;refine s_call afC H wn M (aiT _ _ H.ro l p _ _ hv hf) M ?_;clear H;rintro v7 G7 a w rfl CP H;refine kH H (Rc M (aj K2 M ?_));clear H K2;intro a H;refine lr H results200 M ?_
 exact Va
theorem ayn (G:GH) (w0:World) (hG:Hold G w0) (l:List aQ) (p:aQ->Bool) (v fv:ah) (hv:av G (.sl 7 (l.map aQ.dat)) v) (hf:∀ x∈l,qW fv G x.dat (p x)) :
  Calls prog 204 #[v,fv] w0 (bE w0 G fun u G'=>u=vi (pz (l.findIdx? p))):=by
 obtain ⟨A,c,rfl,hc1,hc2,hg⟩:=hv.slice;have hml:maxLen=9223372036854775807:=rfl;rw [bK] at *;refine eN [(0,_),(1,_)] func204 M ntmps204 M M hG ?_;intro a H;refine kP H (SR fun _ K1=>aj K1 M (SQ fun _ K2=>SR fun _ K3=>Rm M (Rl oK M (Rm M (Kz K3 (SB ?_))))));clear H K1 K3;intro a H;skip;refine fD (ι:=Nat × GH) (Tc:=[(0,_),(1,_),(7,_)]) (Lc:=[]) (fun gh=>[(8,vi gh.1)]) (fun gh=>[]) (fun gh=>gh.2) (fun gh=>gh.1<=l.length∧(l.take gh.1).findIdx? p=none∧(∀ b o,G b=some o->gh.2 b=some o)) (fun gh=>l.length - gh.1) ((0,G)) (by exact H.sub ⟨M,M,M,M,aC⟩) ?_ ?_
 ·exact zV
 clear H;rintro ⟨k,g⟩ a w hI H;dsimp only at hI H;obtain ⟨hk,hno,hgm⟩:=hI;dsimp only [lca,bM] at H;refine kP H (SR fun _ K4=>Rc M (Kz K4 (SQ fun _ K5=>Cd M ?_ ?_))) <;> clear H K4
 ·intro h9 a H
  try have p9:=dT h9
  have hk2:k < l.length:=by omega
  obtain ⟨b,o,cs,rfl,hcl,hrow,hrep⟩:=hg k l[k].dat (by simp [hk2]);obtain ⟨pA,pn,pc,dA,dn,dc,yA,yn,yc,fA,fn,fc,rfl,-⟩:=hrep.cell;replace hrow:=fun j u hj=>aG hgm (hrow j u hj);refine kP H (Kc K5 (SQ fun _ K6=>SB (SR fun _ K7=>Rm M (aj K7 M (SR fun _ K8=>Rm M (Rm M (Rm M (Ri oK kL M M ?_))))))));clear H K5 K7;intro a H;refine bQ kL (cs:=[_,_,_,_,_,_,_]) H wn M M (fun j v hj=>H.hp.aI (hrow j v hj)) M ?_;clear H;intro a H;refine lI H wn M M (hf _ (jS hk2) _ _ _ hgm H.ro (hrep.mono hgm)) M ?_;clear H;rintro v16 vQ a w rfl uH H;refine K8 _ _ ?_;clear K8;refine jL H M ?_ ?_
  ·intro h16
   try have p16:=dT h16
   refine kP H (SR fun _ K9=>Rm M (aj K9 M ?_));clear H K9;intro a H;refine lr H results204 M ?_
   exact xS
  exact H9
 intro h9 a H
 try have p9:=dF h9
 refine dY ?_;refine K2 _ _ ?_;clear K2;refine kP H (SR fun _ aT=>aj aT M ?_);clear H aT;intro a H;refine lr H results204 M ?_
 exact xS
theorem apK (G:GH) (w0:World) (hG:Hold G w0) (l:List aQ) (p:aQ->Bool) (v fv:ah) (hv:av G (.sl 7 (l.map aQ.dat)) v) (hf:∀ x∈l,qW fv G x.dat (p x)) :
  Calls prog 144 #[v,fv] w0 (bE w0 G fun u G'=>u=.bool (l.findIdx? p).isSome):=by
 refine eN [(0,_),(1,_)] func144 M ntmps144 M M hG ?_;intro a H;refine kP H (SR fun _ K1=>aj K1 M (SR fun _ K2=>Rm M (Rm M ?_)));clear H K1;intro a H;refine s_call arI H wn M (ayn _ _ H.ro l p _ _ hv hf) M ?_;clear H;rintro v7 G7 a w rfl CP H;refine kH H (Rc M (aj K2 M ?_));clear H K2;intro a H;refine lr H results144 M ?_
 exact Va
theorem asf:aR 250:=aS func250 M
theorem ash:aR 251:=aS func251 M
theorem mD:prog.underlying 41=some (.slice 3):=by kernel_rfl
theorem asj:aR 254:=aS func254 M
theorem afL:aR 226:=aS func226 M
theorem arV:aR 228:=aS func228 M
theorem atC:dR prog 296 1 1:=⟨V⟩
theorem arU:aR 227:=aS func227 M
theorem atD:dR prog 296 2 2:=⟨V⟩
theorem atE:dR prog 296 3 3:=⟨V⟩
def kz:lC:=⟨0,0,0,0,0,⟨#[]⟩⟩
def Jb:List Int:=Jc.map lC.num
def wo (k:Int):lC × Bool:=if qm Jb k=true then (Jc.getD (gY Jb k) kz,true) else (kz,false)
theorem find_spec (G:GH) (w0:World) (hG:Hold G w0) (k:Int):Calls prog 226 #[vi k] w0 (bE w0 G fun u G'=>u=.tuple #[.agg (wo k).1.cells.toArray,.bool (wo k).2]):=by
 refine eN [(0,_)] func226 M ntmps226 M M hG ?_;intro a H;refine cZ (fun _ K1=>?_);refine dW wK H wn M ?_;clear H;intro b2 a w hb2 H;refine kH H (aj K1 M (SR fun _ K2=>?_));clear H K1;intro a H;refine s_call asf H wn M (ayP _ _ H.ro) M ?_;clear H;rintro v7 G7 a w hv7 CP H;obtain ⟨A,c,rfl,hc1,hc2,-⟩:=hv7.slice;rw [bK] at *;refine kH H (aj K2 M (SR fun _ K3=>Rm M (Rm M ?_)));clear H K2;intro a H;refine s_call ash H wn M (aoi _ _ H.ro Jc k _ hv7 Z) M ?_;clear H;rintro v11 yM a w rfl CJ H;have hv7:=hv7.mono CJ;have hkn:Jc.map lC.num=Jb:=rfl;rw [hkn] at H;obtain ⟨n,hn⟩:∃ n,n=gY Jb k:=⟨_,M⟩;obtain ⟨q,hq⟩:∃ q,q=qm Jb k:=⟨_,M⟩;rw [<- hn,<- hq] at H;refine kH H (Rm M ?_);clear H;intro a H;(iterate 2 refine lJ H wn M M M ?_;clear H;intro a H);refine kH H (Ra M (aj K3 M (SQ fun _ K4=>SR fun _ K5=>Rm M (Rn M (Kz K5 (Cd M ?_ ?_)))))) <;> clear H K3 K5
 ·intro jC a H
  refine cZ (fun _ K6=>?_);refine jM alq [_,_,_,_,_,_] H wn M M M M ?_;clear H;intro a H;refine bJ wK 0 (vs:=[_,_,_,_,_,_]) H wn M ?_;clear H;intro w H;refine kH H (aj K6 M ?_);clear H K6;intro a H;refine eP ?_;refine (kG H results226 (.cons (qM wK (cs:=[_,_,_,_,_,_]) H M M (H.hp.dG 0 M M)) (.cons (fB H M) .nil)) ?_).1;exact H.rt (by rw [wo,au (by rw [<- hq];simpa using jC)];rfl)
 intro jC a H
 try have sD:=dF jC
 have hlt:n < Jc.length:=by have:=RI (ks:=Jb) (t:=k) (by rw [<- hq];simpa using jC);rw [<- hn] at this;simpa [Jb] using this
 obtain ⟨b,o,rfl,hrow⟩:=Zi hv7 hlt;refine kP H (Kc K4 (SR fun _ K7=>Rm M (Rm M (Ri Pk wK M M ?_))));clear H K4;intro a H;refine bQ wK (cs:=[_,_,_,_,_,_]) H wn M M (fun j v hj=>H.hp.aI (hrow j v hj)) M ?_;clear H;intro a H;refine bJ wK 0 (vs:=[_,_,_,_,_,_]) H wn M ?_;clear H;intro w H;refine kH H (aj K7 M ?_);clear H K7;intro a H;refine eP ?_;refine (kG H results226 (.cons (qM wK (cs:=[_,_,_,_,_,_]) H M M (H.hp.dG 0 M M)) (.cons (fB H M) .nil)) ?_).1;exact H.rt (by rw [wo,ay (by rw [<- hq];simpa using jC),<- hn,List.getD_eq_getElem?_getD,eB hlt];rfl)
def Bg (e:Int):List Int:=if e=1∨e=4∨e=5∨e=6 then [1] else if e=2 then [1,2] else if e=3 then [3] else if e=7 then [6] else if e=9 then [4] else if e=10 then [5] else []
theorem CX (G:GH) (A:List Int):dx G 1 (A.map fun k=>[li k]) (A.map vi):=by
 refine ⟨A.map fun k=>[vi k],?_,by simp,fun j r cs hr hc=>?_⟩
 ·induction A with
  | nil=>rfl
  | cons a A ih=>simpa using ih
 rw [qD] at hr hc
 cases h:A[j]? with
 | none=>rw [h] at hr;cases hr
 | some x =>
  rw [h] at hr hc
  cases hr;cases hc
  exact ⟨by simp only [aX];exact ⟨_,_,M,by simp [av,Value.oneCell'],M⟩,M⟩
theorem Co {p:Prop} (h:p:=by
 first
  | exact H.rt (by rw [Bg,bU,bU,bU,bU,bU,bU];exact av.uM M Z)
  | (obtain ⟨Gz,hmz,hbz,H⟩:=H.fU
     first
       | exact H.rt (by rw [Bg,jl];exact av.wI (n:=1) (cap:=1) hbz M (dS _) (show 1<=maxLen by decide) rfl (CX _ [1]))
       | exact H.rt (by rw [Bg,bU,jl];exact av.wI (n:=2) (cap:=2) hbz M (dS _) (show 2<=maxLen by decide) rfl (CX _ [1,2]))
       | exact H.rt (by rw [Bg,bU,bU,jl];exact av.wI (n:=1) (cap:=1) hbz M (dS _) (show 1<=maxLen by decide) rfl (CX _ [3]))
       | exact H.rt (by rw [Bg,bU,bU,bU,jl];exact av.wI (n:=1) (cap:=1) hbz M (dS _) (show 1<=maxLen by decide) rfl (CX _ [6]))
       | exact H.rt (by rw [Bg,bU,bU,bU,bU,jl];exact av.wI (n:=1) (cap:=1) hbz M (dS _) (show 1<=maxLen by decide) rfl (CX _ [4]))
       | exact H.rt (by rw [Bg,bU,bU,bU,bU,bU,jl];exact av.wI (n:=1) (cap:=1) hbz M (dS _) (show 1<=maxLen by decide) rfl (CX _ [5])))):p:=h
theorem auv (G:GH) (w0:World) (hG:Hold G w0) (e:Int):Calls prog 228 #[vi e] w0 (bE w0 G fun u G'=>av G' (.sl 1 ((Bg e).map fun k=>[li k])) u):=by
  refine eN [(0,_)] func228 M ntmps228 M M hG ?_;intro a H;refine kP H (SR fun _ K1=>aj K1 M (SQ fun _ K2=>SR fun _ K3=>Rm M (Kz K3 (SB (SQ fun _ K4=>SR fun _ K5=>Rc M (aj K5 M (Cd M ?_ ?_))))))) <;> clear H K1 K3 K5
  · intro h4 a H
    try have p4:=dT h4
    refine kP H (Kc K4 (Ct M h4 (SR fun _ K6=>?_)));clear H K4;intro a H;refine iV mD aF [_] [_] H wn M M M M M (by intro i q h;match i,h with|0,h=>exact h|n+1,h=>simp at h) M M ?_;clear H;intro b9 a w CF H;refine kH H (aj K6 M ?_);clear H K6;intro a H;refine lr H results228 M ?_
    exact Co
  intro h4 a H
  try have p4:=dF h4
  refine kP H (SR fun _ K7=>Rc M (aj K7 M (Cd M ?_ ?_))) <;> clear H K7
  · intro h4 a H
    try have p4:=dT h4
    refine kP H (Kc K4 (Ct M h4 (SR fun _ K8=>?_)));clear H K4;intro a H;refine iV mD aF [_] [_] H wn M M M M M (by intro i q h;match i,h with|0,h=>exact h|n+1,h=>simp at h) M M ?_;clear H;intro b9 a w CF H;refine kH H (aj K8 M ?_);clear H K8;intro a H;refine lr H results228 M ?_
    exact Co
  intro h4 a H
  try have p4:=dF h4
  refine kP H (SR fun _ K9=>Rc M (aj K9 M (Cd M ?_ ?_))) <;> clear H K9
  · intro h4 a H
    try have p4:=dT h4
    refine kP H (Kc K4 (Ct M h4 (SR fun _ aT=>?_)));clear H K4;intro a H;refine iV mD aF [_] [_] H wn M M M M M (by intro i q h;match i,h with|0,h=>exact h|n+1,h=>simp at h) M M ?_;clear H;intro b9 a w CF H;refine kH H (aj aT M ?_);clear H aT;intro a H;refine lr H results228 M ?_
    exact Co
  intro h4 a H
  try have p4:=dF h4
  refine kP H (SC (Rc M (bF K4 M (Cd M ?_ ?_)))) <;> clear H K4
  · intro h4 a H
    try have p4:=dT h4
    refine cZ (fun _ bR=>?_);refine iV mD aF [_] [_] H wn M M M M M (by intro i q h;match i,h with|0,h=>exact h|n+1,h=>simp at h) M M ?_;clear H;intro b9 a w CF H;refine kH H (aj bR M ?_);clear H bR;intro a H;refine lr H results228 M ?_
    exact Co
  intro h4 a H
  try have p4:=dF h4
  refine kP H (SR fun _ cu=>Rc M (aj cu M (Cd M ?_ ?_))) <;> clear H cu
  · intro h10 a H
    try have ni:=dT h10
    refine cZ (fun _ dw=>?_);refine iV mD aF [_,_] [_,_] H wn M M M M M (by intro i q h;match i,h with|0,h=>exact h|1,h=>exact h|n+2,h=>simp at h) M M ?_;clear H;intro b12 a w IC H;refine kH H (aj dw M ?_);clear H dw;intro a H;refine lr H results228 M ?_
    exact Co
  intro h10 a H
  try have ni:=dF h10
  refine kP H (SR fun _ dB=>Rc M (aj dB M (Cd M ?_ ?_))) <;> clear H dB
  · intro ig a H
    try have sZ:=dT ig
    refine cZ (fun _ dX=>?_);refine iV mD aF [_] [_] H wn M M M M M (by intro i q h;match i,h with|0,h=>exact h|n+1,h=>simp at h) M M ?_;clear H;intro b15 a w avn H;refine kH H (aj dX M ?_);clear H dX;intro a H;refine lr H results228 M ?_
    exact Co
  intro ig a H
  try have sZ:=dF ig
  refine kP H (SR fun _ eu=>Rc M (aj eu M (Cd M ?_ ?_))) <;> clear H eu
  · intro h16 a H
    try have p16:=dT h16
    refine cZ (fun _ dN=>?_);refine iV mD aF [_] [_] H wn M M M M M (by intro i q h;match i,h with|0,h=>exact h|n+1,h=>simp at h) M M ?_;clear H;intro b18 a w RL H;refine kH H (aj dN M ?_);clear H dN;intro a H;refine lr H results228 M ?_
    exact Co
  intro h16 a H
  try have p16:=dF h16
  refine kP H (SR fun _ eO=>Rc M (aj eO M (Cd M ?_ ?_))) <;> clear H eO
  · intro h19 a H
    try have tX:=dT h19
    refine cZ (fun _ gD=>?_);refine iV mD aF [_] [_] H wn M M M M M (by intro i q h;match i,h with|0,h=>exact h|n+1,h=>simp at h) M M ?_;clear H;intro b21 a w aEO H;refine kH H (aj gD M ?_);clear H gD;intro a H;refine lr H results228 M ?_
    exact Co
  intro h19 a H
  try have tX:=dF h19
  refine kP H (SR fun _ fF=>Rc M (aj fF M (Cd M ?_ ?_))) <;> clear H fF
  · intro h22 a H
    try have nk:=dT h22
    refine cZ (fun _ gK=>?_);refine iV mD aF [_] [_] H wn M M M M M (by intro i q h;match i,h with|0,h=>exact h|n+1,h=>simp at h) M M ?_;clear H;intro b24 a w aEP H;refine kH H (aj gK M ?_);clear H gK;intro a H;refine lr H results228 M ?_
    exact Co
  intro h22 a H
  try have nk:=dF h22
  refine kP H (Kc K2 (SR fun _ jg=>aj jg M ?_));clear H K2 jg;intro a H;refine lr H results228 M ?_
  exact Co
theorem ayt {G:GH} {l:List Int} {A:Option Addr} {n c k:Nat} (hv:av G (.sl 1 (l.map fun k=>[li k])) (.slice A n c)) (hk:k < l.length):∃ b o,A=some ⟨b,o,none⟩∧aI G b (o+k*1)=some (vi l[k]):=by
 obtain ⟨A',c',he,_,_,hg⟩:=hv.slice
 injection he with e1 e2 e3
 subst e1;obtain ⟨b,o,cs,h1,h2,h3,h4⟩:=hg k [li l[k]] (by simp [hk])
 simp only [aX,av] at h4
 obtain ⟨v1,_,rfl,⟨rfl,-⟩,rfl⟩:=h4;exact ⟨b,o,h1,h3 0 _ M⟩
theorem Ka {p:Prop} (h:p:=by
 exact ⟨kY _,M⟩):p:=h
theorem ayo (G:GH) (w0:World) (hG:Hold G w0) (l:List Int) (t:Int) (v:ah) (hv:av G (.sl 1 (l.map fun k=>[li k])) v) :
  Calls prog 254 #[v,vi t] w0 (bE w0 G fun u G'=>u=vi (pz (l.findIdx? fun x=>decide (t=x)))):=by
 obtain ⟨A,c,rfl,hc1,hc2,-⟩:=hv.slice;have hml:maxLen=9223372036854775807:=rfl;rw [bK] at *;refine eN [(0,_),(1,_)] func254 M ntmps254 M M hG ?_;intro a H;refine kP H (SR fun _ K1=>aj K1 M (SQ fun _ K2=>SR fun _ K3=>Rm M (Rl mD M (Rm M (Kz K3 (SB ?_))))));clear H K1 K3;intro a H;skip;refine fD (ι:=Nat) (Tc:=[(0,_),(1,_),(7,_)]) (Lc:=[]) (fun gh=>[(8,vi gh)]) (fun gh=>[]) (fun gh=>G) (fun gh=>gh<=l.length∧(l.take gh).findIdx? (fun x=>decide (t=x))=none) (fun gh=>l.length - gh) (0) (by exact H.sub ⟨M,M,M,M,aC⟩) ?_ ?_
 ·exact Ka
 clear H;intro k a w hI H;obtain ⟨hk,hno⟩:=hI;dsimp only [lca,bM] at H;refine kP H (SR fun _ K4=>Rc M (Kz K4 (SQ fun _ K5=>Cd M ?_ ?_))) <;> clear H K4
 ·intro h9 a H
  try have p9:=dT h9
  have hk2:k < l.length:=by omega
  obtain ⟨b,o,rfl,hrow⟩:=ayt hv hk2;refine kP H (Kc K5 (SQ fun _ K6=>SB (SR fun _ K7=>Rm M (aj K7 M (SR fun _ K8=>Rm M (Rm M (Rm M (Ri mD aF M M (Rg aF M (by assumption) ?_)))))))));clear H K5 K7;intro a H;refine kH H (Rc M (Kz K8 (Cd M ?_ ?_))) <;> clear H K8
  ·intro h16 a H
   try have p16:=dT h16
   exact kP H (SR fun _ K9=>Rm M (aj K9 M (LR results254 M fun H=>H.rt (by rw [OG hk2 hno (by simpa using p16)];rfl))))
  intro h16 a H
  try have p16:=dF h16
  refine kP H (Kc K6 (SC (Rd M (Rm M ?_))));clear H K6;intro a H;refine aD ?_;refine dQ ((k+1)) (by exact H.sub ⟨M,M,M,M,aC⟩) ?_
  exact ⟨O,Sn hk2 hno (by simpa using p16)⟩
 intro h9 a H
 try have p9:=dF h9
 refine dY ?_;refine K2 _ _ ?_;clear K2;exact kP H (SR fun _ aT=>aj aT M (LR results254 M fun H=>H.rt (by rw [show l.take k=l from nZ O] at hno;rw [hno];rfl)))
theorem apM (G:GH) (w0:World) (hG:Hold G w0) (l:List Int) (t:Int) (v:ah) (hv:av G (.sl 1 (l.map fun k=>[li k])) v) :
  Calls prog 227 #[v,vi t] w0 (bE w0 G fun u G'=>u=.bool (decide (t∈l))):=by
 obtain ⟨A,c,rfl,hc1,hc2,-⟩:=hv.slice;rw [bK] at *;refine eN [(0,_),(1,_)] func227 M ntmps227 M M hG ?_;intro a H;refine kP H (SR fun _ K1=>aj K1 M (SR fun _ K2=>Rm M (Rm M ?_)));clear H K1;intro a H;refine s_call asj H wn M (ayo _ _ H.ro l t _ hv) M ?_;clear H;rintro v7 G7 a w rfl CP H;refine kH H (Rc M (aj K2 M ?_));clear H K2;intro a H;refine lr H results227 M ?_
 exact H.rt (by
  congr 1
  cases h:l.findIdx? (fun x=>decide (t=x)) with
  | none =>
   rw [List.findIdx?_eq_none_iff] at h;have:t∉l:=fun hm=>absurd (h t hm) (by simp)
   simp [pz,this]
  | some i =>
   obtain ⟨hi,he,-⟩:=List.findIdx?_eq_some_iff_getElem.1 h
   have:t∈l:=by rw [rT he];exact jS _
   simp [pz,this])
def wV (e k:Int):Bool:=(wo k).2 && decide ((wo k).1.KP∈Bg e)
theorem anF {p:Prop} (h:p:=by
 exact kH H (Rm M fun _ H=>fin H iJ M)):p:=h
theorem yR {p:Prop} (h:p:=by
 exact H.rt M):p:=h
theorem abS {p:Prop} (h:p:=by
 exact fin H iJ (by show _=_;simp)):p:=h
theorem AV {p:Prop} (h:p:=by
 intro aW a w G1 hG HT H fin;exact anF):p:=h
theorem agB (G:GH) (w0:World) (hG:Hold G w0) (e k:Int):Calls prog 194 #[vi e,vi k] w0 (bE w0 G fun u G'=>u=.bool (wV e k)):=by
 refine eN [(0,_),(1,_)] func194 M ntmps194 M M hG ?_;intro a H;refine kP H (SR fun _ K1=>aj K1 M (SR fun _ K2=>Rm M ?_));clear H K1;intro a H;refine s_call afL H wn M (find_spec _ _ H.ro k) M ?_;clear H;rintro v9 G9 a w rfl yj H;dsimp only [lC.cells] at H;refine kH H (Rm M ?_);clear H;intro a H;(iterate 2 refine lJ H wn M M M ?_;clear H;intro a H);refine dW wK H wn M ?_;clear H;intro b5 a w hb5 H;refine bJ wK 0 (vs:=[_,_,_,_,_,_]) H wn M ?_;clear H;intro w H;refine kH H (aj K2 M (SQ fun _ K3=>?_));clear H K2;intro a H
 by_cases c0:(wo k).2=true
 ·skip
  have tV:zR (fun (bV:Nat) (v:ah) (G:GH)=>match bV with|0=>v=.bool (wo k).2|1=>v=.bool (decide ((wo k).2=true))|2=>v=vi e|3=>(wo k).2=true->av G (.sl 1 ((Bg e).map fun k=>[li k])) v|4=>v=(aH b5 1)|5=>v=vi (wo k).1.KP|6=>v=.bool (decide ((wo k).1.KP∈Bg e))|7=>v=.bool (wV e k)|_=>True):=by intro bV v G G' hm h;(iterate 9 (rcases bV with _|bV;(first|exact h|exact fun hf=>(h hf).mono hm)));exact trivial
  refine yU (hmx) [[],[0],[0,1],[0,1,2],[0,1],[0,1,4],ra 0 6,ra 0 7,ra 0 8] [8] V V _ tV H ?_ ?_
  ·clear H;refine aB ?_ ?_ ?_ ?_ (aB ?_ ?_ ?_ ?_ (bN (bS M) dz))
   ·refine eY [] M trivial V tV M M ?_;exact AV
   ·refine eY [(0,12,_)] M ⟨fun _ _ h=>h,aC⟩ V tV M M ?_;intro aW a w G1 hG HT H fin;refine kH H (Rm M ?_);clear H;intro a H;exact fin H iJ (by simp)
   ·refine eY [(1,13,_)] M ⟨fun _ _ h=>h,aC⟩ V tV M M ?_;intro aW a w G1 hG HT H fin;exact kH H (YM (aJ c0) M fun _ H=>fin H iJ M)
   ·refine eY [(2,14,_),(1,13,_)] M ⟨fun _ _ h=>h,fun _ _ h=>h,aC⟩ V tV M M ?_;intro aW a w G1 hG HT H fin;refine s_call arV H (wg H M M (aJ c0)) M (auv _ _ H.ro e) M ?_;clear H;rintro v15 GN a w FM Eb H;exact fin H Eb (by first|exact fun _=>FM|rfl)
   ·refine eY [(1,13,_)] M ⟨fun _ _ h=>h,aC⟩ V tV M M ?_;intro aW a w G1 hG HT H fin;exact kH H (YF atC (aJ c0) M fun _ H=>fin H iJ M)
   ·refine eY [(4,16,_),(1,13,_)] M ⟨fun _ _ h=>h,fun _ _ h=>h,aC⟩ V tV M M ?_;intro aW a w G1 hG HT H fin;exact kH H (YO aF 0 (aJ c0) M fun _ H=>fin H iJ M)
   ·intro aW a w G1 _ aK hc hG HT hv;have H:=HT;clear aK;obtain ⟨u15,axM,FM⟩:=hv 3 15 (hc 3 Z) M;(try dsimp only at FM);have H:=H.gU axM;have H:=H.aM (hv 5 17 (hc 5 Z) M) M;have H:=H.aM (hv 1 13 (hc 1 Z) M) M;have Hb:=H.full;have H:=Hb;clear hc;refine s_call arU H (wg H M M (aJ c0)) M (apM _ _ H.ro _ _ _ (FM c0)) M ?_;clear H;rintro v18 EO a w rfl auB H;refine aD ⟨M,?_⟩;exact oV V tV M M HT Hb hG hv auB (rfl) H
   refine eY [(1,13,_),(6,18,_)] M ⟨fun _ _ h=>h,fun _ _ h=>h,aC⟩ V tV M M ?_;intro aW a w G1 hG HT H fin;refine kH H (Pt (aJ c0) M ?_);clear H;intro a H;exact fin H iJ (by unfold wV;simp_all)
  clear H;intro a w G Ec H hv;have H:=H.aM (hv 7 19 M M) M;clear hv;refine kH H (Ra M ?_);clear H;intro a H;refine aD ⟨M,?_⟩;refine K3 _ _ ?_;clear K3;refine lr H results194 M ?_;exact yR
 skip;refine dI hmx [[],[0],[0,1],[0,1,2],[0,1],[0,1,4],ra 0 6,ra 0 7,ra 0 8] [8] V [_,.bool (decide ((wo k).2=true)),undef,undef,undef,undef,undef,.bool (wV e k)] H (aB (Z0 M (Rm M)) ?_ (aZ 1 (aY c0) M M) ?_ (aB (aZ 1 (aY c0) M M) (aZ 1 (aY c0) M M) (aZ 1 (aY c0) M M) ?_ (bN (bS M) dz))) ?_
 ·refine iO 0 12 M M fun _ a w G1 hG HT H fin=>?_;refine kH H (Rm M ?_);clear H;intro a H;exact abS
 ·intro aW a w G1 _ aK hc hG HT hv;have H:=HT;clear aK;have H:=H.aM (hv 2 14 (hc 2 Z) M) M;have H:=H.aM (hv 1 13 (hc 1 Z) M) M;have Hb:=H.full;have H:=Hb;clear hc;refine kH H (Ks (aY c0) M ?_);clear H;intro a H;refine aD ⟨M,?_⟩;exact oV V (fun _ _ _ _ _ h=>h) M M HT Hb hG hv (fun _ _ h=>h) (by first|exact fun _=>FM|rfl) H
 ·refine eT 1 13 6 18 M M fun _ a w G1 hG HT H fin=>?_;refine kH H (Pf (aY c0) M ?_);clear H;intro a H;exact fin H iJ (by show _=_;unfold wV;simp_all)
 clear H;intro a w G Ec H hv;have H:=H.aM (hv 7 19 M M) M;clear hv;refine kH H (Ra M ?_);clear H;intro a H;refine aD ⟨M,?_⟩;refine K3 _ _ ?_;clear K3;refine lr H results194 M ?_;exact yR
def uY (k v:Int):Int:=if (wo k).2=false then 4 else if v < (wo k).1.low∨(wo k).1.high < v then 5 else 0
theorem aeD (G:GH) (w0:World) (hG:Hold G w0) (k x:Int):Calls prog 195 #[vi k,vi x] w0 (bE w0 G fun u G'=>u=vi (uY k x)):=by
 refine eN [(0,_),(1,_)] func195 M ntmps195 M M hG ?_;intro a H;refine kP H (SR fun _ K1=>aj K1 M (SR fun _ K2=>Rm M ?_));clear H K1;intro a H;refine s_call afL H wn M (find_spec _ _ H.ro k) M ?_;clear H;rintro v9 G9 a w rfl yj H;dsimp only [lC.cells] at H;refine kH H (Rm M ?_);clear H;intro a H;(iterate 2 refine lJ H wn M M M ?_;clear H;intro a H);refine dW wK H wn M ?_;clear H;intro b5 a w hb5 H;refine bJ wK 0 (vs:=[_,_,_,_,_,_]) H wn M ?_;clear H;intro w H;refine kH H (aj K2 M (SQ fun _ K3=>SB (SR fun _ K4=>Rm M (Rn M (aj K4 M (Cd M ?_ ?_)))))) <;> clear H K2 K4
 ·intro h12 a H
  try have rM:=dT h12
  exact kP H (SR fun _ K5=>aj K5 M (LR results195 M fun H=>H.rt (by unfold uY;simp_all)))
 intro h12 a H
 try have rM:=dF h12
 refine kP H (SR fun _ K6=>Rm M (bC atD aF 0 M M (Rc M (Rm M (Sp 20 M ?_ ?_))))) <;> clear H
 ·intro h20 a H
  try have BI:=dT h20
  exact kH H (aU h20 M (aU h20 M (Pt h20 M (aj K6 M (Ct M M (SR fun _ K7=>aj K7 M (LR results195 M fun H=>H.rt (by unfold uY;simp_all))))))))
 intro h20 a H
 try have BI:=dF h20
 refine kH H (YM h20 M (YF atE h20 M (YO aF 0 h20 M (YC h20 M (Pf h20 M (aj K6 M (Cd M ?_ ?_))))))) <;> clear H K6
 ·intro jC a H
  try have sD:=dT jC
  exact kP H (SR fun _ K8=>aj K8 M (LR results195 M fun H=>H.rt (by unfold uY;simp_all)))
 intro jC a H
 try have sD:=dF jC
 exact kP H (Kc K3 (SR fun _ K9=>aj K9 M (LR results195 M fun H=>H.rt (by unfold uY;simp_all))))
theorem afG:aR 194:=aS func194 M
theorem Rb:dR prog 187 1 1:=⟨V⟩
theorem afH:aR 195:=aS func195 M
theorem asl:aR 260:=aS func260 M
theorem WS:aR 240:=aS func240 M
def F5 (q:Option Int) (k:Int):Bool:=match q with|some j=>decide (k < j)|none=>false
def Aa (e:Int):Option Int->List aN->Int
 | _,[]=>0
 | q,p :: r=>if wV e p.key=false then 4 else if q=some p.key then 7 else if F5 q p.key=true then 6 else if uY p.key p.value=0 then Aa e (some p.key) r else uY p.key p.value
def BJ (l:List aN) (k:Nat):Option Int:=if k=0 then none else l[k - 1]?.map aN.key
def rW (e:Int) (l:List aN):Int:=if e < 1∨10 < e then 3 else Aa e none l
theorem apb {e:Int} {l:List aN} {k:Nat} (h:k < l.length):Aa e (BJ l k) (l.drop k)=if wV e l[k].key=false then 4 else if BJ l k=some l[k].key then 7 else if F5 (BJ l k) l[k].key=true then 6 else if uY l[k].key l[k].value=0 then Aa e (BJ l (k+1)) (l.drop (k+1)) else uY l[k].key l[k].value:=by
 rw [nK h,Aa]
 have:BJ l (k+1)=some l[k].key:=by rw [BJ,bU,Nat.add_sub_cancel,eB h];rfl
 rw [this]
theorem Te {l:List aN} {k:Nat} (h:k=0):BJ l k=none:=ay h
theorem abT {p:Prop} (h:p:=by
 first
  | exact H.rt (cO vi (by rw [au (by simpa using p61)] at heq;rw [rW,bU];exact heq))
  | exact H.rt (cO vi (by rw [ay (by simpa using h21)] at heq;rw [rW,bU];exact heq))
  | exact H.rt (cO vi (by rw [rW,bU];exact heq))
  | exact H.rt (cO vi (by rw [rW,bU,<- heq,show l.drop k=[] from rU O];rfl))
  | exact H.rt (cO vi (by rw [rW,jl]))):p:=h
theorem Fa {p:Prop} (h:p:=by
 exact ⟨kY _,M,fun _ _ h=>h⟩):p:=h
theorem abU {p:Prop} (h:p:=by
 exact fin H iJ (by show _=_;first|rfl|exact cO vi O)):p:=h
theorem anG {p:Prop} (h:p:=by
 exact ⟨O,h.symm⟩):p:=h
theorem anH {p:Prop} (h:p:=by
 exact ⟨O,rT h⟩):p:=h
theorem abW {p:Prop} (h:p:=by
 exact ⟨heq,fun b o h=>uD b o (wz b o (El b o h))⟩):p:=h
theorem zX {p:Prop} (h:p:=by
 refine Dj _ H (wg H M M (aJ c0)) M M M O O M ?_;clear H;intro a H;exact abU):p:=h
theorem Ko {p:Prop} (h:p:=by
 intro a H;refine lr H results129 M ?_
 exact abT):p:=h
theorem QC {p:Prop} (h:p:=by
 rw [(hpk h0).2] at h
 injection h with h
 exact anG):p:=h
theorem Qo {p:Prop} (h:p:=by
 rw [(hpk h0).2] at h;exact anH):p:=h
theorem ade {p:Prop} (h:p:=by
 refine eT 9 51 2 44 M M fun _ a w G1 hG HT H fin=>?_;refine sF aF H (wg H M M (aJ c0)) M (H.hp.aI (aG hG (aG wz (aG El (hpk O).1)))) M ?_;exact jH):p:=h
theorem akg (G:GH) (w0:World) (hG:Hold G w0) (e:Int) (l:List aN) (v:ah) (hv:av G (.sl 2 (l.map aN.dat)) v) :
  Calls prog 129 #[vi e,v] w0 (bE w0 G fun u G'=>u=vi (rW e l)):=by
 obtain ⟨A,c,rfl,hc1,hc2,-⟩:=hv.slice;have hml:maxLen=9223372036854775807:=rfl;rw [bK] at *;refine eN [(0,_),(1,_)] func129 M ntmps129 M M hG ?_;intro a H;refine kP H (SR fun _ K1=>aj K1 M (SQ fun _ K2=>SR fun _ K3=>Rm M (Rc M (Rm M (Sp 10 M ?_ ?_))))) <;> clear H K1
 ·intro h10 a H
  try have ni:=dT h10
  refine kH H (aU h10 M (Pt h10 M (Kz K3 (Ct M M (SR fun _ K4=>aj K4 M ?_)))));clear H K3 K4;exact Ko
 intro h10 a H
 try have ni:=dF h10
 refine kH H (YM h10 M (YC h10 M (Pf h10 M (Kz K3 (Cd M ?_ ?_))))) <;> clear H K3
 ·intro ig a H
  try have sZ:=dT ig
  refine kP H (SR fun _ K5=>aj K5 M ?_);clear H K5;exact Ko
 intro ig a H
 try have sZ:=dF ig
 refine kP H (Kc K2 (SQ fun _ K6=>SR fun _ K7=>Rm M (Rl iw M (Rm M (Kz K7 (SB ?_))))));clear H K2 K7;intro a H;skip;refine fD (ι:=Nat × GH) (Tc:=[(0,_),(1,_),(14,_),(15,_)]) (Lc:=[]) (fun gh=>[(16,vi gh.1)]) (fun gh=>[]) (fun gh=>gh.2) (fun gh=>gh.1<=l.length∧Aa e (BJ l gh.1) (l.drop gh.1)=Aa e none l∧(∀ b o,G b=some o->gh.2 b=some o)) (fun gh=>l.length - gh.1) ((0,G)) (by exact H.sub ⟨M,M,M,M,M,aC⟩) ?_ ?_
 ·exact Fa
 clear H;rintro ⟨k,g⟩ a w hI H;dsimp only at hI H;obtain ⟨hk,heq,hgm⟩:=hI;dsimp only [lca,bM] at H;refine kP H (SR fun _ K8=>Rc M (Kz K8 (SQ fun _ K9=>Cd M ?_ ?_))) <;> clear H K8
 ·intro fH a H
  try have oI:=dT fH
  have hk2:k < l.length:=by omega
  have CW:=hv.mono hgm;obtain ⟨b,o,rfl,hrow⟩:=Js CW hk2
  obtain ⟨pk,hpk⟩:∃ pk,0 < k->aI g b (o+(k - 1)*2+0)=some (vi pk)∧BJ l k=some pk:=by
   by_cases h0:0 < k
   ·obtain ⟨b',o',he,hr'⟩:=Js CW (show k - 1 < l.length by omega)
    injection he with he
    injection he with e1 e2 e3
    subst e1;subst e2;exact ⟨_,fun _=>⟨hr' 0 _ M,by rw [BJ,bU,eB O];rfl⟩⟩
   exact ⟨0,fun h=>absurd h h0⟩
  rw [apb hk2] at heq;have aE4:=heq;refine kP H (Kc K9 (SQ fun _ aT=>SB (SR fun _ bR=>Rm M (Ri iw iK M M ?_))));clear H K9;intro a H;refine bQ iK (cs:=[_,_]) H wn M M (fun j v hj=>H.hp.aI (hrow j v hj)) M ?_;clear H;intro a H;refine dW iK H wn M ?_;clear H;intro b6 a w hb6 H;refine kH H (Ra M ?_);clear H;intro a H;refine bJ iK 0 (vs:=[_,_]) H wn M ?_;clear H;intro w H;refine bR _ _ ?_;clear bR;refine uo (ι:=GH) (Tc:=[(0,_),(1,_),(6,_),(14,_),(15,_),(16,_)]) (Lc:=[(_,_)]) (fun gh=>[]) (fun gh=>[]) (fun gh=>gh) (fun gh=>(if uY l[k].key l[k].value=0 then Aa e (BJ l (k+1)) (l.drop (k+1)) else uY l[k].key l[k].value)=Aa e none l∧(∀ b o,g b=some o->gh b=some o)) (by exact H.sub ⟨M,M,M,M,M,M,aC⟩) ?_ ?_
  ·skip;refine kP H (SB (SR fun _ cu=>Rm M (bC xW aF 0 M M ?_)));clear H;intro a H;refine s_call afG H wn M (agB _ _ H.ro e l[k].key) M ?_;clear H;rintro v25 PL a w rfl El H;replace hrow:=fun j u hj=>aG El (hrow j u hj);refine kH H (Rn M (aj cu M (Cd M ?_ ?_))) <;> clear H cu
   ·intro h21 a H
    try have xG:=dT h21
    refine kP H (SR fun _ dw=>aj dw M ?_);clear H dw;exact Ko
   intro h21 a H
   try have xG:=dF h21
   rw [au (by simpa using h21)] at heq;refine bL (fun _ dB=>?_)
   by_cases c0:0 < (k:Int)
   ·skip
    by_cases c1:l[k].key=pk
    ·skip;refine dI hmx [[],[0],[0,1],[0,1,2],ra 0 4,[0,1,2],[0,1,2],[0,1,2,6],[0,1,2,5,6,7],[0,1,2,5,6,7,8],[0,1,2,5,6,7,8,9],ra 0 11,ra 0 12,ra 0 13] [13] V [_,_,_,_,vi l[k].key,_,_,vi ((k - 1:Nat):Int),_,_,_,_,_] H (aB (Z0 M (Rm M)) (Z1 0 28 M (Rc M)) (Z1 1 29 M (Rm M)) (Z1 2 30 M (YF xW (aJ c0) M)) (aB (Z2 3 31 2 30 M (YO aF 0 (aJ c0) M)) (Z1 2 30 M (YM (aJ c0) M)) (Z1 2 30 M (YM (aJ c0) M)) ?_ (aB (Z3 5 33 7 35 2 30 M (YI iw iK (aJ c0) M M)) (Z2 8 36 2 30 M (YF xW (aJ c0) M)) (X2 9 37 2 30 M fun hG=>YR aF (aJ c0) M (aG hG (aG El (hpk O).1))) (Z3 4 32 10 38 2 30 M (YC (aJ c0) M)) (bN (Z2 2 30 11 39 M (Pt (aJ c0) M)) (bN (bS M) dz))))) ?_
     ·refine eT 6 34 2 30 M M fun _ a w G1 hG HT H fin=>?_;exact zX
     clear H;intro a w G wz H hv;have H:=H.aM (hv 12 40 M M) M;clear hv;refine kH H (Ra M ?_);clear H;intro a H;refine aD ⟨M,?_⟩;refine dB _ _ ?_;clear dB;refine Cq H M (aJ c1) ?_;refine bL (fun _ dX=>?_);rw [ay (by rw [(hpk O).2,c1])] at heq;refine kP H (SC (bF dX M ?_));clear H dX;exact Ko
    skip;refine dI hmx [[],[0],[0,1],[0,1,2],ra 0 4,[0,1,2],[0,1,2],[0,1,2,6],[0,1,2,5,6,7],[0,1,2,5,6,7,8],[0,1,2,5,6,7,8,9],ra 0 11,ra 0 12,ra 0 13] [13] V [_,_,_,_,vi l[k].key,_,_,vi ((k - 1:Nat):Int),_,_,_,_,_] H (aB (Z0 M (Rm M)) (Z1 0 28 M (Rc M)) (Z1 1 29 M (Rm M)) (Z1 2 30 M (YF xW (aJ c0) M)) (aB (Z2 3 31 2 30 M (YO aF 0 (aJ c0) M)) (Z1 2 30 M (YM (aJ c0) M)) (Z1 2 30 M (YM (aJ c0) M)) ?_ (aB (Z3 5 33 7 35 2 30 M (YI iw iK (aJ c0) M M)) (Z2 8 36 2 30 M (YF xW (aJ c0) M)) (X2 9 37 2 30 M fun hG=>YR aF (aJ c0) M (aG hG (aG El (hpk O).1))) (Z3 4 32 10 38 2 30 M (YC (aJ c0) M)) (bN (Z2 2 30 11 39 M (Pt (aJ c0) M)) (bN (bS M) dz))))) ?_
    ·refine eT 6 34 2 30 M M fun _ a w G1 hG HT H fin=>?_;exact zX
    clear H;intro a w G wz H hv;have H:=H.aM (hv 12 40 M M) M;clear hv;refine kH H (Ra M ?_);clear H;intro a H;refine aD ⟨M,?_⟩;refine dB _ _ ?_;clear dB;refine sM H M (aY c1) ?_;refine bL (fun _ eu=>?_)
    have q1:¬ (0 < (k:Int)∧l[k].key=pk):=by first|exact fun h=>c1 h.2|exact fun h=>c0 h.1
    rw [au (fun h=>q1 (by
     by_cases h0:0 < k
     ·exact QC
     rw [Te O] at h
     cases h))] at heq
    by_cases c3:l[k].key < pk
    ·skip;refine dI hmx [[],[0],[0,1],[0,1,2],ra 0 4,[0,1,2],[0,1,2],[0,1,2,6],[0,1,2,5,6,7],[0,1,2,5,6,7,8],[0,1,2,5,6,7,8,9],ra 0 11,ra 0 12,ra 0 13] [13] V [_,_,_,_,vi l[k].key,_,_,vi ((k - 1:Nat):Int),_,_,vi pk,_,_] H (aB (Z0 M (Rm M)) (Z1 0 42 M (Rc M)) (Z1 1 43 M (Rm M)) (Z1 2 44 M (YF xW (aJ c0) M)) (aB (Z2 3 45 2 44 M (YO aF 0 (aJ c0) M)) (Z1 2 44 M (YM (aJ c0) M)) (Z1 2 44 M (YM (aJ c0) M)) ?_ (aB (Z3 5 47 7 49 2 44 M (YI iw iK (aJ c0) M M)) (Z2 8 50 2 44 M (YF xW (aJ c0) M)) ?_ (Z3 4 46 10 52 2 44 M (YC (aJ c0) M)) (bN (Z2 2 44 11 53 M (Pt (aJ c0) M)) (bN (bS M) dz))))) ?_
     ·refine eT 6 48 2 44 M M fun _ a w G1 hG HT H fin=>?_;exact zX
     ·exact ade
     clear H;intro a w G uD H hv;have H:=H.aM (hv 12 54 M M) M;clear hv;refine kH H (Ra M ?_);clear H;intro a H;refine aD ⟨M,?_⟩;refine eu _ _ ?_;clear eu;refine Cq H M (aJ c3) ?_;refine bL (fun _ dN=>?_);rw [ay (by rw [(hpk O).2];exact aJ c3)] at heq;refine kP H (SC (bF dN M ?_));clear H dN;exact Ko
    skip;refine dI hmx [[],[0],[0,1],[0,1,2],ra 0 4,[0,1,2],[0,1,2],[0,1,2,6],[0,1,2,5,6,7],[0,1,2,5,6,7,8],[0,1,2,5,6,7,8,9],ra 0 11,ra 0 12,ra 0 13] [13] V [_,_,_,_,vi l[k].key,_,_,vi ((k - 1:Nat):Int),_,_,vi pk,_,_] H (aB (Z0 M (Rm M)) (Z1 0 42 M (Rc M)) (Z1 1 43 M (Rm M)) (Z1 2 44 M (YF xW (aJ c0) M)) (aB (Z2 3 45 2 44 M (YO aF 0 (aJ c0) M)) (Z1 2 44 M (YM (aJ c0) M)) (Z1 2 44 M (YM (aJ c0) M)) ?_ (aB (Z3 5 47 7 49 2 44 M (YI iw iK (aJ c0) M M)) (Z2 8 50 2 44 M (YF xW (aJ c0) M)) ?_ (Z3 4 46 10 52 2 44 M (YC (aJ c0) M)) (bN (Z2 2 44 11 53 M (Pt (aJ c0) M)) (bN (bS M) dz))))) ?_
    ·refine eT 6 48 2 44 M M fun _ a w G1 hG HT H fin=>?_;exact zX
    ·exact ade
    clear H;intro a w G uD H hv;have H:=H.aM (hv 12 54 M M) M;clear hv;refine kH H (Ra M ?_);clear H;intro a H;refine aD ⟨M,?_⟩;refine eu _ _ ?_;clear eu;refine sM H M (aY c3) ?_;refine iD ?_;refine ⟨_,by exact H.sub ⟨M,M,M,M,M,M,aC⟩,?_⟩
    have q2:¬ (0 < (k:Int)∧l[k].key < pk):=by first|exact fun h=>c3 h.2|exact fun h=>c0 h.1
    rw [au (fun h=>q2 (by
     by_cases h0:0 < k
     ·exact Qo
     rw [Te O] at h
     cases h))] at heq
    exact abW
   skip;refine dI hmx [[],[0],[0,1],[0,1,2],ra 0 4,[0,1,2],[0,1,2],[0,1,2,6],[0,1,2,5,6,7],[0,1,2,5,6,7,8],[0,1,2,5,6,7,8,9],ra 0 11,ra 0 12,ra 0 13] [13] V [_,_,_,undef,undef,undef,undef,undef,undef,undef,undef,undef,_] H (aB (Z0 M (Rm M)) (Z1 0 28 M (Rc M)) (Z1 1 29 M (Rm M)) (aZ 2 (aY c0) M M) (aB (aZ 2 (aY c0) M M) (aZ 2 (aY c0) M M) (aZ 2 (aY c0) M M) (aZ 2 (aY c0) M M) (aB (aZ 2 (aY c0) M M) (aZ 2 (aY c0) M M) (aZ 2 (aY c0) M M) (aZ 2 (aY c0) M M) (bN (Z2 2 30 11 39 M (Pf (aY c0) M)) (bN (bS M) dz))))) ?_
   clear H;intro a w G wz H hv;have H:=H.aM (hv 12 40 M M) M;clear hv;refine kH H (Ra M ?_);clear H;intro a H;refine aD ⟨M,?_⟩;refine dB _ _ ?_;clear dB;refine sM H M M ?_;refine bL (fun _ eO=>?_)
   have q1:¬ (0 < (k:Int)∧l[k].key=pk):=by first|exact fun h=>c1 h.2|exact fun h=>c0 h.1
   rw [au (fun h=>q1 (by
    by_cases h0:0 < k
    ·exact QC
    rw [Te O] at h
    cases h))] at heq
   refine dI hmx [[],[0],[0,1],[0,1,2],ra 0 4,[0,1,2],[0,1,2],[0,1,2,6],[0,1,2,5,6,7],[0,1,2,5,6,7,8],[0,1,2,5,6,7,8,9],ra 0 11,ra 0 12,ra 0 13] [13] V [_,_,_,undef,undef,undef,undef,undef,undef,undef,undef,undef,_] H (aB (Z0 M (Rm M)) (Z1 0 42 M (Rc M)) (Z1 1 43 M (Rm M)) (aZ 2 (aY c0) M M) (aB (aZ 2 (aY c0) M M) (aZ 2 (aY c0) M M) (aZ 2 (aY c0) M M) (aZ 2 (aY c0) M M) (aB (aZ 2 (aY c0) M M) (aZ 2 (aY c0) M M) (aZ 2 (aY c0) M M) (aZ 2 (aY c0) M M) (bN (Z2 2 44 11 53 M (Pf (aY c0) M)) (bN (bS M) dz))))) ?_
   clear H;intro a w G uD H hv;have H:=H.aM (hv 12 54 M M) M;clear hv;refine kH H (Ra M ?_);clear H;intro a H;refine aD ⟨M,?_⟩;refine eO _ _ ?_;clear eO;refine sM H M M ?_;refine iD ?_;refine ⟨_,by exact H.sub ⟨M,M,M,M,M,M,aC⟩,?_⟩
   have q2:¬ (0 < (k:Int)∧l[k].key < pk):=by first|exact fun h=>c3 h.2|exact fun h=>c0 h.1
   rw [au (fun h=>q2 (by
    by_cases h0:0 < k
    ·exact Qo
    rw [Te O] at h
    cases h))] at heq
   exact abW
  clear H;intro g2 a w hI H;obtain ⟨heq,jW⟩:=hI;replace hrow:=fun j u hj=>aG jW (hrow j u hj);dsimp only [lca,bM] at H;refine kP H (SR fun _ gD=>bC xW aF 0 M M (bC Rb aF 0 M M ?_));clear H;intro a H;refine s_call afH H wn M (aeD _ _ H.ro l[k].key l[k].value) M ?_;clear H;rintro v59 G59 a w rfl awI H;refine kH H (aj gD M (SR fun _ fF=>Rm M (Rc M (Kz fF (Cd M ?_ ?_))))) <;> clear H gD fF
  ·intro Ir a H
   try have p61:=dT Ir
   refine kP H (SR fun _ gK=>Rm M (aj gK M ?_));clear H gK;exact Ko
  intro Ir a H
  try have p61:=dF Ir
  refine kP H (Kc aT (SC (Rd M (Rm M ?_))));clear H aT;intro a H;refine aD ?_;refine dQ ((k+1,G59)) (by exact (H.eD (Pl:=[_]) (dK:=[]) [] Z M).sub ⟨M,M,M,M,M,aC⟩) ?_
  (try dsimp only);exact ⟨O,by rw [ay (by simpa using p61)] at heq;exact heq,fun b o h=>awI b o (jW b o (hgm b o h))⟩
 intro fH a H
 try have oI:=dF fH
 refine dY ?_;refine K6 _ _ ?_;clear K6;refine kP H (SR fun _ jg=>aj jg M ?_);clear H jg;intro a H;refine lr H results129 M ?_
 exact abT
def lG (l:List aN) (k:Int):Int × Bool:=if qm (l.map aN.key) k=true then ((l.getD (gY (l.map aN.key) k) ⟨0,0⟩).value,true) else (0,false)
theorem aau (G:GH) (w0:World) (hG:Hold G w0) (l:List aN) (t:Int) (v:ah) (hv:av G (.sl 2 (l.map aN.dat)) v) (hl:l.length<=4294967296) :
  Calls prog 240 #[v,vi t] w0 (bE w0 G fun u G'=>u=.tuple #[vi (gY (l.map aN.key) t),.bool (qm (l.map aN.key) t)]):=by
 obtain ⟨A,c,rfl,hc1,hc2,-⟩:=hv.slice;rw [bK] at *;refine eN [(0,_),(1,_)] func240 M ntmps240 M M hG ?_;intro a H;refine kP H (SR fun _ K1=>Ra M (aj K1 M (SR fun _ K2=>Rm M (Rm M ?_))));clear H K1;intro a H;refine s_call asl H wn M (aoj _ _ H.ro l t _ hv hl) M ?_;clear H;rintro v8 G8 a w rfl xk H;(iterate 2 refine lJ H wn M M M ?_;clear H;intro a H);refine kH H (Ra M (aj K2 M ?_));clear H K2;intro a H;refine eP ?_;refine (kG H results240 (.cons (fB H M) (.cons (fB H M) .nil)) ?_).1;exact yR
theorem auq (G:GH) (w0:World) (hG:Hold G w0) (l:List aN) (t:Int) (v:ah) (hv:av G (.sl 2 (l.map aN.dat)) v) (hl:l.length<=4294967296) :
  Calls prog 213 #[v,vi t] w0 (bE w0 G fun u G'=>u=.tuple #[vi (lG l t).1,.bool (lG l t).2]):=by
 obtain ⟨A,c,rfl,hc1,hc2,-⟩:=hv.slice;rw [bK] at *;refine eN [(0,_),(1,_)] func213 M ntmps213 M M hG ?_;intro a H;refine kP H (SR fun _ K1=>Ra M (aj K1 M (SR fun _ K2=>Rm M (Rm M ?_))));clear H K1;intro a H;refine s_call WS H wn M (aau _ _ H.ro l t _ hv hl) M ?_;clear H;rintro v11 yM a w rfl CJ H;obtain ⟨n,hn⟩:∃ n,n=gY (l.map aN.key) t:=⟨_,M⟩;obtain ⟨q,hq⟩:∃ q,q=qm (l.map aN.key) t:=⟨_,M⟩;rw [<- hn,<- hq] at H;refine kH H (Rm M ?_);clear H;intro a H;(iterate 2 refine lJ H wn M M M ?_;clear H;intro a H);refine kH H (Ra M (aj K2 M (SQ fun _ K3=>SR fun _ K4=>Rm M (Rn M (Kz K4 (Cd M ?_ ?_)))))) <;> clear H K2 K4
 ·intro jC a H
  refine kP H (SR fun _ K5=>Ra M (aj K5 M ?_));clear H K5;intro a H;refine eP ?_;refine (kG H results213 (.cons (fB H M) (.cons (fB H M) .nil)) ?_).1;exact H.rt (by rw [lG,au (by rw [<- hq];simpa using jC)])
 intro jC a H
 try have sD:=dF jC
 have hlt:n < l.length:=by have:=RI (ks:=l.map aN.key) (t:=t) (by rw [<- hq];simpa using jC);rw [<- hn] at this;simpa using this
 obtain ⟨b,o,rfl,hrow⟩:=Js (hv.mono CJ) hlt;have r1:aI yM b (o+n*2+1)=some (vi l[n].value):=hrow 1 _ M;refine kP H (Kc K3 (SR fun _ K6=>Rm M (Rm M (Ri iw iK M M (Rf Rb M (Rg aF M (by assumption) ?_))))));clear H K3;intro a H;refine kH H (Ra M (aj K6 M ?_));clear H K6;intro a H;refine eP ?_;refine (kG H results213 (.cons (fB H M) (.cons (fB H M) .nil)) ?_).1;exact H.rt (by rw [lG,ay (by rw [<- hq];simpa using jC),<- hn,List.getD_eq_getElem?_getD,eB hlt];rfl)
theorem jE:Ty prog 49 1 8 [.int .i64 0] false:=⟨V,V⟩
theorem sH:prog.underlying 203=some (.slice 49):=by kernel_rfl
theorem za:aR 128:=aS func128 M
theorem zy (G:GH) (w0:World) (hG:Hold G w0) (n l h:Int):Calls prog 128 #[vi n,vi l,vi h] w0 (bE w0 G fun u G'=>u=.bool (decide (l<=n∧n<=h))∧G=G'):=by
 refine eN [(0,_),(1,_),(2,_)] func128 M ntmps128 M M hG ?_;intro a H;refine kP H (SR fun _ K1=>aj K1 M (SR fun _ K2=>Rm M (Rm M (Rc M (Rm M (Sp 10 M ?_ ?_)))))) <;> clear H K1
 ·intro h10 a H
  try have ni:=dT h10
  exact kH H (YM h10 M (YM h10 M (YC h10 M (Pt h10 M (aj K2 M (LR results128 M fun H=>H.rt ⟨iP (by first|(simp_all;done)|(simp_all;omega)),rfl⟩))))))
 intro h10 a H
 try have ni:=dF h10
 exact kH H (bH h10 M (Pf h10 M (aj K2 M (LR results128 M fun H=>H.rt ⟨iP (by first|(simp_all;done)|(simp_all;omega)),rfl⟩))))
def dH (b:Bool) (e:Int):Int:=if b=true then e else 0
theorem nG (G:GH) (w0:World) (hG:Hold G w0) (b:Bool) (e:Int):Calls prog 71 #[.bool b,vi e] w0 (bE w0 G fun u G'=>u=vi (dH b e)∧G=G'):=by
 refine eN [(0,_),(1,_)] func71 M ntmps71 M M hG ?_;intro a H;refine kP H (SR fun _ K1=>aj K1 M (SQ fun _ K2=>SR fun _ K3=>Rm M (Kz K3 (Cd M ?_ ?_)))) <;> clear H K1 K3
 ·intro h5 a H
  try have p5:=dT h5
  exact kP H (SR fun _ K4=>Rm M (aj K4 M (LR results71 M fun H=>H.rt ⟨cO vi (by simp_all [dH]),M⟩)))
 intro h5 a H
 try have p5:=dF h5
 exact kP H (Kc K2 (SR fun _ K5=>aj K5 M (LR results71 M fun H=>H.rt ⟨cO vi (by simp_all [dH]),M⟩)))
def eG:List Int->Int
 | []=>0
 | e :: r=>if e≠0 then e else eG r
theorem Ru {l:List Int} {k:Nat} (h:k < l.length):eG (l.drop k)=if l[k]≠0 then l[k] else eG (l.drop (k+1)):=by
 rw [nK h,eG]
theorem tN (G:GH) (w0:World) (hG:Hold G w0) (l:List Int) (v:ah) (hv:av G (.sl 1 (l.map fun k=>[li k])) v) :
  Calls prog 66 #[v] w0 (bE w0 G fun u G'=>u=vi (eG l)∧G=G'):=by
 obtain ⟨A,c,rfl,hc1,hc2,hg⟩:=hv.slice;have hml:maxLen=9223372036854775807:=rfl;rw [bK] at *;refine eN [(0,_)] func66 M ntmps66 M M hG ?_;intro a H;refine kP H (SR fun _ K1=>aj K1 M (SQ fun _ K2=>SR fun _ K3=>Rm M (Rl sH M (Rm M (Kz K3 (SB ?_))))));clear H K1 K3;intro a H;skip;refine fD (ι:=Nat) (Tc:=[(5,_),(6,_)]) (Lc:=[]) (fun gh=>[(7,vi gh)]) (fun gh=>[]) (fun gh=>G) (fun gh=>gh<=l.length∧eG (l.drop gh)=eG l) (fun gh=>l.length - gh) (0) (by exact H.sub ⟨M,M,M,aC⟩) ?_ ?_
 ·exact Ka
 clear H;intro k a w hI H;obtain ⟨hk,he⟩:=hI;dsimp only [lca,bM] at H;refine kP H (SR fun _ K4=>Rc M (Kz K4 (SQ fun _ K5=>Cd M ?_ ?_))) <;> clear H K4
 ·intro h8 a H
  try have p8:=dT h8
  have hk2:k < l.length:=by omega
  obtain ⟨b,o,cs,rfl,hcl,hrow,hr⟩:=hg k [li l[k]] (by simp [hk2]);obtain ⟨v1,_,rfl,⟨rfl,-⟩,rfl⟩:∃ v vs,cs=v :: vs∧av G (li l[k]) v∧aX G [] vs:=hr
  have hcell:aI G b (o+k*1)=some (vi l[k]):=by simpa using hrow 0 _ M
  refine kP H (Kc K5 (SQ fun _ K6=>SB (SR fun _ K7=>Ri sH jE M M (Rg jE M hcell (aj K7 M (SR fun _ K8=>Rm M (Rc M (Kz K8 (Cd M ?_ ?_))))))))) <;> clear H K5 K7 K8
  ·intro h12 a H
   try have rM:=dT h12
   exact kP H (SR fun _ K9=>Rm M (aj K9 M (LR results66 M fun H=>H.rt ⟨cO vi (by rw [Ru hk2,ay rM] at he;exact he),M⟩)))
  intro h12 a H
  try have rM:=dF h12
  refine kP H (Kc K6 (SC (Rd M (Rm M ?_))));clear H K6;intro a H;refine aD ?_;refine dQ ((k+1)) (by exact H.sub ⟨M,M,M,aC⟩) ?_
  exact ⟨O,by rw [Ru hk2,au rM] at he;exact he⟩
 intro h8 a H
 try have p8:=dF h8
 refine dY ?_;refine K2 _ _ ?_;clear K2;exact kP H (SR fun _ aT=>aj aT M (LR results66 M fun H=>H.rt ⟨cO vi (by rw [rU O] at he;exact he),M⟩))
def vT (fv:ah) (Gi:GH) (n:Nat) (E:Nat->Int):Prop:=∀ i,i < n->∀ (G1:GH) (w1:World),(∀ b o,Gi b=some o->G1 b=some o)->Hold G1 w1->uh prog fv [vi i] w1 (bE w1 G1 fun u G'=>u=vi (E i))
theorem vT.mono {fv:ah} {G G':GH} {n:Nat} {E:Nat->Int} (h:vT fv G n E) (hm:∀ b o,G b=some o->G' b=some o):vT fv G' n E:=fun i hi G1 w1 hG1=>h i hi G1 w1 fun b o hb=>hG1 b o (hm b o hb)
def lF (E:Nat->Int) (n:Nat):Int:=eG ((List.range n).map E)
theorem MV {E:Nat->Int} {n k:Nat} (h:k < n):eG (((List.range n).map E).drop k)=if E k≠0 then E k else eG (((List.range n).map E).drop (k+1)):=by
 rw [Ru (by simpa using h)];simp
theorem anI {p:Prop} (h:p:=by
 exact ⟨O,by rw [MV hk2,au sD] at he;exact he,fun b o h=>KY b o (hgm b o h)⟩):p:=h
theorem adW {p:Prop} (h:p:=by
 refine kP H (Kc K6 (SC (Rd M (Rm M ?_))));clear H K6;intro a H;refine aD ?_;refine dQ ((k+1,JN)) (by exact H.sub ⟨M,M,M,aC⟩) ?_
 (try dsimp only);exact anI):p:=h
theorem MX (G:GH) (w0:World) (hG:Hold G w0) (n:Nat) (E:Nat->Int) (fv:ah) (hn:n<=4611686018427387904) (hf:vT fv G n E) :
  Calls prog 123 #[vi n,fv] w0 (bE w0 G fun u G'=>u=vi (lF E n)):=by
 refine eN [(0,_),(1,_)] func123 M ntmps123 M M hG ?_;intro a H;refine kP H (SR fun _ K1=>aj K1 M (SQ fun _ K2=>SR fun _ K3=>Rm M (Rm M (Kz K3 (SB ?_)))));clear H K1 K3;intro a H;skip;refine fD (ι:=Nat × GH) (Tc:=[(1,_),(7,_)]) (Lc:=[]) (fun gh=>[(8,vi gh.1)]) (fun gh=>[]) (fun gh=>gh.2) (fun gh=>gh.1<=n∧eG (((List.range n).map E).drop gh.1)=lF E n∧(∀ b o,G b=some o->gh.2 b=some o)) (fun gh=>n - gh.1) ((0,G)) (by exact H.sub ⟨M,M,M,aC⟩) ?_ ?_
 ·exact Fa
 clear H;rintro ⟨k,g⟩ a w hI H;dsimp only at hI H;obtain ⟨hk,he,hgm⟩:=hI;dsimp only [lca,bM] at H;refine kP H (SR fun _ K4=>Rc M (Kz K4 (SQ fun _ K5=>Cd M ?_ ?_))) <;> clear H K4
 ·intro h9 a H
  try have p9:=dT h9
  have hk2:k < n:=by omega
  refine kP H (Kc K5 (SQ fun _ K6=>SB (SR fun _ K7=>Rm M (aj K7 M (SR fun _ K8=>Rm M (Rm M ?_))))));clear H K5 K7;intro a H;refine lI H wn M M (hf k hk2 _ _ hgm H.ro) M ?_;clear H;rintro v13 JN a w rfl KY H;refine kH H (aj K8 M (SR fun _ K9=>Rm M (Rc M (Kz K9 (Cd M ?_ ?_))))) <;> clear H K8 K9
  ·intro jC a H
   try have sD:=dT jC
   exact kP H (SR fun _ aT=>Rm M (aj aT M (LR results123 M fun H=>H.rt (cO vi (by rw [MV hk2,ay sD] at he;exact he)))))
  intro jC a H
  try have sD:=dF jC
  exact adW
 intro h9 a H
 try have p9:=dF h9
 refine dY ?_;refine K2 _ _ ?_;clear K2;exact kP H (SR fun _ bR=>aj bR M (LR results123 M fun H=>H.rt (cO vi (by rw [rU (by simp;omega)] at he;exact he))))
def xC (id:Nat->Int) (i:Nat):Int:=if ¬ (1<=id i∧id i<=1073741824) then 18 else if 0 < i∧id i=id (i - 1) then 7 else if 0 < i∧id i < id (i - 1) then 6 else 0
theorem Qi {p:Prop} (h:p:=by
 exact H.rt (cO vi (by unfold xC;(repeat' split) <;> first|rfl|(exfalso;simp_all;done)|(exfalso;simp_all;omega)))):p:=h
theorem VL {p:Prop} (h:p:=by
 intro a H;refine lr H results125 M ?_
 exact Qi):p:=h
theorem VO {p:Prop} (h:p:=by
 refine lr H results125 M ?_
 exact Qi):p:=h
theorem aiS (G:GH) (w0:World) (hG:Hold G w0) (i:Nat) (id:Nat->Int) (fv:ah) (hn:i<=4611686018427387904) (hf:vT fv G (i+1) id) :
  Calls prog 125 #[vi i,fv] w0 (bE w0 G fun u G'=>u=vi (xC id i)):=by
 refine eN [(0,_),(1,_)] func125 M ntmps125 M M hG ?_;intro a H;refine kP H (SR fun _ K1=>aj K1 M (SQ fun _ K2=>SB (SR fun _ K3=>Rm M (Rm M ?_))));clear H K1;intro a H;refine lI H wn M M (hf i (Nat.lt_succ_self _) _ _ (fun _ _ h=>h) H.ro) M ?_;clear H;rintro v8 G8 a w rfl xk H;refine s_call za H wn M (zy _ _ H.ro (id i) 1 1073741824) M ?_;clear H;rintro v9 _ a w ⟨rfl,rfl⟩ - H;refine kH H (Rn M (aj K3 M (Cd M ?_ ?_))) <;> clear H K3
 ·intro h5 a H
  try have p5:=dT h5
  refine kP H (SR fun _ K4=>aj K4 M ?_);clear H K4;exact VL
 intro h5 a H
 try have p5:=dF h5
 refine kP H (SR fun _ K5=>Rm M (Rc M (Rm M (Sp 14 M ?_ ?_)))) <;> clear H
 ·intro iq a H
  try have qL:=dT iq
  refine kH H (YM iq M (YM iq M ?_));clear H;intro a H;refine lI H (wg H M M iq) M M (hf i (Nat.lt_succ_self _) _ _ xk H.ro) M ?_;clear H;rintro v17 AB a w rfl uJ H;refine kH H (YM iq M (YM iq M ?_));clear H;intro a H;refine Dj _ H (wg H M M iq) M M M O O M ?_;clear H;intro a H;rw [show ((i:Int) - 1)=((i - 1:Nat):Int) by omega] at H;refine lI H (wg H M M iq) M M (hf (i - 1) O _ _ (fun b o h=>uJ b o (xk b o h)) H.ro) M ?_;clear H;rintro v21 Uw a w rfl CK H;refine kH H (YC iq M (Pt iq M (aj K5 M (Cd M ?_ ?_)))) <;> clear H K5
  ·intro h11 a H
   try have rJ:=dT h11
   refine kP H (SR fun _ K6=>aj K6 M ?_);clear H K6;intro a H;exact VO
  intro h11 a H
  try have rJ:=dF h11
  refine kP H (SR fun _ K7=>Rm M (Rc M (Rm M (Sp 27 M ?_ ?_)))) <;> clear H
  ·intro h27 a H
   try have p27:=dT h27
   refine kH H (YM h27 M (YM h27 M ?_));clear H;intro a H;refine lI H (wg H M M h27) M M (hf i (Nat.lt_succ_self _) _ _ (fun b o h=>by first|exact CK b o (uJ b o (xk b o h))|(exfalso;omega)) H.ro) rfl ?_;clear H;rintro v30 ER a w rfl IK H;refine kH H (YM h27 M (YM h27 M ?_));clear H;intro a H;refine Dj _ H (wg H M M h27) M M M O O M ?_;clear H;intro a H;rw [show ((i:Int) - 1)=((i - 1:Nat):Int) by omega] at H;refine lI H (wg H M M h27) M M (hf (i - 1) O _ _ (fun b o h=>by first|exact IK b o (CK b o (uJ b o (xk b o h)))|(exfalso;omega)) H.ro) rfl ?_;clear H;rintro v34 PN a w rfl Lb H;refine kH H (YC h27 M (Pt h27 M (aj K7 M (Cd M ?_ ?_)))) <;> clear H K7
   ·intro fV a H
    try have pJ:=dT fV
    refine kP H (SR fun _ K8=>aj K8 M ?_);clear H K8;intro a H;refine lr H results125 M ?_
    exact Qi
   intro fV a H
   try have pJ:=dF fV
   refine kP H (Kc K2 (SR fun _ K9=>aj K9 M ?_));clear H K2 K9;intro a H;exact VO
  intro h27 a H
  try have p27:=dF h27
  refine kH H (bH h27 M (bH h27 M (aU h27 M (Pf h27 M (aj K7 M (Cf M M (Kc K2 (SR fun _ aT=>aj aT M ?_))))))));clear H K7 K2 aT;exact VL
 intro iq a H
 try have qL:=dF iq
 refine kH H (bH iq M (bH iq M (aU iq M (Pf iq M (aj K5 M (Cf M M (SR fun _ bR=>Rm M (Rc M (Rm M (Sp 27 M ?_ ?_)))))))))) <;> clear H K5
 ·intro h27 a H
  try have p27:=dT h27
  refine kH H (YM h27 M (YM h27 M ?_));clear H;intro a H;refine lI H (wg H M M h27) M M (hf i (Nat.lt_succ_self _) _ _ (fun b o h=>by first|exact CK b o (uJ b o (xk b o h))|(exfalso;omega)) H.ro) rfl ?_;clear H;rintro v30 ER a w rfl IK H;refine kH H (YM h27 M (YM h27 M ?_));clear H;intro a H;refine Dj _ H (wg H M M h27) M M M O O M ?_;clear H;intro a H;rw [show ((i:Int) - 1)=((i - 1:Nat):Int) by omega] at H;refine lI H (wg H M M h27) M M (hf (i - 1) O _ _ (fun b o h=>by first|exact IK b o (CK b o (uJ b o (xk b o h)))|(exfalso;omega)) H.ro) rfl ?_;clear H;rintro v34 PN a w rfl Lb H;refine kH H (YC h27 M (Pt h27 M (aj bR M (Cd M ?_ ?_)))) <;> clear H bR
  ·intro fV a H
   try have pJ:=dT fV
   refine kP H (SR fun _ cu=>aj cu M ?_);clear H cu;intro a H;exact VO
  intro fV a H
  try have pJ:=dF fV
  refine kP H (Kc K2 (SR fun _ dw=>aj dw M ?_));clear H K2 dw;exact VL
 intro h27 a H
 try have p27:=dF h27
 refine kH H (bH h27 M (bH h27 M (aU h27 M (Pf h27 M (aj bR M (Cf M M (Kc K2 (SR fun _ dB=>aj dB M ?_))))))));clear H bR K2 dB;intro a H;refine lr H results125 M ?_
 exact Qi
theorem mZ:aR 71:=aS func71 M
theorem tK:aR 66:=aS func66 M
def xR (s:ByteArray):Bool:=decide (1<=s.size∧s.size<=40) && lX s
theorem abF (G:GH) (w0:World) (hG:Hold G w0) (s:ByteArray) (hs:s.size < 4611686018427387904):Calls prog 127 #[.string s] w0 (bE w0 G fun u G'=>u=.bool (xR s)∧G=G'):=by
 refine eN [(0,_)] func127 M ntmps127 M M hG ?_;intro a H;refine kP H (SR fun _ K1=>aj K1 M (SR fun _ K2=>Rm M (Rv iW M (Rc M (Rm M (Sp 6 M ?_ ?_)))))) <;> clear H K1
 ·intro h6 a H
  try have p6:=dT h6
  refine kH H (YM h6 M ?_);clear H;intro a H;refine Gq iW H (wg H M M h6) M M ?_;clear H;intro a H;refine kH H (YC h6 M (Pt h6 M (Rm M (Sp 11 M ?_ ?_)))) <;> clear H
  ·intro h11 a H
   try have rJ:=dT h11
   refine kH H (YM h11 M ?_);clear H;intro a H;refine s_call Nz H (wg H M M h11) M (Pw _ _ H.ro s hs) M ?_;clear H;rintro v13 _ a w ⟨rfl,rfl⟩ - H;exact kH H (Pt h11 M (aj K2 M (LR results127 M fun H=>H.rt ⟨iP (by unfold xR;first|(simp_all;done)|(simp_all;omega)),rfl⟩)))
  intro h11 a H
  try have rJ:=dF h11
  exact kH H (aU h11 M (Pf h11 M (aj K2 M (LR results127 M fun H=>H.rt ⟨iP (by unfold xR;first|(simp_all;done)|(simp_all;omega)),rfl⟩))))
 intro h6 a H
 try have p6:=dF h6
 exact kH H (bH h6 M (Pf h6 M (Rm M (aU M M (Pf M M (aj K2 M (LR results127 M fun H=>H.rt ⟨iP (by unfold xR;first|(simp_all;done)|(simp_all;omega)),rfl⟩)))))))
def EF (s:ByteArray):Int:=eG [dH (!lX s) 12,dH (decide (1024 < (s.size:Int))) 10]
theorem Aq {G:GH} {b:Nat} {x y:Int} (h:G b=some (.cells #[vi x,vi y] 49 (0,0))):av G (.sl 1 ([x,y].map fun k=>[li k])) (.slice (some ⟨b,0,none⟩) 2 2) :=
 av.wI (n:=2) (cap:=2) h M (dS _) (show 2<=maxLen by decide) (nZ (dS _)) (CX G [x,y])
theorem alD (G:GH) (w0:World) (hG:Hold G w0) (s:ByteArray) (hs:s.size < 4611686018427387904):Calls prog 190 #[.string s] w0 (bE w0 G fun u G'=>u=vi (EF s)):=by
 refine eN [(0,_)] func190 M ntmps190 M M hG ?_;intro a H;refine kP H (SR fun _ K1=>aj K1 M (SR fun _ K2=>Rm M ?_));clear H K1;intro a H;refine s_call Nz H wn M (Pw _ _ H.ro s hs) M ?_;clear H;rintro v4 _ a w ⟨rfl,rfl⟩ - H;refine kH H (Rn M ?_);clear H;intro a H;refine s_call mZ H wn M (nG _ _ H.ro _ 12) M ?_;clear H;rintro v6 _ a w ⟨rfl,rfl⟩ - H;refine kH H (Rm M (Rv iW M (Rc M ?_)));clear H;intro a H;refine s_call mZ H wn M (nG _ _ H.ro _ 10) M ?_;clear H;rintro v10 _ a w ⟨rfl,rfl⟩ - H;refine iV sH jE [_,_] [_,_] H wn M M M M M (by intro i q h;match i,h with|0,h=>exact h|1,h=>exact h|n+2,h=>simp at h) M M ?_;clear H;intro b11 a w KV H;obtain ⟨yM,CJ,FD,H⟩:=H.fU;refine s_call tK H wn M (tN _ _ H.ro _ _ (Aq FD)) M ?_;clear H;rintro v12 _ a w ⟨rfl,rfl⟩ - H;exact kH H (aj K2 M (LR results190 M fun H=>H.rt M))
def SE (c:Int):Bool:=decide (97<=tJ .or .u8 c 32) && decide (tJ .or .u8 c 32<=122)
def Mf (c:Int):Bool:=(decide (48<=c) && decide (c<=57)) || decide (c=45) || decide (c=95)
def OQ (s:ByteArray) (k:Nat):Bool:=SE (fC s k) || (decide (k≠0) && Mf (fC s k))
def xV (s:ByteArray):Bool:=decide (1<=s.size∧s.size<=40) && (List.range s.size).all (OQ s)
theorem Ke {p:Prop} (h:p:=by
 first|(simp_all;done)|(simp_all;omega)):p:=h
theorem Vb {p:Prop} (h:p:=by
 first
  | exact H.rt ⟨iP (by
    unfold xV
    rw [show k=s.size by omega] at hall
    rw [hall,mY O];rfl),rfl⟩
  | exact H.rt ⟨iP (by
    unfold xV
    rw [show (List.range s.size).all (OQ s)=false from List.all_eq_false.2 ⟨k,by simpa using hk2,by unfold OQ;simp_all⟩,Bool.and_false]),M⟩):p:=h
theorem abX {p:Prop} (h:p:=by
 exact ⟨O,by rw [List.range_succ,List.all_append,hall];simp [OQ];simp_all⟩):p:=h
theorem adM {p:Prop} (h:p:=by
 intro h46 a H
 try have p46:=dT h46
 refine kH H (aU h46 M (aU h46 M (Pt h46 M (Ra M ?_))));clear H;intro a H;refine aD ?_;refine ⟨_,by exact H.sub ⟨M,M,M,M,M,M,aC⟩,?_⟩
 unfold Mf;exact Ke):p:=h
theorem aeW (G:GH) (w0:World) (hG:Hold G w0) (s:ByteArray) (hs:s.size < 4611686018427387904):Calls prog 192 #[.string s] w0 (bE w0 G fun u G'=>u=.bool (xV s)∧G=G'):=by
 refine eN [(0,_)] func192 M ntmps192 M M hG ?_;intro a H;refine kP H (SR fun _ K1=>aj K1 M (SQ fun _ K2=>SR fun _ K3=>Rm M (Rv iW M (Rc M (Rm M (Sp 10 M ?_ ?_)))))) <;> clear H K1
 ·intro h10 a H
  try have ni:=dT h10
  exact kH H (bH h10 M (Pt h10 M (Kz K3 (Ct M M (SR fun _ K4=>aj K4 M (LR results192 M fun H=>H.rt ⟨iP (by unfold xV;rw [qE O];rfl),rfl⟩))))))
 intro h10 a H
 try have ni:=dF h10
 refine kH H (YM h10 M ?_);clear H;intro a H;refine Gq iW H (wg H M M h10) M M ?_;clear H;intro a H;refine kH H (YC h10 M (Pf h10 M (Kz K3 (Cd M ?_ ?_)))) <;> clear H K3
 ·intro iq a H
  try have qL:=dT iq
  exact kP H (SR fun _ K5=>aj K5 M (LR results192 M fun H=>H.rt ⟨iP (by unfold xV;rw [qE O];rfl),rfl⟩))
 intro iq a H
 try have qL:=dF iq
 refine kP H (Kc K2 (SQ fun _ K6=>SR fun _ K7=>Rm M (Rv iW M (Rm M (Kz K7 (SB ?_))))));clear H K2 K7;intro a H;skip;refine fD (ι:=Nat) (Tc:=[(0,_),(16,_)]) (Lc:=[]) (fun gh=>[(17,vi gh)]) (fun gh=>[]) (fun gh=>G) (fun gh=>gh<=s.size∧(List.range gh).all (OQ s)=true) (fun gh=>s.size - gh) (0) (by exact H.sub ⟨M,M,M,aC⟩) ?_ ?_
 ·exact Ka
 clear H;intro k a w hI H;obtain ⟨hk,hall⟩:=hI;dsimp only [lca,bM] at H;refine kP H (SR fun _ K8=>Rc M (Kz K8 (SQ fun _ K9=>Cd M ?_ ?_))) <;> clear H K8
 ·intro h18 a H
  try have BH:=dT h18
  have hk2:k < s.size:=by omega
  refine kP H (Kc K9 (SQ fun _ aT=>SB (SR fun _ bR=>Rm M (aj bR M (SR fun _ cu=>Rm M (Rm M ?_))))));clear H K9 bR;intro a H;refine rO k iW H wn M M M O M ?_;clear H;intro a H;rw [<- oF] at H;refine TK M H wn M M M ?_;clear H;intro a H;refine kH H (aj cu M ?_);clear H cu;intro a H;refine uo (ι:=Bool) (Tc:=[(0,_),(3,_),(16,_),(17,_)]) (Lc:=[]) (fun gh=>[(5,.bool gh)]) (fun gh=>[]) (fun gh=>G) (fun gh=>gh=SE (fC s k)) (by exact H.sub ⟨M,M,M,M,aC⟩) ?_ ?_
  ·skip;refine kP H (SC (Rm M (Rc M (Rm M (Sp 26 M ?_ ?_))))) <;> clear H
   ·intro ko a H
    try have p26:=dT ko
    refine kH H (YM ko M (YC ko M (Pt ko M (Ra M ?_))));clear H;intro a H;refine aD ?_;refine ⟨_,by exact H.sub ⟨M,M,M,M,M,aC⟩,?_⟩
    unfold SE;exact Ke
   intro ko a H
   try have p26:=dF ko
   refine kH H (aU ko M (Pf ko M (Ra M ?_)));clear H;intro a H;refine aD ?_;refine ⟨_,by exact H.sub ⟨M,M,M,M,M,aC⟩,?_⟩
   unfold SE;exact Ke
  clear H;intro lt a w hI H;have hlt:=hI;dsimp only [lca,bM] at H;refine uo (ι:=Bool) (Tc:=[(0,_),(3,_),(5,_),(16,_),(17,_)]) (Lc:=[]) (fun gh=>[(6,.bool gh)]) (fun gh=>[]) (fun gh=>G) (fun gh=>gh=Mf (fC s k)) (by exact H.sub ⟨M,M,M,M,M,aC⟩) ?_ ?_
  ·skip;refine kP H (SC (Rm M (Rm M ?_)));clear H;intro a H;refine rO k iW H wn M M M O M ?_;clear H;intro a H;rw [<- oF] at H;refine kH H (Rc M (Rm M (Sp 34 M ?_ ?_))) <;> clear H
   ·intro gN a H
    try have p34:=dT gN
    refine kH H (YM gN M (YM gN M ?_));clear H;intro a H;refine rO k iW H (wg H M M gN) M M M O M ?_;clear H;intro a H;rw [<- oF] at H;refine kH H (YC gN M (Pt gN M (Rm M (Sp 40 M ?_ ?_)))) <;> clear H
    ·intro lT a H
     try have p40:=dT lT
     refine kH H (aU lT M (aU lT M (Pt lT M (Rm M (aU M M (aU M M (Pt M M (Ra M ?_))))))));clear H;intro a H;refine aD ?_;refine ⟨_,by exact H.sub ⟨M,M,M,M,M,M,aC⟩,?_⟩
     unfold Mf;exact Ke
    intro lT a H
    try have p40:=dF lT
    refine kH H (YM lT M (YM lT M ?_));clear H;intro a H;refine rO k iW H (wg H M M lT) M M M O M ?_;clear H;intro a H;rw [<- oF] at H;refine kH H (YC lT M (Pf lT M (Rm M (Sp 46 M ?_ ?_)))) <;> clear H
    ·exact adM
    intro h46 a H
    try have p46:=dF h46
    refine kH H (YM h46 M (YM h46 M ?_));clear H;intro a H;refine rO k iW H (wg H M M h46) M M M O M ?_;clear H;intro a H;rw [<- oF] at H;refine kH H (YC h46 M (Pf h46 M (Ra M ?_)));clear H;intro a H;refine aD ?_;refine ⟨_,by exact H.sub ⟨M,M,M,M,M,M,aC⟩,?_⟩
    unfold Mf;exact Ke
   intro gN a H
   try have p34:=dF gN
   refine kH H (aU gN M (aU gN M (Pf gN M (Rm M ?_))));clear H;intro a H;(iterate 2 refine Jy H (wg H M M M) M M ?_;clear H;intro a H);refine rO k iW H (wg H M M M) M M M O M ?_;clear H;intro a H;rw [<- oF] at H;refine Jv H (wg H M M M) M M M M ?_;clear H;intro a H;refine kH H (Pf M M (Rm M (Sp 46 M ?_ ?_))) <;> clear H
   ·exact adM
   intro h46 a H
   try have p46:=dF h46
   refine kH H (YM h46 M (YM h46 M ?_));clear H;intro a H;refine rO k iW H (wg H M M h46) M M M O M ?_;clear H;intro a H;rw [<- oF] at H;refine kH H (YC h46 M (Pf h46 M (Ra M ?_)));clear H;intro a H;refine aD ?_;refine ⟨_,by exact H.sub ⟨M,M,M,M,M,M,aC⟩,?_⟩
   unfold Mf;exact Ke
  clear H;intro ot a w hI H;have hot:=hI;dsimp only [lca,bM] at H;refine kP H (SR fun _ dw=>Rm M (Rn M (Rm M (Sp 54 M ?_ ?_)))) <;> clear H
  ·intro iT a H
   try have p54:=dT iT
   refine kH H (YM iT M (YC iT M (YM iT M (Sp 57 M ?_ ?_)))) <;> clear H
   ·intro h57 a H
    try have p57:=dT h57
    refine kH H (aU h57 M (PT iT h57 M (Pt iT M (Kz dw (Ct M M (SR fun _ dB=>aj dB M ?_))))));clear H dw dB;intro a H;refine lr H results192 M ?_
    exact Vb
   intro h57 a H
   try have p57:=dF h57
   refine kH H (YM h57 M (YN h57 M (PF iT h57 M (Pt iT M (Kz dw (Cd M ?_ ?_)))))) <;> clear H dw
   ·intro Ir a H
    try have p61:=dT Ir
    refine kP H (SR fun _ dX=>aj dX M ?_);clear H dX;intro a H;refine lr H results192 M ?_
    exact Vb
   intro Ir a H
   try have p61:=dF Ir
   refine kP H (Kc aT (SC (Rd M (Rm M ?_))));clear H aT;intro a H;refine aD ?_;refine dQ ((k+1)) (by exact H.sub ⟨M,M,M,aC⟩) ?_
   exact abX
  intro iT a H
  try have p54:=dF iT
  refine kH H (bH iT M (Ku M (Ku M (Ks iT M (Pf iT M (Kz dw (Cf M M (Kc aT (SC (Rd M (Rm M ?_)))))))))));clear H dw aT;intro a H;refine aD ?_;refine dQ ((k+1)) (by exact H.sub ⟨M,M,M,aC⟩) ?_
  exact abX
 intro h18 a H
 try have BH:=dF h18
 refine dY ?_;refine K6 _ _ ?_;clear K6;refine kP H (SR fun _ eu=>aj eu M ?_);clear H eu;intro a H;refine lr H results192 M ?_
 exact Vb
section
section
variable {N:Nat} {D:List Deferred} {w0:World} {F:Nat->Prop} {G0 G:GH} {L:OL} {T:List (Nat × ah)}
variable {r:Option Nat} {P:Program} {ops:Array Oper} {Q:Exit->Act->World->Prop} {rest:List Oper} {a:Act} {w:World}
variable {d:Nat} {ty:TypeId} {pos:String} {aL:Array Edge} {g:Option (Nat × Bool)}
end
end
section
section
variable {N:Nat} {D:List Deferred} {w0:World} {F:Nat->Prop} {G0 G:GH} {L:OL} {T T':List (Nat × ah)}
variable {r:Option Nat} {P:Program} {Q:Exit->Act->World->Prop} {l:List Oper} {a a':Act} {w w':World} {ε:Type}
def J2 (l:List Oper) (pr:ε->Nat->ah->Prop) (T:List (Nat × ah)) (S:Nat->Bool) (E:ε) (T':List (Nat × ah)):Prop :=
 (∀ t v,lk T t=some v->lk T' t=some v)∧∀ i d,S i=true->eX l i=some d->∃ v,lk T' d=some v∧pr E i v
theorem J2.put {pr:ε->Nat->ah->Prop} {S:Nat->Bool} {E E':ε} {i d:Nat} {v:ah} (h:J2 l pr T S E T') (hok:aqf l T=true) (hi:eX l i=some d) (hv:pr E' i v) (hE:∀ j u,j≠i->pr E j u->pr E' j u):J2 l pr T (dL S i) E' ((d,v) :: T'):=by
 have hil:=wS hi
 have hok1:=jR.1 hok i (vW.2 hil)
 rw [qb,hi] at hok1
 simp only [iC,Option.isNone_iff_eq_none,jR,vW] at hok1
 refine ⟨fun t u ht=>?_,fun j e hj he=>?_⟩
 ·rw [xD (fun e=>by subst e;rw [hok1.1] at ht;cases ht)];exact h.1 t u ht
 ·by_cases hji:j=i
  ·subst hji;rw [hi] at he;cases he;exact ⟨v,yB _ _ _,hv⟩
  ·have hSj:S j=true:=by unfold dL at hj;rwa [au hji] at hj
   obtain ⟨u,hu1,hu2⟩:=h.2 j e hSj he
   have hne:d≠e:=by
    intro e';subst e'
    have h2:=hok1.2 j (wS he)
    have hb:Nat.beq i j=false:=wQ (fun h=>hji h.symm)
    rw [hb,he] at h2
    simp at h2
   exact ⟨u,by rw [xD hne];exact hu1,hE j u hji hu2⟩
theorem J2.add {pr:ε->Nat->ah->Prop} {S:Nat->Bool} {E:ε} (h:J2 l pr T S E T') {t:Nat} {u:ah} (hu:lk T' t=some u):J2 l pr T S E ((t,u) :: T'):=by
 have e:∀ s v,lk T' s=some v->lk ((t,u) :: T') s=some v:=fun s v hs=>by
  by_cases hst:t=s
  ·subst hst;rw [hu] at hs;cases hs;exact yB _ _ _
  ·rw [xD hst];exact hs
 exact ⟨fun s v hs=>e s v (h.1 s v hs),fun i d hi hd=>by
  obtain ⟨v,h1,h2⟩:=h.2 i d hi hd
  exact ⟨v,e d v h1,h2⟩⟩
end
end
section
section
variable {N:Nat} {D:List Deferred} {w0:World} {F:Nat->Prop} {G0 G G1 G2:GH} {L L1:OL} {T Xs:List (Nat × ah)}
variable {r:Option Nat} {P:Program} {Q:Exit->Act->World->Prop} {l:List Oper} {a a':Act} {w w':World}
theorem Kv {id:Nat} (hm:P.follows .mixedOrders=true) (bT:List (List Nat)) (B:List Nat) (hk:Ab l bT=true) (hB:yJ l bT B=true) (X:(Nat->Bool)->Act->World->Prop) (h0:X (fun _=>false) a w.drew)
  (hstep:∀ i o S a w,l[i]?=some o->B.contains i=false->S i=false->(∀ j∈bT.getD i [],S j=true)->(∀ j,j < l.length->i∈bT.getD j []->S j=false)->X S a w->WL r P l.toArray (fun e a' w'=>e=.normal∧X (dL S i) a' w') [o] a w)
  (hend:∀ S a w,(∀ i,i < l.length->B.contains i=false->S i=true)->(∀ i,B.contains i=true->S i=false)->X S a w->WL r P l.toArray (fun e a w=>e=.normal∧Q .normal a w) (rH l B) a w):WP r P (.region id l.toArray true) Q a w:=by
 have hB1:∀ p b,B[p]?=some b->b < l.length∧∀ i,i < l.length->(B.contains i=false∨(B.take p).contains i=true)->i∈bT.getD b []:=by
  intro p b hp
  simp only [yJ,iC] at hB
  have h1:=jR.1 hB.1 p (vW.2 (jZ.1 hp).1)
  rw [hp] at h1
  simp only [iC,jR,vW] at h1
  refine ⟨Eq.mp Nat.blt_eq h1.1,fun i hi hor=>?_⟩
  have h2:=h1.2 i hi
  rcases hor with h3|h3
  ·have h4:i∉B:=by simpa using h3
   simpa [h4] using h2
  ·have h4:i∈B.take p:=by simpa using h3
   simpa [h4] using h2
 have hB2:∀ i,i < l.length->B.contains i=false->∀ j∈bT.getD i [],B.contains j=false:=by
  intro i hi hb j hj
  simp only [yJ,iC] at hB
  have h1:=jR.1 hB.2 i (vW.2 hi)
  rw [hb] at h1
  simp only [Bool.false_or,jR] at h1
  simpa using h1 j hj
 refine aes hm bT hk (fun S a w=>((∀ i,B.contains i=true->S i=false)∧X S a w) ∨
   ∃ p,(∀ i,i < l.length->B.contains i=false->S i=true)∧(∀ i,(B.take p).contains i=true->S i=true)∧(∀ q b,B[q]?=some b->p<=q->S b=false)∧WL r P l.toArray (fun e a w=>e=.normal∧Q .normal a w) (rH l (B.drop p)) a w)
  (.inl ⟨fun _ _=>rfl,h0⟩) ?_ ?_
 ·intro i o S a w ho hX aK mg hdesc
  have hil:i < l.length:=(jZ.1 ho).1
  by_cases hbi:B.contains i=true
  ·-- an operation of the tail: all that stands ahead of it is done
   obtain ⟨p0,hp0⟩:=List.getElem?_of_mem (by simpa using hbi:i∈B)
   have hall:∀ j,j < l.length->B.contains j=false->S j=true:=fun j hj hb=>mg j ((hB1 p0 i hp0).2 j hj (.inl hb))
   have YE:∃ p,(∀ i,(B.take p).contains i=true->S i=true)∧(∀ q b,B[q]?=some b->p<=q->S b=false)∧WL r P l.toArray (fun e a w=>e=.normal∧Q .normal a w) (rH l (B.drop p)) a w:=by
    rcases hX with ⟨h1,hD⟩|⟨p,_,h2,h3,h4⟩
    ·exact ⟨0,by simp,fun q b hq _=>h1 b (by simpa using lZ hq),hend S a w hall h1 hD⟩
    ·exact ⟨p,h2,h3,h4⟩
   obtain ⟨p,h2,h3,h4⟩:=YE
   -- i is the next one
   have hpp:p<=p0:=by
    rcases Nat.lt_or_ge p0 p with hlt|hge
    ·have:(B.take p).contains i=true:=by
      simp only [qX]
      exact lZ (i:=p0) (by rw [uS,ay hlt];exact hp0)
     rw [h2 i this] at aK;cases aK
    ·exact hge
   have IW:p < B.length:=by have:=(jZ.1 hp0).1;omega
   have hbp:B[p]?=some B[p]:=eB IW
   have heq:B[p]=i:=by
    rcases Nat.lt_or_ge p p0 with hlt|hge
    ·exfalso
     have hin:B[p]∈bT.getD i []:=(hB1 p0 i hp0).2 _ (hB1 p _ hbp).1 (.inr (by
      simp only [qX]
      exact lZ (i:=p) (by rw [uS,ay hlt];exact hbp)))
     have:=mg _ hin
     rw [h3 p _ hbp (dS _)] at this;cases this
    ·have:p=p0:=by omega
     subst this
     rw [hbp] at hp0;simpa using hp0
   have hdrop:B.drop p=i :: B.drop (p+1):=by rw [nK IW,heq]
   have hops:rH l (B.drop p)=o :: rH l (B.drop (p+1)):=by rw [hdrop];simp [rH,ho]
   rw [hops] at h4
   refine amv (fun a' w' h5=>.inr ⟨p+1,fun j hj hb=>?_,fun j hj=>?_,fun q b hq hpq=>?_,h5⟩) h4
   ·unfold dL;split
    ·rfl
    ·exact hall j hj hb
   ·unfold dL;split
    ·rfl
    ·rename_i hne
     refine h2 j ?_
     simp only [qX] at hj |-
     rw [jK IW,kC] at hj
     rcases hj with hj|hj
     ·exact hj
     ·simp only [qY] at hj;exact absurd (hj.trans heq) hne
   ·unfold dL
    rw [au ?_]
    ·exact h3 q b hq O
    ·rintro rfl
     -- i would stand twice in B: it would come ahead of itself
     have h6:=(hB1 q b hq).2 b (hB1 q b hq).1 (.inr (by
      simp only [qX]
      exact lZ (i:=p) (by rw [uS,ay O];rw [hbp,heq])))
     rw [mg _ h6] at aK;cases aK
  ·have IG:B.contains i=false:=by cases h:B.contains i with|false=>rfl|true=>exact absurd h hbi
   rcases hX with ⟨h1,hX⟩|⟨p,h0,_,_,_⟩
   ·refine qy (fun e a' w' ⟨he,hD⟩=>⟨he,.inl ⟨fun j hj=>?_,hD⟩⟩) (hstep i o S a w ho IG aK mg hdesc hX)
    unfold dL
    rw [au (by rintro rfl;rw [IG] at hj;cases hj)]
    exact h1 j hj
   ·rw [h0 i hil IG] at aK;cases aK
 ·intro S a w hall hX
  rcases hX with ⟨h1,hD⟩|⟨p,_,_,h3,h4⟩
  ·have hnil:B=[]:=by
    cases B with
    | nil=>rfl
    | cons b B=>have h5:=h1 b (by simp);rw [hall b (hB1 0 b M).1] at h5;cases h5
   subst hnil
   exact (hend S a w (fun j hj _=>hall j hj) h1 hD).2
  ·have hnil:B.drop p=[]:=by
    cases hd:B.drop p with
    | nil=>rfl
    | cons b B' =>
     have hb:B[p]?=some b:=by
      have:=cO (fun x:List Nat=>x[0]?) hd
      simpa using this
     have h5:=h3 p b hb (dS _)
     rw [hall b (hB1 p b hb).1] at h5;cases h5
   rw [hnil] at h4
   exact h4.2
theorem aoq {id:Nat} (hm:P.follows .mixedOrders=true) (bT:List (List Nat)) (B:List Nat) (hk:Ab l bT=true) (hB:yJ l bT B=true) (m:Nat) (Og:B.contains m=false) (ob:Obj) (pr:Nat->Nat->ah->GH->Prop)
  (Ow:∀ b b' i v G,i≠m->pr b i v G->pr b' i v G) (H:St N D w0 F G0 G L T a w)
  (hstep:allI (fun i o=>∀ b L' S a w G1,B.contains i=false->Nat.beq i m=false->S i=false->(∀ j∈bT.getD i [],S j=true)->(∀ k o,G k=some o->G1 k=some o)->St N D w0 F G0 G1 L' T a w->(∀ i d,S i=true->eX l i=some d->∃ v,a.tmps[d]?=some v∧pr b i v G1) ->
   WL r P l.toArray (fun e a' w'=>e=.normal∧DX N D w0 F G0 G L' T l (pr b) (dL S i) a' w') [o] a w) 0 l)
  (hmid:∀ o S a w G1,l[m]?=some o->S m=false->(∀ j∈bT.getD m [],S j=true)->(∀ k o,G k=some o->G1 k=some o)->St N D w0 F G0 G1 L T a w->(∀ b i d,i≠m->S i=true->eX l i=some d->∃ v,a.tmps[d]?=some v∧pr b i v G1) ->
   WL r P l.toArray (fun e a' w'=>e=.normal∧∃ b,DX N D w0 F G0 G ((b,ob) :: L) T l (pr b) (dL S m) a' w') [o] a w)
  (hend:∀ b a w G1,(∀ k o,G k=some o->G1 k=some o)->St N D w0 F G0 G1 ((b,ob) :: L) T a w->(∀ i d,B.contains i=false->eX l i=some d->∃ v,a.tmps[d]?=some v∧pr b i v G1)->WL r P l.toArray (fun e a w=>e=.normal∧Q .normal a w) (rH l B) a w)
  (hml:Nat.blt m l.length=true):WP r P (.region id l.toArray true) Q a w:=by
 refine Kv hm bT B hk hB (fun S a w=>∃ b L',(S m=false->L'=L)∧(S m=true->L'=(b,ob) :: L)∧DX N D w0 F G0 G L' T l (pr b) S a w)
  ⟨0,L,fun _=>rfl,fun h=>absurd (show false=true from h) Z,G,fun _ _ h=>h,H.move H.hp.drew,fun _ _ h=>absurd (show false=true from h) Z⟩ ?_ ?_
 ·rintro i o S a w ho hb aK mg hdesc ⟨b,L',h1,h2,G1,hG,HS,hv⟩
  by_cases him:i=m
  ·subst him
   have e:=h1 aK;subst e
   have h:=hmid o S a w G1 ho aK mg hG HS fun b' j d hj hSj hd=>by
    obtain ⟨v,hv1,hv2⟩:=hv j d hSj hd
    exact ⟨v,hv1,Ow b b' j v _ hj hv2⟩
   have e1:dL S i i=true:=ay M
   exact qy (fun e a' w' ⟨he,b',hD⟩=>⟨he,b',_,fun h=>absurd (e1.symm.trans h) Z,fun _=>rfl,hD⟩) h
  ·have h:=AU hstep i o ho
   rw [gZ] at h
   have e:dL S i m=S m:=au (fun h=>him h.symm)
   exact qy (fun e' a' w' ⟨he,hD⟩=>⟨he,b,L',fun h=>h1 (e ▸ h),fun h=>h2 (e ▸ h),hD⟩) (h b L' S a w G1 hb (wQ him) aK mg hG HS hv)
 ·rintro S a w hall Oi ⟨b,L',h1,h2,G1,hG,HS,hv⟩
  have Lg:S m=true:=hall m (Eq.mp Nat.blt_eq hml) Og
  have e:=h2 Lg;subst e
  exact hend b a w G1 hG HS fun j d hb hd=>hv j d (hall j (wS hd) hb) hd
theorem QX {pr:Nat->ah->GH->Prop} {S:Nat->Bool} {i d:Nat} {v:ah} (hok:qb l T i=true) (hi:eX l i=some d) 
  (HT:St N D w0 F G0 G1 L T a w) (Hb:St N D w0 F G0 G1 L (Xs++full N a) a w) (hG:∀ k o,G k=some o->G1 k=some o) (hv:∀ j d,j≠i->S j=true->eX l j=some d->∃ v,a.tmps[d]?=some v∧pr j v G1)
  (hp:pr i v G1) (H:St N D w0 F G0 G1 L1 ((d,v) :: (Xs++full N a)) a' w'):DX N D w0 F G0 G L1 T l pr (dL S i) a' w':=by
 have hil:i < l.length:=wS hi
 have hok1:=hok
 rw [qb,hi] at hok1
 simp only [iC,Option.isNone_iff_eq_none,jR,vW] at hok1
 have hsame:∀ t,t≠d->a'.tmps[t]?=a.tmps[t]?:=by
  intro t ht
  by_cases hlt:t < N
  ·have h1:∃ u,lk (Xs++full N a) t=some u:=by
    rw [Sz]
    cases lk Xs t with
    | some u=>exact ⟨u,M⟩
    | none=>exact ⟨_,SA a hlt⟩
   obtain ⟨u,hu⟩:=h1
   rw [Hb.get t u hu,H.get t u (by rw [xD (Ne.symm ht)];exact hu)]
  ·rw [Array.getElem?_eq_none (by rw [H.oP];omega),Array.getElem?_eq_none (by rw [Hb.oP];omega)]
 refine ⟨G1,hG,⟨H.oP,fun t u ht=>?_,H.vg,H.hp⟩,fun j e hj he=>?_⟩
 ·rw [hsame t (fun e=>by rw [e,hok1.1] at ht;cases ht)]
  exact HT.get t u ht
 ·by_cases hji:j=i
  ·subst hji
   rw [hi] at he
   simp only [pX] at he
   subst he
   exact ⟨v,H.get d v (yB _ _ _),hp⟩
  ·have hSj:S j=true:=by unfold dL at hj;rwa [au hji] at hj
   obtain ⟨u,hu1,hu2⟩:=hv j e hji hSj he
   have hne:e≠d:=by
    intro e'
    subst e'
    have h2:=hok1.2 j (wS he)
    rw [wQ (fun h=>hji h.symm),he] at h2
    simp at h2
   exact ⟨u,by rw [hsame e hne];exact hu1,hu2⟩
end
end
section
section
variable {N:Nat} {D:List Deferred} {w0:World} {F:Nat->Prop} {G0 G:GH} {L:OL} {T:List (Nat × ah)}
variable {r:Option Nat} {P:Program} {ops:Array Oper} {Q:Exit->Act->World->Prop} {rest:List Oper} {a:Act} {w:World}
variable {d:Nat} {ty:TypeId} {pos:String} {aL:Array Edge} {g:Option (Nat × Bool)}
theorem Jw {t:TypeId} (H:St N D w0 F G0 G L T a w) (hw:Region.wanted ⟨some d,.makeMap t none,ty,pos,aL,g⟩ (yielded ops a.tmps)=true) (hd:Nat.blt d N=true)
  (k:∀ b a' w',w0.heap.size<=b->St N D w0 F G0 G ((b,.map #[] 0) :: L) ((d,.map (some b)) :: T) a' w'->WL r P ops Q rest a' w'):WL r P ops Q (⟨some d,.makeMap t none,ty,pos,aL,g⟩ :: rest) a w:=by
 refine fI (v:=.map (some w.heap.size)) (w':=w.alloc (.map #[] 0)) hw M ?_ (k _ _ _ H.hp.size (H.put hd _ (H.hp.alloc _)))
 simp [execOp,Instr.makeMap,newObj,Sem.run,dP]
def Eu (an:Option (Nat × ah)) (zv:ah):ah × Bool:=match an with|some (_,v)=>(v,true)|none=>(zv,false)
theorem aBU {t kt et:TypeId} {kd:TypeDesc} {x y:Operand} {b i clock:Nat} {es:Array MapEntry} {ky zv:ah} (an:Option (Nat × ah)) (hm:P.underlying t=some (.map kt et)) (hk:P.underlying kt=some kd) (hz:(P.info? et).map (fun i=>i.zero)=some (some zv)) (H:St N D w0 F G0 G L T a w)
  (hw:Region.wanted ⟨some d,.lookup t x y true,ty,pos,aL,g⟩ (yielded ops a.tmps)=true) (hx:ev T x=some (.map (some b))) (hy:ev T y=some ky) (hi:L[i]?=some (b,.map es clock)) (hky:MapKept.IsKey kd ky) (hf:Instr.findNow kd ky es.toList 0=some an) (hd:Nat.blt d N=true)
  (k:∀ a',St N D w0 F G0 G L ((d,.tuple #[(Eu an zv).1,.bool (Eu an zv).2]) :: T) a' w->WL r P ops Q rest a' w):WL r P ops Q (⟨some d,.lookup t x y true,ty,pos,aL,g⟩ :: rest) a w:=by
 have hb:w.heap[b]?=some (.map es clock):=H.hp.own _ (lZ hi)
 obtain ⟨inf,hi1,hi2⟩:=oO.1 hz
 refine fI (v:=.tuple #[(Eu an zv).1,.bool (Eu an zv).2]) (w':=w) hw M ?_ (k _ (H.put hd _ H.hp))
 have h1:=MapKept.run_checkKey (w:=w) hk hky es.isEmpty 9999
 have h2:=MapKept.run_findKey (w:=w) hk hf
 cases an with
 | none=>simp [execOp,Instr.lookup,H.ev hx,H.ev hy,dP,nu hm,MapKept.run_getObj_map hb,h1,h2,Result.andThen,zeroValue,Gm hi1,hi2,Eu]
 | some q=>simp [execOp,Instr.lookup,H.ev hx,H.ev hy,dP,nu hm,MapKept.run_getObj_map hb,h1,h2,Result.andThen,Eu]
theorem aaT {w:World} {b clock:Nat} {es:Array MapEntry} {o:Obj} (h:w.heap[b]?=some (.map es clock)):vV b o w { w with heap:=w.heap.setIfInBounds b o }:=by
 have hlt:b < w.heap.size:=(Array.getElem?_eq_some_iff.1 h).1
 refine ⟨M,M,M,by simp,by simp [hlt],fun k hk=>?_⟩
 simp only
 rw [Array.getElem?_setIfInBounds_ne (Ne.symm hk)]
theorem akT {t kt et:TypeId} {kd:TypeDesc} {x y z:Operand} {b i clock:Nat} {es:Array MapEntry} {ky v:ah} (hm:P.underlying t=some (.map kt et)) (hk:P.underlying kt=some kd) (H:St N D w0 F G0 G L T a w)
  (hw:Region.wanted ⟨none,.mapUpdate t x y z,ty,pos,aL,g⟩ (yielded ops a.tmps)=true) (hx:ev T x=some (.map (some b))) (hy:ev T y=some ky) (hzv:ev T z=some v) (hi:L[i]?=some (b,.map es clock)) (hky:MapKept.IsKey kd ky) (hf:Instr.findNow kd ky es.toList 0=some none)
  (k:∀ w',St N D w0 F G0 G (L.set i (b,.map (es.push ⟨ky,v,clock⟩) (clock+1))) T a w'->WL r P ops Q rest a w'):WL r P ops Q (⟨none,.mapUpdate t x y z,ty,pos,aL,g⟩ :: rest) a w:=by
 have hb:w.heap[b]?=some (.map es clock):=H.hp.own _ (lZ hi)
 have h1:=MapKept.run_checkKey (w:=w) hk hky false 9999
 have h2:=MapKept.run_findKey (w:=w) hk hf
 refine aaZ (w':={ w with heap:=w.heap.setIfInBounds b (.map (es.push ⟨ky,v,clock⟩) (clock+1)) }) hw M ?_ (k _ (H.move (H.hp.upd hi (aaT hb))))
 simp [execOp,Instr.mapUpdate,H.ev hx,H.ev hy,H.ev hzv,dP,nu hm,MapKept.run_getObj_map hb,h1,h2,MapKept.run_setObj_map _ hb,Result.andThen]
theorem akV {t yt:TypeId} {x y:Operand} {p q:ByteArray} (H:St N D w0 F G0 G L T a w) (hw:Region.wanted ⟨some d,.binOp .neq t x y yt,ty,pos,aL,g⟩ (yielded ops a.tmps)=true) (hx:ev T x=some (.string p)) (hy:ev T y=some (.string q)) (hd:Nat.blt d N=true)
  (k:∀ a',St N D w0 F G0 G L ((d,.bool (!(p.toList == q.toList))) :: T) a' w->WL r P ops Q rest a' w):WL r P ops Q (⟨some d,.binOp .neq t x y yt,ty,pos,aL,g⟩ :: rest) a w:=by
 refine fI (v:=.bool (!(p.toList == q.toList))) (w':=w) hw M ?_ (k _ (H.put hd _ H.hp))
 simp [execOp,H.ev hx,H.ev hy,dP,eqGuard,binOp,Op.stringOp]
theorem Hp.BF (h:Hp w0 F G0 G L w) {b o:Nat} {c:Array ah} {e:TypeId} {fz:Nat × Nat} {v:ah} (hm:(b,Obj.cells c e fz)∈L) (hv:c[o]?=some v):w.cell? ⟨b,o,none⟩=some v:=by
 have:=h.own _ hm
 simp only [World.cell?,this]
 exact hv
end
end
section
section
variable {N:Nat} {D:List Deferred} {w0:World} {F:Nat->Prop} {G0 G G1 G2:GH} {L L1:OL} {T Xs:List (Nat × ah)}
variable {r:Option Nat} {P:Program} {Q:Exit->Act->World->Prop} {l:List Oper} {a a':Act} {w w':World}
theorem aor {id:Nat} (hm:P.follows .mixedOrders=true) (bT:List (List Nat)) (B:List Nat) (hk:Ab l bT=true) (hB:yJ l bT B=true) (m:Nat) (Og:B.contains m=false) (ob:Obj) (pr:Nat->Nat->ah->GH->Prop)
  (Ow:∀ b b' i v G,i≠m->pr b i v G->pr b' i v G) (H:St N D w0 F G0 G L T a w)
  (hstep:allI (fun i o=>∀ b L' S a w G1,(∀ x,x∈L->x∈L')->B.contains i=false->Nat.beq i m=false->S i=false->(∀ j∈bT.getD i [],S j=true)->(∀ k o,G k=some o->G1 k=some o)->St N D w0 F G0 G1 L' T a w->(∀ i d,S i=true->eX l i=some d->∃ v,a.tmps[d]?=some v∧pr b i v G1) ->
   WL r P l.toArray (fun e a' w'=>e=.normal∧DX N D w0 F G0 G L' T l (pr b) (dL S i) a' w') [o] a w) 0 l)
  (hmid:∀ o S a w G1,l[m]?=some o->S m=false->(∀ j∈bT.getD m [],S j=true)->(∀ k o,G k=some o->G1 k=some o)->St N D w0 F G0 G1 L T a w->(∀ b i d,i≠m->S i=true->eX l i=some d->∃ v,a.tmps[d]?=some v∧pr b i v G1) ->
   WL r P l.toArray (fun e a' w'=>e=.normal∧∃ b,DX N D w0 F G0 G ((b,ob) :: L) T l (pr b) (dL S m) a' w') [o] a w)
  (hend:∀ b a w G1,(∀ k o,G k=some o->G1 k=some o)->St N D w0 F G0 G1 ((b,ob) :: L) T a w->(∀ i d,B.contains i=false->eX l i=some d->∃ v,a.tmps[d]?=some v∧pr b i v G1)->WL r P l.toArray (fun e a w=>e=.normal∧Q .normal a w) (rH l B) a w)
  (hml:Nat.blt m l.length=true):WP r P (.region id l.toArray true) Q a w:=by
 refine Kv hm bT B hk hB (fun S a w=>∃ b L',(S m=false->L'=L)∧(S m=true->L'=(b,ob) :: L)∧DX N D w0 F G0 G L' T l (pr b) S a w)
  ⟨0,L,fun _=>rfl,fun h=>absurd (show false=true from h) Z,G,fun _ _ h=>h,H.move H.hp.drew,fun _ _ h=>absurd (show false=true from h) Z⟩ ?_ ?_
 ·rintro i o S a w ho hb aK mg hdesc ⟨b,L',h1,h2,G1,hG,HS,hv⟩
  by_cases him:i=m
  ·subst him
   have e:=h1 aK;subst e
   have h:=hmid o S a w G1 ho aK mg hG HS fun b' j d hj hSj hd=>by
    obtain ⟨v,hv1,hv2⟩:=hv j d hSj hd
    exact ⟨v,hv1,Ow b b' j v _ hj hv2⟩
   have e1:dL S i i=true:=ay M
   exact qy (fun e a' w' ⟨he,b',hD⟩=>⟨he,b',_,fun h=>absurd (e1.symm.trans h) Z,fun _=>rfl,hD⟩) h
  ·have h:=AU hstep i o ho
   rw [gZ] at h
   have e:dL S i m=S m:=au (fun h=>him h.symm)
   exact qy (fun e' a' w' ⟨he,hD⟩=>⟨he,b,L',fun h=>h1 (e ▸ h),fun h=>h2 (e ▸ h),hD⟩) (h b L' S a w G1 (fun x hx=>by
    cases hS:S m with
    | false=>rw [h1 hS];exact hx
    | true=>rw [h2 hS];exact gI _ hx) hb (wQ him) aK mg hG HS hv)
 ·rintro S a w hall Oi ⟨b,L',h1,h2,G1,hG,HS,hv⟩
  have Lg:S m=true:=hall m (Eq.mp Nat.blt_eq hml) Og
  have e:=h2 Lg;subst e
  exact hend b a w G1 hG HS fun j d hb hd=>hv j d (hall j (wS hd) hb) hd
end
end
section
section
variable {N:Nat} {D:List Deferred} {w0:World} {F:Nat->Prop} {G0 G G1 G2:GH} {L L1 L2:OL} {T Xs:List (Nat × ah)}
variable {r:Option Nat} {P:Program} {Q:Exit->Act->World->Prop} {l:List Oper} {a a':Act} {w w':World}
theorem aqe {pr:Nat->ah->GH->Prop} {S:Nat->Bool} {i:Nat} (hi:eX l i=none) (HT:St N D w0 F G0 G1 L T a w) (hG:∀ k o,G k=some o->G1 k=some o) (hv:∀ i d,S i=true->eX l i=some d->∃ v,a.tmps[d]?=some v∧pr i v G1)
  (H:St N D w0 F G0 G1 L2 (Xs++full N a) a w'):DX N D w0 F G0 G L2 T l pr (dL S i) a w' :=
 ⟨G1,hG,HT.move H.hp,fun j e hj he=>hv j e (by
  unfold dL at hj
  by_cases hji:j=i
  ·subst hji;rw [hi] at he;cases he
  ·rwa [au hji] at hj) he⟩
theorem aot {id:Nat} (hm:P.follows .mixedOrders=true) (bT:List (List Nat)) (B:List Nat) (hk:Ab l bT=true) (hB:yJ l bT B=true) (m:Nat) (Og:B.contains m=false) (pr:Nat->ah->GH->Prop) (ix:Nat) (ob:Nat × Obj)
  (H:St N D w0 F G0 G L T a w)
  (hstep:allI (fun i o=>∀ S a w G1,B.contains i=false->Nat.beq i m=false->S i=false->(∀ j∈bT.getD i [],S j=true)->(∀ k o,G k=some o->G1 k=some o)->St N D w0 F G0 G1 L T a w->(∀ i d,S i=true->eX l i=some d->∃ v,a.tmps[d]?=some v∧pr i v G1) ->
   WL r P l.toArray (fun e a' w'=>e=.normal∧DX N D w0 F G0 G L T l pr (dL S i) a' w') [o] a w) 0 l)
  (hmid:∀ o S a w G1,l[m]?=some o->S m=false->(∀ j∈bT.getD m [],S j=true)->(∀ k o,G k=some o->G1 k=some o)->St N D w0 F G0 G1 L T a w->(∀ i d,S i=true->eX l i=some d->∃ v,a.tmps[d]?=some v∧pr i v G1) ->
   WL r P l.toArray (fun e a' w'=>e=.normal∧DX N D w0 F G0 G (L.set ix ob) T l pr (dL S m) a' w') [o] a w)
  (hstep2:allI (fun i o=>∀ S a w G1,(B.contains i || (bT.getD m []).contains i)=false->Nat.beq i m=false->S i=false->(∀ j∈bT.getD i [],S j=true)->(∀ k o,G k=some o->G1 k=some o)->St N D w0 F G0 G1 (L.set ix ob) T a w->(∀ i d,S i=true->eX l i=some d->∃ v,a.tmps[d]?=some v∧pr i v G1) ->
   WL r P l.toArray (fun e a' w'=>e=.normal∧DX N D w0 F G0 G (L.set ix ob) T l pr (dL S i) a' w') [o] a w) 0 l)
  (hend:∀ a w G1,(∀ k o,G k=some o->G1 k=some o)->St N D w0 F G0 G1 (L.set ix ob) T a w->(∀ i d,B.contains i=false->eX l i=some d->∃ v,a.tmps[d]?=some v∧pr i v G1)->WL r P l.toArray (fun e a w=>e=.normal∧Q .normal a w) (rH l B) a w)
  (hml:Nat.blt m l.length=true):WP r P (.region id l.toArray true) Q a w:=by
 refine Kv hm bT B hk hB (fun S a w=>(S m=false∧DX N D w0 F G0 G L T l pr S a w)∨(S m=true∧DX N D w0 F G0 G (L.set ix ob) T l pr S a w))
  (.inl ⟨rfl,G,fun _ _ h=>h,H.move H.hp.drew,fun _ _ h=>absurd (show false=true from h) Z⟩) ?_ ?_
 ·rintro i o S a w ho hb aK mg hdesc hX
  by_cases him:i=m
  ·subst him
   rcases hX with ⟨_,G1,hG,HS,hv⟩|⟨h1,_⟩
   ·have h:=hmid o S a w G1 ho aK mg hG HS hv
    have e1:dL S i i=true:=ay M
    exact qy (fun e a' w' ⟨he,hD⟩=>⟨he,.inr ⟨e1,hD⟩⟩) h
   ·rw [h1] at aK;cases aK
  ·have e:dL S i m=S m:=au (fun h=>him h.symm)
   rcases hX with ⟨h1,G1,hG,HS,hv⟩|⟨h1,G1,hG,HS,hv⟩
   ·have h:=AU hstep i o ho
    rw [gZ] at h
    exact qy (fun e' a' w' ⟨he,hD⟩=>⟨he,.inl ⟨e.trans h1,hD⟩⟩) (h S a w G1 hb (wQ him) aK mg hG HS hv)
   ·have h:=AU hstep2 i o ho
    rw [gZ] at h
    have hnc:(B.contains i || (bT.getD m []).contains i)=false:=by
     rw [hb,Bool.false_or]
     cases hc2:(bT.getD m []).contains i with
     | false=>rfl
     | true=>have:=hdesc m (Eq.mp Nat.blt_eq hml) (qX.1 hc2);rw [h1] at this;cases this
    exact qy (fun e' a' w' ⟨he,hD⟩=>⟨he,.inr ⟨e.trans h1,hD⟩⟩) (h S a w G1 hnc (wQ him) aK mg hG HS hv)
 ·rintro S a w hall Oi hX
  have Lg:S m=true:=hall m (Eq.mp Nat.blt_eq hml) Og
  rcases hX with ⟨h1,_⟩|⟨h1,G1,hG,HS,hv⟩
  ·rw [h1] at Lg;cases Lg
  ·exact hend a w G1 hG HS fun j d hb hd=>hv j d (hall j (wS hd) hb) hd
end
end
theorem aza:liesAt prog prog.depth 340 (7 / prog.cellsOf 340) 2 172 1=true:=by kernel_rfl
theorem TW:Ty prog 5 1 1 [.int .u8 0] false:=⟨V,V⟩
abbrev iY (b:Nat) (s:ByteArray) (i:Int) (p v q:ah) (pl e:Int):Nat × Obj:=(b,.cells #[.string s,vi i,p,v,q,vi pl,vi e] 340 (0,0))
theorem aCc (G:GH) (L:OL) (w0:World) (b:Nat) (s:ByteArray) (i:Int) (A:Option Addr) (n c:Nat) (B:Option Addr) (m d:Nat) (pl e:Int) (hO:gq G (iY b s i (.pointer none) (.slice A n c) (.slice B m d) pl e :: L) w0) :
  Calls prog 154 #[(aH b 2)] w0 (fM w0 G (iY b s i (.pointer none) (.slice A n c) (.slice B m d) pl e :: L) fun u G' L'=>L'=iY b s i (aH b 2) (.slice A n c) (.slice B m d) pl e :: L∧G'=G):=by
 refine jc (N:=20) (T:=[(0,_)]) func154 M ntmps154 M M hO ?_;intro a H;refine kP H (SR fun _ K1=>Rm M (Rk M (bC Fj Gy 0 M M ?_)));clear H;intro a H;refine TM Dt H wn M M ?_;clear H;intro a H;refine K1 _ _ ?_;clear K1;refine jL H M ?_ ?_
 ·intro h6
  refine kP H (SC (Rm M (Rm M ?_)));clear H;intro a H;refine ala Dt T9 Mw H wn M 0 M M M ?_;clear H;intro a H;refine akW (xs:=[.tmp 9]) (ajO _) H wn M M ?_;clear H;intro a H;refine akR T9 Dt Mw H wn M 0 M aza M ?_;exact adO
 intro h6
 exact absurd h6 Z
theorem aCd (G:GH) (L:OL) (w0:World) (b:Nat) (s:ByteArray) (i:Int) (A:Option Addr) (n c:Nat) (B:Option Addr) (m d:Nat) (pl e:Int) (hO:gq G (iY b s i (aH b 2) (.slice A n c) (.slice B m d) pl e :: L) w0) :
  Calls prog 154 #[(aH b 2)] w0 (fM w0 G (iY b s i (aH b 2) (.slice A n c) (.slice B m d) pl e :: L) fun u G' L'=>L'=iY b s i (aH b 2) (.slice A n c) (.slice B m d) pl e :: L∧G'=G):=by
 refine jc (N:=20) (T:=[(0,_)]) func154 M ntmps154 M M hO ?_;intro a H;refine kP H (SR fun _ K1=>Rm M (Rk M (bC Fj Gy 0 M M ?_)));clear H;intro a H;refine TM Dt H wn M M ?_;clear H;intro a H;refine K1 _ _ ?_;clear K1;refine jL H M ?_ ?_
 ·intro h6
  exact absurd h6 (by simp)
 intro h6
 refine kP H (SR fun _ K2=>Rm M (Rk M (bC Fj Gy 0 M M (Rm M ?_))));clear H;intro a H;refine akU Dt Mw H wn M M M ?_;clear H;intro a H;refine K2 _ _ ?_;clear K2;refine jL H M ?_ ?_
 ·intro h19
  exact absurd h19 Z
 intro h19
 refine iD ?_;refine (leave0 H results154 ?_).2;exact Qh
theorem aCe (G:GH) (L:OL) (w0:World) (b:Nat) (s:ByteArray) (i:Int) (p:ah) (A:Option Addr) (n c:Nat) (B:Option Addr) (m d:Nat) (pl e:Int) (hp:p=.pointer none∨p=(aH b 2)) (hO:gq G (iY b s i p (.slice A n c) (.slice B m d) pl e :: L) w0) :
  Calls prog 154 #[(aH b 2)] w0 (fM w0 G (iY b s i p (.slice A n c) (.slice B m d) pl e :: L) fun u G' L'=>L'=iY b s i (aH b 2) (.slice A n c) (.slice B m d) pl e :: L∧G'=G):=by
 rcases hp with rfl|rfl
 ·exact aCc G L w0 b s i A n c B m d pl e hO
 exact aCd G L w0 b s i A n c B m d pl e hO
theorem amn (G:GH) (Lp Lo:OL) (w0:World) (b:Nat) (s:ByteArray) (i:Int) (p v:ah) (B:Option Addr) (m d:Nat) (pl e:Int) (n:Nat) (xs:List ah) (c:Int) (hp:p=.pointer none∨p=(aH b 2)) (hO:gq G (iY b s i p v (.slice B m d) pl e :: (Lp++Lo)) w0) (hrow:bY 5 1 v n xs Lo) (hn:n<=4294967296) :
  Calls prog 273 #[(aH b 2),.int .u8 c] w0 (fM w0 G (iY b s i p v (.slice B m d) pl e :: (Lp++Lo)) fun u G' L'=>∃ v' jr,L'=iY b s i (aH b 2) v' (.slice B m d) pl e :: (Lp++jr)∧bY 5 1 v' (n+1) (xs++[.int .u8 c]) jr∧G'=G):=by
 have hml:maxLen=9223372036854775807:=rfl;obtain ⟨A,c0,rfl,-,-⟩:=hrow.shape;obtain ⟨Lt,uE⟩:∃ x,x=Lp++Lo:=⟨_,M⟩;rw [<- uE] at hO |-;refine jc (N:=17) (T:=[(0,_),(1,_)]) func273 M ntmps273 M M hO ?_;intro a H;refine kP H (SR fun _ K1=>aj K1 M (SR fun _ K2=>Rm M ?_));clear H K1;intro a H;refine gW afA (Li:=[]) (L:=iY b s i p _ (.slice B m d) pl e :: Lt) H wn M (aCe _ _ _ b s i p A n c0 B m d pl e hp (Hp.owns (Li:=[]) H.hp)) M ?_;clear H;rintro v6 _ L6 a w ⟨rfl,rfl⟩ Eo H;dsimp only [List.nil_append] at H;refine K2 _ _ ?_;clear K2;refine kP H (SR fun _ K3=>Rm M (Rm M (Rk M (bC Ad Ar 0 M M (Rm M ?_)))));clear H;intro a H;refine iV Du TW [_] [_] H wn M M M M M (by intro i q h;match i,h with|0,h=>exact h|n+1,h=>simp at h) M M ?_;clear H;intro b13 a w RJ H;subst uE;have H:=St.un (A:=[_,_]) (B:=Lp) (C:=Lo) H;refine ny (Li:=[_,_]++Lp) (Lo:=Lo) (news:=[.int .u8 c]) Du TW M M H wn M M hrow M (H.hp.dG 0 M M) M O O M ?_;clear H;intro v14 abm a w FT H;obtain ⟨PD,c14,rfl,-,-⟩:=FT.shape;have H:=H.assoc;dsimp only [lca,bM] at H;refine kH H (Rk M (Rf Ad M ?_));clear H;intro a H;refine bJ Ar 1 (vs:=[_]) H wn M ?_;clear H;intro w H;refine K3 _ _ ?_;clear K3;exact kP H (SR fun _ K4=>aj K4 M (LR results273 M fun H=>H.hp.lW (L':=iY b s i _ _ _ pl e :: (Lp++abm)) (DF _ _) ⟨_,_,M,FT,M⟩))
theorem aCP (G:GH) (L:OL) (w0:World) (b:Nat) (s:ByteArray) (i:Int) (p:ah) (A:Option Addr) (n c:Nat) (B:Option Addr) (m d:Nat) (pl e:Int) (hO:gq G (iY b s i p (.slice A n c) (.slice B m d) pl e :: L) w0) :
  Calls prog 279 #[(aH b 2)] w0 (fM w0 G (iY b s i p (.slice A n c) (.slice B m d) pl e :: L) fun u G' L'=>u=vi n∧L'=iY b s i p (.slice A n c) (.slice B m d) pl e :: L∧G'=G):=by
 refine jc (N:=8) (T:=[(0,_)]) func279 M ntmps279 M M hO ?_;intro a H;exact kP H (SR fun _ K1=>aj K1 M (SR fun _ K2=>Rm M (Rk M (bC Ad Ar 0 M M (Rl Du M (aj K2 M (LR results279 M fun H=>H.hp.gQ ⟨M,M,M⟩)))))))
theorem aC6 (G:GH) (L:OL) (w0:World) (b:Nat) (s:ByteArray) (i:Int) (p:ah) (A:Option Addr) (n c:Nat) (B:Option Addr) (m d:Nat) (pl e:Int) (hO:gq G (iY b s i p (.slice A n c) (.slice B m d) pl e :: L) w0) :
  Calls prog 280 #[(aH b 2)] w0 (fM w0 G (iY b s i p (.slice A n c) (.slice B m d) pl e :: L) fun u G' L'=>L'=iY b s i (.pointer none) (.slice none 0 0) (.slice B m d) pl e :: L∧G'=G):=by
 refine jc (N:=8) (T:=[(0,_)]) func280 M ntmps280 M M hO ?_;intro a H;refine kP H (SR fun _ K1=>Rm M (Rk M (Rf Fj M ?_)));clear H;intro a H;refine bJ Gy 0 (vs:=[_]) H wn M ?_;clear H;intro w H;refine K1 _ _ ?_;clear K1;refine kP H (SC (Rm M (Rk M (Rf Ad M ?_))));clear H;intro a H;refine bJ Ar 0 (vs:=[_]) H wn M ?_;clear H;intro w H;refine aD ?_;refine (leave0 H results280 ?_).2;exact Qh
theorem aC8 (G:GH) (Lp Lo:OL) (w0:World) (b:Nat) (s:ByteArray) (i:Int) (p v:ah) (B:Option Addr) (m d:Nat) (pl e:Int) (l:List UInt8) (hO:gq G (iY b s i p v (.slice B m d) pl e :: (Lp++Lo)) w0) (hrow:bY 5 1 v l.length (Lib.byteCells l) Lo) (h0:l≠[]) :
  Calls prog 94 #[(aH b 2)] w0 (fM w0 G (iY b s i p v (.slice B m d) pl e :: (Lp++Lo)) fun u G' L'=>u=.string ⟨l.toArray⟩∧L'=iY b s i p v (.slice B m d) pl e :: Lp):=by
 rcases hrow.2 with ⟨-,h,-⟩|⟨b2,cap,cur,rfl,rfl,hc1,hc2,hc3,hc4⟩
 ·exact absurd (List.eq_nil_of_length_eq_zero h) h0
 have hl0:l.length≠0:=fun h=>h0 (List.eq_nil_of_length_eq_zero h);have hml:maxLen=9223372036854775807:=rfl;obtain ⟨Lt,uE⟩:∃ x,x=Lp++[(b2,Obj.cells cur 5 (0,0))]:=⟨_,M⟩;rw [<- uE] at hO |-;refine jc (N:=14) (T:=[(0,_)]) func94 M ntmps94 M M hO ?_;intro a H;refine kP H (SR fun _ K1=>aj K1 M (SQ fun _ K2=>?_));clear H K1;intro a H;have H:=H.sub (T':=[(0,_)]) ⟨M,aC⟩;refine dI hmx [[],[0],[0,1],[0,1,2],ra 0 4,[],[5],[5,6],[5,6,7],ra 5 4,ra 0 10,ra 0 11] [10,11] V [_,_,_,.slice (some ⟨b2,0,none⟩) l.length cap,(aH b2 0),_,_,_,.slice (some ⟨b2,0,none⟩) l.length cap,_] H (aB (Z0 M (Rm M)) (Z1 0 3 M (Rk M)) (Z1 1 4 M (Rf Ad M)) (Z1 2 5 M (Ro Ar 0 M)) (aB ?_ (Z0 M (Rm M)) (Z1 5 8 M (Rk M)) (Z1 6 9 M (Rf Ad M)) (aB (Z1 7 10 M (Ro Ar 0 M)) (Z1 8 11 M (Rl Du M)) (bS M) (bS M) dz))) ?_
 ·exact adq
 clear H;intro a w G nO H hv;have H:=H.aM (hv 4 7 M M) M;have H:=H.aM (hv 9 12 M M) M;clear hv;subst uE;have H:=H.perm (List.Perm.cons _ uU);dsimp only [lca,bM] at H;refine alb (i:=1) l alR aez h0 O H wn M M M (by rw [<- hc4,Nat.mul_one]) M ?_;clear H;intro fz a w H;dsimp only [List.set] at H;refine kH H (Ra M ?_);clear H;intro a H;refine aD ⟨M,?_⟩;refine K2 _ _ ?_;clear K2;refine lr H results94 M ?_;exact H.hp.lW (L':=iY b s i _ _ _ pl e :: Lp) (List.Sublist.cons_cons _ (DF _ _)) ⟨M,M⟩
section
section
variable {N:Nat} {D:List Deferred} {w0:World} {F:Nat->Prop} {G0 G G1 G2:GH} {L L1 L2:OL} {T Xs:List (Nat × ah)}
variable {r:Option Nat} {P:Program} {Q:Exit->Act->World->Prop} {l:List Oper} {a a':Act} {w w':World}
theorem DX.perm {pr:Nat->ah->GH->Prop} {S:Nat->Bool} (h:DX N D w0 F G0 G L1 T l pr S a w) (hp:L1.Perm L2):DX N D w0 F G0 G L2 T l pr S a w:=by
 obtain ⟨G1,hG,HS,hv⟩:=h
 exact ⟨G1,hG,HS.perm hp,hv⟩
end
end
section
section
variable {N:Nat} {D:List Deferred} {w0:World} {F:Nat->Prop} {G0 G G1 G2:GH} {L L1 L2:OL} {T Xs:List (Nat × ah)}
variable {r:Option Nat} {P:Program} {Q:Exit->Act->World->Prop} {l:List Oper} {a a':Act} {w w':World}
theorem Bc {pr:Nat->ah->GH->Prop} {S:Nat->Bool} {i d:Nat} {v:ah} (hok:qb l T i=true) (kU:∀ i v (G G':GH),(∀ k o,G k=some o->G' k=some o)->pr i v G->pr i v G') (hi:eX l i=some d)
  (HT:St N D w0 F G0 G1 L T a w) (Hb:St N D w0 F G0 G1 L (Xs++full N a) a w) (hG:∀ k o,G k=some o->G1 k=some o) (hv:∀ j d,j≠i->S j=true->eX l j=some d->∃ v,a.tmps[d]?=some v∧pr j v G1)
  (hG2:∀ k o,G1 k=some o->G2 k=some o) (hp:pr i v G2) (H:St N D w0 F G0 G2 L1 ((d,v) :: (Xs++full N a)) a' w'):DX N D w0 F G0 G L1 T l pr (dL S i) a' w':=by
 have hok1:=hok
 rw [qb,hi] at hok1
 simp only [iC,Option.isNone_iff_eq_none,jR,vW] at hok1
 have hsame:∀ t,t≠d->a'.tmps[t]?=a.tmps[t]?:=by
  intro t ht
  by_cases hlt:t < N
  ·have h1:∃ u,lk (Xs++full N a) t=some u:=by
    rw [Sz]
    cases lk Xs t with
    | some u=>exact ⟨u,M⟩
    | none=>exact ⟨_,SA a hlt⟩
   obtain ⟨u,hu⟩:=h1
   rw [Hb.get t u hu,H.get t u (by rw [xD (Ne.symm ht)];exact hu)]
  ·rw [Array.getElem?_eq_none (by rw [H.oP];omega),Array.getElem?_eq_none (by rw [Hb.oP];omega)]
 refine ⟨G2,fun k o hk=>hG2 k o (hG k o hk),⟨H.oP,fun t u ht=>?_,H.vg,H.hp⟩,fun j e hj he=>?_⟩
 ·rw [hsame t (fun e=>by rw [e,hok1.1] at ht;cases ht)]
  exact HT.get t u ht
 ·by_cases hji:j=i
  ·subst hji
   rw [hi] at he
   simp only [pX] at he
   subst he
   exact ⟨v,H.get d v (yB _ _ _),hp⟩
  ·have hSj:S j=true:=by unfold dL at hj;rwa [au hji] at hj
   obtain ⟨u,hu1,hu2⟩:=hv j e hji hSj he
   have hne:e≠d:=by
    intro e'
    subst e'
    have h2:=hok1.2 j (wS he)
    rw [wQ (fun h=>hji h.symm),he] at h2
    simp at h2
   exact ⟨u,by rw [hsame e hne];exact hu1,kU j u _ _ hG2 hu2⟩
theorem V6 {id:Nat} {κ:Type} (k0:κ) (hm:P.follows .mixedOrders=true) (bT:List (List Nat)) (B:List Nat) (hk:Ab l bT=true) (hB:yJ l bT B=true) (m1 m2 m3:Nat) (aFm:B.contains m1=false) (aFo:B.contains m2=false) (awL:B.contains m3=false) (hne:Nat.beq m1 m2=false) (ahX:Nat.beq m2 m3=false) (hne1:Nat.beq m1 m3=false) (h12:(bT.getD m2 []).contains m1=true) (ig:(bT.getD m3 []).contains m1=true) (h23:(bT.getD m3 []).contains m2=true)
  (C L2:OL) (ob:Obj) (L3:Nat->κ->OL) (hC:∀ x,x∈C->x∈L) (hC2:∀ x,x∈C->x∈L2) (hC3:∀ b k x,x∈C->x∈L3 b k) (pr:Nat->κ->Nat->ah->GH->Prop)
  (Ow:∀ b b' k i v G,Nat.beq i m2=false->(bT.getD i []).contains m2=false->pr b k i v G->pr b' k i v G)
  (axb:∀ b k k' i v G,Nat.beq i m3=false->(bT.getD i []).contains m3=false->pr b k i v G->pr b k' i v G)
  (H:St N D w0 F G0 G L T a w)
  (hstep:allI (fun i o=>∀ b k L' S a w G1,(∀ x,x∈C->x∈L')->B.contains i=false->Nat.beq i m1=false->Nat.beq i m2=false->Nat.beq i m3=false->S i=false->(∀ j∈bT.getD i [],S j=true)->(∀ k o,G k=some o->G1 k=some o)->St N D w0 F G0 G1 L' T a w->(∀ i d,S i=true->eX l i=some d->∃ v,a.tmps[d]?=some v∧pr b k i v G1) ->
   WL r P l.toArray (fun e a' w'=>e=.normal∧DX N D w0 F G0 G L' T l (pr b k) (dL S i) a' w') [o] a w) 0 l)
  (awM:∀ o b k S a w G1,l[m1]?=some o->S m1=false->(∀ j∈bT.getD m1 [],S j=true)->(∀ k o,G k=some o->G1 k=some o)->St N D w0 F G0 G1 L T a w->(∀ i d,i≠m1->S i=true->eX l i=some d->∃ v,a.tmps[d]?=some v∧pr b k i v G1) ->
   WL r P l.toArray (fun e a' w'=>e=.normal∧DX N D w0 F G0 G L2 T l (pr b k) (dL S m1) a' w') [o] a w)
  (awN:∀ o k S a w G1,l[m2]?=some o->S m2=false->(∀ j∈bT.getD m2 [],S j=true)->(∀ k o,G k=some o->G1 k=some o)->St N D w0 F G0 G1 L2 T a w->(∀ b i d,i≠m2->S i=true->eX l i=some d->∃ v,a.tmps[d]?=some v∧pr b k i v G1) ->
   WL r P l.toArray (fun e a' w'=>e=.normal∧∃ b,DX N D w0 F G0 G ((b,ob) :: L2) T l (pr b k) (dL S m2) a' w') [o] a w)
  (awO:∀ o b S a w G1,l[m3]?=some o->S m3=false->(∀ j∈bT.getD m3 [],S j=true)->(∀ k o,G k=some o->G1 k=some o)->St N D w0 F G0 G1 ((b,ob) :: L2) T a w->(∀ k i d,i≠m3->S i=true->eX l i=some d->∃ v,a.tmps[d]?=some v∧pr b k i v G1) ->
   WL r P l.toArray (fun e a' w'=>e=.normal∧∃ k,DX N D w0 F G0 G (L3 b k) T l (pr b k) (dL S m3) a' w') [o] a w)
  (hend:∀ b k a w G1,(∀ k o,G k=some o->G1 k=some o)->St N D w0 F G0 G1 (L3 b k) T a w->(∀ i d,B.contains i=false->eX l i=some d->∃ v,a.tmps[d]?=some v∧pr b k i v G1)->WL r P l.toArray (fun e a w=>e=.normal∧Q .normal a w) (rH l B) a w)
  (Yt:Nat.blt m2 l.length=true) (Yu:Nat.blt m3 l.length=true):WP r P (.region id l.toArray true) Q a w:=by
 have ajE:m1≠m2:=fun e=>by subst e;rw [Nat.beq_refl] at hne;cases hne
 have ajG:m2≠m3:=fun e=>by subst e;rw [Nat.beq_refl] at ahX;cases ahX
 have ajF:m1≠m3:=fun e=>by subst e;rw [Nat.beq_refl] at hne1;cases hne1
 refine Kv hm bT B hk hB (fun S a w=>(S m2=true->S m1=true)∧(S m3=true->S m2=true)∧∃ b k L',L'=(bif S m3 then L3 b k else bif S m2 then (b,ob) :: L2 else bif S m1 then L2 else L)∧DX N D w0 F G0 G L' T l (pr b k) S a w)
  ⟨fun h=>h,fun h=>h,0,k0,L,M,G,fun _ _ h=>h,H.move H.hp.drew,fun _ _ h=>absurd (show false=true from h) Z⟩ ?_ ?_
 ·rintro i o S a w ho hb aK mg hdesc ⟨awZ,axa,b,k,L',hL,G1,hG,HS,hv⟩
  have hsub:∀ x,x∈C->x∈L':=fun x hx=>by
   rw [hL]
   cases S m3 with
   | true=>exact hC3 b k x hx
   | false=>cases S m2 with
    | true=>exact gI _ (hC2 x hx)
    | false=>cases S m1 with
     | true=>exact hC2 x hx
     | false=>exact hC x hx
  have hno:∀ j,j < l.length->S j=true->(bT.getD j []).contains i=false:=fun j hjl hj=>by
   cases hc:(bT.getD j []).contains i with
   | false=>rfl
   | true =>
    have:=hdesc j hjl (by simpa using hc)
    rw [this] at hj;cases hj
  by_cases h1:i=m1
  ·subst h1
   have hS2:S m2=false:=hdesc m2 (Eq.mp Nat.blt_eq Yt) (by simpa using h12)
   have KT:S m3=false:=hdesc m3 (Eq.mp Nat.blt_eq Yu) (by simpa using ig)
   rw [KT,hS2,aK] at hL
   subst hL
   have h:=awM o b k S a w G1 ho aK mg hG HS fun j d hj hSj hd=>hv j d hSj hd
   have e2:dL S i m2=S m2:=au (fun e=>ajE e.symm)
   have e3:dL S i m3=S m3:=au (fun e=>ajF e.symm)
   refine qy (fun e a' w' ⟨he,hD⟩=>⟨he,fun _=>ay M,fun h=>(by rw [e3,KT] at h;cases h),b,k,_,?_,hD⟩) h
   rw [show dL S i i=true from ay M,e2,e3,hS2,KT]
   rfl
  ·by_cases h2:i=m2
   ·subst h2
    have hS1:S m1=true:=mg m1 (by simpa using h12)
    have KT:S m3=false:=hdesc m3 (Eq.mp Nat.blt_eq Yu) (by simpa using h23)
    rw [KT,aK,hS1] at hL
    subst hL
    have e1:dL S i m1=S m1:=au ajE
    have e3:dL S i m3=S m3:=au (fun e=>ajG e.symm)
    have h:=awN o k S a w G1 ho aK mg hG HS fun b' j d hj hSj hd=>by
     obtain ⟨v,hv1,hv2⟩:=hv j d hSj hd
     exact ⟨v,hv1,Ow b b' k j v _ (wQ hj) (hno j (wS hd) hSj) hv2⟩
    refine qy (fun e a' w' ⟨he,b',hD⟩=>⟨he,fun _=>by rw [e1];exact hS1,fun _=>ay M,b',k,_,?_,hD⟩) h
    rw [show dL S i i=true from ay M,e3,KT];rfl
   ·by_cases h3:i=m3
    ·subst h3
     have hS1:S m1=true:=mg m1 (by simpa using ig)
     have hS2:S m2=true:=mg m2 (by simpa using h23)
     rw [aK,hS2] at hL
     subst hL
     have e1:dL S i m1=S m1:=au ajF
     have e2:dL S i m2=S m2:=au ajG
     have h:=awO o b S a w G1 ho aK mg hG HS fun k' j d hj hSj hd=>by
      obtain ⟨v,hv1,hv2⟩:=hv j d hSj hd
      exact ⟨v,hv1,axb b k k' j v _ (wQ hj) (hno j (wS hd) hSj) hv2⟩
     refine qy (fun e a' w' ⟨he,k',hD⟩=>⟨he,fun _=>by rw [e1];exact hS1,fun _=>by rw [e2];exact hS2,b,k',_,?_,hD⟩) h
     rw [show dL S i i=true from ay M];rfl
    ·have h:=AU hstep i o ho
     rw [gZ] at h
     have e1:dL S i m1=S m1:=au (fun e=>h1 e.symm)
     have e2:dL S i m2=S m2:=au (fun e=>h2 e.symm)
     have e3:dL S i m3=S m3:=au (fun e=>h3 e.symm)
     refine qy (fun e a' w' ⟨he,hD⟩=>⟨he,by rw [e1,e2];exact awZ,by rw [e2,e3];exact axa,b,k,L',?_,hD⟩) (h b k L' S a w G1 hsub hb (wQ h1) (wQ h2) (wQ h3) aK mg hG HS hv)
     rw [e1,e2,e3];exact hL
 ·rintro S a w hall Oi ⟨_,_,b,k,L',hL,G1,hG,HS,hv⟩
  have hs3:S m3=true:=hall m3 (Eq.mp Nat.blt_eq Yu) awL
  rw [hs3] at hL
  subst hL
  exact hend b k a w G1 hG HS fun j d hb hd=>hv j d (hall j (wS hd) hb) hd
end
theorem aDo {z:Int} (h1:0<=z) (h2:z < 256):IntKind.u8.wrap z=z:=by
 simp only [IntKind.wrap,IntKind.bits,IntKind.signed,Hq,Hl,if_false]
 omega
section
variable {N:Nat} {D:List Deferred} {w0:World} {F:Nat->Prop} {G0 G:GH} {L:OL} {T:List (Nat × ah)}
variable {r:Option Nat} {P:Program} {ops:Array Oper} {Q:Exit->Act->World->Prop} {rest:List Oper} {a:Act} {w:World}
variable {d:Nat} {ty:TypeId} {pos:String} {aL:Array Edge} {g:Option (Nat × Bool)}
theorem aB8 {x y:Operand} {t yt:TypeId} {p q:Int} (H:St N D w0 F G0 G L T a w) (hw:Region.wanted ⟨some d,.binOp .sub t x y yt,ty,pos,aL,g⟩ (yielded ops a.tmps)=true) (hx:ev T x=some (.int .u8 p)) (hy:ev T y=some (.int .u8 q)) (h1:0<=p - q) (h2:p - q < 256) (hd:Nat.blt d N=true)
  (k:∀ a',St N D w0 F G0 G L ((d,.int .u8 (p - q)) :: T) a' w->WL r P ops Q rest a' w):WL r P ops Q (⟨some d,.binOp .sub t x y yt,ty,pos,aL,g⟩ :: rest) a w :=
 fI (v:=.int .u8 (p - q)) (w':=w) hw M (by simp [execOp,eqGuard,binOp,Op.intArith,H.ev hx,H.ev hy,dP,aDo h1 h2]) (k _ (H.put hd _ H.hp))
end
end
theorem asy:aR 279:=aS func279 M
theorem Ph:Ty prog 313 1 24 [.slice none 0 0] false:=⟨V,V⟩
theorem agb:aR 94:=aS func94 M
theorem MG:prog.underlying 313=some (.slice 318):=by kernel_rfl
theorem MC:Ty prog 318 3 32 [.string ⟨#[]⟩,.int .i64 0,.bool false] true:=⟨V,V⟩
theorem asB:aR 280:=aS func280 M
theorem NH:dR prog 340 2 2:=⟨V⟩
theorem NI:dR prog 340 3 4:=⟨V⟩
theorem alr:qV prog 318 [(0,1),(1,1),(2,1)] [.string ⟨#[]⟩,.int .i64 0,.bool false]:=⟨V,V⟩
theorem WT:aR 274:=aS func274 M
theorem Rp:dR prog 340 4 5:=⟨V⟩
structure ku where
 lit:ByteArray
 level:Int
 plain:Bool
def ku.dat (x:ku):List Dat:=[.lf (.string x.lit),li x.level,.lf (.bool x.plain)]
abbrev ku.cells (x:ku):List ah:=[.string x.lit,vi x.level,.bool x.plain]
theorem abY {p:Prop} (h:p:=by
 exact ⟨_,_,M,by simp [av,Value.oneCell'],_,_,M,by simp [av,Value.oneCell'],_,_,M,by simp [av,Value.oneCell'],M⟩):p:=h
theorem ajp (G:GH) (x:ku):aX G x.dat x.cells:=by
 simp only [ku.dat,ku.cells,aX]
 exact abY
theorem acY {p:Prop} (h:p:=by
 obtain ⟨_,_,rfl,⟨rfl,_⟩,_,_,rfl,⟨rfl,_⟩,_,_,rfl,⟨rfl,_⟩,rfl⟩:=h
 rfl):p:=h
theorem ajo {G:GH} {x:ku} {cs:List ah} (h:aX G x.dat cs):cs=x.cells:=by
 simp only [ku.dat,aX,av] at h
 exact acY
def Jh (l:List ku):List ah:=(l.map ku.cells).flatten
theorem ajn (l:List ku) (x:ku):Jh (l++[x])=Jh l++x.cells:=by simp [Jh]
structure Cg (b:Nat) (lit:List UInt8) (parts:List ku) (p v q:ah) (Lp Lo:OL):Prop where
 ptr:p=.pointer none∨p=(aH b 2)
 buf:bY 5 1 v lit.length (Lib.byteCells lit) Lo
 prt:bY 318 3 q parts.length (Jh parts) Lp
def zm (lit:List UInt8) (parts:List ku):List ku:=if lit=[] then parts else parts++[⟨⟨lit.toArray⟩,0,false⟩]
theorem anJ {p:Prop} (h:p:=by
 exact Ac HT Hb hG hv (jd aP gy) H M):p:=h
theorem gV {p:Prop} (h:p:=by
 exact absurd hB Z):p:=h
theorem M4 {p:Prop} (h:p:=by
 exact QX V M HT Hb hG (fun j e h1 h2 h3=>hv _ j e h1 h2 h3) (rfl) H):p:=h
theorem abZ {p:Prop} (h:p:=by
 first
  | exact H.hp.lW (L':=iY b s i _ _ _ pl e :: gy.2) (DF _ _) ⟨_,_,_,gy.2,[],by rw [fG],⟨.inl M,bY.nil,by rw [zm,au hne];simpa using Oy⟩⟩
  | exact H.hp.gQ ⟨_,_,_,Lp,Lo,by rw [uE],by
    have h0:lit=[]:=by
     cases lit with
     | nil=>rfl
     | cons x r=>simp at p6
    subst h0;exact ⟨axc,hbuf,by rw [zm,ay M];exact YH⟩⟩):p:=h
theorem zW {p:Prop} (h:p:=by
 intro _ _ _ _ _ _ _ _ hB;exact gV):p:=h
theorem H6 {p:Prop} (h:p:=by
 clear H;intro a H;refine aD ⟨M,?_⟩;exact anJ):p:=h
theorem Vt {p:Prop} (h:p:=by
 intro _ _ _ _ _ _ _ _ _ _ _ hB;exact gV):p:=h
theorem Vy {p:Prop} (h:p:=by
 intro aP gy dU aW a w G1 fE _ _ _ _ aK hc hG HT hv;have H:=HT;clear aK;have Hb:=H.full;have H:=Hb;clear hc;refine kH H (Rm M ?_);exact H6):p:=h
theorem Kj {p:Prop} (h:p:=by
 intro _ _ _ _ _ _ _ _ hB;exact gV):p:=h
set_option maxHeartbeats 1000000 in
theorem Xr (G:GH) (Lp Lo:OL) (w0:World) (b:Nat) (s:ByteArray) (i:Int) (p v q:ah) (pl e:Int) (lit:List UInt8) (parts:List ku) (hR:Cg b lit parts p v q Lp Lo) (hO:gq G (iY b s i p v q pl e :: (Lp++Lo)) w0) (hl:lit.length<=4294967296) (hp:parts.length<=4294967296) :
  Calls prog 274 #[(aH b 0)] w0 (fM w0 G (iY b s i p v q pl e :: (Lp++Lo)) fun u G' L'=>∃ p' v' q' tF jr,L'=iY b s i p' v' q' pl e :: (tF++jr)∧Cg b [] (zm lit parts) p' v' q' tF jr):=by
 obtain ⟨axc,hbuf,YH⟩:=hR;have hml:maxLen=9223372036854775807:=rfl;obtain ⟨A,c,rfl,aiI,aiJ⟩:=hbuf.shape;obtain ⟨B,d,rfl,ait,aiu⟩:=YH.shape;obtain ⟨Lt,uE⟩:∃ x,x=Lp++Lo:=⟨_,M⟩;rw [<- uE] at hO |-;refine jc (N:=25) (T:=[(0,_)]) func274 M ntmps274 M M hO ?_;intro a H;refine kP H (SR fun _ K1=>Rm M (Rk M (Rf NH M ?_)));clear H;intro a H;refine gW asy (Li:=[]) (L:=iY b s i p (.slice A lit.length c) (.slice B parts.length d) pl e :: Lt) H wn M (aCP _ _ _ b s i p A lit.length c B parts.length d pl e (Hp.owns (Li:=[]) H.hp)) M ?_;clear H;rintro v5 _ L5 a w ⟨rfl,rfl,rfl⟩ yh H;dsimp only [List.nil_append] at H;refine kH H (Rc M (Kz K1 (Cd M ?_ ?_))) <;> clear H K1
 ·intro h6 a H
  try have p6:=dT h6
  have hne:lit≠[]:=fun e=>by rw [e] at p6;simp at p6
  subst uE;refine bL (fun _ K2=>?_)
  have jd:UQ (fun (aP:Nat) (gy:(Option Addr × Nat) × OL) (bV:Nat) (v:ah) (G:GH)=>match bV with|0=>v=(aH b 0)|1=>v=(aH b 0)|2=>v=(aH b 0)|3=>v=(aH b 4)|4=>v=.slice B parts.length d|5=>v=(aH b 0)|6=>v=(aH b 0)|7=>v=(aH b 2)|8=>v=.string ⟨lit.toArray⟩|9=>v=.agg (ku.cells ⟨⟨lit.toArray⟩,0,false⟩).toArray|10=>v=.slice (some ⟨aP,0,none⟩) 1 1|11=>v=.slice gy.1.1 (parts.length+1) gy.1.2∧bY 318 3 v (parts.length+1) (Jh (parts++[⟨⟨lit.toArray⟩,0,false⟩])) gy.2|_=>True):=by intro aP gy bV v G G' hm h;(iterate 15 (rcases bV with _|bV;(first|exact h)));exact trivial
  refine V6 (κ:=(Option Addr × Nat) × OL) (((none,0),[])) (hmx) [[],[],[1],[1,2],[1,2,3],[],[5],[5,6],[5,6,7],ra 5 4,ra 5 5,ra 1 10,ra 0 12,ra 0 13,ra 0 14] [12,13,14] V V 8 10 11 Z Z Z Z Z Z Z Z Z [iY b s i p (.slice A lit.length c) (.slice B parts.length d) pl e] (iY b s i p (.slice A lit.length c) (.slice B parts.length d) pl e :: Lp) (.cells (ku.cells ⟨⟨lit.toArray⟩,0,false⟩).toArray 318 (0,0)) (fun b_ k_=>(b_,.cells (ku.cells ⟨⟨lit.toArray⟩,0,false⟩).toArray 318 (0,0)) :: iY b s i p (.slice A lit.length c) (.slice B parts.length d) pl e :: k_.2) (fun x hx=>by rw [qY.1 hx];exact dV) (fun x hx=>by rw [qY.1 hx];exact dV) (fun _ _ x hx=>by rw [qY.1 hx];exact gI _ dV) (fun (aP:Nat) (gy:(Option Addr × Nat) × OL) (bV:Nat) (v:ah) (G:GH)=>match bV with|0=>v=(aH b 0)|1=>v=(aH b 0)|2=>v=(aH b 0)|3=>v=(aH b 4)|4=>v=.slice B parts.length d|5=>v=(aH b 0)|6=>v=(aH b 0)|7=>v=(aH b 2)|8=>v=.string ⟨lit.toArray⟩|9=>v=.agg (ku.cells ⟨⟨lit.toArray⟩,0,false⟩).toArray|10=>v=.slice (some ⟨aP,0,none⟩) 1 1|11=>v=.slice gy.1.1 (parts.length+1) gy.1.2∧bY 318 3 v (parts.length+1) (Jh (parts++[⟨⟨lit.toArray⟩,0,false⟩])) gy.2|_=>True) (fun b b' k i v G hi hc h=>by (iterate 15 (rcases i with _|i;(first|exact h|exact absurd hi Z|exact absurd hc Z)));exact trivial) (fun b k k' i v G hi hc h=>by (iterate 15 (rcases i with _|i;(first|exact h|exact absurd hi Z|exact absurd hc Z)));exact trivial) H ?_ ?_ ?_ ?_ ?_ V V
  ·clear H;refine aB ?_ ?_ ?_ ?_ (aB ?_ ?_ ?_ ?_ (aB ?_ ?_ ?_ ?_ (bN ?_ (bN ?_ (bN ?_ dz)))))
   ·exact Vy
   ·exact Vy
   ·intro aP gy dU aW a w G1 fE _ _ _ _ aK hc hG HT hv;have H:=HT;clear aK;have H:=H.aM (hv 1 8 (hc 1 Z) M) M;have Hb:=H.full;have H:=Hb;clear hc;refine kH H (Rk M ?_);exact H6
   ·intro aP gy dU aW a w G1 fE _ _ _ _ aK hc hG HT hv;have H:=HT;clear aK;have H:=H.aM (hv 2 9 (hc 2 Z) M) M;have Hb:=H.full;have H:=Hb;clear hc;refine kH H (Rf NI M ?_);exact H6
   ·intro aP gy dU aW a w G1 fE _ _ _ _ aK hc hG HT hv;have H:=HT;clear aK;have H:=H.aM (hv 3 10 (hc 3 Z) M) M;have Hb:=H.full;have H:=Hb;clear hc;refine sF Ph H wn M (H.hp.BF (fE _ dV) M) M ?_;exact H6
   ·exact Vy
   ·intro aP gy dU aW a w G1 fE _ _ _ _ aK hc hG HT hv;have H:=HT;clear aK;have H:=H.aM (hv 5 12 (hc 5 Z) M) M;have Hb:=H.full;have H:=Hb;clear hc;refine kH H (Rk M ?_);exact H6
   ·intro aP gy dU aW a w G1 fE _ _ _ _ aK hc hG HT hv;have H:=HT;clear aK;have H:=H.aM (hv 6 13 (hc 6 Z) M) M;have Hb:=H.full;have H:=Hb;clear hc;refine kH H (Rf NH M ?_);exact H6
   ·intro _ _ _ _ _ _ _ _ _ hB;exact gV
   ·intro aP gy dU aW a w G1 fE _ _ _ _ aK hc hG HT hv;have H:=HT;clear aK;have H:=H.aM (hv 8 15 (hc 8 Z) M) M;have Hb:=H.full;have H:=Hb;clear hc;refine jM alr [_,_,_] H wn M M M M ?_;exact H6
   ·intro _ _ _ _ _ _ _ _ _ _ hB;exact gV
   ·exact Vt
   ·exact Kj
   ·exact Kj
   exact zW
  ·clear H;intro o_ aP gy aW a w G1 lU _ hc hG HT hv;obtain rfl:_=o_:=Option.some.inj lU;clear lU;have H:=HT;have H:=H.aM (hv 7 14 Z (hc 7 Z) M) M;have Hb:=H.full;have H:=Hb;clear hc;refine gW agb (Li:=[]) (L:=iY b s i p (.slice A lit.length c) (.slice B parts.length d) pl e :: (Lp++Lo)) H wn M (aC8 _ _ _ _ b s i p _ B parts.length d pl e lit (Hp.owns (Li:=[]) H.hp) hbuf hne) M ?_;clear H;rintro v15 GN UG a w ⟨rfl,rfl⟩ Eb H;dsimp only [List.nil_append] at H;refine aD ⟨M,?_⟩;exact Bc V (jd aP gy) M HT Hb hG (fun j e h1 h2 h3=>hv j e h1 h2 h3) Eb (rfl) H
  ·clear H;intro o_ gy aW a w G1 lU _ hc hG HT hv;obtain rfl:_=o_:=Option.some.inj lU;clear lU;have H:=HT;have H:=H.aM (hv 0 9 16 Z (hc 9 Z) M) M;have Hb:=H.full;have H:=Hb;clear hc;refine iV MG MC [_,_,_] [_,_,_] H wn M M M M M (by intro i q h;match i,h with|0,h=>exact h|n+1,h=>simp at h) M M ?_;clear H;intro b17 a w ahu H;refine aD ⟨M,b17,?_⟩;exact M4
  ·clear H;intro o_ aP aW a w G1 lU _ hc hG HT hv;obtain rfl:_=o_:=Option.some.inj lU;clear lU;have H:=HT;have H:=H.aM (hv (((none,0),[])) 4 11 Z (hc 4 Z) M) M;have H:=H.aM (hv (((none,0),[])) 10 17 Z (hc 10 Z) M) M;have Hb:=H.full;have H:=Hb;clear hc;refine ny (Li:=[_,_]) (Lo:=Lp) (news:=ku.cells ⟨⟨lit.toArray⟩,0,false⟩) MG MC M M H wn M M YH M (H.hp.dG 0 M M) M O O M ?_;clear H;intro v18 amZ a w Oy H;obtain ⟨A18,c18,rfl,-,-⟩:=Oy.shape;rw [<- ajn] at Oy;refine aD ⟨M,((A18,c18),amZ),?_⟩;exact QX V M HT Hb hG (fun j e h1 h2 h3=>hv _ j e h1 h2 h3) (⟨M,Oy⟩) H
  clear H;intro b17 gy a w G nO H hv;have H:=H.aM (hv 0 7 M M) M;obtain ⟨u18,YT,FP⟩:=hv 11 18 Z M;(try dsimp only at FP);obtain ⟨rfl,Oy⟩:=FP;have H:=H.gU YT;clear hv;refine kH H (Rk M (Rf NI M ?_));clear H;intro a H;refine bJ Ph 1 (vs:=[_]) H wn M ?_;clear H;intro w H;refine aD ⟨M,?_⟩;refine K2 _ _ ?_;clear K2;refine kP H (SC (Rm M (Rk M (Rf NH M ?_))));clear H;intro a H;refine gW asB (Li:=[_]) (L:=iY b s i p (.slice A lit.length c) (.slice gy.1.1 (parts.length+1) gy.1.2) pl e :: gy.2) H wn M (aC6 _ _ _ b s i p A lit.length c gy.1.1 (parts.length+1) gy.1.2 pl e (Hp.owns (Li:=[_]) H.hp)) M ?_;clear H;rintro v24 _ L24 a w ⟨rfl,rfl⟩ La H;dsimp only [lca,bM] at H;refine aD ?_;refine (leave0 H results274 ?_).2
  exact abZ
 intro h6 a H
 try have p6:=dF h6
 refine iD ?_;refine (leave0 H results274 ?_).2
 exact abZ
theorem akf (G:GH) (Lp Lo:OL) (w0:World) (b:Nat) (s:ByteArray) (i:Int) (p v q:ah) (pl e:Int) (lit:List UInt8) (parts:List ku) (ch:Int) (plain:Bool) (hR:Cg b lit parts p v q Lp Lo) (hO:gq G (iY b s i p v q pl e :: (Lp++Lo)) w0) (hl:lit.length<=4294967296) (hp:parts.length<=4294967290) (hc:49<=ch∧ch<=57) (hpl:0<=pl∧pl<=4294967296) :
  Calls prog 278 #[(aH b 0),.int .u8 ch,.bool plain] w0 (fM w0 G (iY b s i p v q pl e :: (Lp++Lo)) fun u G' L'=>∃ p' v' q' tF jr,L'=iY b s i p' v' q' (pl+1) e :: (tF++jr)∧Cg b [] (zm lit parts++[⟨⟨#[]⟩,ch - 48,plain⟩]) p' v' q' tF jr):=by
 have hml:maxLen=9223372036854775807:=rfl
 have hfl:(zm lit parts).length<=parts.length+1:=by unfold zm;split <;> simp
 obtain ⟨A,c,rfl,aiI,aiJ⟩:=hR.buf.shape;obtain ⟨B,d,rfl,ait,aiu⟩:=hR.prt.shape;obtain ⟨Lt,uE⟩:∃ x,x=Lp++Lo:=⟨_,M⟩;rw [<- uE] at hO |-;refine jc (N:=29) (T:=[(0,_),(1,_),(2,_)]) func278 M ntmps278 M M hO ?_;intro a H;refine kP H (SR fun _ K1=>Rm M ?_);clear H;intro a H;refine gW WT (Li:=[]) (L:=iY b s i p (.slice A lit.length c) (.slice B parts.length d) pl e :: Lt) H wn M (by subst uE;exact Xr _ Lp Lo _ b s i p _ _ pl e lit parts hR (Hp.owns (Li:=[]) H.hp) hl O) M ?_;clear H;rintro v7 G7 L7 a w ⟨p',v',q',tF,jr,rfl,NY⟩ CP H;dsimp only [List.nil_append] at H;obtain ⟨A7,c7,rfl,-,-⟩:=NY.buf.shape;obtain ⟨B7,d7,rfl,-,-⟩:=NY.prt.shape;refine K1 _ _ ?_;clear K1;refine kP H (SR fun _ K2=>Rm M (Rm M (Rk M (bC NI Ph 0 M M (Rm M ?_)))));clear H;intro a H;refine aB8 H wn M M O O M ?_;clear H;intro a H;refine Df _ mX Pn H wn M M M ?_;clear H;intro a H;rw [I9 O O] at H;refine kH H (Rm M ?_);clear H;intro a H;refine jM alr [_,_,_] H wn M M M M ?_;clear H;intro a H;refine iV MG MC [_,_,_] [_,_,_] H wn M M M M M (by intro i q h;match i,h with|0,h=>exact h|n+1,h=>simp at h) M M ?_;clear H;intro b18 a w RL H;have H:=(St.cast H (show _=[_,_]++(tF++jr) from rfl)).perm (List.Perm.append_left _ uU);have H:=St.un H;refine ny (Li:=[_,_]++jr) (Lo:=tF) (news:=ku.cells ⟨⟨#[]⟩,ch - 48,plain⟩) MG MC M M H wn M M NY.prt M (H.hp.dG 0 M M) M O O M ?_;clear H;intro v19 abn a w FU H;obtain ⟨JJ,c19,rfl,-,-⟩:=FU.shape;rw [<- ajn] at FU;have H:=H.assoc.perm (List.Perm.append_left _ uU);dsimp only [lca,bM] at H;refine kH H (Rk M (Rf NI M ?_));clear H;intro a H;refine bJ Ph 1 (vs:=[_]) H wn M ?_;clear H;intro w H;refine K2 _ _ ?_;clear K2;refine kP H (SC (Rm M (Rk M (bC Rp aF 1 M M (Rd M (Rk M (Rf Rp M ?_)))))));clear H;intro a H;refine bJ aF 1 (vs:=[_]) H wn M ?_;clear H;intro w H;refine aD ?_;refine (leave0 H results278 ?_).2;exact H.hp.lW (L':=iY b s i _ _ _ (pl+1) e :: (abn++jr)) (DF _ _) ⟨_,_,_,abn,jr,M,NY.ptr,NY.buf,by simpa using FU⟩
section
section
variable {N:Nat} {D:List Deferred} {w0:World} {F:Nat->Prop} {G0 G:GH} {L:OL} {T Xs:List (Nat × ah)}
variable {r:Option Nat} {P:Program} {Q:Exit->Act->World->Prop} {l:List Oper} {a a':Act} {w w':World}
abbrev Ent:Type:=Nat × ah × Nat × Bool
def abh (ent:List Ent) (S:Nat->Bool) (a:Act):Prop:=∀ e∈ent,S e.2.2.1=e.2.2.2->a.tmps[e.1]?=some e.2.1
theorem abh.at {ent:List Ent} {S:Nat->Bool} {a:Act} (h:abh ent S a) (k:Nat) {t:Nat} {v:ah} {j:Nat} {b:Bool} (hk:ent[k]?=some (t,v,j,b)) (hS:S j=b):a.tmps[t]?=some v:=h _ (lZ hk) hS
theorem aB7 {ops:Array Oper} {rest:List Oper} {d:Nat} {ty:TypeId} {pos:String} {aL:Array Edge} {g:Option (Nat × Bool)} {t:TypeId} {x y:Operand} {s:ByteArray} {ky:IntKind} {p:Int} (hi:Nat) (ht:P.underlying t=some .string) (H:St N D w0 F G0 G L T a w) (hw:Region.wanted ⟨some d,.slice t x none (some y) none,ty,pos,aL,g⟩ (yielded ops a.tmps)=true) (hx:ev T x=some (.string s)) (hy:ev T y=some (.int ky p)) (hp:p=(hi:Int)) (h1:hi<=s.size) (hd:Nat.blt d N=true)
  (k:∀ a',St N D w0 F G0 G L ((d,.string (s.extract 0 hi)) :: T) a' w->WL r P ops Q rest a' w):WL r P ops Q (⟨some d,.slice t x none (some y) none,ty,pos,aL,g⟩ :: rest) a w:=by
 subst hp
 have hr:=run_slice_string_h (P:=P) w t s ht ky (hi:Int) O O
 rw [Int.toNat_natCast] at hr
 refine fI (v:=.string (s.extract 0 hi)) (w':=w) hw M ?_ (k _ (H.put hd _ H.hp))
 simp only [execOp,H.ev hx,uT,Option.map_none,H.ev hy,dP,run_sliceAt_string w t _ _ _ _ ht,hr,nY,rR]
end
end
end Go.Proofs.YtdiflmikikiedaaGreat
