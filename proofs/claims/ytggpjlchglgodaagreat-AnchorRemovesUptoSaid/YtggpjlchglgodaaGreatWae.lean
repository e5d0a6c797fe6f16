/-
  What the claim stands on, part 5: Sl Upo Rg16 Rws Itm Its Rvs Sgn Chd Ck13 Vc Frs Hds Np13 Nq13 Ccr Dp Ni13 Mn Lay Srt Ms Ids Usd Rf0 Iat Bi13 Dlr Ccl Dnn Cst.
-/
import Derived.Test.YtggpjlchglgodaaGreatWad
import Derived.Shelf.SlIterI.Nil
import Derived.Shelf.SortM.Plain
import Derived.Shelf.SortM.SortNone
namespace Go.Proofs.YtggpjlchglgodaaGreat
set_option linter.all false
open Go.Proofs.Tryz
open Go.RowKit
theorem afl:aW 72:=aY func72 O
theorem Qw:aW 73:=aY func73 O
def En (l:List ak) (fr to:Int):Int:=if zk l=0 then (if fr < 0∨to < fr∨sI l < to then 2 else 0) else zk l
theorem abJ {p:Prop} (h:p:=by
 first
  | (rw [jZ];done)
  | (rw [cu];done)):p:=h
theorem Vz {p:Prop} (h:p:=by
 intro a H;refine lr H results72 O ?_
 have h0:zk l=0:=by omega
 refine H.rt ?_;rw [En,aH h0]
 exact abJ):p:=h
theorem adR (G:GH) (w0:World) (hG:Hold G w0) (l:List ak) (fr to:Int) (v:ah) (hv:av G (.sl 11 (l.map ak.dat)) v) (hz:aP l<=4294967296) :
  Calls prog 72 #[v,vi fr,vi to] w0 (bG w0 G fun u G'=>u=vi (En l fr to)):=by
 refine eN [(0,_),(1,_),(2,_)] func72 O ntmps72 O O hG ?_;intro a H;refine kP H (SR fun _ K1=>au K1 O (SR fun _ K2=>Rm O ?_));clear H K1;intro a H;refine s_call afo H wn O (aiE _ _ H.ro l v hv hz) O ?_;clear H;rintro v11 _ a w ⟨rfl,rfl⟩ - H;refine kH H (Rm O ?_);clear H;intro a H;(iterate 2 refine ko H wn O O O ?_;clear H;intro a H);refine kH H (Ra O (au K2 O (SQ fun _ K3=>SB (SR fun _ K4=>Rm O (Rc O (au K4 O (Cd O ?_ ?_))))))) <;> clear H K2 K4
 ·intro eD a H
  try have lJ:=dT eD
  exact kP H (SR fun _ K5=>Rm O (au K5 O (LR results72 O fun H=>H.rt (by rw [En,ay lJ]))))
 intro eD a H
 try have lJ:=dF eD
 refine kP H (SR fun _ K6=>Rm O (Rc O (Rm O (Sp 21 O ?_ ?_)))) <;> clear H
 ·intro h21 a H
  try have sK:=dT h21
  refine kH H (bg h21 O (Pt h21 O (Rm O (bg O O (Pt O O (au K6 O (Ct O O (SR fun _ K7=>au K7 O ?_))))))));clear H K6 K7;exact Vz
 intro h21 a H
 try have sK:=dF h21
 refine kH H (YM h21 O (YM h21 O (YC h21 O (Pf h21 O (Rm O (Sp 26 O ?_ ?_)))))) <;> clear H
 ·intro iY a H
  try have p26:=dT iY
  refine kH H (bg iY O (Pt iY O (au K6 O (Ct O O (SR fun _ K8=>au K8 O ?_)))));clear H K6 K8;exact Vz
 intro iY a H
 try have p26:=dF iY
 refine kH H (YM iY O (YM iY O (YC iY O (Pf iY O (au K6 O (Cd O ?_ ?_)))))) <;> clear H K6
 ·intro h18 a H
  try have qw:=dT h18
  refine kP H (SR fun _ K9=>au K9 O ?_);clear H K9;exact Vz
 intro h18 a H
 try have qw:=dF h18
 refine kP H (Kc K3 (SR fun _ aT=>au aT O ?_));clear H K3 aT;intro a H;refine lr H results72 O ?_
 have h0:zk l=0:=by omega
 refine H.rt ?_;rw [En,aH h0]
 exact abJ
def aav (m:List ak):Prop:=Me m∧∀ x∈m,aau x
theorem OU:∀ {m l:List ak},m.Sublist l->aP m<=aP l
 | _,_,.slnil=>fD _
 | _,_,.cons a h=>by have:=OU h;simp only [aP,eP,eZ] at *;omega
 | _,_,.cons_cons a h=>by have:=OU h;simp only [aP,eP,eZ] at *;omega
theorem Oo:∀ (l:List ak) (o:Nat),(gL o l).map (·.2)=l
 | [],_=>rfl
 | x :: l,o=>by simp [gL,Oo l]
theorem axO (t:Int) (l:List ak):(vP t l).Sublist l:=by
 have h:(lA t (gL 0 l)).Sublist ((gL 0 l).map (·.2)):=List.Sublist.map _ List.filter_sublist
 rwa [Oo] at h
theorem aAg (t:Int) (l:List ak):(BL t l).Sublist l:=by
 have h:(rA t (gL 0 l)).Sublist ((gL 0 l).map (·.2)):=List.Sublist.map _ List.filter_sublist
 rwa [Oo] at h
def F6 (t:Int) (l:List ak):Prop:=∀ a∈gL 0 l,xH t a=true∨t<=a.1
theorem aBG (G:GH) (w0:World) (hG:Hold G w0) (l:List ak) (fr to:Int) (v:ah) (hv:av G (.sl 11 (l.map ak.dat)) v) (hz:aP l<=1073741824) (hr:En l fr to=0)
  (h1:F6 to l) (h2:F6 fr (vP to l)) (hp:aav (BL fr (vP to l))) :
  Calls prog 88 #[v,vi fr,vi to] w0 (bG w0 G fun u G'=>∃ x,u=.tuple #[x,vi 0]∧av G' (.sl 11 ((BL fr (vP to l)).map ak.dat)) x):=by
 have z1:=OU (axO to l);have z2:=OU (aAg fr (vP to l));refine eN [(0,_),(1,_),(2,_)] func88 O ntmps88 O O hG ?_;intro a H;refine kP H (SR fun _ K1=>Ra O (au K1 O (SQ fun _ K2=>SR fun _ K3=>Rm O (Rm O (Rm O ?_)))));clear H K1;intro a H;refine s_call afl H wn O (adR _ _ H.ro l fr to v hv V) O ?_;clear H;rintro v16 yj a w rfl zX H;rw [hr] at H;refine kH H (au K3 O (SR fun _ K4=>Rm O (Rc O (Kz K4 (Cd O ?_ ?_))))) <;> clear H K3 K4
 ·intro h18 a H
  exact absurd h18 Q1
 intro h18 a H
 try have qw:=dF h18
 refine kP H (Kc K2 (SR fun _ K5=>Rm O (Rm O ?_)));clear H K2;intro a H;refine s_call Qw H wn O (Qp _ _ H.ro l to v (hv.mono zX) hz h1) O ?_;clear H;rintro v23 O6 a w ⟨x,y,rfl,hx,hy⟩ vK H;refine kH H (Rm O ?_);clear H;intro a H;(iterate 2 refine ko H wn O O O ?_;clear H;intro a H);refine kH H (Ra O (au K5 O (SR fun _ K6=>Rm O (Rm O ?_))));clear H K5;intro a H;refine s_call Qw H wn O (Qp _ _ H.ro (vP to l) fr x hx V h2) O ?_;clear H;rintro v29 I9 a w ⟨x2,y2,rfl,hx2,hy2⟩ Ny H;refine kH H (Rm O ?_);clear H;intro a H;(iterate 2 refine ko H wn O O O ?_;clear H;intro a H);refine kH H (Ra O (au K6 O (SR fun _ K7=>Rm O ?_)));clear H K6;intro a H;refine s_call JL H wn O (ayX _ _ H.ro _ y2 hy2 hp.1 hp.2 V) O ?_;clear H;rintro v33 Ua a w ahx Rp H;obtain ⟨A33,n33,c33,rfl⟩:=ahx.form;refine kH H (Ra O (au K7 O ?_));clear H K7;intro a H;refine gu ?_;refine (jQ H results88 (.cons (fE H O) (.cons (fE H O) .nil)) ?_).1;exact H.rt ⟨_,O,ahx⟩
theorem ajt:∀ {l:List ak} {x:ak},fq l->x∈l->iU x=0
 | y :: l,x,h,hx=>by
  obtain ⟨C,body,note,t,s,s',e⟩:=h;rw [jg] at e;obtain ⟨e1,e⟩:=jG e
  rcases iD.1 hx with rfl|hx
  ·have e2:fu C body note t x s=(0,(fu C body note t x s).2):=Prod.ext e1 O
   generalize (fu C body note t x s).2=s2 at e2
   rw [RN] at e2;exact (jG e2).1
  exact ajt ⟨C,body,note,t,_,_,e⟩ hx
theorem aph:∀ b:Fin 256,vo .and .u8 (b.val:Int) 192=128->128<=b.val∧b.val < 194:=by decide +kernel
theorem atl {s:ByteArray} (hv:ny s=true) (hs:0 < s.size):¬ vo .and .u8 (gN s 0) 192=128:=by
 intro h;rw [nJ hs] at h;obtain ⟨h1,h2⟩:=aph ⟨_,UInt8.toNat_lt _⟩ h;dsimp only at h1 h2
 unfold ny at hv
 rw [kX,dif_pos hs] at hv
 have hd:(jY s 0).2.2=false:=by
  unfold jY
  simp only [nJ hs]
  rw [aH (by simp only [wW];rw [cu,jZ])]
 rw [dif_neg (by rw [hd];decide)] at hv
 simp at hv
theorem alq {l:List ak} {x:ak} (h:fq l) (hx:x∈l):1<=eG x:=by
 have hf:=ajt h hx;have hv:=(h.mem hx).txt
 unfold eG
 by_cases h1:x.kind=1
 ·rw [aH h1]
  unfold iU at hf
  split at hf
  ·cases hf
  split at hf
  ·cases hf
  split at hf
  ·cases hf
  split at hf
  ·cases hf
  rename_i h2
  rw [lT (Or.inl h1),Jk] at h2
  have hs:0 < x.text.size:=by
   rcases Nat.eq_zero_or_pos x.text.size with h0|h0
   ·exfalso;apply h2
    have:x.text=⟨#[]⟩:=by
     apply ByteArray.ext
     exact Array.eq_empty_of_size_eq_zero h0
    rw [this];unfold rZ;exact beq_self_eq_true _
   exact h0
  have hb:=atl hv hs
  unfold ru
  rw [aH hv,lF,aH hs,ay hb]
  omega
 rw [ay h1];exact fD _
theorem Oz:∀ p q:List ak,fU (p++q)=fU p+fU q
 | [],q=>by rw [gJ,fU,fO]
 | x :: p,q=>by rw [iT,fU,fU,Oz p q,Nat.add_assoc]
theorem Si:∀ (o:Nat) (p q:List ak),gL o (p++q)=gL o p++gL (o+fU p) q
 | _,[],q=>by rw [gJ,gL,fU,wB];rfl
 | o,x :: p,q=>by rw [iT,gL,gL,Si (o+eG x) p q,fU,iT,Nat.add_assoc]
theorem Sj:∀ {l:List ak} {o:Nat} {a:Nat × ak},a∈gL o l->o<=a.1∧a.1+eG a.2<=o+fU l∧a.2∈l
 | [],_,_,h=>by cases h
 | x :: l,o,a,h=>by
  rw [gL] at h;rw [fU]
  rcases iD.1 h with rfl|h
  ·exact ⟨fD _,by dsimp only;omega,eT⟩
  obtain ⟨h1,h2,h3⟩:=Sj h;exact ⟨V,V,gH _ h3⟩
theorem WO {p:List ak} {a:Nat × ak} (h:a∈gL 0 p):xH (fU p:Nat) a=true:=by
 have:=Sj h;exact lT V
theorem aga {p q:List ak} (hq:∀ y∈q,1<=eG y) {a:Nat × ak} (h:a∈gL (0+fU p) q):xH (fU p:Nat) a=false:=by
 have h1:=Sj h;have h2:=hq _ h1.2.2;exact oP V
theorem left_at {p q:List ak} (hq:∀ y∈q,1<=eG y):vP (fU p:Nat) (p++q)=p:=by
 unfold vP lA
 rw [Si,List.filter_append,List.filter_eq_self.2 fun a ha=>WO ha,List.filter_eq_nil_iff.2 fun a ha=>by rw [aga hq ha];decide,jV,Oo]
theorem aAh {p q:List ak} (hq:∀ y∈q,1<=eG y):BL (fU p:Nat) (p++q)=q:=by
 unfold BL rA
 rw [Si,List.filter_append,List.filter_eq_nil_iff.2 fun a ha=>by rw [WO ha];decide,List.filter_eq_self.2 fun a ha=>by rw [aga hq ha];rfl,gJ,Oo]
theorem aei (p q:List ak):F6 (fU p:Nat) (p++q):=by
 intro a ha;rw [Si] at ha
 rcases iP.1 ha with h|h
 ·exact .inl (WO h)
 exact .inr (by have:=(Sj h).1;omega)
def TS (t:Nat) (l:List ak) (a:cZ):Prop:=∃ (p:List ak) (x:ak) (q:List ak),l=p++x :: q∧x.kind=8∧x.id=a.id∧x.code=a.code∧x.text=a.name∧a.at_=((t+fU p:Nat):Int)
def uf (L:List gF) (a:cZ):Prop:=∃ F∈L,F.id=a.flow∧fq F.items∧TS 0 F.items a
theorem uf.left {L M:List gF} {a:cZ} (h:uf L a):uf (L++M) a:=by obtain ⟨F,h1,h2⟩:=h;exact ⟨F,List.mem_append_left _ h1,h2⟩
theorem uf.right {L M:List gF} {a:cZ} (h:uf M a):uf (L++M) a:=by obtain ⟨F,h1,h2⟩:=h;exact ⟨F,List.mem_append_right _ h1,h2⟩
theorem uf.cons {F:gF} {M:List gF} {a:cZ} (h:uf M a):uf (F :: M) a:=uf.right (L:=[F]) h
mutual
theorem ank (g:Int) (t:Nat) (note:Bool) (tt:Int) (a:cZ):∀ x:ak,AA x->a∈qC g t x->(g=a.flow∧x.kind=8∧x.id=a.id∧x.code=a.code∧x.text=a.name∧a.at_=(t:Int))∨uf (qQ note tt x) a
 | .mk k c i tx h fl r,hx,ha=>by
  have hf:=PK i 0 true tt a fl hx.fl;have hr:=abd note tt a r hx.rw;have hok:=hx.fl;rw [qC] at ha;rw [qQ]
  rcases iP.1 ha with ha|ha
  ·by_cases h8:k=8
   ·rw [aH h8,qX] at ha;subst ha;exact .inl ⟨O,h8,O,O,O,O⟩
   rw [ay h8] at ha;cases ha
  refine .inr ?_
  rcases iP.1 ha with ha|ha
  ·by_cases h6:k=6
   ·rw [aH h6] at ha |-
    rcases hf ha with ⟨e,h2⟩|h2
    ·exact ⟨_,eT,e,hok,h2⟩
    exact h2.cons
   rw [ay h6] at ha;cases ha
  by_cases h7:k=7
  ·rw [aH h7] at ha;rw [cu,aH h7];exact hr ha
  rw [ay h7] at ha;cases ha
theorem PK (g:Int) (t:Nat) (note:Bool) (tt:Int) (a:cZ):∀ l:List ak,fq l->a∈dx g t l->(g=a.flow∧TS t l a)∨uf (iO note tt l) a
 | [],_,ha=>by rw [dx] at ha;cases ha
 | x :: l,hl,ha=>by
  obtain ⟨hx,hl⟩:=hl.head;have h1:=ank g t note tt a x hx;have h2:=PK g (t+n1 x) note tt a l hl;rw [dx] at ha;rw [iO]
  rcases iP.1 ha with ha|ha
  ·rcases h1 ha with ⟨e,h3,h4,h5,h6,h7⟩|h3
   ·exact .inl ⟨e,[],x,l,O,h3,h4,h5,h6,by rw [h7];rfl⟩
   exact .inr h3.left
  rcases h2 ha with ⟨e,p,y,q,h3,h4,h5,h6,h7,h8⟩|h3
  ·refine .inl ⟨e,x :: p,y,q,by rw [h3];rfl,h4,h5,h6,h7,?_⟩;rw [h8,hx.n1,fU,Nat.add_assoc]
  exact .inr h3.right
theorem abd (note:Bool) (tt:Int) (a:cZ):∀ l:List aM,(∀ r∈l,∀ c∈r.cells,fq c.flow)->a∈jC l->uf (mR note tt l) a
 | [],_,ha=>by rw [jC] at ha;cases ha
 | x :: l,hl,ha=>by
  rw [jC] at ha;rw [mR]
  rcases iP.1 ha with ha|ha
  ·exact (anl note tt a x (hl x eT) ha).left
  exact (abd note tt a l (fun r hr=>hl r (gH _ hr)) ha).right
theorem anl (note:Bool) (tt:Int) (a:cZ):∀ x:aM,(∀ c∈x.cells,fq c.flow)->a∈uY x->uf (sO note tt x) a
 | .mk h cs,hx,ha=>by
  rw [uY] at ha;rw [sO];exact abb note tt a cs hx ha
theorem abb (note:Bool) (tt:Int) (a:cZ):∀ l:List aN,(∀ c∈l,fq c.flow)->a∈kE l->uf (nA note tt l) a
 | [],_,ha=>by rw [kE] at ha;cases ha
 | x :: l,hl,ha=>by
  rw [kE] at ha;rw [nA]
  rcases iP.1 ha with ha|ha
  ·exact (anj note tt a x (hl x eT) ha).left
  exact (abb note tt a l (fun c hc=>hl c (gH _ hc)) ha).right
theorem anj (note:Bool) (tt:Int) (a:cZ):∀ x:aN,fq x.flow->a∈uX x->uf (qP note tt x) a
 | .mk i h fl,hx,ha=>by
  rw [uX] at ha;rw [qP];have hok:fq fl:=hx
  rcases PK i 0 note (tt+1) a fl hok ha with ⟨e,h2⟩|h2
  ·exact ⟨_,eT,e,hok,h2⟩
  exact h2.cons
end
theorem amY {l:List ak} (h:yx l) {a:cZ} (ha:a∈dx 0 0 l):∃ L,uz l a.flow=some L∧fq L∧TS 0 L a:=by
 have h1:uf (mI l) a:=by
  rcases PK 0 0 false 0 a l h.ok ha with ⟨e,h2⟩|h2
  ·exact ⟨_,eT,e,h.ok,h2⟩
  exact h2.cons
 obtain ⟨F,hF,e,h2,h3⟩:=h1;refine ⟨F.items,?_,h2,h3⟩
 unfold uz
 rw [<- e,QG h.ids hF]
 rfl
section
theorem Qu:aW 55:=aY func55 O
theorem Wo:aW 207:=aY func207 O
theorem M4:aW 57:=aY func57 O
variable {us:List Int}
theorem Q6 (G:GH) (L:OL) (w0:World) (st:List cB) (li:List fK) (rv:List dw) (b ms ml mr mb mu:Nat) (n:Int) (hck:wY us G st li rv ms ml mr mu) (hO:fM G (gU b ms ml mr mb mu n :: L) w0)
  (e:Int) (h:fH) (p d l:ah) (hh:jI G h p d l) (hz:oN h<=4294967296) :
  Calls prog 55 #[(aJ b 0),vi e,vJ h p d l] w0 (fB w0 G (gU b ms ml mr mb mu n :: L) fun v G' L'=>G=G'∧L'=gU b ms ml mr mb mu n :: L∧v=vi (iw (bH us st li rv) e h)):=by
 have hm:=GH.Jj G (o:=(gU b ms ml mr mb mu n).2) (hO.sep _ eT);exact (avr (G.add b (gU b ms ml mr mb mu n).2) w0 hO.add st li rv b ms ml mr mb mu n (hck.mono hm) (GH.Gp _ _ _) e h p d l (hh.mono hm) hz).mono fun _ _=>azZ (b:=b) (o:=(gU b ms ml mr mb mu n).2) (R':=fun v=>v=vi (iw (bH us st li rv) e h)) hO fun _ _ h=>h
abbrev OX (b ms ml mr mb mu:Nat) (L:OL) (r:CR):ah->OL->Prop:=fun u L'=>∃ s:CS,u=vi r.1∧L'=gU b ms ml mr mb mu s.n :: (mb,fG (gB s.bL)) :: L∧(r.1=0->s=r.2)
def Jb (us:List Int) (m:Nat):Prop:=∀ (G:GH) (L:OL) (w0:World) (st:List cB) (li:List fK) (rv:List dw) (b ms ml mr mb mu:Nat) (s:CS) (l:List ak) (v:ah) (body note:Bool) (t:Int),
 wY us G st li rv ms ml mr mu->fM G (gU b ms ml mr mb mu s.n :: (mb,fG (gB s.bL)) :: L) w0->av G (.sl 11 (l.map ak.dat)) v->aP l < m->0<=t->t<=4->0<=s.n->s.n+(aP l:Nat)<=1099511627776 ->
 Calls prog 57 #[(aJ b 0),v,.agg #[.bool body,.bool note,vi t]] w0 (fB w0 G (gU b ms ml mr mb mu s.n :: (mb,fG (gB s.bL)) :: L) fun u G' L'=>G=G'∧OX b ms ml mr mb mu L (jg (bH us st li rv) body note t l s) u L')
theorem rows_ok {m:Nat} (ih:Jb us m) (hm:m<=4294967296) (Gt:GH) (L:OL) (w0:World) (st:List cB) (li:List fK) (rv:List dw) (b ms ml mr mb mu:Nat) (s:CS) (l:List aM) (v:ah) (note:Bool) (t:Int)
  (hck:wY us Gt st li rv ms ml mr mu) (hO:fM Gt (gU b ms ml mr mb mu s.n :: (mb,fG (gB s.bL)) :: L) w0) (hv:av Gt (.sl 6 (l.map aM.dat)) v) (hz:gq l < m) (ht0:0<=t) (Ib:t<=4) (hs0:0<=s.n) (hs1:s.n+(gq l:Nat)<=1099511627776) :
  Calls prog 208 #[(aJ b 0),v,.agg #[.bool false,.bool note,vi t]] w0 (fB w0 Gt (gU b ms ml mr mb mu s.n :: (mb,fG (gB s.bL)) :: L) fun u G' L'=>OX b ms ml mr mb mu L (mO l.length (fun s=>iR (bH us st li rv) note t l s) s) u L'):=by
 obtain ⟨A,c,rfl,hc1,hc2,hg⟩:=hv.slice;rw [bR] at *;have hll:=F4 l;refine iB (N:=77) (T:=[(0,_),(1,_),(2,_)]) func208 O ntmps208 O O hO ?_;intro a H;refine dH (fun _ K1=>?_);refine eB (cs:=[_,_,_]) H wn O O O ?_;clear H;intro b5 a w hb5 H;refine kH H (au K1 O (SQ fun _ K2=>SR fun _ K3=>Rm O (Rl jS O (Rc O (Kz K3 (Cd O ?_ ?_)))))) <;> clear H K1 K3
 ·intro cK a H
  try have kI:=dT cK
  refine bP (fun _ K4=>?_);have hE:mO l.length (fun s=>iR (bH us st li rv) note t l s) s=(11,s):=jZ;exact kP H (SC (aZ K4 O (LR results208 O fun H=>H.hp.kJ (L':=gU b ms ml mr mb mu s.n :: (mb,fG (gB s.bL)) :: L) (by repeat (first|exact lV _|apply List.Sublist.cons)) ⟨s,by rw [hE],O,fun h=>by rw [hE]⟩)))
 intro cK a H
 try have kI:=dF cK
 refine kP H (Kc K2 (SQ fun _ K5=>SR fun _ K6=>Rm O (Rl jS O (Rc O (Kz K6 (Cd O ?_ ?_)))))) <;> clear H K2 K6
 ·intro h20 a H
  try have BJ:=dT h20
  refine bP (fun _ K7=>?_)
  have hE:mO l.length (fun s=>iR (bH us st li rv) note t l s) s=(9,s):=by rw [mO,cu,jZ]
  exact kP H (SC (aZ K7 O (LR results208 O fun H=>H.hp.kJ (L':=gU b ms ml mr mb mu s.n :: (mb,fG (gB s.bL)) :: L) (by repeat (first|exact lV _|apply List.Sublist.cons)) ⟨s,by rw [hE],O,fun h=>by rw [hE]⟩)))
 intro h20 a H
 try have BJ:=dF h20
 refine kP H (Kc K5 (SQ fun _ K8=>SQ fun _ K9=>?_));clear H K5;intro a H
 have hE:mO l.length (fun s=>iR (bH us st li rv) note t l s) s=iR (bH us st li rv) note t l s:=by rw [mO,cu,cu]
 refine kP H (SC (Rm O (Rl jS O (Rm O (Kn K9 (SB ?_))))));clear H K9;intro a H;skip;refine eO (ι:=Nat × CS × GH) (Tc:=[(0,_),(5,_),(21,_),(22,_)]) (Lc:=[(_,_)]) (fun gh=>[(23,vi gh.1)]) (fun gh=>[gU b ms ml mr mb mu gh.2.1.n,(mb,fG (gB gh.2.1.bL))]++L) (fun gh=>gh.2.2) (fun gh=>gh.1<=l.length∧(∀ b o,Gt b=some o->gh.2.2 b=some o)∧iR (bH us st li rv) note t l s=iR (bH us st li rv) note t (l.drop gh.1) gh.2.1∧0<=gh.2.1.n∧gh.2.1.n+(gq (l.drop gh.1):Nat)<=1099511627776) (fun gh=>l.length - gh.1) ((0,s,Gt)) (by exact H.sub ⟨O,O,O,O,O,aB⟩) ?_ ?_
 ·exact ⟨jL _,fun _ _ h=>h,O,hs0,hs1⟩
 clear H;rintro ⟨k,s1,g⟩ a w hI H;dsimp only at hI H;obtain ⟨hk,hgm,hR,hn0,hn1⟩:=hI;dsimp only [lca,bD] at H;refine kP H (SR fun _ aT=>Rc O (Kz aT (SQ fun _ bJ=>Cd O ?_ ?_))) <;> clear H aT
 ·intro dU a H
  try have lK:=dT dU
  have hk2:k < l.length:=by omega
  have hsz:=IX hk2;have hcs:=FZ l[k].cells
  have hdz:gq (l.drop k)=1+bY l[k].dat+gq (l.drop (k+1)):=by simp only [gq];rw [mW hk2,eP,eZ]
  have hrz:=Av l[k];obtain ⟨xb,xo,qA,qn,qc,eA,en,ec,zA,zn,zc,cA,cn,cc,rfl,hrow,Ac,hcl⟩:=IB hk2 hg;replace hrow:=fun j u hj=>aK hgm (hrow j u hj);replace Ac:=Ac.mono hgm;replace hcl:=hcl.mono hgm;have hcn:=hcl.len;rw [bR] at hcn;subst hcn;have avd:=hck.mono hgm;rw [mW hk2,iR,Ou] at hR;refine kP H (Kc bJ (SQ fun _ bO=>SB (SR fun _ bU=>Ri jS ig O O ?_)));clear H bJ;intro a H;refine bq ig (cs:=[_,_,_,_,_,_]) H wn O O (fun j v hj=>H.hp.aI (hrow j v hj)) O ?_;clear H;intro a H;refine dR ig H wn O ?_;clear H;intro b8 a w Ea H;refine bM ig 0 (vs:=[_,_,_,_,_,_]) H wn O ?_;clear H;intro w H;refine bU _ _ ?_;clear bU;refine bP (fun _ bZ=>?_);refine bP (fun _ dP=>?_);refine dI hmx [[],[],[1],[0,1,2],[],[4],[4,5],[4,5,6],ra 0 8,[],[9],[9,10],[9,10,11],ra 0 13,ra 0 14,ra 0 15,ra 0 16] [14,15,16] Z [_,_,vJ l[k].head (.slice qA qn qc) (.slice eA en ec) (.slice zA zn zc),vi (iw (bH us st li rv) 9 l[k].head),_,.slice cA l[k].cells.length cc,_,_,vi (dN (decide ((l[k].cells.length:Int)=0)) 11),_,.slice cA l[k].cells.length cc,_,_,vi (dN (decide (32 < (l[k].cells.length:Int))) 9)] H (aC (Z0 O (Rm O)) (Z0 O (Rf M9 O)) ?_ ?_ (aC (Z0 O (Rf uy O)) (Z1 4 31 O (Ro rM 0 O)) (Z1 5 32 O (Rl kQ O)) (Z1 6 33 O (Rc O)) (aC ?_ (Z0 O (Rf uy O)) (Z1 9 36 O (Ro rM 0 O)) (Z1 10 37 O (Rl kQ O)) (aC (Z1 11 38 O (Rc O)) ?_ (bQ O) (bQ O) (bK (bQ O) dG))))) ?_
  ·refine gX 1 28 O O fun _ a w G1 hG HT H fin=>?_;refine bq nT (cs:=[_,_,_,_,_]) H wn O O (H.hp.dD 0 O O) O ?_;exact iX
  ·refine eU 0 27 2 29 O O fun _ a w G1 hG HT H fin=>?_;refine gD Qu (Li:=[_,_]) (L:=gU b ms ml mr mb mu s1.n :: (mb,fG (gB s1.bL)) :: L) H wn O (Q6 _ _ _ st li rv b ms ml mr mb mu _ (avd.mono hG) (Hp.owns (Li:=[_,_]) H.hp) 9 l[k].head _ _ _ (Ac.mono hG) V) O ?_;clear H;rintro v30 _ _ a w ⟨rfl,rfl,rfl⟩ Xl H;dsimp only [lca,bD] at H;exact fin H Xl (rfl)
  ·refine gX 7 34 O O fun _ a w G1 hG HT H fin=>?_;refine s_call lX H wn O (mD _ _ H.ro _ 11) O ?_;clear H;rintro v35 G35 a w ⟨rfl,-⟩ Xm H;exact fin H Xm (rfl)
  ·refine gX 12 39 O O fun _ a w G1 hG HT H fin=>?_;refine s_call lX H wn O (mD _ _ H.ro _ 9) O ?_;clear H;rintro v40 LV a w ⟨rfl,-⟩ aub H;exact fin H aub (rfl)
  clear H;intro a w G vE H hv;have H:=H.aQ (hv 3 30 O O) O;have H:=H.aQ (hv 8 35 O O) O;have H:=H.aQ (hv 13 40 O O) O;clear hv;refine iG qO jm [_,_,_] [_,_,_] H wn O O O O O (by intro i q h;match i,h with|0,h=>exact h|1,h=>exact h|2,h=>exact h|n+3,h=>simp at h) O O ?_;clear H;intro b41 a w aDu H;obtain ⟨Ub,ahc,auO,H⟩:=H.fJ;have agT:∀ b o,Gt b=some o->Ub b=some o:=fun b o h=>ahc _ _ (vE _ _ (hgm _ _ h));refine s_call sj H wn O (sw _ _ H.ro _ _ (Ij [iw (bH us st li rv) 9 l[k].head,dN (decide ((l[k].cells.length:Int)=0)) 11,dN (decide (32 < (l[k].cells.length:Int))) 9] auO (show 3<=maxLen by decide))) rfl ?_;clear H;rintro v42 _ a w ⟨rfl,rfl⟩ - H;refine kH H (Ra O ?_);clear H;intro a H;refine aF ⟨O,?_⟩;refine dP _ _ ?_;clear dP;refine kP H (SR fun _ dY=>Rm O (Rc O (Kz dY (Cd O ?_ ?_)))) <;> clear H dY
  ·intro WY a H
   try have p44:=dT WY
   have e44:Eo (bH us st li rv) l[k].head l[k].cells.length≠0:=p44
   have hF1:(mO l.length (fun s=>iR (bH us st li rv) note t l s) s).1=Eo (bH us st li rv) l[k].head l[k].cells.length:=by rw [hE,hR,PE (r:=(Eo (bH us st li rv) l[k].head l[k].cells.length,s1)) e44,PE e44]
   have hF2:(mO l.length (fun s=>iR (bH us st li rv) note t l s) s).1=0->s1=(mO l.length (fun s=>iR (bH us st li rv) note t l s) s).2:=fun h=>absurd (hF1.symm.trans h) e44;exact kP H (SR fun _ dQ=>Rm O (au dQ O (LR results208 O fun H=>H.hp.kJ (L':=gU b ms ml mr mb mu s1.n :: (mb,fG (gB s1.bL)) :: L) (by repeat (first|exact lV _|apply List.Sublist.cons)) ⟨s1,dh vi hF1.symm,O,hF2⟩)))
  intro WY a H
  try have p44:=dF WY
  have e44:Eo (bH us st li rv) l[k].head l[k].cells.length=0:=nV.1 p44;rw [Jm (r:=(Eo (bH us st li rv) l[k].head l[k].cells.length,s1)) e44] at hR;dsimp only at hR;have ave:=hck.mono agT;replace hcl:=hcl.mono (fun b o h=>ahc _ _ (vE b o h));refine kP H (Kc bZ (SR fun _ eX=>aU uy rM 0 O O (Rl kQ O (Rm O (Kz eX (SB ?_))))));clear H bZ eX;intro a H;skip;refine eO (ι:=Nat × CS × GH) (Tc:=[(0,_),(5,_),(21,_),(22,_),(23,_),(47,_),(48,_)]) (Lc:=[(_,_),(_,_)]) (fun gh=>[(49,vi gh.1)]) (fun gh=>[gU b ms ml mr mb mu gh.2.1.n,(mb,fG (gB gh.2.1.bL))]++L) (fun gh=>gh.2.2) (fun gh=>gh.1<=l[k].cells.length∧(∀ b o,Ub b=some o->gh.2.2 b=some o)∧iR (bH us st li rv) note t l s=iF (pO (bH us st li rv) note t (l[k].cells.drop gh.1) gh.2.1) (fun s=>iR (bH us st li rv) note t (l.drop (k+1)) s)∧0<=gh.2.1.n∧gh.2.1.n+(iA (l[k].cells.drop gh.1):Nat)+(gq (l.drop (k+1)):Nat)<=1099511627776) (fun gh=>l[k].cells.length - gh.1) ((0,s1,Ub)) (by exact H.sub ⟨O,O,O,O,O,O,O,O,aB⟩) ?_ ?_
  ·exact ⟨jL _,fun _ _ h=>h,hR,hn0,by dsimp only;rw [xu];omega⟩
  clear H;rintro ⟨c,s2,g2⟩ a w hI H;dsimp only at hI H;obtain ⟨hc,Q9,hR2,hm0,hm1⟩:=hI;have mM:=fun b o h=>Q9 b o (agT b o h);dsimp only [lca,bD] at H;refine kP H (SR fun _ gM=>Rc O (Kz gM (SQ fun _ fI=>Cd O ?_ ?_))) <;> clear H gM
  ·intro h50 a H
   try have p50:=dT h50
   have hk4:c < l[k].cells.length:=by omega
   have awM:=IV hk4
   have avl:iA (l[k].cells.drop c)=1+bY l[k].cells[c].dat+iA (l[k].cells.drop (c+1)):=by simp only [iA];rw [mW hk4,eP,eZ]
   have hcz:=Ar l[k].cells[c];obtain ⟨b3',o3,sA,sn,sc,tA,tn,tc,uA,un,uc,gA,gn,gc,rfl,hrow,hch,hcf⟩:=JD hk4 (hcl.mono Q9).at_;have XB:=ave.mono Q9;rw [mW hk4,pO,MI] at hR2;obtain ⟨y,hy⟩:∃ y,y=l[k].cells[c]:=⟨_,O⟩;rw [<- hy] at hR2 hrow hch hcf hcz awM avl;refine kP H (Kc fI (SQ fun _ gQ=>SB (SR fun _ jw=>Ri kQ iN O O ?_)));clear H fI;intro a H;refine bq iN (cs:=[_,_,_,_,_,_,_]) H wn O O (fun j v hj=>H.hp.aI (hrow j v hj)) O ?_;clear H;intro a H;refine dR iN H wn O ?_;clear H;intro b11 a w Nn H;refine bM iN 0 (vs:=[_,_,_,_,_,_,_]) H wn O ?_;clear H;intro w H;refine jw _ _ ?_;clear jw;refine kP H (SQ fun _ kK=>SR fun _ kD=>Rm O (aU JM aD 0 O O ?_));clear H;intro a H;refine gD Wo (Li:=[_,_,_]) (L:=gU b ms ml mr mb mu s2.n :: (mb,fG (gB s2.bL)) :: L) H wn O (VQ _ _ _ st li rv b ms ml mr mb mu _ s2.bL y.id XB (Hp.owns (Li:=[_,_,_]) H.hp)) O ?_;clear H;rintro v56 _ _ a w ⟨rfl,rfl,rfl⟩ - H;dsimp only [lca,bD] at H;refine kH H (au kD O (SR fun _ jF=>Rm O (Rc O (Kz jF (Cd O ?_ ?_))))) <;> clear H kD jF
   ·intro kT a H
    try have p58:=dT kT
    have hF1:(mO l.length (fun s=>iR (bH us st li rv) note t l s) s).1=qH us s2.bL y.id:=by rw [hE,hR2];simp [iF,nZ,p58]
    have hF2:(mO l.length (fun s=>iR (bH us st li rv) note t l s) s).1=0->(⟨s2.n,ng us s2.bL y.id⟩:CS)=(mO l.length (fun s=>iR (bH us st li rv) note t l s) s).2:=fun h=>absurd (hF1.symm.trans h) p58;exact kP H (SR fun _ kR=>Rm O (au kR O (LR results208 O fun H=>H.hp.kJ (L':=gU b ms ml mr mb mu s2.n :: (mb,fG (gB (ng us s2.bL y.id))) :: L) (by repeat (first|exact lV _|apply List.Sublist.cons)) ⟨⟨s2.n,ng us s2.bL y.id⟩,dh vi hF1.symm,O,hF2⟩)))
   intro kT a H
   try have p58:=dF kT
   have e58:qH us s2.bL y.id=0:=nV.1 p58;refine kP H (Kc kK (SQ fun _ lN=>SR fun _ jJ=>Rm O (Rf Na O ?_)));clear H kK;intro a H;refine bq nT (cs:=[_,_,_,_,_]) H wn O O (H.hp.dD 0 O O) O ?_;clear H;intro a H;refine gD Qu (Li:=[_,_,_]) (L:=gU b ms ml mr mb mu s2.n :: (mb,fG (gB (ng us s2.bL y.id))) :: L) H wn O (Q6 _ _ _ st li rv b ms ml mr mb mu _ XB (Hp.owns (Li:=[_,_,_]) H.hp) 10 y.head _ _ _ hch V) O ?_;clear H;rintro v63 _ _ a w ⟨rfl,rfl,rfl⟩ - H;dsimp only [lca,bD] at H;refine kH H (au jJ O (SR fun _ qV=>Rm O (Rc O (Kz qV (Cd O ?_ ?_))))) <;> clear H jJ qV
   ·intro uD a H
    try have p65:=dT uD
    have hF1:(mO l.length (fun s=>iR (bH us st li rv) note t l s) s).1=iw (bH us st li rv) 10 y.head:=by rw [hE,hR2];simp [iF,nZ,e58,p65]
    have hF2:(mO l.length (fun s=>iR (bH us st li rv) note t l s) s).1=0->(⟨s2.n,ng us s2.bL y.id⟩:CS)=(mO l.length (fun s=>iR (bH us st li rv) note t l s) s).2:=fun h=>absurd (hF1.symm.trans h) p65;exact kP H (SR fun _ rT=>Rm O (au rT O (LR results208 O fun H=>H.hp.kJ (L':=gU b ms ml mr mb mu s2.n :: (mb,fG (gB (ng us s2.bL y.id))) :: L) (by repeat (first|exact lV _|apply List.Sublist.cons)) ⟨⟨s2.n,ng us s2.bL y.id⟩,dh vi hF1.symm,O,hF2⟩)))
   intro uD a H
   try have p65:=dF uD
   have e65:iw (bH us st li rv) 10 y.head=0:=nV.1 p65;refine kP H (Kc lN (SR fun _ sQ=>Rm O (aU DK fC 0 O O ?_)));clear H lN;intro a H;refine bq Ti (cs:=[_,_,_]) H wn O O (H.hp.dD 2 O O) O ?_;clear H;intro a H;refine gD M4 (Li:=[_,_,_]) (L:=gU b ms ml mr mb mu s2.n :: (mb,fG (gB (ng us s2.bL y.id))) :: L) H wn O (ih _ _ _ st li rv b ms ml mr mb mu ⟨s2.n,ng us s2.bL y.id⟩ y.flow _ false note t XB (Hp.owns (Li:=[_,_,_]) H.hp) hcf V ht0 Ib hm0 (by dsimp only;omega)) rfl ?_;clear H;rintro v71 _ _ a w ⟨rfl,s3,rfl,rfl,h3⟩ - H;dsimp only [lca,bD] at H;refine kH H (au sQ O (SR fun _ ug=>Rm O (Rc O (Kz ug (Cd O ?_ ?_))))) <;> clear H sQ ug
   ·intro yU a H
    try have p73:=dT yU
    have hF1:(mO l.length (fun s=>iR (bH us st li rv) note t l s) s).1=(jg (bH us st li rv) false note t y.flow ⟨s2.n,ng us s2.bL y.id⟩).1:=by rw [hE,hR2];simp [iF,nZ,e58,e65,p73]
    have hF2:(mO l.length (fun s=>iR (bH us st li rv) note t l s) s).1=0->s3=(mO l.length (fun s=>iR (bH us st li rv) note t l s) s).2:=fun h=>absurd (hF1.symm.trans h) p73;exact kP H (SR fun _ sS=>Rm O (au sS O (LR results208 O fun H=>H.hp.kJ (L':=gU b ms ml mr mb mu s3.n :: (mb,fG (gB s3.bL)) :: L) (by repeat (first|exact lV _|apply List.Sublist.cons)) ⟨s3,dh vi hF1.symm,O,hF2⟩)))
   intro yU a H
   try have p73:=dF yU
   have V8:(jg (bH us st li rv) false note t y.flow ⟨s2.n,ng us s2.bL y.id⟩).1=0:=nV.1 p73;obtain ⟨hu1,hu2⟩:=Tz (bH us st li rv) false note t y.flow ⟨s2.n,ng us s2.bL y.id⟩;rw [<- h3 V8] at hu1 hu2;dsimp only at hu1 hu2
   have hS:iF (iF (iF (nZ (bH us st li rv) s2 y.id) fun s=>iF (iw (bH us st li rv) 10 y.head,s) fun s=>jg (bH us st li rv) false note t y.flow s) fun s=>pO (bH us st li rv) note t (l[k].cells.drop (c+1)) s) (fun s=>iR (bH us st li rv) note t (l.drop (k+1)) s)=iF (pO (bH us st li rv) note t (l[k].cells.drop (c+1)) s3) (fun s=>iR (bH us st li rv) note t (l.drop (k+1)) s):=by
    rw [h3 V8];simp [iF,nZ,e58,e65,V8]
   refine kP H (Kc gQ (SC (Rd O (Rm O ?_))));clear H gQ;intro a H;refine aF ?_;refine dS ((c+1,s3,g2)) (by exact (H.dV (Pl:=[_,_,_,_,_]) (dL:=[_,_,_,_]) [1,2,3,4] Q1 O).sub ⟨O,O,O,O,O,O,O,O,aB⟩) ?_
   (try dsimp only);exact ⟨V,Q9,hR2.trans hS,V,V⟩
  intro h50 a H
  try have p50:=dF h50
  refine dX ?_;refine bO _ _ ?_;clear bO;refine kP H (SC (Rd O (Rm O ?_)));clear H;intro a H;refine aF ?_;refine dS ((k+1,s2,g2)) (by exact (H.dV (Pl:=[_,_,_,_]) (dL:=[_,_,_]) [1,2,3] Q1 O).sub ⟨O,O,O,O,O,aB⟩) ?_
  (try dsimp only);exact ⟨V,mM,by rw [hR2,ow V,pO,Jm O],hm0,V⟩
 intro dU a H
 try have lK:=dF dU
 refine dX ?_;refine K8 _ _ ?_;clear K8;refine bP (fun _ wo=>?_)
 have hF1:(mO l.length (fun s=>iR (bH us st li rv) note t l s) s).1=0:=by rw [hE,hR,ow V,iR]
 have hF2:(mO l.length (fun s=>iR (bH us st li rv) note t l s) s).1=0->s1=(mO l.length (fun s=>iR (bH us st li rv) note t l s) s).2:=fun h=>by rw [hE,hR,ow V,iR]
 exact kP H (SC (aZ wo O (LR results208 O fun H=>H.hp.kJ (L':=gU b ms ml mr mb mu s1.n :: (mb,fG (gB s1.bL)) :: L) (by repeat (first|exact lV _|apply List.Sublist.cons)) ⟨s1,dh vi hF1.symm,O,hF2⟩)))
end
section
theorem aqN:aW 208:=aY func208 O
theorem aqM:aW 206:=aY func206 O
theorem GY:dz prog 115 5 5:=⟨Z⟩
theorem asL:dz prog 111 0 0:=⟨Z⟩
variable {us:List Int}
theorem azd {G:GH} {b:Nat} {x:Int} (h:G b=some (.cells #[vi x] 41 (0,0))):av G (.sl 1 ([x].map fun k=>[li k])) (.slice (some ⟨b,0,none⟩) 1 1):=Ij [x] h (show 1<=maxLen by decide)
theorem U2 {p:Prop} (h:p:=by
 (try dsimp only)
 first
 | exact ⟨by simp_all [pE,dN,iF,nZ],fun _ _ h=>h,O,fun h7=>by first|omega|(exfalso;simp_all)⟩
 | exact ⟨by simp_all [pE,dN,iF,nZ],Aa,O,fun h7=>by first|omega|(exfalso;simp_all)⟩):p:=h
theorem Ve {p:Prop} (h:p:=by
 refine ⟨(⟨s.n+(eG x:Nat),s.bL⟩,Gt),by exact H.sub ⟨O,O,O,aB⟩,?_⟩;exact U2):p:=h
theorem axw {m:Nat} (ih:Jb us m) (hm:m<=4294967296) (Gt:GH) (L:OL) (w0:World) (st:List cB) (li:List fK) (rv:List dw) (b ms ml mr mb mu:Nat) (s:CS) (x:ak) (p d y f r:ah) (body note:Bool) (t:Int)
  (hck:wY us Gt st li rv ms ml mr mu) (hO:fM Gt (gU b ms ml mr mb mu s.n :: (mb,fG (gB s.bL)) :: L) w0) (hh:jI Gt x.head p d y) (hf:av Gt (.sl 11 (x.flow.map ak.dat)) f) (hr:av Gt (.sl 6 (x.rows.map aM.dat)) r) (hz:bY x.dat<=m) (ht0:0<=t) (Ib:t<=4) (hs0:0<=s.n) (hs1:s.n+(bY x.dat:Nat)<=1099511627776) :
  Calls prog 138 #[(aJ b 0),.agg #[vi x.kind,vi x.code,vi x.id,.string x.text,p,vi x.head.marks.ins,vi x.head.marks.move,d,y,f,r],.agg #[.bool body,.bool note,vi t]] w0 (fB w0 Gt (gU b ms ml mr mb mu s.n :: (mb,fG (gB s.bL)) :: L) fun u G' L'=>OX b ms ml mr mb mu L (fu (bH us st li rv) body note t x s) u L'):=by
 obtain ⟨pA,pn,pc,rfl⟩:=hh.props.form;obtain ⟨dA,dn,dc,rfl⟩:=hh.dJ.form;obtain ⟨lA,ln,lc,rfl⟩:=hh.layers.form;obtain ⟨fA,fc,rfl,-⟩:=hf.slice;obtain ⟨rA,rc,rfl,-⟩:=hr.slice;(iterate 2 rw [bR] at *);have hxz:=pG x;have hcl:=MQ x.text
 have Ie:eG x<=x.text.size+1:=by unfold eG;split <;> omega
 have hE:=RN (bH us st li rv) body note t x s;refine iB (N:=117) (T:=[(0,_),(1,_),(2,_)]) func138 O ntmps138 O O hO ?_;intro a H;refine dH (fun _ K1=>?_);refine eB (cs:=[_,_,_,_,_,_,_,_,_,_,_]) H wn O O O ?_;clear H;intro b4 a w hb4 H;refine eB (cs:=[_,_,_]) H wn O O O ?_;clear H;intro b5 a w hb5 H;refine kH H (au K1 O (SQ fun _ K2=>SR fun _ K3=>?_));clear H K1;intro a H;refine bq cO (cs:=[_,_,_,_,_,_,_,_,_,_,_]) H wn O O (H.hp.dD 1 O O) O ?_;clear H;intro a H;refine s_call aqM H wn O (atA _ _ H.ro x _ _ _ _ _ _ _ V) O ?_;clear H;rintro v15 _ a w ⟨rfl,rfl⟩ - H;refine kH H (au K3 O (SR fun _ K4=>Rm O (Rc O (Kz K4 (Cd O ?_ ?_))))) <;> clear H K3 K4
 ·intro cK a H
  try have kI:=dT cK
  rw [PE (r:=(iU x,s)) kI] at hE;exact kP H (SR fun _ K5=>Rm O (au K5 O (LR results138 O fun H=>H.hp.kJ (L':=gU b ms ml mr mb mu s.n :: (mb,fG (gB s.bL)) :: L) (by repeat (first|exact lV _|apply List.Sublist.cons)) ⟨s,by rw [hE],O,fun h=>by rw [hE]⟩)))
 intro cK a H
 try have kI:=dF cK
 rw [Jm (r:=(iU x,s)) (nV.1 kI)] at hE;dsimp only at hE;refine kP H (Kc K2 (SR fun _ K6=>Rm O (Rk O (aU GY aD 2 O O (Rd O (Rk O (Rf GY O ?_)))))));clear H K2;intro a H;refine bM aD 2 (vs:=[_]) H wn O ?_;clear H;intro w H;refine K6 _ _ ?_;clear K6;refine rX (ι:=CS × GH) (Tc:=[(0,_),(4,_),(5,_)]) (Lc:=[(_,_),(_,_)]) (fun gh=>[]) (fun gh=>[gU b ms ml mr mb mu gh.1.n,(mb,fG (gB gh.1.bL))]++L) (fun gh=>gh.2) (fun gh=>pE (bH us st li rv) body note t x.kind x.id ⟨s.n+(eG x:Nat),s.bL⟩=(0,gh.1)∧(∀ b o,Gt b=some o->gh.2 b=some o)∧gh.1.n=s.n+(eG x:Nat)∧(x.kind=7->t < 4)) (by exact H.sub ⟨O,O,O,aB⟩) ?_ ?_
 ·skip;refine kP H (SR fun _ K7=>aU iL aD 1 O O (Kz K7 (SB (SR fun _ K8=>Rc O (au K8 O (Cd O ?_ ?_)))))) <;> clear H K7 K8
  ·intro eY a H
   try have p28:=dT eY
   have hu:((eG x:Nat):Int)=ru x.text:=by rw [eG,aH p28]
   refine kP H (SR fun _ K9=>aU rC gV 1 O O ?_);clear H;intro a H;refine s_call Wd H wn O (VW _ _ H.ro x.text V) O ?_;clear H;rintro v33 _ a w ⟨rfl,rfl⟩ - H;refine kH H (Rm O ?_);clear H;intro a H;(iterate 2 refine ko H wn O O O ?_;clear H;intro a H);refine kH H (Ra O (au K9 O (SC (Rm O (Rk O (aU GY aD 2 O O (Rm O (Rs O (Rd O ?_)))))))));clear H K9;intro a H;rw [show s.n+1+((ru x.text:Int) - 1)=s.n+(eG x:Nat) by omega] at H;refine kH H (Rk O (Rf GY O ?_));clear H;intro a H;refine bM aD 2 (vs:=[_]) H wn O ?_;clear H;intro w H;refine aF ?_;exact Ve
  intro eY a H
  try have p28:=dF eY
  have hu:((eG x:Nat):Int)=1:=by rw [eG,ay p28];rfl
  rw [show s.n+1=s.n+((eG x:Nat):Int) by omega] at H;refine kP H (SR fun _ aT=>Rc O (au aT O (Cd O ?_ ?_))) <;> clear H aT
  ·intro h45 a H
   try have p45:=dT h45
   refine kP H (SR fun _ bJ=>aU asL uS 0 O O (Rn O (Kz bJ (Cd O ?_ ?_)))) <;> clear H bJ
   ·intro QO a H
    try have p49:=dT QO
    refine bP (fun _ bO=>?_)
    have hF1:(fu (bH us st li rv) body note t x s).1=19:=by rw [hE];simp [iF,pE,p45,dN,QO]
    have hF2:(fu (bH us st li rv) body note t x s).1=0->(⟨s.n+(eG x:Nat),s.bL⟩:CS)=(fu (bH us st li rv) body note t x s).2:=fun h=>absurd (hF1.symm.trans h) Q1;exact kP H (SC (aZ bO O (LR results138 O fun H=>H.hp.kJ (L':=gU b ms ml mr mb mu (s.n+(eG x:Nat)) :: (mb,fG (gB (s.bL))) :: L) (by repeat (first|exact lV _|apply List.Sublist.cons)) ⟨⟨s.n+(eG x:Nat),s.bL⟩,dh vi hF1.symm,O,hF2⟩)))
   intro QO a H
   try have p49:=dF QO
   refine gT ?_;exact Ve
  intro h45 a H
  try have p45:=dF h45
  refine kP H (SR fun _ bU=>Rc O (au bU O (Cd O ?_ ?_))) <;> clear H bU
  ·intro h50 a H
   try have p50:=dT h50
   refine kP H (SQ fun _ bZ=>SR fun _ dP=>aU Wy uS 0 O O ?_);clear H;intro a H;refine s_call lX H wn O (mD _ _ H.ro _ 19) O ?_;clear H;rintro v54 _ a w ⟨rfl,rfl⟩ - H;refine iG qO jm [_] [_] H wn O O O O O (by intro i q h;match i,h with|0,h=>exact h|n+1,h=>simp at h) O O ?_;clear H;intro b55 a w aDw H;obtain ⟨LW,Aa,auQ,H⟩:=H.fJ;refine s_call sj H wn O (sw _ _ H.ro _ _ (azd auQ)) O ?_;clear H;rintro v56 _ a w ⟨rfl,rfl⟩ - H;refine kH H (au dP O (SR fun _ dY=>Rm O (Rc O (Kz dY (Cd O ?_ ?_))))) <;> clear H dP dY
   ·intro kT a H
    try have p58:=dT kT
    have e58:dN note 19≠0:=fun h=>p58 (by rw [h];rfl)
    have axb:eu [dN note 19]=dN note 19:=by simp [eu,e58]
    rw [axb] at H
    have hF1:(fu (bH us st li rv) body note t x s).1=dN note 19:=by rw [hE];simp [iF,pE,p50,e58]
    have hF2:(fu (bH us st li rv) body note t x s).1=0->(⟨s.n+(eG x:Nat),s.bL⟩:CS)=(fu (bH us st li rv) body note t x s).2:=fun h=>absurd (hF1.symm.trans h) (e58);exact kP H (SR fun _ dQ=>Rm O (au dQ O (LR results138 O fun H=>H.hp.kJ (L':=gU b ms ml mr mb mu (s.n+(eG x:Nat)) :: (mb,fG (gB (s.bL))) :: L) (by repeat (first|exact lV _|apply List.Sublist.cons)) ⟨⟨s.n+(eG x:Nat),s.bL⟩,dh vi hF1.symm,O,hF2⟩)))
   intro kT a H
   try have p58:=dF kT
   have e58:dN note 19=0:=Decidable.byContradiction fun h=>p58 (by simp [eu,h]);refine kP H (Kc bZ (SR fun _ eX=>Rm O (aU yO aD 1 O O ?_)));clear H bZ;intro a H;refine gD Wo (Li:=[_,_]) (L:=gU b ms ml mr mb mu _ :: (mb,fG (gB s.bL)) :: L) H wn O (VQ _ _ _ st li rv b ms ml mr mb mu _ s.bL x.id (hck.mono Aa) (Hp.owns (Li:=[_,_]) H.hp)) O ?_;clear H;rintro v63 _ _ a w ⟨rfl,rfl,rfl⟩ - H;dsimp only [lca,bD] at H;refine kH H (au eX O (SR fun _ gM=>Rm O (Rc O (Kz gM (Cd O ?_ ?_))))) <;> clear H eX gM
   ·intro uD a H
    try have p65:=dT uD
    have hF1:(fu (bH us st li rv) body note t x s).1=qH us s.bL x.id:=by rw [hE];simp [iF,pE,p50,e58,nZ,p65]
    have hF2:(fu (bH us st li rv) body note t x s).1=0->(⟨s.n+(eG x:Nat),ng us s.bL x.id⟩:CS)=(fu (bH us st li rv) body note t x s).2:=fun h=>absurd (hF1.symm.trans h) (p65);exact kP H (SR fun _ fI=>Rm O (au fI O (LR results138 O fun H=>H.hp.kJ (L':=gU b ms ml mr mb mu (s.n+(eG x:Nat)) :: (mb,fG (gB (ng us s.bL x.id))) :: L) (by repeat (first|exact lV _|apply List.Sublist.cons)) ⟨⟨s.n+(eG x:Nat),ng us s.bL x.id⟩,dh vi hF1.symm,O,hF2⟩)))
   intro uD a H
   try have p65:=dF uD
   have e65:qH us s.bL x.id=0:=nV.1 p65;refine gT ?_;refine ⟨(⟨s.n+(eG x:Nat),ng us s.bL x.id⟩,LW),by exact H.sub ⟨O,O,O,aB⟩,?_⟩;exact U2
  intro h50 a H
  try have p50:=dF h50
  refine kP H (SR fun _ gQ=>Rc O (au gQ O (Cd O ?_ ?_))) <;> clear H gQ
  ·intro Xa a H
   try have p67:=dT Xa
   refine kP H (SQ fun _ jw=>SR fun _ kK=>aU M6 aD 0 O O (Rc O (Kz kK (Cd O ?_ ?_)))) <;> clear H kK
   ·intro Xb a H
    try have p71:=dT Xb
    refine bP (fun _ kD=>?_)
    have hF1:(fu (bH us st li rv) body note t x s).1=17:=by rw [hE];simp [iF,pE,p67,dN,p71]
    have hF2:(fu (bH us st li rv) body note t x s).1=0->(⟨s.n+(eG x:Nat),s.bL⟩:CS)=(fu (bH us st li rv) body note t x s).2:=fun h=>absurd (hF1.symm.trans h) Q1;exact kP H (SC (aZ kD O (LR results138 O fun H=>H.hp.kJ (L':=gU b ms ml mr mb mu (s.n+(eG x:Nat)) :: (mb,fG (gB (s.bL))) :: L) (by repeat (first|exact lV _|apply List.Sublist.cons)) ⟨⟨s.n+(eG x:Nat),s.bL⟩,dh vi hF1.symm,O,hF2⟩)))
   intro Xb a H
   try have p71:=dF Xb
   have e71:¬ 4<=t:=by omega
   refine kP H (Kc jw (SR fun _ jF=>Rm O (aU yO aD 1 O O ?_)));clear H jw;intro a H;refine gD Wo (Li:=[_,_]) (L:=gU b ms ml mr mb mu _ :: (mb,fG (gB s.bL)) :: L) H wn O (VQ _ _ _ st li rv b ms ml mr mb mu _ s.bL x.id hck (Hp.owns (Li:=[_,_]) H.hp)) O ?_;clear H;rintro v75 _ _ a w ⟨rfl,rfl,rfl⟩ - H;dsimp only [lca,bD] at H;refine kH H (au jF O (SR fun _ kR=>Rm O (Rc O (Kz kR (Cd O ?_ ?_))))) <;> clear H jF kR
   ·intro Hq a H
    try have KV:=dT Hq
    have hF1:(fu (bH us st li rv) body note t x s).1=qH us s.bL x.id:=by rw [hE];simp [iF,pE,p67,dN,e71,nZ,KV]
    have hF2:(fu (bH us st li rv) body note t x s).1=0->(⟨s.n+(eG x:Nat),ng us s.bL x.id⟩:CS)=(fu (bH us st li rv) body note t x s).2:=fun h=>absurd (hF1.symm.trans h) (KV);exact kP H (SR fun _ lN=>Rm O (au lN O (LR results138 O fun H=>H.hp.kJ (L':=gU b ms ml mr mb mu (s.n+(eG x:Nat)) :: (mb,fG (gB (ng us s.bL x.id))) :: L) (by repeat (first|exact lV _|apply List.Sublist.cons)) ⟨⟨s.n+(eG x:Nat),ng us s.bL x.id⟩,dh vi hF1.symm,O,hF2⟩)))
   intro Hq a H
   try have KV:=dF Hq
   have e77:qH us s.bL x.id=0:=nV.1 KV;refine gT ?_;refine ⟨(⟨s.n+(eG x:Nat),ng us s.bL x.id⟩,Gt),by exact H.sub ⟨O,O,O,aB⟩,?_⟩;exact U2
  intro Xa a H
  try have p67:=dF Xa
  refine kP H (SR fun _ jJ=>Rc O (au jJ O (Cd O ?_ ?_))) <;> clear H jJ
  ·intro E5 a H
   try have Ze:=dT E5
   refine kP H (SR fun _ qV=>aU yO aD 1 O O ?_);clear H;intro a H;refine s_call yM H wn O (zi _ _ H.ro x.id 1 1073741824) O ?_;clear H;rintro v83 _ a w ⟨rfl,rfl⟩ - H;refine kH H (Rn O (Kz qV (Cd O ?_ ?_))) <;> clear H qV
   ·intro h84 a H
    try have p84:=dT h84
    refine bP (fun _ rT=>?_)
    have e84:¬ (1<=x.id∧x.id<=1073741824):=by have h0:=h84;simp at h0;omega
    have hF1:(fu (bH us st li rv) body note t x s).1=18:=by rw [hE];simp [iF,pE,Ze,dN,e84]
    have hF2:(fu (bH us st li rv) body note t x s).1=0->(⟨s.n+(eG x:Nat),s.bL⟩:CS)=(fu (bH us st li rv) body note t x s).2:=fun h=>absurd (hF1.symm.trans h) Q1;exact kP H (SC (aZ rT O (LR results138 O fun H=>H.hp.kJ (L':=gU b ms ml mr mb mu (s.n+(eG x:Nat)) :: (mb,fG (gB (s.bL))) :: L) (by repeat (first|exact lV _|apply List.Sublist.cons)) ⟨⟨s.n+(eG x:Nat),s.bL⟩,dh vi hF1.symm,O,hF2⟩)))
   intro h84 a H
   try have p84:=dF h84
   refine gT ?_;exact Ve
  intro E5 a H
  try have Ze:=dF E5
  refine gT ?_;refine ⟨(⟨s.n+(eG x:Nat),s.bL⟩,Gt),by exact H.sub ⟨O,O,O,aB⟩,?_⟩;(try dsimp only)
  first
  | exact ⟨by simp_all [pE,dN,iF,nZ],fun _ _ h=>h,O,fun h7=>by first|omega|(exfalso;simp_all)⟩
  | exact ⟨by simp_all [pE,dN,iF,nZ],Aa,O,fun h7=>by first|omega|(exfalso;simp_all)⟩
 clear H;rintro ⟨s1,g⟩ a w hI H;dsimp only at hI H;obtain ⟨hP,yZ,aDY,ht7⟩:=hI;rw [hP,Jm O] at hE;dsimp only at hE;replace hck:=hck.mono yZ;replace hh:=hh.mono yZ;replace hf:=hf.mono yZ;replace hr:=hr.mono yZ;dsimp only [lca,bD] at H;refine kP H (SQ fun _ sQ=>SR fun _ ug=>Rm O (aU iL aD 1 O O (Rf uq O ?_)));clear H;intro a H;refine bq nT (cs:=[_,_,_,_,_]) H wn O O (H.hp.dD 1 O O) O ?_;clear H;intro a H;refine gD Qu (Li:=[_,_]) (L:=gU b ms ml mr mb mu s1.n :: (mb,fG (gB s1.bL)) :: L) H wn O (Q6 _ _ _ st li rv b ms ml mr mb mu _ hck (Hp.owns (Li:=[_,_]) H.hp) x.kind x.head _ _ _ hh V) O ?_;clear H;rintro v90 _ _ a w ⟨rfl,rfl,rfl⟩ - H;dsimp only [lca,bD] at H;refine kH H (au ug O (SR fun _ sS=>Rm O (Rc O (Kz sS (Cd O ?_ ?_))))) <;> clear H ug sS
 ·intro Xf a H
  try have Sq:=dT Xf
  have hF1:(fu (bH us st li rv) body note t x s).1=iw (bH us st li rv) x.kind x.head:=by rw [hE,PE (r:=(iw (bH us st li rv) x.kind x.head,s1)) Sq]
  have hF2:(fu (bH us st li rv) body note t x s).1=0->s1=(fu (bH us st li rv) body note t x s).2:=fun h=>absurd (hF1.symm.trans h) Sq;exact kP H (SR fun _ wo=>Rm O (au wo O (LR results138 O fun H=>H.hp.kJ (L':=gU b ms ml mr mb mu (s1.n) :: (mb,fG (gB (s1.bL))) :: L) (by repeat (first|exact lV _|apply List.Sublist.cons)) ⟨s1,dh vi hF1.symm,O,hF2⟩)))
 intro Xf a H
 try have Sq:=dF Xf
 rw [Jm (r:=(iw (bH us st li rv) x.kind x.head,s1)) (nV.1 Sq)] at hE;dsimp only at hE;refine kP H (Kc sQ (SQ fun _ yw=>SR fun _ uV=>aU iL aD 1 O O (Kz uV (SB (SR fun _ Az=>Rc O (au Az O (Cd O ?_ ?_))))))) <;> clear H sQ uV Az
 ·intro uE a H
  try have Oq:=dT uE
  rw [aH Oq] at hE;refine kP H (SR fun _ Gd=>Rm O (aU uw fC 1 O O (aU M6 aD 0 O O ?_)));clear H;intro a H;refine kg FJ [_,_,_] H wn O O O O ?_;clear H;intro a H;refine gD M4 (Li:=[_,_]) (L:=gU b ms ml mr mb mu s1.n :: (mb,fG (gB s1.bL)) :: L) H wn O (ih _ _ _ st li rv b ms ml mr mb mu s1 x.flow _ false true t hck (Hp.owns (Li:=[_,_]) H.hp) hf V ht0 Ib V V) O ?_;clear H;rintro aEn _ _ a w ⟨rfl,s3,rfl,rfl,h3⟩ - H;dsimp only [lca,bD] at H
  have hF1:(fu (bH us st li rv) body note t x s).1=(jg (bH us st li rv) false true t x.flow s1).1:=by rw [hE]
  have hF2:(fu (bH us st li rv) body note t x s).1=0->s3=(fu (bH us st li rv) body note t x s).2:=by rw [hE];exact h3
  exact kH H (au Gd O (LR results138 O fun H=>H.hp.kJ (L':=gU b ms ml mr mb mu (s3.n) :: (mb,fG (gB (s3.bL))) :: L) (by repeat (first|exact lV _|apply List.Sublist.cons)) ⟨s3,dh vi hF1.symm,O,hF2⟩))
 intro uE a H
 try have Oq:=dF uE
 rw [ay Oq] at hE;refine kP H (SR fun _ Gf=>Rc O (au Gf O (Cd O ?_ ?_))) <;> clear H Gf
 ·intro sD a H
  try have KU:=dT sD
  rw [aH KU] at hE;refine kP H (SR fun _ rU=>Rm O (aU pR oq 1 O O (aU Wy uS 0 O O (aU M6 aD 0 O O (Rd O ?_)))));clear H;intro a H;refine kg FJ [_,_,_] H wn O O O O ?_;clear H;intro a H;refine gD aqN (Li:=[_,_]) (L:=gU b ms ml mr mb mu s1.n :: (mb,fG (gB s1.bL)) :: L) H wn O (rows_ok ih hm _ _ _ st li rv b ms ml mr mb mu s1 x.rows _ note (t+1) hck (Hp.owns (Li:=[_,_]) H.hp) hr V V (by have:=ht7 KU;omega) V V) rfl ?_;clear H;rintro aEo _ _ a w ⟨s3,rfl,rfl,h3⟩ - H;dsimp only [lca,bD] at H
  have hF1:(fu (bH us st li rv) body note t x s).1=(mO x.rows.length (fun s=>iR (bH us st li rv) note (t+1) x.rows s) s1).1:=by rw [hE]
  have hF2:(fu (bH us st li rv) body note t x s).1=0->s3=(fu (bH us st li rv) body note t x s).2:=by rw [hE];exact h3
  exact kH H (au rU O (LR results138 O fun H=>H.hp.kJ (L':=gU b ms ml mr mb mu (s3.n) :: (mb,fG (gB (s3.bL))) :: L) (by repeat (first|exact lV _|apply List.Sublist.cons)) ⟨s3,dh vi hF1.symm,O,hF2⟩))
 intro sD a H
 try have KU:=dF sD
 rw [ay KU] at hE
 have hF1:(fu (bH us st li rv) body note t x s).1=0:=by rw [hE]
 have hF2:(fu (bH us st li rv) body note t x s).1=0->s1=(fu (bH us st li rv) body note t x s).2:=fun h=>by rw [hE]
 exact kP H (Kc yw (SR fun _ Jd=>au Jd O (LR results138 O fun H=>H.hp.kJ (L':=gU b ms ml mr mb mu (s1.n) :: (mb,fG (gB (s1.bL))) :: L) (by repeat (first|exact lV _|apply List.Sublist.cons)) ⟨s1,dh vi hF1.symm,O,hF2⟩)))
end
section
theorem aqe:aW 138:=aY func138 O
theorem aqd:aW 137:=aY func137 O
variable {us:List Int}
def IxL (fv:ah) (Gi:GH) (n:Nat) (E:Nat->Int) {σ:Type} (B:σ->OL) (S:Nat->σ):Prop:=∀ i,i < n->∀ (G1:GH) (w1:World),(∀ b o,Gi b=some o->G1 b=some o)->fM G1 (B (S i)) w1 ->
 tY prog fv [vi i] w1 (fB w1 G1 (B (S i)) fun u G' L'=>∃ s,u=vi (E i)∧L'=B s∧(E i=0->s=S (i+1)))
theorem amS (G:GH) (w0:World) {σ:Type} (B:σ->OL) (S:Nat->σ) (n:Nat) (E:Nat->Int) (fv:ah) (hO:fM G (B (S 0)) w0) (hn:n<=4611686018427387904) (hf:IxL fv G n E B S) :
  Calls prog 128 #[vi n,fv] w0 (fB w0 G (B (S 0)) fun u G' L'=>∃ s,u=vi (kF E n)∧L'=B s∧(kF E n=0->s=S n)):=by
 refine iB (N:=18) (T:=[(0,_),(1,_)]) func128 O ntmps128 O O hO ?_;intro a H;refine kP H (SR fun _ K1=>au K1 O (SQ fun _ K2=>SR fun _ K3=>Rm O (Rm O (Kz K3 (SB ?_)))));clear H K1 K3;intro a H;skip;refine eO (ι:=Nat × GH) (Tc:=[(1,_),(7,_)]) (Lc:=[]) (fun gh=>[(8,vi gh.1)]) (fun gh=>[]++B (S gh.1)) (fun gh=>gh.2) (fun gh=>gh.1<=n∧eu (((List.range n).map E).drop gh.1)=kF E n∧(∀ b o,G b=some o->gh.2 b=some o)) (fun gh=>n - gh.1) ((0,G)) (by exact H.sub ⟨O,O,O,aB⟩) ?_ ?_
 ·exact EK
 clear H;rintro ⟨k,g⟩ a w hI H;dsimp only at hI H;obtain ⟨hk,he,hgm⟩:=hI;dsimp only [lca,bD] at H;refine kP H (SR fun _ K4=>Rc O (Kz K4 (SQ fun _ K5=>Cd O ?_ ?_))) <;> clear H K4
 ·intro h9 a H
  try have p9:=dT h9
  have hk2:k < n:=by omega
  refine kP H (Kc K5 (SQ fun _ K6=>SB (SR fun _ K7=>Rm O (au K7 O (SR fun _ K8=>Rm O (Rm O ?_))))));clear H K5 K7;intro a H;refine Ai (Li:=[]) (L:=B (S k)) H wn O O (hf k hk2 _ _ hgm (Hp.owns (Li:=[]) H.hp)) O ?_;clear H;rintro v13 LU L13 a w ⟨s3,rfl,rfl,h3⟩ XI H;refine kH H (au K8 O (SR fun _ K9=>Rm O (Rc O (Kz K9 (Cd O ?_ ?_))))) <;> clear H K8 K9
  ·intro oC a H
   try have uL:=dT oC
   have hE:kF E n=E k:=by rw [Mk hk2,aH uL] at he;exact he.symm
   exact kP H (SR fun _ aT=>Rm O (au aT O (LR results128 O fun H=>H.hp.gI ⟨s3,by rw [hE],O,fun h=>absurd (hE.symm.trans h) uL⟩)))
  intro oC a H
  try have uL:=dF oC
  have hS:=h3 (nV.1 uL);subst hS;exact adg
 intro h9 a H
 try have p9:=dF h9
 refine dX ?_;refine K2 _ _ ?_;clear K2;exact kP H (SR fun _ bJ=>au bJ O (LR results128 O fun H=>H.hp.gI ⟨S n,dh vi (by rw [ow (by simp;omega)] at he;exact he),by rw [show k=n by omega],fun _=>rfl⟩))
abbrev Ql (b ms ml mr mb mu:Nat) (L:OL) (s:CS):OL:=gU b ms ml mr mb mu s.n :: (mb,fG (gB s.bL)) :: L
theorem axv {m:Nat} (ih:Jb us m) (hm:m<=4294967296) {G:GH} {L:OL} {st:List cB} {li:List fK} {rv:List dw} {b ms ml mr mb mu:Nat} {s:CS} {l:List ak} {v:ah} {body note:Bool} {t:Int} {x3 x4 x5:Nat}
  (hck:wY us G st li rv ms ml mr mu) (h3:aI G x3 0=some (aJ b 0)) (h4:aI G x4 0=some v) (h5:∀ (j:Nat) (u:ah),[.bool body,.bool note,vi t][j]?=some u->aI G x5 (0+j)=some u)
  (hv:av G (.sl 11 (l.map ak.dat)) v) (hz:aP l<=m) (ht0:0<=t) (Ib:t<=4) (hs0:0<=s.n) (hs1:s.n+(aP l:Nat)<=1099511627776) :
  IxL (.func (.func 137) #[] #[(aJ x3 0),(aJ x4 0),(aJ x5 0)]) G l.length (DI (fu (bH us st li rv) body note t) l s) (Ql b ms ml mr mb mu L) (rJ (fu (bH us st li rv) body note t) l s):=by
 intro k hk G1 w0 ND hO;refine kG (caps:=[(aJ x3 0),(aJ x4 0),(aJ x5 0)]) aqd ?_;replace h3:=aK ND h3;replace h4:=aK ND h4;replace h5:=fun j u hj=>aK ND (h5 j u hj);replace hck:=hck.mono ND;replace hv:=hv.mono ND;obtain ⟨A,c,rfl,hc1,hc2,hg⟩:=hv.slice;rw [bR] at *;obtain ⟨o,xo,pA,pn,pc,dA,dn,dc,yA,yn,yc,fA,fn,fc,rA,rn,rc,rfl,hrow,hhd,hfl,hrw⟩:=zT hk hg;obtain ⟨hn0,hn1⟩:=aly (bH us st li rv) body note t l s k V
 have hdz:aP (l.drop k)=1+bY l[k].dat+aP (l.drop (k+1)):=by
  simp only [aP];rw [mW hk,eP,eZ]
 have RH:=LM (jl hk)
 have hE:DI (fu (bH us st li rv) body note t) l s k=(fu (bH us st li rv) body note t l[k] (rJ (fu (bH us st li rv) body note t) l s k)).1:=by unfold DI;rw [fF hk]
 have hS:rJ (fu (bH us st li rv) body note t) l s (k+1)=(fu (bH us st li rv) body note t l[k] (rJ (fu (bH us st li rv) body note t) l s k)).2:=by rw [rJ,fF hk]
 rw [hE,hS]
 generalize rJ (fu (bH us st li rv) body note t) l s k=s1 at *
 refine iB (N:=13) (T:=[(0,_),(1,_),(2,_),(3,_)]) func137 O ntmps137 O O hO ?_;intro a H;refine kP H (SR fun _ K1=>au K1 O (SQ fun _ K2=>?_));clear H K1;intro a H;refine dI hmx [[],[],[],[1,2],[1,2,3],[],ra 0 6,ra 0 7] [6,7] Z [_,_,_,_,.agg #[vi l[k].kind,vi l[k].code,vi l[k].id,.string l[k].text,.slice pA pn pc,vi l[k].head.marks.ins,vi l[k].head.marks.move,.slice dA dn dc,.slice yA yn yc,.slice fA fn fc,.slice rA rn rc],.agg #[.bool body,.bool note,vi t]] H (aC (X0 O fun hG=>Rg LB O (aK hG h3)) (X0 O fun hG=>Rg fC O (aK hG h4)) (Z0 O (Rm O)) (Z2 1 7 2 8 O (Ri eH cO O O)) (aC ?_ ?_ (bQ O) (bQ O) dG)) ?_
 ·refine gX 3 9 O O fun _ a w G1 hG HT H fin=>?_;refine bq cO (cs:=[_,_,_,_,_,_,_,_,_,_,_]) H wn O O (fun j v hj=>H.hp.aI (aK hG (hrow j v hj))) O ?_;exact iX
 ·refine Un O fun _ a w G1 hG HT H fin=>?_;refine bq Ti (cs:=[.bool body,.bool note,vi t]) H wn O O (fun j v hj=>H.hp.aI (aK hG (h5 j v hj))) O ?_;exact iX
 clear H;intro a w G jA H hv;have H:=H.aQ (hv 0 6 O O) O;have H:=H.aQ (hv 4 10 O O) O;have H:=H.aQ (hv 5 11 O O) O;clear hv;refine gD aqe (Li:=[]) (L:=Ql b ms ml mr mb mu L s1) H wn O (axw ih hm _ _ _ st li rv b ms ml mr mb mu s1 l[k] _ _ _ _ _ body note t (hck.mono jA) (Hp.owns (Li:=[]) H.hp) (hhd.mono jA) (hfl.mono jA) (hrw.mono jA) V ht0 Ib V V) O ?_;clear H;rintro v12 _ _ a w ⟨s3,rfl,rfl,h12⟩ - H;dsimp only [List.nil_append] at H;refine kH H (Ra O ?_);clear H;intro a H;refine aF ⟨O,?_⟩;refine K2 _ _ ?_;clear K2;refine lr H results137 O ?_;exact H.hp.gI ⟨s3,O,O,h12⟩
theorem axz {m:Nat} (ih:Jb us m) (hm:m<=4294967296):Jb us (m+1):=by
 intro G L w0 st li rv b ms ml mr mb mu s l v body note t hck hO hv hz ht0 Ib hs0 hs1;obtain ⟨hA1,hA2⟩:=aiu (bH us st li rv) body note t l s;refine Calls.anp (R:=fun u G' L'=>OX b ms ml mr mb mu L (jg (bH us st li rv) body note t l s) u L') ?_ fun _ _ _ h=>h;obtain ⟨A,c,rfl,hc1,hc2,-⟩:=hv.slice;rw [bR] at *;have hll:=Au l;refine iB (N:=11) (T:=[(0,_),(1,_),(2,_)]) func57 O ntmps57 O O hO ?_;intro a H;refine dH (fun _ K1=>?_);refine eB (cs:=[_]) H wn O O O ?_;clear H;intro b3 a w hb3 H;refine eB (cs:=[_]) H wn O O O ?_;clear H;intro b4 a w hb4 H;refine eB (cs:=[_,_,_]) H wn O O O ?_;clear H;intro b5 a w hb5 H;refine kH H (au K1 O (SQ fun _ K2=>?_));clear H K1;intro a H;obtain ⟨Ga5,Rt,zV,H⟩:=H.fJ;obtain ⟨Ga4,Km,yV,H⟩:=H.fJ;obtain ⟨Ga,Fj,Bp,H⟩:=H.fJ;replace zV:=Fj _ _ (Km _ _ zV);replace yV:=Fj _ _ yV;have hma:∀ b o,G b=some o->Ga b=some o:=fun b o h=>Fj _ _ (Km _ _ (Rt _ _ h))
 have g3:aI Ga b3 0=some (aJ b 0):=by unfold aI;rw [Bp];rfl
 have g4:aI Ga b4 0=some (.slice A l.length c):=by unfold aI;rw [yV];rfl
 have g5:∀ (j:Nat) (u:ah),[.bool body,.bool note,vi t][j]?=some u->aI Ga b5 (0+j)=some u:=by
  intro j u hj;unfold aI;rw [zV];simpa using hj
 have hcb:=axv (mb:=mb) (L:=L) (s:=s) ih hm (hck.mono hma) g3 g4 g5 (hv.mono hma) V ht0 Ib hs0 hs1;refine kP H (SC (Rg fC O (by assumption) ?_));clear H;intro a H;refine kH H (Rl eH O ?_);clear H;intro a H;refine wV H wn O O ?_;clear H;intro a H;refine gD JK (Li:=[]) (L:=Ql b ms ml mr mb mu L s) H wn O (amS _ _ (Ql b ms ml mr mb mu L) (rJ (fu (bH us st li rv) body note t) l s) l.length (DI (fu (bH us st li rv) body note t) l s) _ (Hp.owns (Li:=[]) H.hp) V hcb) O ?_;clear H;rintro v10 _ _ a w ⟨s3,rfl,rfl,h10⟩ - H;dsimp only [List.nil_append] at H;exact kH H (aZ K2 O (LR results57 O fun H=>H.hp.gI ⟨s3,by rw [hA1],O,fun h=>by rw [hA1] at h;exact (h10 h).trans (hA2 (hA1.trans h)).symm⟩))
theorem RO:∀ m:Nat,m<=4294967297->Jb us m
 | 0,_=>fun _ _ _ _ _ _ _ _ _ _ _ _ _ _ _ _ _ _ _ _ _ h=>absurd h V
 | m+1,hm=>axz (RO m V) V
end
theorem asZ:dz prog 91 1 1:=⟨Z⟩
theorem ata:dz prog 91 2 2:=⟨Z⟩
theorem aqa:aW 131:=aY func131 O
theorem apZ:aW 129:=aY func129 O
theorem aAI {G:GH} {bl:Nat} {l:List dw} {A:Option Addr} {n c:Nat} (hb:aI G bl 0=some (.slice A n c)) (hv:av G (.sl 3 (l.map dw.dat)) (.slice A n c)):uU (.func (.func 131) #[] #[(aJ bl 0)]) G l.length fun k=>(l[k]?.map dw.id).getD 0:=by
 intro k hk G1 w0 hm hG;refine kG (caps:=[(aJ bl 0)]) aqa ?_;replace hb:=aK hm hb
 obtain rfl:n=l.length:=by have:=hv.len;simpa using this
 obtain ⟨b,o,rfl,hrow⟩:=Zw (hv.mono hm) hk;have hq:=hrow 0 _ O;refine eN [(0,_),(1,_)] func131 O ntmps131 O O hG ?_;intro a H;refine kP H (SR fun _ K1=>au K1 O (SR fun _ K2=>Rg BU O (by assumption) ?_));clear H K1;intro a H;refine kH H (Rm O (Ri rQ qg O O (Rf WG O (Rg aD O (by assumption) ?_))));clear H;intro a H;exact kH H (au K2 O (LR results131 O fun H=>H.rt (by dsimp only;rw [fF hk];rfl)))
def SF (l:List dw) (i:Nat) (x:dw):Int:=eu [wQ (fun k=>(l[k]?.map dw.id).getD 0) i,dN (!xw x.author) 39,dN (!decide (0<=x.time∧x.time<=1099511627776)) 40]
def CK (l:List dw) (i:Nat):Int:=match l[i]? with|some x=>SF l i x|none=>0
theorem aAa {G:GH} {bl:Nat} {l:List dw} {A:Option Addr} {n c:Nat} (hb:aI G bl 0=some (.slice A n c)) (hv:av G (.sl 3 (l.map dw.dat)) (.slice A n c)) (hl:l.length<=4294967296) (ht:∀ x∈l,x.author.size < 4611686018427387904):uU (.func (.func 129) #[] #[(aJ bl 0)]) G l.length (CK l):=by
 intro k hk G1 w0 hm hG;refine kG (caps:=[(aJ bl 0)]) apZ ?_;replace hb:=aK hm hb;replace hv:=hv.mono hm;have hcb:=aAI hb hv
 obtain rfl:n=l.length:=by have:=hv.len;simpa using this
 obtain ⟨b,o,rfl,hrow⟩:=Zw hv hk;have hte:=ht _ (jl hk)
 have he:CK l k=SF l k l[k]:=by unfold CK;rw [fF hk]
 obtain ⟨x,hx⟩:∃ x,x=l[k]:=⟨_,O⟩;rw [<- hx] at hrow hte he;refine eN [(0,_),(1,_)] func129 O ntmps129 O O hG ?_;intro a H;refine kP H (SR fun _ K1=>au K1 O (SQ fun _ K2=>?_));clear H K1;intro a H;have H:=H.sub (T':=[(0,_),(1,_)]) ⟨O,O,aB⟩;refine dI hmx [[],[],[0,1],[],[],[3,4],[3,4,5],ra 3 4,ra 0 8,ra 0 9,ra 0 10,[],[],[11,12],[11,12,13],ra 11 4,ra 0 16,ra 0 17,ra 0 18,ra 0 19,ra 0 20,ra 0 21] [19,20,21] Z [_,.func (.func 131) #[] #[(aJ bl 0)],vi (wQ (fun k=>(l[k]?.map dw.id).getD 0) k),_,_,_,_,_,.bool (xw x.author),_,vi (dN (!xw x.author) 39),_,_,_,_,_,.bool (decide (0<=x.time∧x.time<=1099511627776)),_,vi (dN (!decide (0<=x.time∧x.time<=1099511627776)) 40)] H (aC (Z0 O (Rm O)) ?_ ?_ (X0 O fun hG=>Rg BU O (aK hG hb)) (aC (Z0 O (Rm O)) (Z2 3 7 4 8 O (Ri rQ qg O O)) (Z1 5 9 O (Rf asZ O)) (X1 6 10 O fun hG=>Rg gV O (aK hG (hrow 1 _ O))) (aC ?_ (Z1 8 12 O (Rn O)) ?_ (X0 O fun hG=>Rg BU O (aK hG hb)) (aC (Z0 O (Rm O)) (Z2 11 15 12 16 O (Ri rQ qg O O)) (Z1 13 17 O (Rf ata O)) (X1 14 18 O fun hG=>Rg aD O (aK hG (hrow 2 _ O))) (aC ?_ (Z1 16 20 O (Rn O)) ?_ (bQ O) (bK (bQ O) (bK (bQ O) dG))))))) ?_
 ·exact GI
 ·exact acT
 ·refine gX 7 11 O O fun _ a w G1 hG HT H fin=>?_;refine s_call aeM H wn O (aaY _ _ H.ro x.author hte) O ?_;clear H;rintro v12 Dm a w ⟨rfl,-⟩ oV H;exact fin H oV (rfl)
 ·refine gX 9 13 O O fun _ a w G1 hG HT H fin=>?_;refine s_call lX H wn O (mD _ _ H.ro _ 39) O ?_;clear H;rintro v14 EA a w ⟨rfl,-⟩ Bl H;exact fin H Bl (rfl)
 ·refine gX 15 19 O O fun _ a w G1 hG HT H fin=>?_;refine s_call yM H wn O (zi _ _ H.ro x.time 0 1099511627776) O ?_;clear H;rintro v20 I8 a w ⟨rfl,-⟩ atT H;exact fin H atT (rfl)
 ·refine gX 17 21 O O fun _ a w G1 hG HT H fin=>?_;refine s_call lX H wn O (mD _ _ H.ro _ 40) O ?_;clear H;rintro v22 G22 a w ⟨rfl,-⟩ Xj H;exact fin H Xj (rfl)
 clear H;intro a w G jA H hv;have H:=H.aQ (hv 2 6 O O) O;have H:=H.aQ (hv 10 14 O O) O;have H:=H.aQ (hv 18 22 O O) O;clear hv;refine iG qO jm [_,_,_] [_,_,_] H wn O O O O O (by intro i q h;match i,h with|0,h=>exact h|1,h=>exact h|2,h=>exact h|n+3,h=>simp at h) O O ?_;clear H;intro b23 a w aDo H;obtain ⟨O6,vK,auM,H⟩:=H.fJ;refine s_call sj H wn O (sw _ _ H.ro _ _ (Ij [wQ (fun k=>(l[k]?.map dw.id).getD 0) k,dN (!xw x.author) 39,dN (!decide (0<=x.time∧x.time<=1099511627776)) 40] auM (show 3<=maxLen by decide))) rfl ?_;clear H;rintro v24 _ a w ⟨rfl,rfl⟩ - H;refine kH H (Ra O ?_);clear H;intro a H;refine aF ⟨O,?_⟩;refine K2 _ _ ?_;clear K2;refine lr H results129 O ?_;exact H.rt (by rw [he,SF])
def Dz (l:List dw):Int:=eu [dN (decide (256 < (l.length:Int))) 9,kF (CK l) (min l.length 256)]
theorem aoB (G:GH) (w0:World) (hG:Hold G w0) (l:List dw) (v:ah) (hv:av G (.sl 3 (l.map dw.dat)) v) (hl:l.length<=4294967296) (ht:∀ x∈l,x.author.size < 4611686018427387904) :
  Calls prog 53 #[v] w0 (bG w0 G fun u G'=>u=vi (Dz l)):=by
 obtain ⟨A,c,rfl,hc1,hc2,-⟩:=hv.slice;rw [bR] at *;refine eN [(0,_)] func53 O ntmps53 O O hG ?_;intro a H;refine dH (fun _ K1=>?_);refine eB (cs:=[_]) H wn O O O ?_;clear H;intro b1 a w hb1 H;refine kH H (au K1 O (SQ fun _ K2=>?_));clear H K1;intro a H;have H:=H.sub (T':=[(1,_)]) ⟨O,aB⟩;obtain ⟨Ga,hma,hb1',H⟩:=H.fJ
 have hbl:aI Ga b1 0=some (.slice A l.length c):=by unfold aI;rw [hb1'];rfl
 have hcb:=aAa hbl (hv.mono hma) hl ht;refine dI hmx [[],[0],[0,1],[0,1,2],[],[4],[4,5],[],ra 0 8,ra 0 9,ra 0 10,ra 0 11] [9,10,11] Z [_,_,_,vi (dN (decide (256 < (l.length:Int))) 9),_,_,vi ((min l.length 256:Nat):Int),.func (.func 129) #[] #[(aJ b1 0)],vi (kF (CK l) (min l.length 256))] H (aC (X0 O fun hG=>Rg BU O (aK hG hbl)) (Z1 0 3 O (Rl rQ O)) (Z1 1 4 O (Rc O)) ?_ (aC (X0 O fun hG=>Rg BU O (aK hG hbl)) (Z1 4 7 O (Rl rQ O)) ?_ ?_ (aC ?_ (bQ O) (bQ O) (bQ O) dG))) ?_
 ·exact Qb
 ·exact Qe
 ·exact GI
 ·refine eU 6 9 7 10 O O fun _ a w G1 hG HT H fin=>?_;refine s_call JK H wn O (Ml _ _ H.ro (min l.length 256) (CK l) _ V ((hcb.mono hG).le (Nat.min_le_left _ _))) O ?_;exact ME
 clear H;intro a w G jA H hv;have H:=H.aQ (hv 3 6 O O) O;have H:=H.aQ (hv 8 11 O O) O;clear hv;refine iG qO jm [_,_] [_,_] H wn O O O O O (by intro i q h;match i,h with|0,h=>exact h|1,h=>exact h|n+2,h=>simp at h) O O ?_;clear H;intro b12 a w D9 H;obtain ⟨Dm,Bt,HV,H⟩:=H.fJ;refine s_call sj H wn O (sw _ _ H.ro _ _ (Al HV)) O ?_;clear H;rintro v13 _ a w ⟨rfl,rfl⟩ - H;refine kH H (Ra O ?_);clear H;intro a H;refine aF ⟨O,?_⟩;refine K2 _ _ ?_;clear K2;refine lr H results53 O ?_;exact EJ
theorem lG:∀ {l:List Int},eu l=0->∀ x∈l,x=0
 | [],_,_,h=>by cases h
 | e :: r,h,x,hx=>by
  unfold eu at h
  by_cases he:e=0
  ·rw [ay (fun h'=>h' he)] at h
   rcases iD.1 hx with rfl|hx
   ·exact he
   exact lG h x hx
  rw [aH he] at h;exact absurd h he
theorem EI {E:Nat->Int} {n:Nat} (h:kF E n=0) (i:Nat) (hi:i < n):E i=0:=lG h _ (by simp;exact ⟨i,hi,O⟩)
theorem RJ {id:Nat->Int} {i:Nat} (h:wQ id i=0):1<=id i∧id i<=1073741824∧(0 < i->id (i - 1) < id i):=by
 unfold wQ at h
 by_cases h1:1<=id i∧id i<=1073741824
 ·rw [ay (fun h'=>h' h1)] at h
  by_cases h2:0 < i∧id i=id (i - 1)
  ·rw [aH h2] at h;cases h
  rw [ay h2] at h
  by_cases h3:0 < i∧id i < id (i - 1)
  ·rw [aH h3] at h;cases h
  exact ⟨h1.1,h1.2,fun h0=>by omega⟩
 rw [aH h1] at h;cases h
theorem aip {l:List Int} (h:∀ i (h:i+1 < l.length),l[i] < l[i+1]):Dj l:=by
 have hlt:∀ (j i:Nat) (hj:j < l.length) (hi:i < j),l[i] < l[j]:=by
  intro j
  induction j with
  | zero=>intro i _ hi;omega
  | succ j ih =>
   intro i hj hi;have h1:=h j hj
   by_cases e:i=j
   ·subst e;exact h1
   have:=ih i V V;omega
 intro k hk hm;obtain ⟨i,hi,he⟩:=List.getElem_of_mem hm;rw [List.length_take] at hi;have:=hlt k i hk V;rw [List.getElem_take] at he
 omega
theorem acZ {p:Prop} (h:p:=by
 have h4:=(RJ (lG h3 _ eT)).2.2 V;rw [Nat.add_sub_cancel,fF hi,fF (show i < l.length by omega)] at h4
 simpa using h4):p:=h
theorem aAb {l:List dw} (h:Dz l=0):Dj (l.map dw.id):=by
 have h1:=lG h _ (eT);have h2:=lG h _ (gH _ eT)
 have hl:l.length<=256:=by
  unfold dN at h1
  by_cases hd:256 < (l.length:Int)
  ·rw [aH (aG hd)] at h1;cases h1
  omega
 refine aip fun i hi=>?_;rw [bR] at hi;have h3:=EI h2 (i+1) V
 unfold CK at h3
 rw [fF hi] at h3;exact acZ
theorem axX {l:List fK} (h:MJ l=0):Dj (l.map fK.id):=by
 have h1:=lG h _ (eT);have h2:=lG h _ (gH _ eT)
 have hl:l.length<=64:=by
  unfold dN at h1
  by_cases hd:64 < (l.length:Int)
  ·rw [aH (aG hd)] at h1;cases h1
  omega
 refine aip fun i hi=>?_;rw [bR] at hi;have h3:=EI h2 (i+1) V
 unfold Ip at h3
 exact acZ
theorem aB4 {l:List cB} (h:AX l=0):Dj (l.map cB.id):=by
 unfold AX at h
 by_cases h1:128 < l.length
 ·rw [aH h1] at h;cases h
 rw [ay h1] at h
 by_cases h2:vB (BI l) 0 l.length≠0
 ·rw [aH h2] at h;exact absurd h h2
 intro k hk;rw [bR] at hk;have:=ajA (nV.1 h2) k hk;rw [<- List.map_take,List.getElem_map];exact this
theorem aAo {C:bN} {h:fH} {n:Nat} (e:Eo C h n=0):n≠0:=by
 intro hn;have:=lG e _ (gH _ eT);rw [hn] at this
 cases this
mutual
theorem ayJ (C:bN) (body note:Bool) (t:Int):∀ (x:ak) (s s':CS),fu C body note t x s=(0,s')->El x
 | .mk k c i tx h f r,s,s',e=>by
  have hf:=Sb C false true t f;have hr:=aji C note (t+1) r;rw [fu] at e;obtain ⟨e0,e⟩:=jG e;obtain ⟨-,-,Fv,Ns⟩:=EY e0;(iterate 2 obtain ⟨-,e⟩:=jG e);dsimp only [ak.kind,ak.rows,ak.flow] at Fv Ns;rw [El]
  by_cases h6:k=6
  ·rw [aH h6] at e;refine ⟨hf _ _ e,?_⟩;rw [Fv V,xS];trivial
  rw [ay h6] at e;rw [Ns h6];refine ⟨by rw [lq];trivial,?_⟩
  by_cases h7:k=7
  ·rw [aH h7] at e;exact hr _ _ (SH e).2
  rw [Fv h7,xS];trivial
theorem ayK (C:bN) (note:Bool) (t:Int):∀ (x:aM) (s s':CS),zw C note t x s=(0,s')->CG x
 | .mk h cs,s,s',e=>by
  have hc:=ajh C note t cs;rw [Ou] at e;obtain ⟨e0,e⟩:=jG e;rw [CG];exact ⟨fun e'=>aAo e0 (by rw [show (aM.mk h cs).cells=cs from rfl,e'];rfl),hc _ _ e⟩
theorem ayI (C:bN) (note:Bool) (t:Int):∀ (x:aN) (s s':CS),cellC C note t x s=(0,s')->CF x
 | .mk i h f,s,s',e=>by
  have hf:=Sb C false note t f;rw [MI] at e;rw [CF];exact hf _ _ (jG (jG e).2).2
theorem Sb (C:bN) (body note:Bool) (t:Int):∀ (l:List ak) (s s':CS),jg C body note t l s=(0,s')->lq l
 | [],s,s',e=>by rw [lq];trivial
 | x :: r,s,s',e=>by
  rw [jg] at e;obtain ⟨e1,e⟩:=jG e;rw [lq];exact ⟨ayJ C body note t x s _ (Prod.ext e1 O),Sb C body note t r _ _ e⟩
theorem aji (C:bN) (note:Bool) (t:Int):∀ (l:List aM) (s s':CS),iR C note t l s=(0,s')->xS l
 | [],s,s',e=>by rw [xS];trivial
 | x :: r,s,s',e=>by
  rw [iR] at e;obtain ⟨e1,e⟩:=jG e;rw [xS];exact ⟨ayK C note t x s _ (Prod.ext e1 O),aji C note t r _ _ e⟩
theorem ajh (C:bN) (note:Bool) (t:Int):∀ (l:List aN) (s s':CS),pO C note t l s=(0,s')->BH l
 | [],s,s',e=>by rw [BH];trivial
 | x :: r,s,s',e=>by
  rw [pO] at e;obtain ⟨e1,e⟩:=jG e;rw [BH];exact ⟨ayI C note t x s _ (Prod.ext e1 O),ajh C note t r _ _ e⟩
end
theorem fq.ne {l:List ak} (h:fq l):lq l:=by
 obtain ⟨C,body,note,t,s,s',e⟩:=h;exact Sb C body note t l s s' e
theorem ajd {m l:List ak} (hs:∀ x∈m,x∈l) (h:lq l):lq m:=Y0 fun x hx=>Oj h x (hs x hx)
theorem fq.zk {l:List ak} (h:fq l):zk l=0:=by unfold Go.Proofs.YtggpjlchglgodaaGreat.zk;rw [aH h.div]
theorem arQ:aW 54:=aY func54 O
theorem BX:Ty prog 36 4 96 [.slice none 0 0,.slice none 0 0,.slice none 0 0,.slice none 0 0] true:=⟨Z,Z⟩
theorem arO:aW 52:=aY func52 O
theorem arP:aW 53:=aY func53 O
theorem JW:dz prog 38 1 1:=⟨Z⟩
theorem WM (e:Int):eu [e]=e:=by
 by_cases h:e=0 <;> simp [eu,h]
structure jD where
 flow:List ak
 fin:fH
 revs:List dw
 nS:Ch
structure mU (G:GH) (D:jd) (d:jD):Prop where
 fl:av G (.sl 11 (d.flow.map ak.dat)) (bX D.f)
 hd:jI G d.fin (bX D.p) (bX D.d) (bX D.y)
 ins:D.ins=d.fin.marks.ins
 mv:D.move=d.fin.marks.move
 rv:av G (.sl 3 (d.revs.map dw.dat)) (bX D.r)
 st:AB G d.nS (bX D.s1) (bX D.s2) (bX D.s3) (bX D.s4)
theorem AB.mono {G G':GH} (hm:∀ b o,G b=some o->G' b=some o) {s:Ch} {a b c d:ah} (h:AB G s a b c d):AB G' s a b c d:=⟨h.st.mono hm,h.li.mono hm,h.cm.mono hm,h.va.mono hm⟩
theorem mU.mono {G G':GH} (hm:∀ b o,G b=some o->G' b=some o) {D:jd} {d:jD} (h:mU G D d):mU G' D d:=⟨h.fl.mono hm,h.hd.mono hm,h.ins,h.mv,h.rv.mono hm,h.st.mono hm⟩
structure sP (d:jD):Prop where
 fl:aP d.flow<=1073741824
 hd:oN d.fin<=4294967296
 rn:d.revs.length<=4294967296
 rt:∀ x∈d.revs,x.author.size < 4611686018427387904
 sn:d.nS.styles.length<=4294967296
 st:Uu d.nS
abbrev jD.lW (d:jD):bN:=bH [] d.nS.styles d.nS.lists d.revs
def zm (m:zJ):Bool:=decide ((m.ins≠0∨m.move≠0)∨0 < (m.dJ.length:Int))
def jo (d:jD):Int:=eu [eu [MK d.nS,Dz d.revs],eu [iw d.lW 3 d.fin,dN (zm d.fin.marks) 21],(jg d.lW true false 0 d.flow ⟨0,[]⟩).1,dN (decide (16384 < (jg d.lW true false 0 d.flow ⟨0,[]⟩).2.n)) 9]
theorem abK {p:Prop} (h:p:=by
 exact fin H iJ (by show _=_;first|exact iq (aG c1).symm|exact iq (by simp [c0]))):p:=h
theorem abL {p:Prop} (h:p:=by
 exact fin H iJ (by show _=_;first|exact iq (lT (Or.inl c1)).symm|exact iq (by simp [zm,c1]))):p:=h
theorem Vg {p:Prop} (h:p:=by
 refine eU 0 24 2 26 O O fun _ a w G1 hG HT H fin=>?_;refine gD Qu (Li:=[_,_]) (L:=gU b ms ml mr mb mu 0 :: (mb,fG []) :: []) H wn O (Q6 _ _ _ d.nS.styles d.nS.lists d.revs b ms ml mr mb mu _ (hck.mono hG) (Hp.owns (Li:=[_,_]) H.hp) 3 d.fin _ _ _ (hhd.mono hG) zh) O ?_;clear H;rintro v27 _ _ a w ⟨rfl,rfl,rfl⟩ atV H;dsimp only [lca,bD] at H;exact fin H atV (rfl)):p:=h
theorem Vq {p:Prop} (h:p:=by
 refine gX 17 41 O O fun _ a w G1 hG HT H fin=>?_;refine s_call lX H wn O (mD _ _ H.ro _ 21) O ?_;clear H;rintro v42 Uc a w ⟨rfl,-⟩ auc H;exact fin H auc (rfl)):p:=h
theorem adv {p:Prop} (h:p:=by
 refine eU 12 36 16 40 O O fun _ a w G1 hG HT H fin=>?_;refine kH H (Pt (aG c1) O ?_);clear H;intro a H;exact abL):p:=h
theorem adx {p:Prop} (h:p:=by
 refine eU 7 31 10 34 O O fun _ a w G1 hG HT H fin=>?_;refine kH H (Pf (aS c0) O ?_);clear H;intro a H;exact abK):p:=h
theorem Vk {p:Prop} (h:p:=by
 refine gX 1 25 O O fun _ a w G1 hG HT H fin=>?_;exact U6):p:=h
theorem adQ (G:GH) (w0:World) (hG:Hold G w0) (D:jd) (d:jD) (hR:mU G D d) (hz:sP d) :
  Calls prog 12 #[D.val] w0 (bG w0 G fun u G'=>u=vi (jo d)):=by
 obtain ⟨df,dp,dd,dy,dr,d1,d2,d3,d4,ins,mv⟩:=D;obtain ⟨hfl,hhd,hin,hmv,wO,hst⟩:=hR;dsimp only at hfl hhd hin hmv wO hst;subst hin;subst hmv;obtain ⟨zf,zh,zr,zt,zs,zg⟩:=hz;have hdl:=hhd.dJ.len;rw [bR] at hdl
 have hdn:d.fin.marks.dJ.length<=4294967296:=by
  have h1:=OT d.fin;have h2:=tT (d.fin.marks.dJ.map ku.dat);rw [bR] at h2;omega
 refine eN [(0,_)] func12 O ntmps12 O O hG ?_;intro a H;refine dH (fun _ K1=>?_);refine eB (cs:=[_,_,_,_,_,_,_,_,_,_,_]) H wn O O O ?_;clear H;intro b1 a w hb1 H;refine kH H (au K1 O (SQ fun _ K2=>SQ fun _ K3=>?_));clear H K1;intro a H;refine dI hmx [[],[0],[0,1],[],[3],ra 0 5,ra 0 6,ra 0 7,ra 0 8] [6,7,8] Z [_,.agg #[bX d1,bX d2,bX d3,bX d4],vi (MK d.nS),_,bX dr,vi (Dz d.revs)] H (aC (Z0 O (Rf Nf O)) ?_ ?_ (Z0 O (Rf JX O)) (aC (Z1 3 11 O (Ro BU 0 O)) ?_ (bQ O) (bQ O) (bK (bQ O) dG))) ?_
 ·refine gX 0 8 O O fun _ a w G1 hG HT H fin=>?_;refine bq BX (cs:=[_,_,_,_]) H wn O O (H.hp.dD 0 O O) O ?_;exact iX
 ·refine gX 1 9 O O fun _ a w G1 hG HT H fin=>?_;refine s_call arO H wn O (aoC _ _ H.ro d.nS _ _ _ _ (hst.mono hG) zg) O ?_;clear H;rintro v10 tZ a w rfl wM H;exact fin H wM (rfl)
 ·refine gX 4 12 O O fun _ a w G1 hG HT H fin=>?_;refine s_call arP H wn O (aoB _ _ H.ro d.revs _ (wO.mono hG) zr zt) O ?_;clear H;rintro v13 LU a w rfl Co H;exact fin H Co (rfl)
 clear H;intro a w G jA H hv;have H:=H.aQ (hv 2 10 O O) O;have H:=H.aQ (hv 5 13 O O) O;clear hv;refine iG qO jm [_,_] [_,_] H wn O O O O O (by intro i q h;match i,h with|0,h=>exact h|1,h=>exact h|n+2,h=>simp at h) O O ?_;clear H;intro b14 a w QV H;obtain ⟨EA,Kj,auJ,H⟩:=H.fJ;have hg1:=fun b o h=>Kj b o (jA b o h);replace hfl:=hfl.mono hg1;replace hhd:=hhd.mono hg1;replace wO:=wO.mono hg1;replace hst:=hst.mono hg1;refine s_call sj H wn O (sw _ _ H.ro _ _ (Al auJ)) O ?_;clear H;rintro v15 _ a w ⟨rfl,rfl⟩ - H;refine kH H (Ra O ?_);clear H;intro a H;refine aF ⟨O,?_⟩;refine K3 _ _ ?_;clear K3;refine kP H (SR fun _ K4=>Rm O (Rc O (Kz K4 (Cd O ?_ ?_)))) <;> clear H K4
 ·intro cK a H
  try have kI:=dT cK
  have hE:jo d=eu [MK d.nS,Dz d.revs]:=by rw [jo,eu,aH kI]
  exact kP H (SR fun _ K5=>Rm O (au K5 O (LR results12 O fun H=>H.rt (by rw [hE]))))
 intro cK a H
 try have kI:=dF cK
 have e1:=nV.1 kI;have s1:=lG e1 _ eT;have s2:=lG e1 _ (gH _ eT);have t1:=lG s1 _ eT;have t2:=lG s1 _ (gH _ eT);refine gT ?_;refine K2 _ _ ?_;clear K2;refine dH (fun _ K6=>?_);refine bq jH (cs:=[_,_,_,_,_,_,_,_,_,_,_]) H wn O O (H.hp.dD 0 O O) O ?_;clear H;intro a H;refine gD arQ (Li:=[_]) (L:=[]) H wn O (ayL _ _ (Hp.owns (Li:=[_]) H.hp) ⟨df,dp,dd,dy,dr,d1,d2,d3,d4,d.fin.marks.ins,d.fin.marks.move⟩ d.nS.styles d.nS.lists d.revs hst.st hst.li wO (aB4 t1) (axX t2) (aAb s2) zs zg.ln zr) O ?_;clear H;rintro v20 I8 _ a w ⟨b,ms,ml,mr,mb,mu,rfl,rfl,hck⟩ Fb H;dsimp only [lca,bD] at H;have H:=H.dV (Pl:=[_,_,_,_]) (dL:=[_,_,_,_]) [3,0,1,2] Q1 O;obtain ⟨Gu,hmu,hu,H⟩:=H.fJ;replace hck:=hck.with (us:=[]) hmu hu;replace hfl:=(hfl.mono Fb).mono hmu;replace hhd:=(hhd.mono Fb).mono hmu;refine kH H (au K6 O (SR fun _ K7=>Rf JW O (Rf wI O ?_)));clear H K6;intro a H;refine bq LC (cs:=[_,_,_,_]) H wn O O (H.hp.dD 0 O O) O ?_;clear H;intro a H;refine dR LC H wn O ?_;clear H;intro b5 a w hb5 H;refine bM LC 0 (vs:=[_,_,_,_]) H wn O ?_;clear H;intro w H;refine K7 _ _ ?_;clear K7;refine bP (fun _ K8=>?_);refine bP (fun _ K9=>?_)
 by_cases c0:d.fin.marks.ins≠0
 ·skip;have c1:d.fin.marks.ins≠0∨d.fin.marks.move≠0:=Or.inl c0;refine dI hmx [[],[],[1],[0,1,2],[],[4],[4,5],ra 0 7,ra 0 8,ra 0 9,ra 0 10,ra 0 11,ra 0 12,ra 0 13,ra 0 14,ra 0 15,ra 0 16,ra 0 17,ra 0 18,ra 0 19,ra 0 20,ra 0 21] [19,20,21] Z [_,_,vJ d.fin (bX dp) (bX dd) (bX dy),vi (iw d.lW 3 d.fin),_,vi d.fin.marks.ins,_,_,undef,undef,undef,.bool (decide (d.fin.marks.ins≠0∨d.fin.marks.move≠0)),_,undef,undef,undef,undef,.bool (zm d.fin.marks),vi (dN (zm d.fin.marks) 21)] H (aC (Z0 O (Rm O)) (Z0 O (Rf JW O)) ?_ ?_ (aC (Z0 O (Rf yQ O)) (Z1 4 28 O (Ro aD 0 O)) (Z1 5 29 O (Rc O)) (Z1 6 30 O (Rm O)) (aC (aO 7 (aG c0) O O) (aO 7 (aG c0) O O) (aO 7 (aG c0) O O) ?_ (aC (Z1 11 35 O (Rm O)) (aO 12 (aG c1) O O) (aO 12 (aG c1) O O) (aO 12 (aG c1) O O) (aC (aO 12 (aG c1) O O) ?_ ?_ (bQ O) (bK (bQ O) (bK (bQ O) dG))))))) ?_
  ·exact Vk
  ·exact Vg
  ·refine eU 7 31 10 34 O O fun _ a w G1 hG HT H fin=>?_;refine kH H (Pt (aG c0) O ?_);clear H;intro a H;exact abK
  ·exact adv
  ·exact Vq
  clear H;intro a w G pU H hv;have H:=H.aQ (hv 3 27 O O) O;have H:=H.aQ (hv 18 42 O O) O;clear hv;refine iG qO jm [_,_] [_,_] H wn O O O O O (by intro i q h;match i,h with|0,h=>exact h|1,h=>exact h|n+2,h=>simp at h) O O ?_;clear H;intro b43 a w agL H;obtain ⟨Pb,Fh,Np,H⟩:=H.fJ;have Fa:=fun b o h=>Fh b o (pU b o h);replace hfl:=hfl.mono Fa;replace hck:=hck.mono Fa;refine s_call sj H wn O (sw _ _ H.ro _ _ (Al Np)) O ?_;clear H;rintro v44 _ a w ⟨rfl,rfl⟩ - H;refine kH H (Ra O ?_);clear H;intro a H;refine aF ⟨O,?_⟩;refine K9 _ _ ?_;clear K9;refine kP H (SR fun _ aT=>Rm O (Rc O (Kz aT (Cd O ?_ ?_)))) <;> clear H aT
  ·intro h46 a H
   try have p46:=dT h46
   have hE:jo d=eu [iw d.lW 3 d.fin,dN (zm d.fin.marks) 21]:=by rw [jo,eu,ay (by simpa using e1),eu,aH p46]
   exact kP H (SR fun _ bJ=>Rm O (au bJ O (LR results12 O fun H=>H.rt (by rw [hE]))))
  intro h46 a H
  try have p46:=dF h46
  have e2:=nV.1 p46;refine kP H (Kc K8 (SQ fun _ bO=>SR fun _ bU=>Rm O (aU wJ fC 1 O O ?_)));clear H K8;intro a H;refine kg FJ [_,_,_] H wn O O O O ?_;clear H;intro a H;refine gD M4 (Li:=[_,_]) (L:=gU b ms ml mr mb mu 0 :: (mb,fG []) :: []) H wn O (RO 4294967297 V _ _ _ d.nS.styles d.nS.lists d.revs b ms ml mr mb mu ⟨0,[]⟩ d.flow _ true false 0 hck (Hp.owns (Li:=[_,_]) H.hp) hfl V V V Q1 (by dsimp only;omega)) rfl ?_;clear H;rintro v52 _ _ a w ⟨rfl,s3,rfl,rfl,h3⟩ - H;dsimp only [lca,bD] at H;refine kH H (au bU O (SR fun _ bZ=>Rm O (Rc O (Kz bZ (Cd O ?_ ?_))))) <;> clear H bU bZ
  ·intro iZ a H
   try have p54:=dT iZ
   have hE:jo d=(jg d.lW true false 0 d.flow ⟨0,[]⟩).1:=by rw [jo,eu,ay (by simpa using e1),eu,ay (by simpa using e2),eu,aH p54]
   exact kP H (SR fun _ dP=>Rm O (au dP O (LR results12 O fun H=>H.rt (by rw [hE]))))
  intro iZ a H
  try have p54:=dF iZ
  have e3:=nV.1 p54;have hs3:=h3 e3;subst hs3;refine kP H (Kc bO (SR fun _ dY=>Rm O (Rk O (aU GY aD 2 O O (Rc O ?_)))));clear H bO;intro a H;refine s_call lX H wn O (mD _ _ H.ro _ 9) O ?_;clear H;rintro v61 _ a w ⟨rfl,rfl⟩ - H
  have hE:jo d=dN (decide (16384 < (jg d.lW true false 0 d.flow ⟨0,[]⟩).2.n)) 9:=by rw [jo,eu,ay (by simpa using e1),eu,ay (by simpa using e2),eu,ay (by simpa using e3)];exact WM _
  exact kH H (au dY O (LR results12 O fun H=>H.rt (by rw [hE])))
 skip
 by_cases c1:d.fin.marks.ins≠0∨d.fin.marks.move≠0
 ·skip;refine dI hmx [[],[],[1],[0,1,2],[],[4],[4,5],ra 0 7,ra 0 8,ra 0 9,ra 0 10,ra 0 11,ra 0 12,ra 0 13,ra 0 14,ra 0 15,ra 0 16,ra 0 17,ra 0 18,ra 0 19,ra 0 20,ra 0 21] [19,20,21] Z [_,_,vJ d.fin (bX dp) (bX dd) (bX dy),vi (iw d.lW 3 d.fin),_,vi d.fin.marks.ins,_,_,_,vi d.fin.marks.move,_,.bool (decide (d.fin.marks.ins≠0∨d.fin.marks.move≠0)),_,undef,undef,undef,undef,.bool (zm d.fin.marks),vi (dN (zm d.fin.marks) 21)] H (aC (Z0 O (Rm O)) (Z0 O (Rf JW O)) ?_ ?_ (aC (Z0 O (Rf yQ O)) (Z1 4 28 O (Ro aD 0 O)) (Z1 5 29 O (Rc O)) (Z1 6 30 O (Rm O)) (aC (Z1 7 31 O (YF ET (aS c0) O)) (Z2 8 32 7 31 O (YO aD 0 (aS c0) O)) (Z2 9 33 7 31 O (YC (aS c0) O)) ?_ (aC (Z1 11 35 O (Rm O)) (aO 12 (aG c1) O O) (aO 12 (aG c1) O O) (aO 12 (aG c1) O O) (aC (aO 12 (aG c1) O O) ?_ ?_ (bQ O) (bK (bQ O) (bK (bQ O) dG))))))) ?_
  ·exact Vk
  ·exact Vg
  ·exact adx
  ·exact adv
  ·exact Vq
  clear H;intro a w G pU H hv;have H:=H.aQ (hv 3 27 O O) O;have H:=H.aQ (hv 18 42 O O) O;clear hv;refine iG qO jm [_,_] [_,_] H wn O O O O O (by intro i q h;match i,h with|0,h=>exact h|1,h=>exact h|n+2,h=>simp at h) O O ?_;clear H;intro b43 a w agL H;obtain ⟨Pb,Fh,Np,H⟩:=H.fJ;have Fa:=fun b o h=>Fh b o (pU b o h);replace hfl:=hfl.mono Fa;replace hck:=hck.mono Fa;refine s_call sj H wn O (sw _ _ H.ro _ _ (Al Np)) O ?_;clear H;rintro v44 _ a w ⟨rfl,rfl⟩ - H;refine kH H (Ra O ?_);clear H;intro a H;refine aF ⟨O,?_⟩;refine K9 _ _ ?_;clear K9;refine kP H (SR fun _ dQ=>Rm O (Rc O (Kz dQ (Cd O ?_ ?_)))) <;> clear H dQ
  ·intro h46 a H
   try have p46:=dT h46
   have hE:jo d=eu [iw d.lW 3 d.fin,dN (zm d.fin.marks) 21]:=by rw [jo,eu,ay (by simpa using e1),eu,aH p46]
   exact kP H (SR fun _ eX=>Rm O (au eX O (LR results12 O fun H=>H.rt (by rw [hE]))))
  intro h46 a H
  try have p46:=dF h46
  have e2:=nV.1 p46;refine kP H (Kc K8 (SQ fun _ gM=>SR fun _ fI=>Rm O (aU wJ fC 1 O O ?_)));clear H K8;intro a H;refine kg FJ [_,_,_] H wn O O O O ?_;clear H;intro a H;refine gD M4 (Li:=[_,_]) (L:=gU b ms ml mr mb mu 0 :: (mb,fG []) :: []) H wn O (RO 4294967297 V _ _ _ d.nS.styles d.nS.lists d.revs b ms ml mr mb mu ⟨0,[]⟩ d.flow _ true false 0 hck (Hp.owns (Li:=[_,_]) H.hp) hfl V V V Q1 (by dsimp only;omega)) rfl ?_;clear H;rintro v52 _ _ a w ⟨rfl,s3,rfl,rfl,h3⟩ - H;dsimp only [lca,bD] at H;refine kH H (au fI O (SR fun _ gQ=>Rm O (Rc O (Kz gQ (Cd O ?_ ?_))))) <;> clear H fI gQ
  ·intro iZ a H
   try have p54:=dT iZ
   have hE:jo d=(jg d.lW true false 0 d.flow ⟨0,[]⟩).1:=by rw [jo,eu,ay (by simpa using e1),eu,ay (by simpa using e2),eu,aH p54]
   exact kP H (SR fun _ jw=>Rm O (au jw O (LR results12 O fun H=>H.rt (by rw [hE]))))
  intro iZ a H
  try have p54:=dF iZ
  have e3:=nV.1 p54;have hs3:=h3 e3;subst hs3;refine kP H (Kc gM (SR fun _ kK=>Rm O (Rk O (aU GY aD 2 O O (Rc O ?_)))));clear H gM;intro a H;refine s_call lX H wn O (mD _ _ H.ro _ 9) O ?_;clear H;rintro v61 _ a w ⟨rfl,rfl⟩ - H
  have hE:jo d=dN (decide (16384 < (jg d.lW true false 0 d.flow ⟨0,[]⟩).2.n)) 9:=by rw [jo,eu,ay (by simpa using e1),eu,ay (by simpa using e2),eu,ay (by simpa using e3)];exact WM _
  exact kH H (au kK O (LR results12 O fun H=>H.rt (by rw [hE])))
 skip;refine dI hmx [[],[],[1],[0,1,2],[],[4],[4,5],ra 0 7,ra 0 8,ra 0 9,ra 0 10,ra 0 11,ra 0 12,ra 0 13,ra 0 14,ra 0 15,ra 0 16,ra 0 17,ra 0 18,ra 0 19,ra 0 20,ra 0 21] [19,20,21] Z [_,_,vJ d.fin (bX dp) (bX dd) (bX dy),vi (iw d.lW 3 d.fin),_,vi d.fin.marks.ins,_,_,_,vi d.fin.marks.move,_,.bool (decide (d.fin.marks.ins≠0∨d.fin.marks.move≠0)),_,_,bX dd,vi d.fin.marks.dJ.length,_,.bool (zm d.fin.marks),vi (dN (zm d.fin.marks) 21)] H (aC (Z0 O (Rm O)) (Z0 O (Rf JW O)) ?_ ?_ (aC (Z0 O (Rf yQ O)) (Z1 4 28 O (Ro aD 0 O)) (Z1 5 29 O (Rc O)) (Z1 6 30 O (Rm O)) (aC (Z1 7 31 O (YF ET (aS c0) O)) (Z2 8 32 7 31 O (YO aD 0 (aS c0) O)) (Z2 9 33 7 31 O (YC (aS c0) O)) ?_ (aC (Z1 11 35 O (Rm O)) (Z1 12 36 O (YF yR (aS c1) O)) (Z2 13 37 12 36 O (YO zC 0 (aS c1) O)) ?_ (aC (Z2 15 39 12 36 O (YC (aS c1) O)) ?_ ?_ (bQ O) (bK (bQ O) (bK (bQ O) dG))))))) ?_
 ·exact Vk
 ·exact Vg
 ·exact adx
 ·refine eU 14 38 12 36 O O fun _ a w G1 hG HT H fin=>?_;refine kH H (YL rP (aS c1) O ?_);clear H;intro a H;exact fin H iJ (by show _=_;first|rfl|exact dh (fun n:Nat=>vi n) hdl)
 ·refine eU 12 36 16 40 O O fun _ a w G1 hG HT H fin=>?_;refine kH H (Pf (aS c1) O ?_);clear H;intro a H;exact abL
 ·exact Vq
 clear H;intro a w G pU H hv;have H:=H.aQ (hv 3 27 O O) O;have H:=H.aQ (hv 18 42 O O) O;clear hv;refine iG qO jm [_,_] [_,_] H wn O O O O O (by intro i q h;match i,h with|0,h=>exact h|1,h=>exact h|n+2,h=>simp at h) O O ?_;clear H;intro b43 a w agL H;obtain ⟨Pb,Fh,Np,H⟩:=H.fJ;have Fa:=fun b o h=>Fh b o (pU b o h);replace hfl:=hfl.mono Fa;replace hck:=hck.mono Fa;refine s_call sj H wn O (sw _ _ H.ro _ _ (Al Np)) O ?_;clear H;rintro v44 _ a w ⟨rfl,rfl⟩ - H;refine kH H (Ra O ?_);clear H;intro a H;refine aF ⟨O,?_⟩;refine K9 _ _ ?_;clear K9;refine kP H (SR fun _ kD=>Rm O (Rc O (Kz kD (Cd O ?_ ?_)))) <;> clear H kD
 ·intro h46 a H
  try have p46:=dT h46
  have hE:jo d=eu [iw d.lW 3 d.fin,dN (zm d.fin.marks) 21]:=by rw [jo,eu,ay (by simpa using e1),eu,aH p46]
  exact kP H (SR fun _ jF=>Rm O (au jF O (LR results12 O fun H=>H.rt (by rw [hE]))))
 intro h46 a H
 try have p46:=dF h46
 have e2:=nV.1 p46;refine kP H (Kc K8 (SQ fun _ kR=>SR fun _ lN=>Rm O (aU wJ fC 1 O O ?_)));clear H K8;intro a H;refine kg FJ [_,_,_] H wn O O O O ?_;clear H;intro a H;refine gD M4 (Li:=[_,_]) (L:=gU b ms ml mr mb mu 0 :: (mb,fG []) :: []) H wn O (RO 4294967297 V _ _ _ d.nS.styles d.nS.lists d.revs b ms ml mr mb mu ⟨0,[]⟩ d.flow _ true false 0 hck (Hp.owns (Li:=[_,_]) H.hp) hfl V V V Q1 (by dsimp only;omega)) rfl ?_;clear H;rintro v52 _ _ a w ⟨rfl,s3,rfl,rfl,h3⟩ - H;dsimp only [lca,bD] at H;refine kH H (au lN O (SR fun _ jJ=>Rm O (Rc O (Kz jJ (Cd O ?_ ?_))))) <;> clear H lN jJ
 ·intro iZ a H
  try have p54:=dT iZ
  have hE:jo d=(jg d.lW true false 0 d.flow ⟨0,[]⟩).1:=by rw [jo,eu,ay (by simpa using e1),eu,ay (by simpa using e2),eu,aH p54]
  exact kP H (SR fun _ qV=>Rm O (au qV O (LR results12 O fun H=>H.rt (by rw [hE]))))
 intro iZ a H
 try have p54:=dF iZ
 have e3:=nV.1 p54;have hs3:=h3 e3;subst hs3;refine kP H (Kc kR (SR fun _ rT=>Rm O (Rk O (aU GY aD 2 O O (Rc O ?_)))));clear H kR;intro a H;refine s_call lX H wn O (mD _ _ H.ro _ 9) O ?_;clear H;rintro v61 _ a w ⟨rfl,rfl⟩ - H
 have hE:jo d=dN (decide (16384 < (jg d.lW true false 0 d.flow ⟨0,[]⟩).2.n)) 9:=by rw [jo,eu,ay (by simpa using e1),eu,ay (by simpa using e2),eu,ay (by simpa using e3)];exact WM _
 exact kH H (au rT O (LR results12 O fun H=>H.rt (by rw [hE])))
def Sv (body note:Bool) (t k i:Int):Prop:=(k=3->body=true)∧(k=6->note=false)∧(k=7->t < 4)∧(k=8->1<=i∧i<=1073741824)
mutual
def lY (C:bN) (body note:Bool) (t:Int):ak->Prop
 | .mk k c i tx h f r=>iU (.mk k c i tx h f r)=0∧Sv body note t k i∧iw C k h=0∧(k=6->iQ C false true t f)∧(k=7->(r.length≠0∧r.length<=256)∧oh C note (t+1) r)
def qJ (C:bN) (note:Bool) (t:Int):aM->Prop
 | .mk h cs=>Eo C h cs.length=0∧oH C note t cs
def qI (C:bN) (note:Bool) (t:Int):aN->Prop
 | .mk _ h f=>iw C 10 h=0∧iQ C false note t f
def iQ (C:bN) (body note:Bool) (t:Int):List ak->Prop
 | []=>True
 | x :: l=>lY C body note t x∧iQ C body note t l
def oh (C:bN) (note:Bool) (t:Int):List aM->Prop
 | []=>True
 | x :: l=>qJ C note t x∧oh C note t l
def oH (C:bN) (note:Bool) (t:Int):List aN->Prop
 | []=>True
 | x :: l=>qI C note t x∧oH C note t l
end
theorem zo {C:bN} {body note:Bool} {t:Int}:∀ {l:List ak},iQ C body note t l↔∀ x∈l,lY C body note t x
 | []=>by simp [iQ]
 | x :: l=>by rw [iQ,zo (l:=l)];simp
theorem Y5 {C:bN} {note:Bool} {t:Int}:∀ {l:List aM},oh C note t l↔∀ x∈l,qJ C note t x
 | []=>by simp [oh]
 | x :: l=>by rw [oh,Y5 (l:=l)];simp
theorem Y2 {C:bN} {note:Bool} {t:Int}:∀ {l:List aN},oH C note t l↔∀ x∈l,qI C note t x
 | []=>by simp [oH]
 | x :: l=>by rw [oH,Y2 (l:=l)];simp
mutual
/-- The units that a check counts. -/
def uI:ak->Nat
 | .mk k _ _ tx _ f r=>(if k=1 then ru tx else 1)+(if k=6 then jv f else if k=7 then qz r else 0)
def uR:aM->Nat
 | .mk _ cs=>qN cs
def uC:aN->Nat
 | .mk _ _ f=>jv f
def jv:List ak->Nat
 | []=>0
 | x :: l=>uI x+jv l
def qz:List aM->Nat
 | []=>0
 | x :: l=>uR x+qz l
def qN:List aN->Nat
 | []=>0
 | x :: l=>uC x+qN l
end
def kC (us bL ids:List Int):Prop:=(∀ i∈ids,(1<=i∧i<=1073741824)∧i∉us∧i∉bL)∧ids.Nodup
theorem kC.nil (us bL:List Int):kC us bL []:=⟨fun _ h=>(by cases h),List.nodup_nil⟩
theorem kC.app {us bL a b:List Int}:kC us bL (a++b)↔kC us bL a∧kC us (bL++a) b:=by
 unfold kC
 rw [List.nodup_append]
 constructor
 ·rintro ⟨h,h1,h2,h3⟩;exact ⟨⟨fun i hi=>h i (List.mem_append_left _ hi),h1⟩,fun i hi=>⟨(h i (List.mem_append_right _ hi)).1,(h i (List.mem_append_right _ hi)).2.1,fun hm=>(iP.1 hm).elim (h i (List.mem_append_right _ hi)).2.2 fun ha=>h3 i ha i hi O⟩,h2⟩
 rintro ⟨⟨h,h1⟩,h2,h3⟩;exact ⟨fun i hi=>(iP.1 hi).elim (h i) fun hb=>⟨(h2 i hb).1,(h2 i hb).2.1,fun hm=>(h2 i hb).2.2 (List.mem_append_left _ hm)⟩,h1,h3,fun i hi j hj e=>(h2 j hj).2.2 (List.mem_append_right _ (e ▸ hi))⟩
theorem kC.sub {us bL a b:List Int} (h:kC us bL a) (hs:b.Sublist a):kC us bL b:=⟨fun i hi=>h.1 i (hs.subset hi),hs.nodup h.2⟩
theorem Jl {r:CR} {f:CS->CR} {s':CS}:iF r f=(0,s')↔∃ m,r=(0,m)∧f m=(0,s'):=by
 constructor
 ·intro h;obtain ⟨h1,h2⟩:=jG h;exact ⟨r.2,Prod.ext h1 O,h2⟩
 rintro ⟨m,rfl,h⟩;rw [Jm O];exact h
theorem yN {e:Int} {s m:CS}:((e,s):CR)=(0,m)↔e=0∧m=s:=by rw [iE,@eq_comm _ s m]
theorem Yl {C:bN} {s m:CS} {x:Int}:nZ C s x=(0,m)↔kC C.us s.bL [x]∧m=⟨s.n,s.bL++[x]⟩:=by
 unfold nZ
 rw [yN]
 have he:qH C.us s.bL x=0↔kC C.us s.bL [x]:=by
  unfold qH kC
  by_cases h0:¬ (1<=x∧x<=1073741824)∨x∈C.us
  ·rw [aH h0];refine ⟨fun h=>(by cases h),fun h=>?_⟩;have:=h.1 x (List.mem_singleton_self _);exact absurd h0 (by rintro (h1|h1);exact h1 this.1;exact this.2.1 h1)
  rw [ay h0]
  by_cases h1:x∈s.bL
  ·rw [aH h1];exact ⟨fun h=>(by cases h),fun h=>absurd h1 (h.1 x (List.mem_singleton_self _)).2.2⟩
  rw [ay h1];refine ⟨fun _=>⟨fun i hi=>?_,by simp⟩,fun _=>rfl⟩;rw [qX.1 hi];exact ⟨nV.1 fun h=>h0 (.inl h),fun h=>h0 (.inr h),h1⟩
 rw [he]
 constructor
 ·rintro ⟨h,rfl⟩;exact ⟨h,by rw [ng,aH (he.2 h)]⟩
 rintro ⟨h,rfl⟩;exact ⟨h,by rw [ng,aH (he.2 h)]⟩
theorem Aq {b:Bool} {e:Int} (he:e≠0):dN b e=0↔b=false:=by cases b <;> simp [dN,he]
theorem abM {p:Prop} (h:p:=by
 exact ⟨s,⟨h1 trivial,O⟩,by simpa using h2,by simpa using h4⟩):p:=h
theorem azA {C:bN} {body note:Bool} {t k i:Int} {s m:CS}:pE C body note t k i s=(0,m)↔Sv body note t k i∧kC C.us s.bL (if k=6∨k=7 then [i] else [])∧m=⟨s.n,s.bL++(if k=6∨k=7 then [i] else [])⟩:=by
 unfold pE Sv
 by_cases h3:k=3
 ·subst h3;rw [aH O,yN,Aq Q1];cases body <;> simp [kC.nil]
 rw [ay h3]
 by_cases h6:k=6
 ·subst h6;rw [aH O,Jl]
  simp only [yN,Aq (show (19:Int)≠0 by decide),Yl]
  constructor
  ·rintro ⟨_,⟨h1,rfl⟩,h2,h4⟩;exact ⟨⟨fun h=>absurd h Q1,fun _=>h1,fun h=>absurd h Q1,fun h=>absurd h Q1⟩,by simpa using h2,by simpa using h4⟩
  rintro ⟨⟨-,h1,-,-⟩,h2,h4⟩;exact abM
 rw [ay h6]
 by_cases h7:k=7
 ·subst h7;rw [aH O,Jl]
  simp only [yN,Aq (show (17:Int)≠0 by decide),Yl,Dr,Int.not_le]
  constructor
  ·rintro ⟨_,⟨h1,rfl⟩,h2,h4⟩;exact ⟨⟨fun h=>absurd h Q1,fun h=>absurd h Q1,fun _=>h1,fun h=>absurd h Q1⟩,by simpa using h2,by simpa using h4⟩
  rintro ⟨⟨-,-,h1,-⟩,h2,h4⟩;exact abM
 rw [ay h7,ay (show ¬ (k=6∨k=7) by omega),jV]
 by_cases h8:k=8
 ·rw [aH h8,yN,Aq Q1]
  simp [h3,h6,h7,h8,kC.nil]
 rw [ay h8,yN];simp [h3,h6,h7,h8,kC.nil]
theorem aAp {n:Nat} {f:CS->CR} {s s':CS}:mO n f s=(0,s')↔(n≠0∧n<=256)∧f s=(0,s'):=by
 unfold mO
 split
 ·rename_i h;simp [h]
 rename_i h
 split
 ·rename_i h2;simp [show ¬ n<=256 by omega]
 rename_i h2;simp [h,show n<=256 by omega]
theorem anG {p:Prop} (h:p:=by
 exact ⟨⟨q1,q3⟩,⟨q2,q4⟩,by rw [gY];congr 1;push_cast;omega⟩):p:=h
theorem anI {p:Prop} (h:p:=by
 exact ⟨_,⟨q1,q2,O⟩,q3,q4,by rw [gY];congr 1;push_cast;omega⟩):p:=h
theorem Vs {p:Prop} (h:p:=by
 simp only [Jl,h1,h2,kC.app]
 constructor
 ·rintro ⟨_,⟨q1,q2,rfl⟩,q3,q4,rfl⟩;exact anG
 rintro ⟨⟨q1,q3⟩,⟨q2,q4⟩,rfl⟩;exact anI):p:=h
mutual
theorem aoH (C:bN) (body note:Bool) (t:Int):∀ (x:ak) (s s':CS),fu C body note t x s=(0,s')↔lY C body note t x∧kC C.us s.bL (pW x)∧s'=⟨s.n+(uI x:Nat),s.bL++pW x⟩
 | .mk k c i tx h f r,s,s'=>by
  have hf:=ML C false true t f;have hr:=adU C note (t+1) r;rw [fu,lY,pW,uI]
  simp only [Jl,yN,azA]
  by_cases h6:k=6
  ·subst h6
   simp only [if_true,hf,kC.app,true_or,ay (show ¬ (6:Int)=7 by decide),ay (show ¬ (6:Int)=1 by decide),jV]
   constructor
   ·rintro ⟨_,⟨h1,rfl⟩,_,⟨h2,h3,rfl⟩,_,⟨h4,rfl⟩,h5,h7,rfl⟩;exact ⟨⟨h1,h2,h4,fun _=>h5,fun h=>absurd h Q1⟩,⟨h3,h7⟩,by rw [gY];congr 1;push_cast;omega⟩
   rintro ⟨⟨h1,h2,h4,h5,-⟩,⟨h3,h7⟩,rfl⟩;exact ⟨s,⟨h1,O⟩,_,⟨h2,h3,O⟩,_,⟨h4,O⟩,h5 trivial,h7,by rw [gY];congr 1;push_cast;omega⟩
  by_cases h7:k=7
  ·subst h7
   simp only [if_true,aAp,hr,kC.app,or_true,ay (show ¬ (7:Int)=6 by decide),ay (show ¬ (7:Int)=1 by decide),gJ]
   constructor
   ·rintro ⟨_,⟨h1,rfl⟩,_,⟨h2,h3,rfl⟩,_,⟨h4,rfl⟩,h0,h5,h8,rfl⟩;exact ⟨⟨h1,h2,h4,fun h=>absurd h Q1,fun _=>⟨h0,h5⟩⟩,⟨h3,h8⟩,by rw [gY];congr 1;push_cast;omega⟩
   rintro ⟨⟨h1,h2,h4,-,h5⟩,⟨h3,h8⟩,rfl⟩;exact ⟨s,⟨h1,O⟩,_,⟨h2,h3,O⟩,_,⟨h4,O⟩,(h5 trivial).1,(h5 trivial).2,h8,by rw [gY];congr 1;push_cast;omega⟩
  simp only [ay h6,ay h7,ay (show ¬ (k=6∨k=7) by omega),jV,yN]
  constructor
  ·rintro ⟨_,⟨h1,rfl⟩,_,⟨h2,h3,rfl⟩,_,⟨h4,rfl⟩,-,rfl⟩;exact ⟨⟨h1,h2,h4,fun h=>absurd h h6,fun h=>absurd h h7⟩,kC.nil _ _,by simp⟩
  rintro ⟨⟨h1,h2,h4,-,-⟩,h3,rfl⟩;exact ⟨s,⟨h1,O⟩,_,⟨h2,kC.nil _ _,O⟩,_,⟨h4,O⟩,aB,by simp⟩
theorem aoI (C:bN) (note:Bool) (t:Int):∀ (x:aM) (s s':CS),zw C note t x s=(0,s')↔qJ C note t x∧kC C.us s.bL (vO x)∧s'=⟨s.n+(uR x:Nat),s.bL++vO x⟩
 | .mk h cs,s,s'=>by
  have hc:=adT C note t cs;rw [zw,qJ,vO,uR]
  simp only [Jl,yN,hc]
  constructor
  ·rintro ⟨_,⟨h1,rfl⟩,h2,h3⟩;exact ⟨⟨h1,h2⟩,h3⟩
  rintro ⟨⟨h1,h2⟩,h3⟩;exact ⟨s,⟨h1,O⟩,h2,h3⟩
theorem aoG (C:bN) (note:Bool) (t:Int):∀ (x:aN) (s s':CS),cellC C note t x s=(0,s')↔qI C note t x∧kC C.us s.bL (vN x)∧s'=⟨s.n+(uC x:Nat),s.bL++vN x⟩
 | .mk i h f,s,s'=>by
  have hf:=ML C false note t f;rw [cellC,qI,vN,uC,show i :: gZ f=[i]++gZ f from rfl]
  simp only [Jl,yN,hf,Yl,kC.app]
  constructor
  ·rintro ⟨_,⟨h1,rfl⟩,_,⟨h2,rfl⟩,h3,h4,rfl⟩;exact ⟨⟨h2,h3⟩,⟨h1,h4⟩,by rw [gY]⟩
  rintro ⟨⟨h2,h3⟩,⟨h1,h4⟩,rfl⟩;exact ⟨_,⟨h1,O⟩,_,⟨h2,O⟩,h3,h4,by rw [gY]⟩
theorem ML (C:bN) (body note:Bool) (t:Int):∀ (l:List ak) (s s':CS),jg C body note t l s=(0,s')↔iQ C body note t l∧kC C.us s.bL (gZ l)∧s'=⟨s.n+(jv l:Nat),s.bL++gZ l⟩
 | [],s,s'=>by rw [jg,iQ,gZ,jv,yN];simp [kC.nil]
 | x :: r,s,s'=>by
  have h1:=aoH C body note t x;have h2:=ML C body note t r;rw [jg,iQ,gZ,jv]
  exact Vs
theorem adU (C:bN) (note:Bool) (t:Int):∀ (l:List aM) (s s':CS),iR C note t l s=(0,s')↔oh C note t l∧kC C.us s.bL (nN l)∧s'=⟨s.n+(qz l:Nat),s.bL++nN l⟩
 | [],s,s'=>by rw [iR,oh,nN,qz,yN];simp [kC.nil]
 | x :: r,s,s'=>by
  have h1:=aoI C note t x;have h2:=adU C note t r;rw [iR,oh,nN,qz]
  exact Vs
theorem adT (C:bN) (note:Bool) (t:Int):∀ (l:List aN) (s s':CS),pO C note t l s=(0,s')↔oH C note t l∧kC C.us s.bL (nY l)∧s'=⟨s.n+(qN l:Nat),s.bL++nY l⟩
 | [],s,s'=>by rw [pO,oH,nY,qN,yN];simp [kC.nil]
 | x :: r,s,s'=>by
  have h1:=aoG C note t x;have h2:=adT C note t r;rw [pO,oH,nY,qN]
  exact Vs
end
theorem atj {a b c d:Int}:eu [a,b,c,d]=0↔a=0∧b=0∧c=0∧d=0:=by
 constructor
 ·intro h;have z:=lG h;exact ⟨z _ (by simp),z _ (by simp),z _ (by simp),z _ (by simp)⟩
 rintro ⟨rfl,rfl,rfl,rfl⟩;rfl
theorem WK {a b:Int}:eu [a,b]=0↔a=0∧b=0:=by
 constructor
 ·intro h;have z:=lG h;exact ⟨z _ (by simp),z _ (by simp)⟩
 rintro ⟨rfl,rfl⟩;rfl
theorem GR (d:jD):jo d=0↔(MK d.nS=0∧Dz d.revs=0)∧(iw d.lW 3 d.fin=0∧zm d.fin.marks=false)∧iQ d.lW true false 0 d.flow∧kC [] [] (gZ d.flow)∧jv d.flow<=16384:=by
 unfold jo
 rw [atj,WK,WK,Aq Q1,Aq Q1,Dr]
 constructor
 ·rintro ⟨h1,h2,h3,h4⟩;obtain ⟨q1,q2,q3⟩:=(ML d.lW true false 0 d.flow ⟨0,[]⟩ _).1 (Qn h3);rw [q3] at h4;dsimp only at h4;exact ⟨h1,h2,q1,q2,V⟩
 rintro ⟨h1,h2,q1,q2,q3⟩;have h:=(ML d.lW true false 0 d.flow ⟨0,[]⟩ _).2 ⟨q1,q2,O⟩;rw [h];exact ⟨h1,h2,O,by dsimp only;omega⟩
theorem VH {a b:ByteArray} {i:Nat} (h:i < a.size):gN (a++b) i=gN a i:=by
 rw [nJ h,nJ (by rw [ByteArray.size_append];omega),ByteArray.getElem_append_left h]
theorem VI (a b:ByteArray) (j:Nat):gN (a++b) (a.size+j)=gN b j:=by
 by_cases h:j < b.size
 ·rw [nJ h,nJ (by rw [ByteArray.size_append];omega),ByteArray.getElem_append_right V]
  congr 2
  simp
 unfold gN
 rw [dif_neg (by rw [ByteArray.size_append];omega),dif_neg h]
theorem ael {a b:ByteArray} {t n:Nat}:∀ (f k:Nat) (low high p:Int),(rY a t n f k low high p).2.2=true->rY (a++b) t n f k low high p=rY a t n f k low high p
 | 0,_,_,_,_,_=>rfl
 | f+1,k,low,high,p,h=>by
  unfold rY at h |-
  by_cases h1:n<=k
  ·rw [aH h1,aH h1]
  rw [ay h1] at h;rw [ay h1,ay h1]
  by_cases h2:a.size<=t+k∨gN a (t+k) < low∨high < gN a (t+k)
  ·rw [aH h2] at h;cases h
  rw [ay h2] at h
  have h3:t+k < a.size:=by omega
  rw [VH h3,ay h2,ay (by rw [ByteArray.size_append];omega)];exact ael f (k+1) _ _ _ h
theorem aem (a b:ByteArray) (j n:Nat):∀ (f k:Nat) (low high p:Int),rY (a++b) (a.size+j) n f k low high p=rY b j n f k low high p
 | 0,_,_,_,_=>rfl
 | f+1,k,low,high,p=>by
  unfold rY
  have e:gN (a++b) (a.size+j+k)=gN b (j+k):=by rw [Nat.add_assoc];exact VI a b (j+k)
  have e2:((a++b).size<=a.size+j+k)↔(b.size<=j+k):=by rw [ByteArray.size_append];omega
  rw [e,aem a b j n f]
  simp only [e2]
theorem aeo {a b:ByteArray} {i:Nat} (hi:i < a.size) (h:(jY a i).2.2=true):jY (a++b) i=jY a i:=by
 unfold jY at h |-
 simp only [VH hi] at h |-
 split
 ·rfl
 rename_i h1
 rw [ay h1] at h
 split
 ·rfl
 rename_i h2
 rw [ay h2] at h;exact ael _ _ _ _ _ h
theorem aep (a b:ByteArray) (j:Nat):jY (a++b) (a.size+j)=jY b j:=by
 unfold jY
 simp only [VI,aem]
theorem atn (a b:ByteArray):∀ (n j:Nat),b.size - j=n->kX b j < 0->kX (a++b) (a.size+j) < 0:=by
 intro n
 induction n using Nat.strongRecOn with
 | _ n ih =>
  intro j hn h;rw [kX]
  by_cases hj:j < b.size
  ·rw [kX,dif_pos hj] at h;rw [dif_pos (by rw [ByteArray.size_append];omega)]
   by_cases hd:(jY b j).2.2=true
   ·rw [dif_pos hd] at h;have hs:=(Qo b j hj).2 hd;rw [dif_pos (by rw [aep];exact hd),aep,Nat.add_assoc];exact ih _ V (j+(jY b j).2.1) O h
   rw [dif_neg hd] at h;omega
  rw [dif_neg (by rw [ByteArray.size_append];omega)];decide
theorem atm (a b:ByteArray) (hb:kX b 0 < 0):∀ (n i:Nat),a.size - i=n->i<=a.size->kX a i < 0->kX (a++b) i < 0:=by
 intro n
 induction n using Nat.strongRecOn with
 | _ n ih =>
  intro i hn hi h
  by_cases hj:i < a.size
  ·rw [kX,dif_pos hj] at h;rw [kX,dif_pos (by rw [ByteArray.size_append];omega)]
   by_cases hd:(jY a i).2.2=true
   ·rw [dif_pos hd] at h;have hs:=(Qo a i hj).2 hd;rw [dif_pos (by rw [aeo hj hd];exact hd),aeo hj hd];exact ih _ V (i+(jY a i).2.1) O hs.2 h
   rw [dif_neg hd] at h;omega
  obtain rfl:i=a.size:=by omega
  exact atn a b b.size 0 O hb
theorem alD {a b:ByteArray} (ha:ny a=true) (hb:ny b=true):ny (a++b)=true:=by
 unfold ny at *
 exact lT (atm a b (pK hb) a.size 0 O (jL _) (pK ha))
theorem aef (a b:ByteArray):∀ (n j:Nat),b.size - j=n->lF (a++b) (a.size+j)=lF b j
 | 0,j,h=>by
  rw [lF.eq_def (a++b),lF.eq_def b,ay (show ¬ a.size+j < (a++b).size by rw [ByteArray.size_append];omega),ay (show ¬ j < b.size by omega)]
 | n+1,j,h=>by
  have ih:=aef a b n (j+1) V;rw [lF.eq_def (a++b),lF.eq_def b,aH (show a.size+j < (a++b).size by rw [ByteArray.size_append];omega),aH (show j < b.size by omega),VI,Nat.add_assoc,ih]
theorem aee (a b:ByteArray):∀ (n i:Nat),a.size - i=n->i<=a.size->lF (a++b) i=lF a i+lF b 0
 | 0,i,h,hi=>by
  obtain rfl:i=a.size:=by omega
  rw [lF.eq_def a a.size,ay (Nat.lt_irrefl _),fO];exact aef a b b.size 0 rfl
 | n+1,i,h,hi=>by
  have ih:=aee a b n (i+1) V V;rw [lF.eq_def (a++b),lF.eq_def a i,aH (show i < (a++b).size by rw [ByteArray.size_append];omega),aH (show i < a.size by omega),VH (show i < a.size by omega),ih,Nat.add_assoc]
theorem aed {a b:ByteArray} (ha:ny a=true) (hb:ny b=true):ru (a++b)=ru a+ru b:=by
 unfold ru
 rw [aH ha,aH hb,aH (alD ha hb)];exact aee a b a.size 0 O (jL _)
theorem IL:Ty prog 46 1 24 [.slice none 0 0] false:=⟨Z,Z⟩
theorem axt (G:GH) (n:Int):aX G [li n] [vi n]:=by simp [aX,av,Value.oneCell']
def OI (A:List gF):Int:=A.foldl (fun n f=>n+sI f.items) 0
mutual
theorem aCF (note:Bool) (t:Int):∀ x:ak,(qQ note t x).length < bY x.dat
 | .mk k c i tx h f r=>by
  have h4:=pG (.mk k c i tx h f r);have hf:=TB true t f;have hr:=alJ note t r;dsimp only [ak.text,ak.head,ak.flow,ak.rows] at h4;rw [qQ]
  split
  ·rw [lD];omega
  split <;> first|omega|(simp only [List.length_nil];omega)
theorem TB (note:Bool) (t:Int):∀ l:List ak,(iO note t l).length<=aP l
 | []=>by simp [iO]
 | x :: l=>by
  have h1:=aCF note t x;have h2:=TB note t l;rw [iO,iK]
  simp only [aP,eP,eZ] at *;omega
theorem aCI (note:Bool) (t:Int):∀ x:aM,(sO note t x).length<=bY x.dat
 | .mk h cs=>by
  have h4:=Av (.mk h cs);have hc:=alF note t cs;dsimp only [aM.head,aM.cells] at h4;rw [sO];omega
theorem alJ (note:Bool) (t:Int):∀ l:List aM,(mR note t l).length<=gq l
 | []=>by simp [mR]
 | x :: l=>by
  have h1:=aCI note t x;have h2:=alJ note t l;rw [mR,iK]
  simp only [gq,eP,eZ] at *;omega
theorem aCC (note:Bool) (t:Int):∀ x:aN,(qP note t x).length<=bY x.dat
 | .mk i h f=>by
  have h4:=Ar (.mk i h f);have hf:=TB note (t+1) f;dsimp only [aN.head,aN.flow] at h4;rw [qP,lD];omega
theorem alF (note:Bool) (t:Int):∀ l:List aN,(nA note t l).length<=iA l
 | []=>by simp [nA]
 | x :: l=>by
  have h1:=aCC note t x;have h2:=alF note t l;rw [nA,iK]
  simp only [iA,eP,eZ] at *;omega
end
theorem apB (G:GH) (w0:World) (hG:Hold G w0) (D:jd) (l:List ak) (hv:av G (.sl 11 (l.map ak.dat)) (bX D.f)) (hz:aP l<=4294967296) :
  Calls prog 34 #[D.val] w0 (bG w0 G fun u G'=>av G' (.sl 1 ((mI l).map fun f:gF=>[li f.id])) u):=by
 have hml:4294967299<=maxLen:=by decide
 have hn:(mI l).length<=4294967297:=by
  have:=TB false 0 l;rw [mI,lD];omega
 refine eN [(0,_)] func34 O ntmps34 O O hG ?_;intro a H;refine dH (fun _ K1=>?_);refine eB (cs:=[_,_,_,_,_,_,_,_,_,_,_]) H wn O O O ?_;clear H;intro b1 a w hb1 H;refine kH H (au K1 O (SR fun _ K2=>?_));clear H K1;intro a H;refine dR IL H wn O ?_;clear H;intro b3 a w hb3 H;refine K2 _ _ ?_;clear K2;refine bP (fun _ K3=>?_);refine bP (fun _ K4=>?_);have H:=H.dV (Pl:=[_,_]) (dL:=[_,_]) [1,0] Q1 O;refine mX ?_;refine bq jH (cs:=[_,_,_,_,_,_,_,_,_,_,_]) H wn O O (H.hp.dD 0 O O) O ?_;clear H;intro a H;refine s_call afk H wn O (ajq _ _ H.ro D l hv hz) O ?_;clear H;rintro v6 G6 a w ⟨ba,bl,bp,rfl,hit⟩ H8 H;refine aF ?_;refine K4 _ _ ?_;clear K4;refine AU ?_;skip;refine VN (ι:=ah × List ah × OL) (κ:=Empty) (Lc:=[(_,_)]) (fun (k:Nat) (gh:ah × List ah × OL)=>[(b3,.cells #[gh.1] 46 (0,0))]) (fun (k:Nat) (gh:ah × List ah × OL)=>gh.2.2) (fun (k:Nat) (gh:ah × List ah × OL) (g:GH)=>bV 3 1 gh.1 k gh.2.1 gh.2.2∧bT g 1 (((mI l).take k).map fun f:gF=>[li f.id]) gh.2.1) (fun x=>x.elim) (fun x=>x.elim) (fun x=>x.elim) (fun x=>x.elim) ((.slice none 0 0,[],[])) (by exact H.KR (A:=[_,_])) O Wp (hit) (fun _ _ h=>h) O (fun k args g h=>by obtain ⟨_,_,_,_,rfl,_⟩:=QJ h;rfl) (fun k i G G' hm h=>⟨h.1,h.2.mono hm⟩) (fun x=>x.elim) (⟨bV.nil,bT.nil⟩) ?_ ?_ ?_
 ·clear H;intro l3 Em AQ bk k args gh G3 w3 F3 B3 a hk3 Nz hI auU avT aDZ H;obtain ⟨v,xs,Lo⟩:=gh;dsimp only at hI H;obtain ⟨hk,vA,vn,vc,rfl,hfr⟩:=QJ hk3;dsimp only [zM,List.cons_append,List.nil_append] at H;obtain ⟨hrw,fZ⟩:=hI;refine kP H (SC (Ra O ?_));clear H;intro a H;refine aF ?_;refine auU _ _ _ _ _ _ (by exact H) ?_;clear H;intro w H;refine kP H (SB (SC (Ro IL 2 O (Rm O ?_))));clear H;intro a H;refine iG uT aD [_] [_] H wn O O O O O (by intro i q h;match i,h with|0,h=>exact h|n+1,h=>simp at h) O O ?_;clear H;intro b11 a w Nn H;refine mh (Li:=[_,_,_,_]++bk) (Lo:=Lo) (news:=[vi (mI l)[k].id]) uT aD O O (St.un (A:=[_,_,_,_]) H) wn O O hrw O (H.hp.dD 0 O O) O V V O ?_;clear H;intro v12 amk a w KE H;obtain ⟨A12,c12,rfl,-,-⟩:=KE.shape
  simp only [gY,iT,gJ] at H
  refine bM IL 3 (vs:=[_]) H wn O ?_;clear H;intro w H;refine aF ?_;refine avT ((.slice A12 (k+1) c12,xs++[vi (mI l)[k].id],amk)) _ _ _ _ _ (by exact H.dV (Pl:=[_,_,_,_]) (dL:=[_,_,_]) [1,2,3] Q1 O) ?_;exact ⟨KE,by rw [jk hk,jM];exact fZ.snoc (axt _ _) O⟩
 ·clear H;intro Dk3 gh Gd3 a w Nz hI H;obtain ⟨v,xs,Lo⟩:=gh;dsimp only at hI H;dsimp only [lca,bD] at H;obtain ⟨hrw,fZ⟩:=hI;rw [bR] at hrw fZ;rw [vg] at fZ;refine K3 _ _ ?_;clear K3;refine kP H (SR fun _ K5=>Ro IL 2 O (au K5 O ?_));clear H K5;intro a H;refine gu ?_;refine (KM H 0 O ?_).1;clear H;intro a w H;dsimp only [List.eraseIdx_cons_succ,List.eraseIdx_cons_zero] at H;refine lv H results34 O ?_;obtain ⟨Gr,hmr,hrep,H⟩:=St.qF (Li:=[_,_]) H hrw (rows:=(mI l).map fun f:gF=>[li f.id]) (by simp) fZ;exact H.rt hrep
 intro Dk x;exact x.elim
theorem Wn:aW 185:=aY func185 O
mutual
/-- The heads of items, rows and cells, in document order. -/
def Hu:ak->List fH
 | .mk k _ _ _ h f r=>h :: ((if k=6 then oD f else [])++(if k=7 then zU r else []))
def oD:List ak->List fH
 | []=>[]
 | x :: r=>Hu x++oD r
def Hz:aM->List fH
 | .mk h c=>h :: Bj c
def zU:List aM->List fH
 | []=>[]
 | x :: r=>Hz x++zU r
def Hr:aN->List fH
 | .mk _ h f=>h :: oD f
def Bj:List aN->List fH
 | []=>[]
 | x :: r=>Hr x++Bj r
end
theorem auq (x:ak):Hu x=x.head :: ((if x.kind=6 then oD x.flow else [])++(if x.kind=7 then zU x.rows else [])):=by cases x;rw [Hu];rfl
theorem auD (x:aM):Hz x=x.head :: Bj x.cells:=by cases x;rw [Hz];rfl
theorem atO (x:aN):Hr x=x.head :: oD x.flow:=by cases x;rw [Hr];rfl
def HZ (h:fH):AP:=fun args G=>∃ p d y:Option Addr × Nat × Nat,args=[.agg #[bX p,vi h.marks.ins,vi h.marks.move,bX d,bX y]]∧jI G h (bX p) (bX d) (bX y)
theorem XD {G:GH} {h:fH} {pA dA yA:Option Addr} {pn pc dn dc yn yc:Nat} (hr:jI G h (.slice pA pn pc) (.slice dA dn dc) (.slice yA yn yc)):HZ h [.agg #[.slice pA pn pc,vi h.marks.ins,vi h.marks.move,.slice dA dn dc,.slice yA yn yc]] G:=⟨(pA,pn,pc),(dA,dn,dc),(yA,yn,yc),O,hr⟩
def Ue (n:Nat):Prop:=∀ (fv:ah) (Gi:GH) (xs:List AP) (J:Nat->GH->OL->Prop) (G:GH) (L:OL) (w0:World) (j:Nat) (l:List ak) (v:ah),
 (∀ b o,Gi b=some o->G b=some o)->OW prog fv Gi xs J->EF J->J j G L->fM G L w0->av G (.sl 11 (l.map ak.dat)) v->aP l < n->(∀ i a,(oD l)[i]?=some a->xs[j+i]?=some (HZ a)) ->
 Calls prog 185 #[v,fv] w0 (fB w0 G L fun _ G' L'=>J (j+(oD l).length) G' L')
set_option maxHeartbeats 4000000 in
theorem avk {n:Nat} (ih:Ue n) (hn:n<=4294967296):Ue (n+1):=by
 intro fv Gi xs J G L w0 j0 l v hGi hcb vG hJ0 hO hv hz hx0;obtain ⟨A,c,rfl,hc1,hc2,hg⟩:=hv.slice;rw [bR] at *;have hll:=Au l;refine iB (N:=59) (T:=[(0,_),(1,_)]) func185 O ntmps185 O O hO ?_;intro a H;refine kP H (SR fun _ K1=>Rm O (Rl eH O (Rm O (Kz K1 (SB ?_)))));clear H K1;intro a H;skip;refine eO (ι:=Nat × Nat × OL × GH) (Tc:=[(1,_),(10,_),(11,_)]) (Lc:=[]) (fun gh=>[(12,vi gh.1)]) (fun gh=>[]++gh.2.2.1) (fun gh=>gh.2.2.2) (fun gh=>gh.1<=l.length∧(∀ b o,G b=some o->gh.2.2.2 b=some o)∧Now xs HZ J (j0+(oD l).length) gh.2.1 (oD (l.drop gh.1)) gh.2.2.2 gh.2.2.1) (fun gh=>l.length - gh.1) ((0,j0,L,G)) (by exact H.sub ⟨O,O,O,O,aB⟩) ?_ ?_
 ·exact ⟨V,fun _ _ h=>h,⟨hJ0,hx0,O⟩⟩
 clear H;rintro ⟨k,j,Lt,g1⟩ a w hI H;dsimp only at hI H;obtain ⟨hk,hgm,fP⟩:=hI;dsimp only [lca,bD] at H;refine kP H (SR fun _ K2=>Rc O (Kz K2 (SQ fun _ K3=>Cd O ?_ ?_))) <;> clear H K2
 ·intro fT a H
  try have pz:=dT fT
  have hk2:k < l.length:=by omega
  obtain ⟨b,o,pA,pn,pc,dA,dn,dc,yA,yn,yc,fA,fn,fc,rA,rn,rc,rfl,hrow,hhd,hfl,hrw⟩:=zT hk2 hg;replace hrow:=fun j u hj=>aK hgm (hrow j u hj);replace hhd:=hhd.mono hgm;replace hfl:=hfl.mono hgm;replace hrw:=hrw.mono hgm;have hrn:=hrw.len;rw [bR] at hrn;subst hrn;have hsz1:=IW hk2;rw [mW hk2] at fP
  simp only [oD,auq,gY,iT] at fP
  obtain ⟨x,hx⟩:∃ x,x=l[k]:=⟨_,O⟩;rw [<- hx] at fP hrow hhd hfl hrw hsz1;have hrl:=F4 x.rows;refine kP H (Kc K3 (SQ fun _ K4=>SB (SR fun _ K5=>Ri eH cO O O ?_)));clear H K3;intro a H;refine bq cO (cs:=[_,_,_,_,_,_,_,_,_,_,_]) H wn O O (fun j v hj=>H.hp.aI (hrow j v hj)) O ?_;clear H;intro a H;refine dR cO H wn O ?_;clear H;intro b5 a w hb5 H;refine bM cO 0 (vs:=[_,_,_,_,_,_,_,_,_,_,_]) H wn O ?_;clear H;intro w H;refine K5 _ _ ?_;clear K5;refine kP H (SR fun _ K6=>Rm O (Rf uq O ?_));clear H;intro a H;refine bq nT (cs:=[_,_,_,_,_]) H wn O O (H.hp.dD 0 O O) O ?_;clear H;intro a H;refine Ai (Li:=[_]) (L:=Lt) H wn O O (hcb _ _ _ _ _ ⟨_,fP.head,XD hhd⟩ (fun b o h=>hgm b o (hGi b o h)) fP.now (Hp.owns (Li:=[_]) H.hp)) O ?_;clear H;intro v19 F8 Ul a w aur nM H;have Bu:=fP.step aur;refine K6 _ _ ?_;clear K6;refine kP H (SR fun _ K7=>aU iL aD 0 O O (Kz K7 (SB (SR fun _ K8=>Rc O (au K8 O (Cd O ?_ ?_)))))) <;> clear H K7 K8
  ·intro h22 a H
   try have oI:=dT h22
   rw [aH oI,cu,gJ] at Bu;refine kP H (SC (aU uw fC 0 O O (Rm O ?_)));clear H;intro a H;refine gD Wn (Li:=[_]) (L:=Ul) H wn O (ih fv Gi xs J _ _ _ (j+1) x.flow _ (fun b o h=>nM b o (hgm b o (hGi b o h))) hcb vG Bu.now (Hp.owns (Li:=[_]) H.hp) (hfl.mono nM) V Bu.part) O ?_;clear H;intro v27 G27 amv a w aus agZ H;refine kH H (Kn K4 (SC (Rd O (Rm O ?_))));clear H K4;intro a H;refine aF ?_;refine dS ((k+1,j+1+(oD x.flow).length,amv,G27)) (by exact (H.dV (Pl:=[_]) (dL:=[]) [] Q1 O).sub ⟨O,O,O,O,aB⟩) ?_
   (try dsimp only);exact ⟨V,fun b o h=>agZ b o (nM b o (hgm b o h)),Bu.jump aus⟩
  intro h22 a H
  try have oI:=dF h22
  rw [ay oI,gJ] at Bu;refine kP H (SR fun _ K9=>Rc O (au K9 O (Cd O ?_ ?_))) <;> clear H K9
  ·intro eY a H
   try have p28:=dT eY
   rw [aH p28] at Bu;refine kP H (SR fun _ aT=>aU pR oq 0 O O (Rl jS O (Rm O (Kz aT (SB ?_)))));clear H aT;intro a H;skip;refine eO (ι:=Nat × Nat × OL × GH) (Tc:=[(1,_),(10,_),(11,_),(12,_),(31,_),(32,_)]) (Lc:=[(_,_)]) (fun gh=>[(33,vi gh.1)]) (fun gh=>[]++gh.2.2.1) (fun gh=>gh.2.2.2) (fun gh=>gh.1<=x.rows.length∧(∀ b o,F8 b=some o->gh.2.2.2 b=some o)∧Now xs HZ J (j0+(oD l).length) gh.2.1 (zU (x.rows.drop gh.1)++oD (l.drop (k+1))) gh.2.2.2 gh.2.2.1) (fun gh=>x.rows.length - gh.1) ((0,j+1,Ul,F8)) (by exact H.sub ⟨O,O,O,O,O,O,O,aB⟩) ?_ ?_
   ·exact ⟨V,fun _ _ h=>h,Bu⟩
   clear H;rintro ⟨rk,j3,Lt3,g3⟩ a w hI H;dsimp only at hI H;obtain ⟨NU,hg3,oF⟩:=hI;dsimp only [lca,bD] at H;refine kP H (SR fun _ bJ=>Rc O (Kz bJ (SQ fun _ bO=>Cd O ?_ ?_))) <;> clear H bJ
   ·intro gP a H
    try have p34:=dT gP
    have hk3:rk < x.rows.length:=by omega
    obtain ⟨b2,o2,qA,qn,qc,eA,en,ec,zA,zn,zc,cA,cn,cc,rfl,hrow,Ac,hcl⟩:=IB hk3 ((hrw.mono nM).mono hg3).at_;have hcn:=hcl.len;rw [bR] at hcn;subst hcn;have hsz2:=IX hk3;have hcs:=FZ x.rows[rk].cells;rw [mW hk3] at oF
    simp only [zU,auD,gY,iT] at oF
    obtain ⟨y,hy⟩:∃ y,y=x.rows[rk]:=⟨_,O⟩;rw [<- hy] at oF hrow Ac hcl hsz2 hcs;refine kP H (Kc bO (SQ fun _ bU=>SB (SR fun _ bZ=>Ri jS ig O O ?_)));clear H bO;intro a H;refine bq ig (cs:=[_,_,_,_,_,_]) H wn O O (fun j v hj=>H.hp.aI (hrow j v hj)) O ?_;clear H;intro a H;refine dR ig H wn O ?_;clear H;intro b7 a w Cq H;refine bM ig 0 (vs:=[_,_,_,_,_,_]) H wn O ?_;clear H;intro w H;refine bZ _ _ ?_;clear bZ;refine kP H (SR fun _ dP=>Rm O (Rf M9 O ?_));clear H;intro a H;refine bq nT (cs:=[_,_,_,_,_]) H wn O O (H.hp.dD 0 O O) O ?_;clear H;intro a H;refine Ai (Li:=[_,_]) (L:=Lt3) H wn O O (hcb _ _ _ _ _ ⟨_,oF.head,XD Ac⟩ (fun b o h=>hg3 b o (nM b o (hgm b o (hGi b o h)))) oF.now (Hp.owns (Li:=[_,_]) H.hp)) O ?_;clear H;intro v40 LV Pp a w auu Ed H;have avV:=oF.step auu;refine dP _ _ ?_;clear dP;refine kP H (SR fun _ dY=>aU uy rM 0 O O (Rl kQ O (Rm O (Kz dY (SB ?_)))));clear H dY;intro a H;skip;refine eO (ι:=Nat × Nat × OL × GH) (Tc:=[(1,_),(10,_),(11,_),(12,_),(31,_),(32,_),(33,_),(42,_),(43,_)]) (Lc:=[(_,_),(_,_)]) (fun gh=>[(44,vi gh.1)]) (fun gh=>[]++gh.2.2.1) (fun gh=>gh.2.2.2) (fun gh=>gh.1<=y.cells.length∧(∀ b o,LV b=some o->gh.2.2.2 b=some o)∧Now xs HZ J (j0+(oD l).length) gh.2.1 (Bj (y.cells.drop gh.1)++(zU (x.rows.drop (rk+1))++oD (l.drop (k+1)))) gh.2.2.2 gh.2.2.1) (fun gh=>y.cells.length - gh.1) ((0,j3+1,Pp,LV)) (by exact H.sub ⟨O,O,O,O,O,O,O,O,O,O,aB⟩) ?_ ?_
    ·exact ⟨V,fun _ _ h=>h,avV⟩
    clear H;rintro ⟨ck,j4,Lt4,g4⟩ a w hI H;dsimp only at hI H;obtain ⟨hck,hg4,pV⟩:=hI;dsimp only [lca,bD] at H;refine kP H (SR fun _ dQ=>Rc O (Kz dQ (SQ fun _ eX=>Cd O ?_ ?_))) <;> clear H dQ
    ·intro h45 a H
     try have p45:=dT h45
     have hk4:ck < y.cells.length:=by omega
     obtain ⟨b3,o3,sA,sn,sc,tA,tn,tc,uA,un,uc,gA,gn,gc,rfl,hrow,hch,hcf⟩:=JD hk4 ((hcl.mono Ed).mono hg4).at_;have Rz:=IV hk4;rw [mW hk4] at pV
     simp only [Bj,atO,gY,iT] at pV
     refine kP H (Kc eX (SQ fun _ gM=>SB (SR fun _ fI=>Ri kQ iN O O ?_)));clear H eX;intro a H;refine bq iN (cs:=[_,_,_,_,_,_,_]) H wn O O (fun j v hj=>H.hp.aI (hrow j v hj)) O ?_;clear H;intro a H;refine dR iN H wn O ?_;clear H;intro b9 a w uG H;refine bM iN 0 (vs:=[_,_,_,_,_,_,_]) H wn O ?_;clear H;intro w H;refine fI _ _ ?_;clear fI;refine kP H (SR fun _ gQ=>Rm O (Rf Na O ?_));clear H;intro a H;refine bq nT (cs:=[_,_,_,_,_]) H wn O O (H.hp.dD 0 O O) O ?_;clear H;intro a H;refine Ai (Li:=[_,_,_]) (L:=Lt4) H wn O O (hcb _ _ _ _ _ ⟨_,pV.head,XD hch⟩ (fun b o h=>hg4 b o (Ed b o (hg3 b o (nM b o (hgm b o (hGi b o h)))))) pV.now (Hp.owns (Li:=[_,_,_]) H.hp)) O ?_;clear H;intro v51 G51 amy a w auw XO H;have NJ:=pV.step auw;refine gQ _ _ ?_;clear gQ;refine kP H (SC (aU DK fC 0 O O (Rm O ?_)));clear H;intro a H;refine gD Wn (Li:=[_,_,_]) (L:=amy) H wn O (ih fv Gi xs J _ _ _ (j4+1) y.cells[ck].flow _ (fun b o h=>XO b o (hg4 b o (Ed b o (hg3 b o (nM b o (hgm b o (hGi b o h))))))) hcb vG NJ.now (Hp.owns (Li:=[_,_,_]) H.hp) (hcf.mono XO) V NJ.part) O ?_;clear H;intro v55 LW amA a w auy Aa H;refine kH H (Kn gM (SC (Rd O (Rm O ?_))));clear H gM;intro a H;refine aF ?_;refine dS ((ck+1,j4+1+(oD y.cells[ck].flow).length,amA,LW)) (by exact (H.dV (Pl:=[_,_,_]) (dL:=[_,_]) [1,2] Q1 O).sub ⟨O,O,O,O,O,O,O,O,O,O,aB⟩) ?_
     (try dsimp only);exact ⟨V,fun b o h=>Aa b o (XO b o (hg4 b o h)),NJ.jump auy⟩
    intro h45 a H
    try have p45:=dF h45
    refine dX ?_;refine bU _ _ ?_;clear bU;refine kP H (SC (Rd O (Rm O ?_)));clear H;intro a H;refine aF ?_;refine dS ((rk+1,j4,Lt4,g4)) (by exact (H.dV (Pl:=[_,_]) (dL:=[_]) [1] Q1 O).sub ⟨O,O,O,O,O,O,O,aB⟩) ?_
    (try dsimp only);exact ⟨V,fun b o h=>hg4 b o (Ed b o (hg3 b o h)),by rw [ow V,Bj,gJ] at pV;exact pV⟩
   intro gP a H
   try have p34:=dF gP
   refine dX ?_;refine K4 _ _ ?_;clear K4;refine kP H (SC (Rd O (Rm O ?_)));clear H;intro a H;refine aF ?_;refine dS ((k+1,j3,Lt3,g3)) (by exact (H.dV (Pl:=[_]) (dL:=[]) [] Q1 O).sub ⟨O,O,O,O,aB⟩) ?_
   (try dsimp only);exact ⟨V,fun b o h=>hg3 b o (nM b o (hgm b o h)),by rw [ow V,zU,gJ] at oF;exact oF⟩
  intro eY a H
  try have p28:=dF eY
  rw [ay p28,gJ] at Bu;refine kP H (Kc K4 (SC (Rd O (Rm O ?_))));clear H K4;intro a H;refine aF ?_;refine dS ((k+1,j+1,Ul,F8)) (by exact (H.dV (Pl:=[_]) (dL:=[]) [] Q1 O).sub ⟨O,O,O,O,aB⟩) ?_
  (try dsimp only);exact ⟨V,fun b o h=>nM b o (hgm b o h),Bu⟩
 intro fT a H
 try have pz:=dF fT
 refine dX ?_;refine (leave0 H results185 ?_).2
 exact H.hp.kJ (L':=Lt) (by repeat (first|exact lV _|apply List.Sublist.cons)) (by
   rw [ow V,oD] at fP;have:=fP.len
   simp only [List.length_nil,wB] at this
   rw [<- this];exact fP.now)
theorem agP:∀ n:Nat,n<=4294967297->Ue n
 | 0,_=>fun _ _ _ _ _ _ _ _ _ _ _ _ _ _ _ _ h=>absurd h V
 | n+1,hn=>avk (agP n V) V
theorem aaI {Q:ak->Prop} (hj:∀ z y,Q z->Q y->xR z y->Q (qo z y)) {out:List ak} {y:ak} (hy:Q y) (ho:∀ z∈out,Q z):∀ z∈addN out y,Q z:=by
 by_cases hd:wF y
 ·rw [UA hd];exact ho
 by_cases h:∃ o z,out=o++[z]∧xR z y
 ·obtain ⟨o,z,rfl,hz⟩:=h;rw [Pw hd hz];intro x hx
  rcases iP.1 hx with h|h
  ·exact ho x (List.mem_append_left _ h)
  rw [qX.1 h];exact hj z y (ho z (by simp)) hy hz
 rw [Px hd fun o z e hz=>h ⟨o,z,e,hz⟩];intro x hx
 rcases iP.1 hx with h|h
 ·exact ho x h
 rw [qX.1 h];exact hy
theorem agl {Q:ak->Prop} (hj:∀ z y,Q z->Q y->xR z y->Q (qo z y)):∀ (A out:List ak),(∀ y∈A,Q y)->(∀ z∈out,Q z)->∀ z∈A.foldl addN out,Q z
 | [],_,_,ho=>ho
 | y :: A,out,hA,ho=>agl hj A (addN out y) (fun x hx=>hA x (gH _ hx)) (aaI hj (hA y eT) ho)
theorem fold_add {γ:Type} {F:List ak->γ} {op:γ->γ->γ} {Q:ak->Prop} (hF:∀ a b,F (a++b)=op (F a) (F b)) (hj:∀ z y,Q z->Q y->xR z y->Q (qo z y)) (hd:∀ y,Q y->¬ wF y)
  (hg:∀ o z y,Q z->Q y->xR z y->F (o++[qo z y])=op (F (o++[z])) (F [y])):∀ (A out:List ak),(∀ y∈A,Q y)->(∀ z∈out,Q z)->F (A.foldl addN out)=F (out++A)
 | [],out,_,_=>by rw [jV];rfl
 | y :: A,out,hA,ho=>by
  have hy:=hA y eT;rw [List.foldl_cons,fold_add hF hj hd hg A (addN out y) (fun x hx=>hA x (gH _ hx)) (aaI hj hy ho),show out++y :: A=(out++[y])++A by simp,hF,hF (out++[y])]
  congr 1
  by_cases h:∃ o z,out=o++[z]∧xR z y
  ·obtain ⟨o,z,rfl,hz⟩:=h;rw [Pw (hd y hy) hz,hg o z y (ho z (by simp)) hy hz,<- hF]
  rw [Px (hd y hy) fun o z e hz=>h ⟨o,z,e,hz⟩]
theorem J2 {x:ak} (h:iU x=0) (hk:x.kind=1):x.code=0∧x.id=0∧ny x.text=true∧rZ x.text=false∧x.flow=[]∧x.rows=[]:=by
 have h0:=EY h
 unfold iU at h
 have hc:vw x=false:=by simp [vw,hk]
 have hn:vT x=false:=by simp [vT,hk]
 split at h
 ·cases h
 split at h
 ·cases h
 rename_i h2
 split at h
 ·cases h
 split at h
 ·cases h
 rename_i h4
 rw [hk] at h4
 simp only [vD,hc,hn,Bool.not_false,Jk,Bool.or_eq_true,not_or,Bool.not_eq_true,Dr,nV] at h2
 refine ⟨h2.1.1.1.1,h2.1.1.1.2,h0.1,?_,h0.2.2.2 V,h0.2.2.1 V⟩
 cases he:rZ x.text
 ·rfl
 rw [he] at h4;simp at h4
theorem aeF (s:ByteArray):rZ s=decide (s.size=0):=by
 unfold rZ
 rw [ByteArray.toList_eq,ByteArray.toList_eq,zK,sW,beq_iff_eq]
 constructor
 ·intro h;have:=dh List.length h
  simpa using this
 intro h;exact List.eq_nil_of_length_eq_zero (by rw [uZ];exact h)
theorem agn {z y:ak} (hz:iU z=0) (hy:iU y=0) (kz:z.kind=1) (ky:y.kind=1):iU (qo z y)=0:=by
 obtain ⟨a1,a2,a3,a4,a5,a6⟩:=J2 hz kz;obtain ⟨b1,b2,b3,b4,b5,b6⟩:=J2 hy ky;have hv:=alD a3 b3
 have he:rZ (z.text++y.text)=false:=by
  rw [aeF,Dr] at a4 |-;rw [ByteArray.size_append];omega
 unfold iU qo codeOk vD xX xZ vw vT
 simp only [ak.kind,ak.code,ak.id,ak.text,ak.flow,ak.rows] at *
 simp [kz,a1,a2,a5,a6,hv,he,xX,vw,vT,xZ,ak.kind,ak.code]
theorem WT {k c i:Int} {tx:ByteArray} {h:fH} {f f':List ak} {r r':List aM} (hx:iU (.mk k c i tx h f r)=0) (hf:k≠6->f=[]->f'=[]) (hr:r'.length=r.length):iU (.mk k c i tx h f' r')=0:=by
 have h0:=(EY hx).2.2.2
 have e:vD (.mk k c i tx h f' r')=vD (.mk k c i tx h f r):=by
  have hfl:k≠6->f'.length=f.length:=fun h6=>by rw [hf h6 (h0 h6),show f=[] from h0 h6]
  rw [zK]
  simp only [vD,Bool.or_eq_true,mG,sW]
  have c1:vw (.mk k c i tx h f' r')=vw (.mk k c i tx h f r):=rfl;have c2:vT (.mk k c i tx h f' r')=vT (.mk k c i tx h f r):=rfl;have c3:xZ (.mk k c i tx h f' r')=xZ (.mk k c i tx h f r):=rfl;rw [c1,c2,c3]
  show (((((_∧c≠0)∨(_∧i≠0))∨(_∧(!rZ tx)=true))∨(k≠6∧0 < (f'.length:Int)))∨(k≠7∧0 < (r'.length:Int)))↔(((((_∧c≠0)∨(_∧i≠0))∨(_∧(!rZ tx)=true))∨(k≠6∧0 < (f.length:Int)))∨(k≠7∧0 < (r.length:Int)))
  rw [hr]
  by_cases h6:k=6
  ·simp [h6]
  rw [hfl h6]
 have e2:codeOk (.mk k c i tx h f' r')=codeOk (.mk k c i tx h f r):=rfl;have e3:xX (.mk k c i tx h f' r')=xX (.mk k c i tx h f r):=rfl
 unfold iU at hx |-
 rw [e,e2,e3];exact hx
theorem KS {C:bN} {body note:Bool} {t:Int} (x:ak):lY C body note t x↔iU x=0∧Sv body note t x.kind x.id∧iw C x.kind x.head=0∧(x.kind=6->iQ C false true t x.flow)∧(x.kind=7->(x.rows.length≠0∧x.rows.length<=256)∧oh C note (t+1) x.rows):=by
 cases x;rw [lY];rfl
theorem Sl {C:bN} {body note:Bool} {t:Int} (z y:ak) (hz:lY C body note t z) (hy:lY C body note t y) (hj:xR z y):lY C body note t (qo z y):=by
 rw [KS] at *;refine ⟨agn hz.1 hy.1 hj.2.1 hj.1,hz.2.1,hz.2.2.1,hz.2.2.2.1,hz.2.2.2.2⟩
theorem Y3 {C:bN} {body note:Bool} {t:Int} (y:ak) (hy:lY C body note t y):¬ wF y:=by
 rw [KS] at hy;rintro (⟨h1,h2⟩|⟨h1,h2⟩)
 ·exact (hy.2.2.2.2 h1).1.1 h2
 have:=(J2 hy.1 h1).2.2.2.1;rw [aeF] at this
 simp [h2] at this
theorem Y6 {C:bN} {body note:Bool} {t:Int} {A:List ak} (h:iQ C body note t A):iQ C body note t (A.foldl addN []):=zo.2 (agl Sl A [] (zo.1 h) (fun _ h=>by cases h))
mutual
theorem azb (C:bN) (body note:Bool) (t:Int):∀ x:ak,lY C body note t x->lY C body note t (nI x)
 | .mk k c i tx h f r,hx=>by
  have hf:=CJ C false true t f;have hr:=ajw C note (t+1) r;rw [lY] at hx;rw [nI,lY];exact ⟨WT hx.1 (fun _ e=>by rw [e];rfl) (by rw [R6,bR]),hx.2.1,hx.2.2.1,fun e=>Y6 (hf (hx.2.2.2.1 e)),fun e=>⟨by rw [R6,bR];exact (hx.2.2.2.2 e).1,hr (hx.2.2.2.2 e).2⟩⟩
theorem azc (C:bN) (note:Bool) (t:Int):∀ x:aM,qJ C note t x->qJ C note t (nR x)
 | .mk h cs,hx=>by
  have hc:=ajv C note t cs;rw [qJ] at hx;rw [nR,qJ];exact ⟨by rw [YV,bR];exact hx.1,hc hx.2⟩
theorem aza (C:bN) (note:Bool) (t:Int):∀ x:aN,qI C note t x->qI C note t (nC x)
 | .mk i h f,hx=>by
  have hf:=CJ C false note t f;rw [qI] at hx;rw [nC,qI];exact ⟨hx.1,Y6 (hf hx.2)⟩
theorem CJ (C:bN) (body note:Bool) (t:Int):∀ l:List ak,iQ C body note t l->iQ C body note t (pX l)
 | [],_=>by rw [pX,iQ];trivial
 | x :: l,h=>by
  rw [iQ] at h;rw [pX,iQ];exact ⟨azb C body note t x h.1,CJ C body note t l h.2⟩
theorem ajw (C:bN) (note:Bool) (t:Int):∀ l:List aM,oh C note t l->oh C note t (tN l)
 | [],_=>by rw [tN,oh];trivial
 | x :: l,h=>by
  rw [oh] at h;rw [tN,oh];exact ⟨azc C note t x h.1,ajw C note t l h.2⟩
theorem ajv (C:bN) (note:Bool) (t:Int):∀ l:List aN,oH C note t l->oH C note t (tL l)
 | [],_=>by rw [tL,oH];trivial
 | x :: l,h=>by
  rw [oH] at h;rw [tL,oH];exact ⟨aza C note t x h.1,ajv C note t l h.2⟩
end
theorem Sg (l:List ak):iy l=(pX l).foldl addN []:=by simp [iy,uK,R5]
theorem Y7 {C:bN} {body note:Bool} {t:Int} {l:List ak} (h:iQ C body note t l):iQ C body note t (iy l):=by rw [Sg];exact Y6 (CJ C body note t l h)
theorem Fy:∀ a b:List ak,gZ (a++b)=gZ a++gZ b
 | [],b=>by rw [gZ];rfl
 | x :: a,b=>by rw [iT,gZ,gZ,Fy a b,gY]
theorem FP:∀ a b:List ak,jv (a++b)=jv a+jv b
 | [],b=>by rw [jv,fO];rfl
 | x :: a,b=>by rw [iT,jv,jv,FP a b,Nat.add_assoc]
theorem Yk {x:ak} (h:x.kind=1):pW x=[]:=by
 cases x;dsimp only [ak.kind] at h;subst h;simp [pW]
theorem Z6 {x:ak} (h:x.kind=1):uI x=ru x.text:=by
 cases x;dsimp only [ak.kind] at h;subst h;simp [uI,ak.text]
theorem Ym {C:bN} {body note:Bool} {t:Int} {A:List ak} (h:iQ C body note t A):gZ (A.foldl addN [])=gZ A :=
 (fold_add (F:=gZ) Fy (Sl (C:=C) (body:=body) (note:=note) (t:=t)) Y3 (fun o z y _ _ hj=>by
  rw [Fy,Fy];simp only [gZ];rw [Yk hj.2.1,Yk hj.1,Yk (x:=qo z y) hj.2.1];simp) A [] (zo.1 h) (fun _ h=>by cases h))
theorem Z7 {C:bN} {body note:Bool} {t:Int} {A:List ak} (h:iQ C body note t A):jv (A.foldl addN [])=jv A :=
 (fold_add (F:=jv) FP (Sl (C:=C) (body:=body) (note:=note) (t:=t)) Y3 (fun o z y hz hy hj=>by
  rw [KS] at hz hy
  rw [FP,FP];simp only [jv];rw [Z6 hj.2.1,Z6 hj.1,Z6 (x:=qo z y) hj.2.1,show (qo z y).text=z.text++y.text from rfl,aed (EY hz.1).1 (EY hy.1).1];omega) A [] (zo.1 h) (fun _ h=>by cases h))
theorem Ju {p:Prop} (h:p:=by
 exact ⟨O,O⟩):p:=h
mutual
theorem axB (C:bN) (body note:Bool) (t:Int):∀ x:ak,lY C body note t x->pW (nI x)=pW x∧uI (nI x)=uI x
 | .mk k c i tx h f r,hx=>by
  have hf:=RP C false true t f;have hr:=aix C note (t+1) r;rw [lY] at hx;rw [nI,pW,pW,uI,uI]
  by_cases h6:k=6
  ·subst h6;have ho:=hx.2.2.2.1 O;have hn:=CJ C false true t f ho
   simp only [if_true,ay (show ¬ (6:Int)=7 by decide)]
   rw [Ym hn,Z7 hn,(hf ho).1,(hf ho).2];exact Ju
  by_cases h7:k=7
  ·subst h7;have ho:=(hx.2.2.2.2 O).2
   simp only [if_true,ay (show ¬ (7:Int)=6 by decide)]
   rw [(hr ho).1,(hr ho).2];exact Ju
  simp only [ay h6,ay h7]
  exact ⟨aB,aB⟩
theorem axC (C:bN) (note:Bool) (t:Int):∀ x:aM,qJ C note t x->vO (nR x)=vO x∧uR (nR x)=uR x
 | .mk h cs,hx=>by
  have hc:=aiw C note t cs;rw [qJ] at hx;rw [nR,vO,vO,uR,uR];exact hc hx.2
theorem axA (C:bN) (note:Bool) (t:Int):∀ x:aN,qI C note t x->vN (nC x)=vN x∧uC (nC x)=uC x
 | .mk i h f,hx=>by
  have hf:=RP C false note t f;rw [qI] at hx;have hn:=CJ C false note t f hx.2;rw [nC,vN,vN,uC,uC,Ym hn,Z7 hn,(hf hx.2).1,(hf hx.2).2];exact Ju
theorem RP (C:bN) (body note:Bool) (t:Int):∀ l:List ak,iQ C body note t l->gZ (pX l)=gZ l∧jv (pX l)=jv l
 | [],_=>by rw [pX];exact ⟨O,O⟩
 | x :: l,h=>by
  rw [iQ] at h;have h1:=axB C body note t x h.1;have h2:=RP C body note t l h.2;rw [pX,gZ,gZ,jv,jv,h1.1,h1.2,h2.1,h2.2];exact Ju
theorem aix (C:bN) (note:Bool) (t:Int):∀ l:List aM,oh C note t l->nN (tN l)=nN l∧qz (tN l)=qz l
 | [],_=>by rw [tN];exact ⟨O,O⟩
 | x :: l,h=>by
  rw [oh] at h;have h1:=axC C note t x h.1;have h2:=aix C note t l h.2;rw [tN,nN,nN,qz,qz,h1.1,h1.2,h2.1,h2.2];exact Ju
theorem aiw (C:bN) (note:Bool) (t:Int):∀ l:List aN,oH C note t l->nY (tL l)=nY l∧qN (tL l)=qN l
 | [],_=>by rw [tL];exact ⟨O,O⟩
 | x :: l,h=>by
  rw [oH] at h;have h1:=axA C note t x h.1;have h2:=aiw C note t l h.2;rw [tL,nY,nY,qN,qN,h1.1,h1.2,h2.1,h2.2];exact Ju
end
theorem Yn {C:bN} {body note:Bool} {t:Int} {l:List ak} (h:iQ C body note t l):gZ (iy l)=gZ l∧jv (iy l)=jv l:=by
 have hn:=CJ C body note t l h;rw [Sg,Ym hn,Z7 hn];exact RP C body note t l h
theorem aB7 (z y:ak):bY (qo z y).dat<=bY z.dat+bY y.dat:=by
 rw [ak.rz,ak.rz,ak.rz]
 simp only [qo,ak.kind,ak.code,ak.id,ak.text,ak.head,ak.flow,ak.rows,bY,om,ByteArray.size_append]
 omega
theorem Aw (a b:List ak):aP (a++b)=aP a+aP b:=by rw [aP,jM,LA]
theorem TN (y:ak):aP [y]=1+bY y.dat:=by simp [aP,eZ]
theorem aCZ (out:List ak) (y:ak):aP (addN out y)<=aP out+aP [y]:=by
 rcases aaJ out y with e|e|⟨o,z,rfl,-,-,e⟩ <;> rw [e]
 ·omega
 ·rw [Aw];exact fD _
 have:=aB7 z y;rw [Aw,Aw,TN,TN,TN];omega
theorem TL:∀ (A out:List ak),aP (A.foldl addN out)<=aP out+aP A
 | [],out=>Nat.le_add_right _ _
 | y :: A,out=>by
  have h1:=TL A (addN out y);have h2:=aCZ out y;have h3:=Aw [y] A;rw [List.singleton_append] at h3;rw [List.foldl_cons,h3];omega
theorem VD {p:Prop} (h:p:=by
 induction a with
 | nil=>simp [bY]
 | cons x a ih=>simp only [iT,bY,ih];omega):p:=h
mutual
theorem aC1:∀ x:ak,bY (nI x).dat<=bY x.dat
 | .mk k c i tx h f r=>by
  have hf:=TM f;have hr:=amf r;have hd:=TL (pX f) [];have h0:aP []=0:=rfl
  have OA:∀ (a b:List Dat),bY (a++b)=bY a+bY b:=fun a b=>by
   exact VD
  rw [nI,ak.rz,ak.rz]
  simp only [ak.kind,ak.code,ak.id,ak.text,ak.head,ak.flow,ak.rows,bY,om,OA]
  unfold aP at *
  unfold gq at hr
  omega
theorem aC2:∀ x:aM,bY (nR x).dat<=bY x.dat
 | .mk h cs=>by
  have hc:=ame cs
  have OA:∀ (a b:List Dat),bY (a++b)=bY a+bY b:=fun a b=>by
   exact VD
  rw [nR,aM.rz,aM.rz]
  simp only [aM.head,aM.cells,bY,om,OA]
  unfold iA at hc
  omega
theorem aC0:∀ x:aN,bY (nC x).dat<=bY x.dat
 | .mk i h f=>by
  have hf:=TM f;have hd:=TL (pX f) [];have h0:aP []=0:=rfl
  have OA:∀ (a b:List Dat),bY (a++b)=bY a+bY b:=fun a b=>by
   exact VD
  rw [nC,aN.rz,aN.rz]
  simp only [aN.id,aN.head,aN.flow,bY,om,OA]
  unfold aP at *
  omega
theorem TM:∀ l:List ak,aP (pX l)<=aP l
 | []=>by rw [pX];exact fD _
 | x :: l=>by
  have h1:=aC1 x;have h2:=TM l;rw [pX]
  simp only [aP,eP,eZ] at *
  omega
theorem amf:∀ l:List aM,gq (tN l)<=gq l
 | []=>by rw [tN];exact fD _
 | x :: l=>by
  have h1:=aC2 x;have h2:=amf l;rw [tN]
  simp only [gq,eP,eZ] at *
  omega
theorem ame:∀ l:List aN,iA (tL l)<=iA l
 | []=>by rw [tL];exact fD _
 | x :: l=>by
  have h1:=aC0 x;have h2:=ame l;rw [tL]
  simp only [iA,eP,eZ] at *
  omega
end
theorem aai (l:List ak):aP (iy l)<=aP l:=by
 have h1:=TL (pX l) [];have h2:=TM l;have h0:aP []=0:=rfl;rw [Sg];omega
theorem aqn:aW 165:=aY func165 O
theorem OE:prog.underlying 254=some (.slice 22):=by kernel_rfl
theorem arU:aW 75:=aY func75 O
def Oc (l:List ak):List Dat:=[.sl 11 (l.map ak.dat)]
theorem Yt {G:GH} {l:List ak} {v:ah} (h:av G (.sl 11 (l.map ak.dat)) v):aX G (Oc l) [v]:=⟨v,[],O,h,O⟩
theorem aiv {G:GH} {S:List (List ak)} {A:Option Addr} {n c i:Nat} (hv:av G (.sl 1 (S.map Oc)) (.slice A n c)) (hi:i < S.length):∃ b o bA bc,A=some ⟨b,o,none⟩∧aI G b (o+i*1)=some (.slice bA S[i].length bc)∧av G (.sl 11 (S[i].map ak.dat)) (.slice bA S[i].length bc):=by
 obtain ⟨A',c',he,_,_,hg⟩:=hv.slice
 injection he with e1 e2 e3
 subst e1;obtain ⟨b,o,cs,h1,h2,h3,h4⟩:=hg i (Oc S[i]) (by simp [hi])
 simp only [Oc,aX] at h4
 obtain ⟨v,_,rfl,h5,rfl⟩:=h4;obtain ⟨bA,bn,bc,rfl⟩:=h5.form;have hn:=h5.len;rw [bR] at hn;subst hn;exact ⟨b,o,bA,bc,h1,h3 0 _ O,h5⟩
theorem WR {α:Type} {S:List (List α)} {k:Nat} (h:k < S.length):(S.take (k+1)).flatten=(S.take k).flatten++S[k]:=by rw [jk h,List.flatten_append,List.flatten_cons,List.flatten_nil,jV]
theorem agf {α:Type} (S:List (List α)) (k:Nat):(S.take k).flatten.length<=S.flatten.length:=by
 have e:=dh List.length (dh List.flatten (List.take_append_drop k S));rw [List.flatten_append,iK] at e;omega
theorem atN (G:GH) (w0:World) (n:Nat) (hO:fM G [] w0) (hn:n<=4294967296):Calls prog 165 #[.slice none 0 0,vi n] w0 (fB w0 G [] fun u G' L'=>G=G'∧bV 128 11 u 0 [] L'):=by
 have hml:4294967297<=maxLen:=by decide
 refine iB (N:=27) (T:=[(0,_),(1,_)]) func165 O ntmps165 O O hO ?_;intro a H;refine kP H (SR fun _ K1=>au K1 O (SQ fun _ K2=>SR fun _ K3=>Rm O (Rc O (Kz K3 (Cd O ?_ ?_))))) <;> clear H K1 K3
 ·intro h6 a H
  try have p6:=dT h6
  exact absurd p6 V
 intro h6 a H
 try have p6:=dF h6
 refine kP H (Kc K2 (SQ fun _ K4=>SR fun _ K5=>Rm O (Rm O ?_)));clear H K2;intro a H;refine akq eH H wn O O ?_;clear H;intro a H;refine kH H (Rm O (Rl eH O (Rs O (Rs O ?_))));clear H;intro a H;rw [show ((n:Int) - (((0:Nat):Int) - ((0:Nat):Int)))=(n:Int) by omega] at H;refine kH H (au K5 O (SR fun _ K6=>Rm O (Rc O (Kz K6 (Cd O ?_ ?_))))) <;> clear H K5 K6
 ·intro h16 a H
  try have p16:=dT h16
  refine kP H (SC (Rm O (Rm O ?_)));clear H;intro a H;refine akq eH H wn O O ?_;clear H;intro a H;refine Ox eH cO 0 H wn O O O (fD _) O ?_;clear H;intro a H;refine kH H (Rm O ?_);clear H;intro a H;refine aAO eH mQ cO O O H wn O O V V V O ?_;clear H;intro b22 aoi apt a w aDn hc22 avf avi H;refine kH H (Rm O (Rl eH O ?_));clear H;intro a H;refine Ox eH cO 0 H wn O O O (jL _) O ?_;clear H;intro a H;exact kH H (aZ K4 O (SR fun _ K7=>Rm O (au K7 O (LR results165 O fun H=>H.hp.gI ⟨O,by simp,.inr ⟨b22,aoi,apt,O,O,jL _,avf,avi,by simp⟩⟩))))
 intro h16 a H
 exact kP H (Kc K4 (SR fun _ K8=>Rm O (au K8 O (LR results165 O fun H=>H.hp.gI ⟨O,bV.nil⟩))))
theorem apg (G:GH) (w0:World) (hG:Hold G w0) (S:List (List ak)) (v:ah) (hv:av G (.sl 1 (S.map Oc)) v) (hz:S.flatten.length<=1073741824) :
  Calls prog 75 #[v] w0 (bG w0 G fun u G'=>av G' (.sl 11 (S.flatten.map ak.dat)) u):=by
 obtain ⟨A,c,rfl,hc1,hc2,-⟩:=hv.slice;have hml:maxLen=9223372036854775807:=rfl;rw [bR] at *;refine eN [(0,_)] func75 O ntmps75 O O hG ?_;intro a H;refine kP H (SR fun _ K1=>au K1 O (SR fun _ K2=>au K2 O (SQ fun _ K3=>SR fun _ K4=>Rm O (Rl OE O (Rm O (Kz K4 (SB ?_)))))));clear H K1 K2 K4;intro a H;skip;refine eO (ι:=Nat) (Tc:=[(0,_),(9,_),(10,_)]) (Lc:=[]) (fun gh=>[(3,vi ((S.take gh).flatten.length:Nat)),(11,vi gh)]) (fun gh=>[]) (fun gh=>G) (fun gh=>gh<=S.length) (fun gh=>S.length - gh) (0) (by exact H.sub ⟨O,O,O,O,O,aB⟩) ?_ ?_
 ·exact jL _
 clear H;intro k a w hI H;have hk:k<=S.length:=hI;dsimp only [lca,bD] at H;refine kP H (SR fun _ K5=>Rc O (Kz K5 (SQ fun _ K6=>Cd O ?_ ?_))) <;> clear H K5
 ·intro h12 a H
  try have pq:=dT h12
  have hk2:k < S.length:=by omega
  obtain ⟨b,o,bA,bc,rfl,g1,g2⟩:=aiv hv hk2;have hft:=agf S (k+1);have hfs:=dh List.length (WR hk2);rw [iK] at hfs;refine kP H (Kc K6 (SQ fun _ K7=>SB (SR fun _ K8=>Ri OE fC O O (Rg fC O (by assumption) ?_))));clear H K6;intro a H;refine kH H (au K8 O (SR fun _ K9=>Rm O (Rm O (Rl eH O (Rd O ?_)))));clear H K8;intro a H;rw [show (((S.take k).flatten.length:Nat):Int)+(S[k].length:Int)=(((S.take (k+1)).flatten.length:Nat):Int) by omega] at H;refine kH H (au K9 O (SR fun _ aT=>Rm O (Rc O (Kz aT (Cd O ?_ ?_))))) <;> clear H K9 aT
  ·intro h20 a H
   try have BJ:=dT h20
   exact absurd BJ V
  intro h20 a H
  try have BJ:=dF h20
  refine kP H (Kc K7 (SC (Rd O (Rm O ?_))));clear H K7;intro a H;refine aF ?_;refine dS ((k+1)) (by exact H.sub ⟨O,O,O,O,O,aB⟩) ?_
  exact hk2
 intro h12 a H
 try have pq:=dF h12
 refine dX ?_;refine K3 _ _ ?_;clear K3;refine bP (fun _ bJ=>?_);rw [show S.take k=S from lU V] at H;refine kP H (SC (Rm O ?_));clear H;intro a H;refine gD aqn (Li:=[]) (L:=[]) H wn O (atN _ _ S.flatten.length (Hp.owns (Li:=[]) H.hp) V) O ?_;clear H;rintro v24 _ Ug a w ⟨rfl,awu⟩ wN H;dsimp only [List.nil_append] at H;refine kH H (aZ bJ O (SQ fun _ bO=>SR fun _ bU=>Rm O (Rl OE O (Rm O (Kz bU (SB ?_))))));clear H bJ bU;intro a H;skip;refine eO (ι:=Nat × ah × List ah × OL) (Tc:=[(25,_),(26,_)]) (Lc:=[]) (fun gh=>[(6,gh.2.1),(27,vi gh.1)]) (fun gh=>[]++gh.2.2.2) (fun gh=>G) (fun gh=>gh.1<=S.length∧bV 128 11 gh.2.1 (S.take gh.1).flatten.length gh.2.2.1 gh.2.2.2∧bT G 11 ((S.take gh.1).flatten.map ak.dat) gh.2.2.1) (fun gh=>S.length - gh.1) ((0,v24,[],Ug)) (by exact (H:St _ _ _ _ _ _ ([]++Ug) _ _ _).sub ⟨O,O,O,O,aB⟩) ?_ ?_
 ·exact ⟨jL _,awu,bT.nil⟩
 clear H;rintro ⟨j,v,xs,Lo⟩ a w hI H;dsimp only at hI H;obtain ⟨hj,hrw,fZ⟩:=hI;dsimp only [lca,bD] at H;refine kP H (SR fun _ bZ=>Rc O (Kz bZ (SQ fun _ dP=>Cd O ?_ ?_))) <;> clear H bZ
 ·intro eY a H
  try have p28:=dT eY
  have hj2:j < S.length:=by omega
  obtain ⟨b,o,bA,bc,rfl,g1,g2⟩:=aiv hv hj2;have hft:=agf S (j+1);have hfs:=dh List.length (WR hj2);rw [iK] at hfs;refine kP H (Kc dP (SQ fun _ dY=>SB (SR fun _ dQ=>Ri OE fC O O (Rg fC O (by assumption) ?_))));clear H dP;intro a H;refine kH H (au dQ O (SC (Rm O (Rm O ?_))));clear H dQ;intro a H;refine ZA (Li:=[]) (Lo:=Lo) eH cO O O H wn O O hrw g2 V V O ?_;clear H;intro v33 Ui ayM a w X9 auW H;dsimp only [List.nil_append] at H;refine kH H (aZ dY O (SC (Rd O (Rm O ?_))));clear H dY;intro a H;refine aF ?_;refine dS ((j+1,v33,xs++ayM,Ui)) (by exact H.sub ⟨O,O,O,O,aB⟩) ?_
  (try dsimp only);exact ⟨V,by rw [hfs];exact X9,by rw [WR hj2,jM];exact fZ.append auW⟩
 intro eY a H
 try have p28:=dF eY
 refine dX ?_;refine bO _ _ ?_;clear bO;refine bP (fun _ eX=>?_);obtain ⟨Gr,hmr,hrep,H⟩:=St.qF (Li:=[]) H hrw (rows:=(S.take j).flatten.map ak.dat) (by rw [bR]) fZ;rw [show S.take j=S from lU V] at hrep;exact kP H (SC (Rm O (aZ eX O (LR results75 O fun H=>H.rt hrep))))
theorem ajc {a b:List ak} (ha:lq a) (hb:lq b):lq (a++b):=Y0 fun x hx=>(iP.1 hx).elim (Oj ha x) (Oj hb x)
set_option maxHeartbeats 2000000 in
theorem azY (G:GH) (w0:World) (hG:Hold G w0) (p m q wi:List ak) (v u:ah) (hv:av G (.sl 11 ((p++(m++q)).map ak.dat)) v) (hu:av G (.sl 11 (wi.map ak.dat)) u) (hok:fq (p++(m++q))) (hnw:lq wi) (hz:aP (p++(m++q))<=1073741824) (hz2:aP (p++(wi++q))<=1073741824) :
  Calls prog 24 #[v,vi (fU p),vi (fU (p++m)),u] w0 (bG w0 G fun r G'=>∃ x,r=.tuple #[x,vi 0]∧av G' (.sl 11 ((iy (p++(wi++q))).map ak.dat)) x):=by
 obtain ⟨l,hl⟩:∃ l,l=p++(m++q):=⟨_,O⟩
 have hl2:l=(p++m)++q:=by rw [hl,gY]
 rw [<- hl] at hv hok hz;have hq:∀ y∈q,1<=eG y:=fun y hy=>alq hok (by rw [hl2];exact List.mem_append_right _ hy);have hmq:∀ y∈m++q,1<=eG y:=fun y hy=>alq hok (by rw [hl];exact List.mem_append_right _ hy)
 have e1:vP (fU p:Nat) l=p:=by rw [hl];exact left_at hmq
 have e2:BL (fU (p++m):Nat) l=q:=by rw [hl2];exact aAh hq
 have h1:F6 (fU p:Nat) l:=by rw [hl];exact aei _ _
 have h2:F6 (fU (p++m):Nat) l:=by rw [hl2];exact aei _ _
 have hr:En l (fU p:Nat) (fU (p++m):Nat)=0:=by
  have h3:fU l=fU p+fU m+fU q:=by rw [hl2,Oz,Oz]
  have h4:sI l=fU l:=hok.len;rw [En,aH hok.zk,ay];rw [h4,Oz]
  omega
 have hne:lq (p++(wi++q)):=ajc (ajd (fun x hx=>by rw [hl];exact List.mem_append_left _ hx) hok.ne) (ajc hnw (ajd (fun x hx=>by rw [hl2];exact List.mem_append_right _ hx) hok.ne));have hlen:=Au (p++(wi++q));refine eN [(0,_),(1,_),(2,_),(3,_)] func24 O ntmps24 O O hG ?_;intro a H;refine kP H (SR fun _ K1=>Ra O (au K1 O (SQ fun _ K2=>SR fun _ K3=>Rm O (Rm O (Rm O ?_)))));clear H K1;intro a H;refine s_call afl H wn O (adR _ _ H.ro l _ _ v hv V) O ?_;clear H;rintro v18 O4 a w rfl hm18 H;rw [hr] at H;refine kH H (au K3 O (SR fun _ K4=>Rm O (Rc O (Kz K4 (Cd O ?_ ?_))))) <;> clear H K3 K4
 ·intro h20 a H
  exact absurd h20 Q1
 intro h20 a H
 try have BJ:=dF h20
 refine kP H (Kc K2 (SR fun _ K5=>Rm O (Rm O ?_)));clear H K2;intro a H;refine s_call Qw H wn O (Qp _ _ H.ro l _ v (hv.mono hm18) hz h1) O ?_;clear H;rintro v25 G25 a w ⟨x,y,rfl,hx,hy⟩ Fe H;rw [e1] at hx;replace hv:=(hv.mono hm18).mono Fe;refine kH H (Rm O ?_);clear H;intro a H;(iterate 2 refine ko H wn O O O ?_;clear H;intro a H);refine kH H (Ra O (au K5 O (SR fun _ K6=>Rm O (Rm O ?_))));clear H K5;intro a H;refine s_call Qw H wn O (Qp _ _ H.ro l _ v hv hz h2) O ?_;clear H;rintro v31 T9 a w ⟨x2,y2,rfl,hx2,hy2⟩ Kk H;rw [e2] at hy2;replace hx:=hx.mono Kk;replace hu:=((hu.mono hm18).mono Fe).mono Kk;obtain ⟨xA,xn,xc,rfl⟩:=hx.form;obtain ⟨uA,un,uc,rfl⟩:=hu.form;obtain ⟨yA,yn,yc,rfl⟩:=hy2.form;refine kH H (Rm O ?_);clear H;intro a H;(iterate 2 refine ko H wn O O O ?_;clear H;intro a H);refine kH H (Ra O (au K6 O (SR fun _ K7=>Rm O (Rm O (Rm O ?_)))));clear H K6;intro a H;refine iG OE fC [_,_,_] [_,_,_] H wn O O O O O (by intro i q h;match i,h with|0,h=>exact h|1,h=>exact h|2,h=>exact h|n+3,h=>simp at h) O O ?_;clear H;intro b37 a w aDs H;obtain ⟨G37,NA,avx,H⟩:=H.fJ;refine s_call arU H wn O (apg _ _ H.ro [p,wi,q] _ (av.vU (xs:=[.slice xA xn xc,.slice uA un uc,.slice yA yn yc]) avx O (fD _) Q1 O (by simpa using (((bT.nil (sz:=1)).snoc (Yt (hx.mono NA)) O).snoc (Yt (hu.mono NA)) O).snoc (Yt (hy2.mono NA)) O)) (by simp at hlen |-;omega)) rfl ?_;clear H;rintro v38 O8 a w ahy H7 H;rw [show [p,wi,q].flatten=p++(wi++q) by simp] at ahy;refine s_call JL H wn O (ajn _ _ H.ro (p++(wi++q)) v38 ahy hne V) O ?_;clear H;rintro v39 O9 a w ahz XK H;obtain ⟨A39,n39,c39,rfl⟩:=ahz.form;refine kH H (Ra O (au K7 O ?_));clear H K7;intro a H;refine gu ?_;refine (jQ H results24 (.cons (fE H O) (.cons (fE H O) .nil)) ?_).1;exact H.rt ⟨_,O,ahz⟩
theorem azX (G:GH) (w0:World) (hG:Hold G w0) (p m q wi:List ak) (v u:ah) (t1 t2:Int) (h1:t1=(fU p:Nat)) (h2:t2=(fU (p++m):Nat)) (hv:av G (.sl 11 ((p++(m++q)).map ak.dat)) v) (hu:av G (.sl 11 (wi.map ak.dat)) u) (hok:fq (p++(m++q))) (hnw:lq wi) (hz:aP (p++(m++q))<=1073741824) (hz2:aP (p++(wi++q))<=1073741824) :
  Calls prog 24 #[v,vi t1,vi t2,u] w0 (bG w0 G fun r G'=>∃ x,r=.tuple #[x,vi 0]∧av G' (.sl 11 ((iy (p++(wi++q))).map ak.dat)) x):=by
 subst h1;subst h2;exact azY G w0 hG p m q wi v u hv hu hok hnw hz hz2
section
section
variable {N:Nat} {D:List Deferred} {w0:World} {F:Nat->Prop} {G0 G G1 G2:GH} {L L1 L2:OL} {T Xs:List (Nat × ah)}
variable {r:Option Nat} {P:Program} {Q:Exit->Act->World->Prop} {l:List Oper} {a a':Act} {w w':World}
end
end

section
section
variable {N:Nat} {D:List Deferred} {w0:World} {F:Nat->Prop} {G0 G:GH} {L:OL} {T:List (Nat × ah)}
variable {r:Option Nat} {P:Program} {ops:Array Oper} {Q:Exit->Act->World->Prop} {rest:List Oper} {a:Act} {w:World}
variable {d:Nat} {ty:TypeId} {pos:String} {aL:Array Edge} {g:Option (Nat × Bool)}
end
end
def aiB:Go.Shelf.Ren:=⟨fun|7=>187|10=>237|n=>n,fun|0=>0|3=>4|4=>4|23=>113|26=>3|27=>116|28=>117|33=>198|n=>n,fun n=>n⟩
theorem aiA:Go.Proofs.SlLaysZI.n7 prog aiB where
 mixed:=by kernel_rfl
 f7:=⟨f187.name,Z,func187.trans (dh some Z)⟩
 f10:=⟨f237.name,Z,func237.trans (dh some Z)⟩
 t0:=underlying0
 a0:=isAgg0
 z0:=sizeOf0
 v0:=zeroValue0
 t4:=underlying4
 a4:=isAgg4
 z4:=sizeOf4
 v4:=zeroValue4
 t23:=underlying113
 a23:=isAgg113
 z23:=sizeOf113
 v23:=zeroValue113
 t26:=underlying3
 a26:=isAgg3
 z26:=sizeOf3
 v26:=zeroValue3
 t27:=underlying116
 a27:=isAgg116
 z27:=sizeOf116
 v27:=zeroValue116
 t28:=underlying117
 a28:=isAgg117
 z28:=sizeOf117
 v28:=zeroValue117
 t33:=underlying198
 a33:=isAgg198
 z33:=sizeOf198
 v33:=zeroValue198
def akJ:Go.Shelf.Ren:=⟨fun|6=>186|8=>235|9=>236|11=>255|n=>n,fun|0=>0|24=>46|26=>3|28=>117|33=>198|n=>n,fun n=>n⟩
theorem aBL:Go.Proofs.SlLaysZI.n6 prog akJ where
 mixed:=by kernel_rfl
 f6:=⟨f186.name,Z,func186.trans (dh some Z)⟩
 f8:=⟨f235.name,Z,func235.trans (dh some Z)⟩
 f11:=⟨f255.name,Z,func255.trans (dh some Z)⟩
 t0:=underlying0
 a0:=isAgg0
 z0:=sizeOf0
 v0:=zeroValue0
 t24:=underlying46
 a24:=isAgg46
 z24:=sizeOf46
 v24:=zeroValue46
 t26:=underlying3
 a26:=isAgg3
 z26:=sizeOf3
 v26:=zeroValue3
 t28:=underlying117
 a28:=isAgg117
 z28:=sizeOf117
 v28:=zeroValue117
 i26:=by kernel_rfl
def aBK:Go.Shelf.Ren:=⟨fun|5=>236|7=>256|8=>257|10=>262|11=>263|12=>264|13=>265|14=>266|15=>267|16=>189|17=>268|18=>269|19=>270|20=>271|30=>277|31=>278|32=>279|33=>280|34=>281|35=>238|40=>283|n=>n,fun|0=>0|3=>3|4=>4|5=>5|9=>9|22=>46|23=>46|25=>3|32=>284|35=>351|36=>352|41=>210|44=>358|46=>360|53=>364|57=>100|63=>369|64=>370|n=>n,fun n=>n⟩
theorem akI:Go.Proofs.SlLaysM.n5 prog aBK where
 mixed:=by kernel_rfl
 f5:=⟨f236.name,Z,func236.trans (dh some Z)⟩
 f7:=⟨f256.name,Z,func256.trans (dh some Z)⟩
 f8:=func257.trans (dh some Z)
 f10:=⟨f262.name,Z,func262.trans (dh some Z)⟩
 f11:=⟨f263.name,Z,func263.trans (dh some Z)⟩
 f12:=⟨f264.name,Z,func264.trans (dh some Z)⟩
 f13:=⟨f265.name,Z,func265.trans (dh some Z)⟩
 f14:=⟨f266.name,Z,func266.trans (dh some Z)⟩
 f15:=⟨f267.name,Z,func267.trans (dh some Z)⟩
 f16:=⟨f189.name,Z,func189.trans (dh some Z)⟩
 f17:=⟨f268.name,Z,func268.trans (dh some Z)⟩
 f18:=⟨f269.name,Z,func269.trans (dh some Z)⟩
 f19:=func270.trans (dh some Z)
 f20:=func271.trans (dh some Z)
 f30:=⟨f277.name,Z,func277.trans (dh some Z)⟩
 f31:=func278.trans (dh some Z)
 f32:=func279.trans (dh some Z)
 f33:=⟨f280.name,Z,func280.trans (dh some Z)⟩
 f34:=⟨f281.name,Z,func281.trans (dh some Z)⟩
 f35:=⟨f238.name,Z,func238.trans (dh some Z)⟩
 f40:=⟨f283.name,Z,func283.trans (dh some Z)⟩
 t0:=underlying0
 a0:=isAgg0
 z0:=sizeOf0
 v0:=zeroValue0
 t3:=underlying3
 a3:=isAgg3
 z3:=sizeOf3
 v3:=zeroValue3
 t4:=underlying4
 a4:=isAgg4
 z4:=sizeOf4
 v4:=zeroValue4
 t5:=underlying5
 a5:=isAgg5
 z5:=sizeOf5
 v5:=zeroValue5
 t9:=underlying9
 a9:=isAgg9
 z9:=sizeOf9
 v9:=zeroValue9
 t22:=underlying46
 a22:=isAgg46
 z22:=sizeOf46
 v22:=zeroValue46
 t23:=underlying46
 a23:=isAgg46
 z23:=sizeOf46
 v23:=zeroValue46
 t25:=underlying3
 a25:=isAgg3
 z25:=sizeOf3
 v25:=zeroValue3
 t32:=underlying284
 a32:=isAgg284
 z32:=sizeOf284
 v32:=zeroValue284
 t35:=underlying351
 a35:=isAgg351
 z35:=sizeOf351
 v35:=zeroValue351
 t36:=underlying352
 a36:=isAgg352
 z36:=sizeOf352
 v36:=zeroValue352
 t41:=underlying210
 a41:=isAgg210
 z41:=sizeOf210
 v41:=zeroValue210
 t44:=underlying358
 a44:=isAgg358
 z44:=sizeOf358
 v44:=zeroValue358
 t46:=underlying360
 a46:=isAgg360
 z46:=sizeOf360
 v46:=zeroValue360
 t53:=underlying364
 a53:=isAgg364
 z53:=sizeOf364
 v53:=zeroValue364
 t57:=underlying100
 a57:=isAgg100
 z57:=sizeOf100
 v57:=zeroValue100
 t63:=underlying369
 a63:=isAgg369
 z63:=sizeOf369
 v63:=zeroValue369
 t64:=underlying370
 a64:=isAgg370
 z64:=sizeOf370
 v64:=zeroValue370
section
open Go.RowKit Go.Maps
theorem arj:aW 236:=aY func236 O
theorem ark:aW 237:=aY func237 O
theorem awc {G:GH} {w:World} (h:Hold G w) {b:Nat} (hb:w.heap.size<=b):G b=none:=by
 cases hg:G b with
 | none=>rfl
 | some o=>exact absurd (lt_of_heap (h b o hg)) V
theorem afu {G:GH} {w w':World} (h:Hold G w) (hb:Below w.heap.size w w') {b:Nat} {o:Obj} (hn:w.heap.size<=b) (ho:w'.heap[b]?=some o):Ext w.heap.size G (G.add b o) w':=by
 refine ⟨fun k o' hk=>GH.Jj G (awc h hn) k o' hk,fun k o' hk=>?_,fun k o' hk=>?_⟩
 ·unfold GH.add at hk
  split at hk
  ·rename_i e;exact .inr (e ▸ hn)
  exact .inl hk
 unfold GH.add at hk
 split at hk
 ·rename_i e;rw [e,ho,hk]
 exact (hb.block k (lt_of_heap (h k o' hk))).trans (h k o' hk)
theorem ayk (G:GH) (w0:World) (hG:Hold G w0) (mb:Option Nat) :
  Calls prog 187 #[.map mb] w0 (bG w0 G fun u G'=>∃ bx,u=.func (.func 237) #[] #[(aJ bx 0)]∧G' bx=some (.cells #[.map mb] 113 (0,0))):=by
 have h:CallsIn Fence.wide 5 prog 187 #[.map mb] w0 fun e w'=>e=.returned (.func (.func 237) #[] #[(aJ w0.heap.size 0)])∧w'=w0.alloc (.cells #[.map mb] 113):=AnyZI.keys_in aiA Fence.wide 5 trivial O mb w0;refine ((callsIn_wide (n:=5)).1 h).mono ?_;rintro e w' ⟨rfl,rfl⟩;have hb:Below w0.heap.size w0 (w0.alloc (.cells #[.map mb] 113)):=(Below.refl _ w0).alloc (fD _) _;exact ⟨_,_,O,hb,afu hG hb (fD _) (show (w0.heap.push _)[w0.heap.size]?=_ by simp),_,O,GH.Gp _ _ _⟩
def Iz (_:ah):Option (DataW Unit × List MemPlace):=some (.nil,[])
theorem azh {w:World} {b clock:Nat} {es:Array MapEntry} {l:List Int} (hb:w.heap[b]?=some (.map es clock)) (hs:MapKept.Stamped es clock) (hk:es.toList.map (·.key)=l.map (Value.int .i64)) (hw:∀ k∈l,-9223372036854775808<=k∧k < 9223372036854775808) (hl:l.length<=4294967296) :
  ∃ D:DataW Unit,w.ownsMap prog 3 Iz b l.length D∧(intKeys D).Perm l∧Maps.size D=l.length:=by
 have hlen:es.size=l.length:=by
  have:=dh List.length hk
  simpa using this
 have hml:maxLen=9223372036854775807:=rfl
 have hr:∀ x∈es.toList,∃ k∈l,Go.WideElems.rd prog 3 Iz x=some (.int .i64 k,.nil):=by
  intro x hx
  have h1:x.key∈l.map (Value.int .i64):=by rw [<- hk];exact List.mem_map_of_mem hx
  obtain ⟨k,h2,h3⟩:=List.mem_map.1 h1;obtain ⟨h4,h5⟩:=hw k h2
  have hwf:(Lit.int .i64 k).wf=true:=by
   show (decide (IntKind.i64.min<=k) && decide (k<=IntKind.i64.max))=true
   rw [show IntKind.i64.min=-9223372036854775808 by decide,show IntKind.i64.max=9223372036854775807 by decide]
   simp;omega
  refine ⟨k,h2,?_⟩
  unfold Go.WideElems.rd
  rw [<- h3]
  have h6:keyOf prog 3 (.int .i64 k)=some (.int .i64 k):=by
   unfold keyOf mapKey
   rw [underlying3]
   simp [hwf]
  rw [h6]
  rfl
 refine ⟨_,⟨es,clock,hb,⟨V,hs,fun x hx=>?_⟩,V,O⟩,?_,?_⟩
 ·obtain ⟨k,-,h⟩:=hr x hx;exact ⟨_,h⟩
 ·show (((es.toList.map (Go.WideElems.rg prog 3 Iz)).foldr DataW.insert []).map fun p=>Go.intOf p.1).Perm l
  refine ((Go.WideShapes.sorted_perm _).map _).trans ?_;rw [List.map_map]
  have h1:es.toList.map ((fun p:Lit × DataW Unit=>Go.intOf p.1) ∘ Go.WideElems.rg prog 3 Iz)=l:=by
   have h2:es.toList.map ((fun p:Lit × DataW Unit=>Go.intOf p.1) ∘ Go.WideElems.rg prog 3 Iz)=(es.toList.map (·.key)).map fun v=>match v with|.int _ a=>a|_=>0:=by
    rw [List.map_map];refine List.map_congr_left fun x hx=>?_;obtain ⟨k,hkl,h⟩:=hr x hx
    obtain ⟨k',h3,h4⟩:∃ k',Go.WideElems.rd prog 3 Iz x=some (.int .i64 k',.nil)∧x.key=.int .i64 k':=by
     have h5:x.key∈l.map (Value.int .i64):=by rw [<- hk];exact List.mem_map_of_mem hx
     obtain ⟨k',h6,h7⟩:=List.mem_map.1 h5;refine ⟨k,h,?_⟩;have h8:=Go.WideElems.rd_key h;obtain ⟨z,h9,h10,-⟩:=Maps.keyOf_i64 underlying3 h8
     cases h10
     exact h9
    simp only [Function.comp,Go.WideElems.rg_of h3,h4,Go.intOf]
   rw [h2,hk,List.map_map]
   simp [Function.comp_def]
  rw [h1]
 show ((es.toList.map (Go.WideElems.rg prog 3 Iz)).foldr DataW.insert []).length=_
 rw [(Go.WideShapes.sorted_perm _).length_eq,bR,uZ,hlen]
theorem aBN (m:Nat):AnyZI.SortsIn prog akJ Fence.wide m :=
  ⟨fun blk off cap ss W hH hblk hsz=>callsIn_wide.2 (AnyM.slices_Sort_int akI blk off cap ss W hH hblk hsz),
   fun p cap W=>callsIn_wide.2 (AnyM.slices_Sort_int_none akI p cap W)⟩
def Ak (l:List Int):List Int:=l.mergeSort leI
theorem aBM (G:GH) (w0:World) (hG:Hold G w0) (b bx clock:Nat) (es:Array MapEntry) (l:List Int) (hbx:G bx=some (.cells #[.map (some b)] 113 (0,0))) (hb:w0.heap[b]?=some (.map es clock)) (hs:MapKept.Stamped es clock) (hk:es.toList.map (·.key)=l.map (Value.int .i64))
  (hw:∀ k∈l,-9223372036854775808<=k∧k < 9223372036854775808) (hl:l.length<=4294967296) :
  Calls prog 186 #[.func (.func 237) #[] #[(aJ bx 0)]] w0 (bG w0 G fun u G'=>av G' (.sl 1 ((Ak l).map fun k=>[li k])) u):=by
 obtain ⟨D0,hown,hperm,hsize⟩:=azh hb hs hk hw hl;have hml:maxLen=9223372036854775807:=rfl
 have hseq:SeqGives Fence.wide 2 prog 237 #[(aJ bx 0)] encZ (fun ss=>ss.Perm (intKeys D0)) (Maps.size D0) w0 :=
  AnyZI.keys_gives (ρ:=aiB) { aiA with } Fence.wide _ trivial O V bx b l.length D0 _ (lt_of_heap (hG _ _ hbx)) (by simp [World.cell?,hG _ _ hbx]) hown
 have cS:=AnyZI.sorted_in aBL Fence.wide 5 trivial trivial trivial trivial O V (aBN _) arj 237 #[(aJ bx 0)] trivial ark _ _ V V _ hseq
 change CallsIn _ _ prog 186 _ _ _ at cS
 refine ((callsIn_wide (n:=5)).1 cS).mono ?_;rintro e w' ⟨v,ss,rfl,hS,hrow,-,hbel⟩;have hS2:ss.mergeSort (fun x y=>decide (x<=y))=Ak l:=mergeSort_of_perm_i (hS.trans hperm);rw [hS2] at hrow
 have hlen:ss.length=(Ak l).length:=by rw [Ak,List.length_mergeSort,hS.length_eq,hperm.length_eq]
 have fZ:∀ (G1:GH) (xs:List Int),bT G1 1 (xs.map fun k=>[li k]) (xs.map encZ):=by
  intro G1 xs
  induction xs with
  | nil=>exact bT.nil
  | cons x xs ih =>
   have h8:=((bT.nil (G:=G1) (sz:=1)).snoc (q:=[li x]) (cs:=[encZ x]) (by simp [aX,av,li,Value.oneCell']) O).append ih
   simpa using h8
 rcases hrow.2 with ⟨rfl,hz⟩|⟨gb,cap,cur,rfl,hbase,hgb,r1,r2,r3,r4⟩
 ·refine ⟨_,G,O,hbel,⟨fun _ _ h=>h,fun _ _ h=>.inl h,fun k o hk=>(hbel.block k (lt_of_heap (hG k o hk))).trans (hG k o hk)⟩,?_⟩;rw [List.eq_nil_of_length_eq_zero (by omega:(Ak l).length=0)]
  simp only [av]
  exact abr
 exact ⟨_,_,O,hbel,afu hG hbel hbase hgb,av.vU (GH.Gp G gb _) (by simp [hlen]) r1 r2 (by simpa using r4) (fZ _ _)⟩
end
section
abbrev jB (l:List Int):List (Int × ah):=l.map fun q=>(q,.bool true)
theorem akC (l:List Int):(jB l).map (·.1)=l:=by rw [List.map_map];simp [Function.comp_def]
theorem aBm (l r:List Int):jB (l++r)=jB l++jB r:=jM
theorem YE:∀ (i:Nat) (l:List (Int × ah)),(jh i l).map (·.key)=l.map fun x=>Value.int .i64 x.1
 | _,[]=>rfl
 | i,(k,v) :: r=>by rw [jh,eP,eP,YE (i+1) r]
theorem YD:∀ (i:Nat) (l:List (Int × ah)),(jh i l).map (·.born)=List.range' i l.length
 | _,[]=>rfl
 | i,(k,v) :: r=>by rw [jh,eP,YD (i+1) r];rfl
theorem aiP:∀ (i n:Nat) (l:List (Int × ah)),(jh i l)[n]?=(l[n]?).map fun x=>⟨.int .i64 x.1,x.2,i+n⟩
 | _,_,[]=>rfl
 | i,0,(k,v) :: r=>rfl
 | i,n+1,(k,v) :: r=>by rw [jh,List.getElem?_cons_succ,List.getElem?_cons_succ,aiP (i+1) n r,show i+1+n=i+(n+1) by omega]
theorem ayj {l:List (Int × ah)} (h:(l.map (·.1)).Nodup):MapKept.Stamped (jh 0 l).toArray l.length:=by
 refine ⟨fun x hx=>?_,?_,?_⟩
 ·have h1:=List.mem_map_of_mem (f:=(·.born)) hx
  rw [YD] at h1
  have:=List.mem_range'_1.1 h1
  omega
 ·show ((jh 0 l).map (·.born)).Nodup
  rw [YD];exact List.nodup_range'
 ·show ((jh 0 l).map (·.key)).Nodup
  rw [YE,show (fun x:Int × ah=>Value.int .i64 x.1)=Value.int .i64 ∘ (·.1) from rfl,<- List.map_map]
  exact List.pairwise_map.2 (h.imp fun hne e=>hne (by injection e))
theorem WJ (x:Int):∀ (i j:Nat) (l:List Int),∃ an,Instr.findNow (.int .i64) (.int .i64 x) (jh i (jB l)) j=some an∧((x∈l∧∃ n,an=some (j+n,.bool true)∧l[n]?=some x)∨(x∉l∧an=none))
 | _,_,[]=>⟨none,O,.inr ⟨by simp,O⟩⟩
 | i,j,k :: r=>by
  by_cases e:k=x
  ·subst e
   exact ⟨some (j,.bool true),by simp only [jB,eP,jh,Instr.findNow,Instr.sameNow,aH,beq_self_eq_true],.inl ⟨eT,0,O,O⟩⟩
  ·have hb:(x == k)=false:=by simp;exact fun h=>e h.symm
   obtain ⟨an,h1,h2⟩:=WJ x (i+1) (j+1) r
   refine ⟨an,by simpa only [jB,eP,jh,Instr.findNow,Instr.sameNow,aH,hb] using h1,?_⟩
   rcases h2 with ⟨h3,n,h4,h5⟩|⟨h3,h4⟩
   ·exact .inl ⟨gH _ h3,n+1,by rw [h4,show j+1+n=j+(n+1) by omega],h5⟩
   ·exact .inr ⟨fun h=>(iD.1 h).elim (fun h=>e h.symm) h3,h4⟩
theorem YG {α β:Type} (f:α->β):∀ (l:List α) (j:Nat),(l.eraseIdx j).map f=(l.map f).eraseIdx j
 | [],_=>rfl
 | x :: l,0=>rfl
 | x :: l,j+1=>by rw [List.eraseIdx_cons_succ,eP,eP,List.eraseIdx_cons_succ,YG f l j]
def yB (l:List Int) (x:Int):List Int:=if x∈l then l else l++[x]
theorem amL {l:List Int} {x y:Int}:y∈yB l x↔y∈l∨y=x:=by
 unfold yB
 split
 ·rename_i h
  exact ⟨.inl,fun h2=>h2.elim id fun e=>e ▸ h⟩
 ·simp
theorem amM {l:List Int} {x:Int} (h:l.Nodup):(yB l x).Nodup:=by
 unfold yB
 split
 ·exact h
 ·rename_i hx
  exact List.nodup_append.2 ⟨h,List.pairwise_singleton _ _,fun a ha b hb e=>hx (by rw [qX] at hb;rw [<- hb,<- e];exact ha)⟩
section
variable {N:Nat} {D:List Deferred} {w0:World} {F:Nat->Prop} {G0 G:GH} {L:OL} {T:List (Nat × ah)}
variable {r:Option Nat} {P:Program} {ops:Array Oper} {Q:Exit->Act->World->Prop} {rest:List Oper} {a:Act} {w:World}
variable {d:Nat} {ty:TypeId} {pos:String} {aL:Array Edge} {g:Option (Nat × Bool)}
theorem ZF {t kt et:TypeId} {x y z:Operand} {b i:Nat} {l:List Int} {ky:Int} (hm:P.underlying t=some (.map kt et)) (hk:P.underlying kt=some (.int .i64)) (H:St N D w0 F G0 G L T a w)
  (hw:Region.wanted ⟨none,.mapUpdate t x y z,ty,pos,aL,g⟩ (yielded ops a.tmps)=true) (hx:ev T x=some (.map (some b))) (hy:ev T y=some (.int .i64 ky)) (hzv:ev T z=some (.bool true)) (hi:L[i]?=some (b,fG (jB l)))
  (k:∀ w',St N D w0 F G0 G (L.set i (b,fG (jB (yB l ky)))) T a w'->WL r P ops Q rest a w'):WL r P ops Q (⟨none,.mapUpdate t x y z,ty,pos,aL,g⟩ :: rest) a w:=by
 obtain ⟨an,hf,han⟩:=WJ ky 0 0 l
 rcases han with ⟨hm2,n,rfl,hn⟩|⟨hm2,rfl⟩
 ·have hkey:MapKept.IsKey (.int .i64) (.int .i64 ky):=by trivial
  have hb:w.heap[b]?=some (.map (jh 0 (jB l)).toArray (jB l).length):=H.hp.own _ (lQ hi)
  have h1:=MapKept.run_checkKey (P:=P) (w:=w) hk hkey false 9999
  have h2:=MapKept.run_findKey (P:=P) (w:=w) (l:=(jh 0 (jB l)).toArray.toList) hk (by simpa using hf)
  have h3:=MapKept.run_keyThatStays (P:=P) (w:=w) hkey
  have hgn:(jh 0 (jB l))[n]?=some ⟨.int .i64 ky,.bool true,0+n⟩:=by
   rw [aiP];unfold jB;rw [pJ,hn];rfl
  have hg:((jh 0 (jB l)).toArray[n]?.map (·.key)).getD (.int .i64 ky)=.int .i64 ky:=by
   rw [List.getElem?_toArray,hgn];rfl
  have hmod:(jh 0 (jB l)).toArray.modify n (fun e=>{ e with key:=.int .i64 ky,val:=.bool true })=(jh 0 (jB l)).toArray:=by
   apply Array.ext_getElem?
   intro j
   rw [Array.getElem?_modify]
   by_cases hij:n=j
   ·subst hij
    rw [aH O,List.getElem?_toArray,hgn];rfl
   ·rw [ay hij]
  have ha:yB l ky=l:=by unfold yB;rw [aH hm2]
  rw [ha] at k
  refine TH (w':={ w with heap:=w.heap.setIfInBounds b (fG (jB l)) }) hw O ?_ (k _ (H.move (H.hp.upd hi (TA hb))))
  show (execOp a.eval _).run P w=.ok _ { w with heap:=w.heap.setIfInBounds b (.map (jh 0 (jB l)).toArray (jB l).length) }
  generalize (jh 0 (jB l)).toArray=es at hb h2 hg hmod |-
  simp [execOp,Instr.mapUpdate,H.ev hx,H.ev hy,H.ev hzv,dM,lC hm,MapKept.run_getObj_map hb,h1,h2,hg,h3,hmod,MapKept.run_setObj_map _ hb,Result.andThen]
 ·refine Ow hm hk H hw hx hy hzv hi (Oe (by rw [akC];exact hm2)) fun w' H'=>k w' ?_
  have ha:yB l ky=l++[ky]:=by unfold yB;rw [ay hm2]
  rw [ha,aBm]
  exact H'
theorem aAU {t kt et:TypeId} {x y:Operand} {b i:Nat} {l:List Int} {ky:Int} (hm:P.underlying t=some (.map kt et)) (hk:P.underlying kt=some (.int .i64)) (hnd:l.Nodup) (H:St N D w0 F G0 G L T a w)
  (hw:Region.wanted ⟨none,.call { callee:=.builtin .delete,args:=#[x,y],argTypes:=#[t,kt] },ty,pos,aL,g⟩ (yielded ops a.tmps)=true) (hx:ev T x=some (.map (some b))) (hy:ev T y=some (.int .i64 ky)) (hi:L[i]?=some (b,fG (jB l)))
  (k:∀ es clock w',MapKept.Stamped es clock->es.toList.map (·.key)=(l.filter fun q=>decide (q≠ky)).map (Value.int .i64)->St N D w0 F G0 G (L.set i (b,.map es clock)) T a w'->WL r P ops Q rest a w'):WL r P ops Q (⟨none,.call { callee:=.builtin .delete,args:=#[x,y],argTypes:=#[t,kt] },ty,pos,aL,g⟩ :: rest) a w:=by
 obtain ⟨an,hf,han⟩:=WJ ky 0 0 l
 have hkey:MapKept.IsKey (.int .i64) (.int .i64 ky):=by trivial
 have hb:w.heap[b]?=some (.map (jh 0 (jB l)).toArray (jB l).length):=H.hp.own _ (lQ hi)
 have hst:=ayj (l:=jB l) (by rw [akC];exact hnd)
 have hks:(jh 0 (jB l)).toArray.toList.map (·.key)=l.map (Value.int .i64):=by
  show (jh 0 (jB l)).map (·.key)=_
  rw [YE,List.map_map];rfl
 have h2:=fun es':Array MapEntry=>TA (o:=.map es' (jB l).length) hb
 have h3:=MapKept.run_findKey (P:=P) (w:=w) (l:=(jh 0 (jB l)).toArray.toList) hk (by simpa using hf)
 rcases han with ⟨hm2,n,rfl,hn⟩|⟨hm2,rfl⟩
 ·have hnl:n < l.length:=(ji.1 hn).1
  have hln:l[n]=ky:=(ji.1 hn).2
  have hsz:n < (jh 0 (jB l)).toArray.size:=by
   have:=dh List.length hks
   simp at this
   simp;omega
  have avs:((jh 0 (jB l)).toArray.eraseIdxIfInBounds n).toList=(jh 0 (jB l)).toArray.toList.eraseIdx n:=by
   unfold Array.eraseIdxIfInBounds
   rw [dif_pos hsz]
   simp
  refine fQ (v:=.tuple #[]) (w':={ w with heap:=w.heap.setIfInBounds b (.map ((jh 0 (jB l)).toArray.eraseIdxIfInBounds n) (jB l).length) }) hw O ?_
   (k _ _ _ (MapKept.stamped_erase hst n) ?_ (H.move (H.hp.upd hi (h2 _))))
  ·generalize (jh 0 (jB l)).toArray=es at hb h3 |-
   have h1:=MapKept.run_checkKey (P:=P) (w:=w) hk hkey es.isEmpty 9999
   simp [execOp,resolve,invoke,builtin,Builtin.delete_,H.ev hx,H.ev hy,dM,lC hm,MapKept.run_getObj_map hb,h1,h3,MapKept.run_setObj_map _ hb,Result.andThen]
  ·rw [avs,YG,hks,<- YG]
   congr 1
   have he:l.erase ky=l.eraseIdx n:=by
    have:=hnd.idxOf_getElem n hnl
    rw [hln] at this
    rw [<- this];exact List.erase_eq_eraseIdx_of_idxOf O
   rw [<- he,hnd.erase_eq_filter]
   exact List.filter_congr fun x _=>by by_cases h:x=ky <;> simp [h]
 ·refine fQ (v:=.tuple #[]) (w':={ w with heap:=w.heap.setIfInBounds b (.map (jh 0 (jB l)).toArray (jB l).length) }) hw O ?_ (k _ _ _ hst ?_ (H.move (H.hp.upd hi (h2 _))))
  ·generalize (jh 0 (jB l)).toArray=es at hb h3 |-
   have h1:=MapKept.run_checkKey (P:=P) (w:=w) hk hkey es.isEmpty 9999
   simp [execOp,resolve,invoke,builtin,Builtin.delete_,H.ev hx,H.ev hy,dM,lC hm,MapKept.run_getObj_map hb,h1,h3,MapKept.run_setObj_map _ hb,Result.andThen]
  ·rw [hks,List.filter_eq_self.2 fun x hx=>lT (show ¬ x=ky from fun e=>hm2 (e ▸ hx))]
end
end

theorem aeT:aW 184:=aY func184 O
theorem aqx:aW 187:=aY func187 O
theorem aqw:aW 186:=aY func186 O
def refs (h:fH):List Int:=h.marks.ins :: (h.marks.dJ.map ku.rev++h.marks.layers.map jK.rev)
def sU (K l:List Int):List Int:=l.foldl yB K
theorem Pv (K l r:List Int):sU K (l++r)=sU (sU K l) r:=List.foldl_append
theorem Uz {l:List Int}:∀ {K:List Int} {y:Int},y∈sU K l↔y∈K∨y∈l:=by
 induction l with
 | nil=>intro K y;simp [sU]
 | cons x l ih =>
  intro K y
  show y∈sU (yB K x) l↔_
  rw [ih,amL,iD,or_assoc]
theorem aaH {l:List Int}:∀ {K:List Int},K.Nodup->(sU K l).Nodup:=by
 induction l with
 | nil=>intro K h;exact h
 | cons x l ih=>intro K h;exact ih (amM h)
theorem amN {K:List Int} {x:Int} {α:Type} {f:α->Int} {A:List α} {k:Nat} (hk:k < A.length):yB (sU K (x :: (A.take k).map f)) (f A[k])=sU K (x :: (A.take (k+1)).map f):=by
 rw [jk hk,jM,<- iT,Pv];rfl
theorem amO {K B:List Int} {x:Int} {α:Type} {f:α->Int} {A:List α} {k:Nat} (hk:k < A.length):yB (sU K (x :: (B++(A.take k).map f))) (f A[k])=sU K (x :: (B++(A.take (k+1)).map f)):=by
 rw [jk hk,jM,show x :: (B++((A.take k).map f++[A[k]].map f))=(x :: (B++(A.take k).map f))++[f A[k]] from by simp,Pv];rfl
abbrev C8 (b3 bm:Nat) (K:List Int):OL:=[(b3,.cells #[.map (some bm)] 113 (0,0)),(bm,fG (jB K))]
set_option maxHeartbeats 2000000 in
theorem ajo (G:GH) (w0:World) (b3 bm:Nat) (K:List Int) (h:fH) (p d y:Option Addr × Nat × Nat) (hR:jI G h (bX p) (bX d) (bX y)) (hO:fM G (C8 b3 bm K) w0) :
  Calls prog 184 #[.agg #[bX p,vi h.marks.ins,vi h.marks.move,bX d,bX y],(aJ b3 0)] w0 (fB w0 G (C8 b3 bm K) fun _ G' L'=>L'=C8 b3 bm (sU K (refs h))):=by
 obtain ⟨dA,dn,dc⟩:=d;obtain ⟨yA,yn,yc⟩:=y;have hml:maxLen=9223372036854775807:=rfl;have hd:=hR.dJ;have hy:=hR.layers;dsimp only [bX] at hd hy;have e1:=hd.len;have e2:=hy.len;rw [bR] at e1 e2;subst e1 e2;obtain ⟨_,_,hu1,hd1,hd2,-⟩:=hd.slice;obtain ⟨_,_,hu2,hy1,hy2,-⟩:=hy.slice
 injection hu1 with q1 q2 q3
 subst q1 q3
 injection hu2 with q1 q2 q3
 subst q1 q3;rw [bR] at hd1 hy1;refine iB (N:=35) (T:=[(0,_),(1,_)]) func184 O ntmps184 O O hO ?_;intro a H;refine dH (fun _ K1=>?_);refine eB (cs:=[_,_,_,_,_]) H wn O O O ?_;clear H;intro b2 a w hb2 H;refine K1 _ _ ?_;clear K1;refine kP H (SR fun _ K2=>Ro uO 1 O (Rf wI O (aU yQ aD 0 O O ?_)));clear H;intro a H;refine ZF (i:=2) zF mQ H wn O O O O ?_;clear H;intro w H;dsimp only [List.set] at H;refine K2 _ _ ?_;clear K2;refine kP H (SQ fun _ K3=>SR fun _ K4=>Rf wI O (aU yR zC 0 O O (Rl rP O (Rm O (Kz K4 (SB ?_))))));clear H K4;intro a H;skip;refine eO (ι:=Nat) (Tc:=[(1,_),(2,_),(13,_),(14,_)]) (Lc:=[(_,_),(_,_)]) (fun gh=>[(15,vi gh)]) (fun gh=>[(bm,fG (jB (sU K (h.marks.ins :: (h.marks.dJ.take gh).map ku.rev))))]) (fun gh=>G) (fun gh=>gh<=h.marks.dJ.length) (fun gh=>h.marks.dJ.length - gh) (0) (by exact H.sub ⟨O,O,O,O,O,aB⟩) ?_ ?_
 ·exact jL _
 clear H;intro i a w hI H;have hi:=hI;dsimp only [lca,bD] at H;refine kP H (SR fun _ K5=>Rc O (Kz K5 (SQ fun _ K6=>Cd O ?_ ?_))) <;> clear H K5
 ·intro h16 a H
  try have p16:=dT h16
  have hi2:i < h.marks.dJ.length:=by omega
  obtain ⟨b,o,rfl,hrow⟩:=V3 hd hi2;refine kP H (Kc K6 (SQ fun _ K7=>SB (SR fun _ K8=>Ri rP uP O O ?_)));clear H K6;intro a H;refine bq uP (cs:=[_,_]) H wn O O (fun j v hj=>H.hp.aI (hrow j v hj)) O ?_;clear H;intro a H;refine dR uP H wn O ?_;clear H;intro b4 a w hb4 H;refine bM uP 0 (vs:=[_,_]) H wn O ?_;clear H;intro w H;refine K8 _ _ ?_;clear K8;refine kP H (SC (Ro uO 2 O (aU JQ aD 0 O O ?_)));clear H;intro a H;refine ZF (i:=3) zF mQ H wn O O O O ?_;clear H;intro w H;dsimp only [List.set] at H;rw [amN hi2] at H;refine kH H (Kn K7 (SC (Rd O (Rm O ?_))));clear H K7;intro a H;refine aF ?_;refine dS (i+1) (by exact (H.dV (Pl:=[_,_,_,_]) (dL:=[_,_,_]) [1,2,3] Q1 O).sub ⟨O,O,O,O,O,aB⟩) ?_
  omega
 intro h16 a H
 try have p16:=dF h16
 obtain rfl:i=h.marks.dJ.length:=by omega
 rw [vg] at H;refine dX ?_;refine K3 _ _ ?_;clear K3;refine kP H (SR fun _ K9=>Rf wI O (aU EU FL 0 O O (Rl vZ O (Rm O (Kz K9 (SB ?_))))));clear H K9;intro a H;skip;refine eO (ι:=Nat) (Tc:=[(1,_),(25,_),(26,_)]) (Lc:=[(_,_),(_,_)]) (fun gh=>[(27,vi gh)]) (fun gh=>[(bm,fG (jB (sU K (h.marks.ins :: (h.marks.dJ.map ku.rev++(h.marks.layers.take gh).map jK.rev)))))]) (fun gh=>G) (fun gh=>gh<=h.marks.layers.length) (fun gh=>h.marks.layers.length - gh) (0) (by exact (by rw [List.take_zero,tq,jV];exact (H.sub ⟨O,O,O,O,aB⟩))) ?_ ?_
 ·exact jL _
 clear H;intro k a w hI H;have hk:=hI;dsimp only [lca,bD] at H;refine kP H (SR fun _ aT=>Rc O (Kz aT (SQ fun _ bJ=>Cd O ?_ ?_))) <;> clear H aT
 ·intro eY a H
  try have p28:=dT eY
  have hk2:k < h.marks.layers.length:=by omega
  obtain ⟨b,o,rfl,hrow⟩:=Yw hy hk2;refine kP H (Kc bJ (SQ fun _ bO=>SB (SR fun _ bU=>Ri vZ uQ O O ?_)));clear H bJ;intro a H;refine bq uQ (cs:=[_,_,_,_]) H wn O O (fun j v hj=>H.hp.aI (hrow j v hj)) O ?_;clear H;intro a H;refine dR uQ H wn O ?_;clear H;intro b6 a w hb6 H;refine bM uQ 0 (vs:=[_,_,_,_]) H wn O ?_;clear H;intro w H;refine bU _ _ ?_;clear bU;refine kP H (SC (Ro uO 2 O (aU afH aD 0 O O ?_)));clear H;intro a H;refine ZF (i:=3) zF mQ H wn O O O O ?_;clear H;intro w H;dsimp only [List.set] at H;rw [amO hk2] at H;refine kH H (Kn bO (SC (Rd O (Rm O ?_))));clear H bO;intro a H;refine aF ?_;refine dS (k+1) (by exact (H.dV (Pl:=[_,_,_,_]) (dL:=[_,_,_]) [1,2,3] Q1 O).sub ⟨O,O,O,O,aB⟩) ?_
  omega
 intro eY a H
 try have p28:=dF eY
 obtain rfl:k=h.marks.layers.length:=by omega
 rw [vg] at H;refine dX ?_;refine (leave0 H results184 ?_).2;exact H.hp.kJ (L':=C8 b3 bm _) (by repeat (first|exact lV _|apply List.Sublist.cons)) O
def KX (d:jD):List Int:=(oD d.flow).flatMap refs++refs d.fin
def rR (d:jD):List Int:=(sU [] (KX d)).filter fun q=>decide (q≠0)
theorem ayY {G:GH} {b3 bm:Nat} {hs:List fH}:OW prog (.func (.func 184) #[] #[(aJ b3 0)]) G (hs.map HZ) fun k _ L=>L=C8 b3 bm (sU [] ((hs.take k).flatMap refs)):=by
 rintro k args G1 L w ⟨p,hp,h⟩ hG rfl hO;rw [pJ] at hp;obtain ⟨x,hx,rfl⟩:=nG.1 hp;obtain ⟨q1,q2,q3,rfl,hR⟩:=h;obtain ⟨hk,rfl⟩:=ji.1 hx;refine kG (caps:=[(aJ b3 0)]) aeT ((ajo G1 w b3 bm _ hs[k] q1 q2 q3 hR hO).mono ?_);rintro e w' ⟨v,G',L',rfl,hc,rfl⟩;exact ⟨v,G',_,O,hc,by show C8 b3 bm _=C8 b3 bm (sU [] ((hs.take (k+1)).flatMap refs));rw [jk hk,List.flatMap_append,Pv];simp⟩
theorem apC (G:GH) (w0:World) (hG:Hold G w0) (D:jd) (d:jD) (hR:mU G D d) (hz:aP d.flow<=4294967296) (hw:∀ k∈rR d,-9223372036854775808<=k∧k < 9223372036854775808) (hl:(rR d).length<=4294967296) :
  Calls prog 111 #[D.val] w0 (bG w0 G fun u G'=>av G' (.sl 1 ((Ak (rR d)).map fun k=>[li k])) u):=by
 refine eN [(0,_)] func111 O ntmps111 O O hG ?_;intro a H;refine dH (fun _ K1=>?_);refine eB (cs:=[_,_,_,_,_,_,_,_,_,_,_]) H wn O O O ?_;clear H;intro b1 a w hb1 H;refine kH H (au K1 O (SQ fun _ K2=>?_));clear H K1;intro a H;obtain ⟨Ga,hma,hb1',HQ⟩:=H.fJ;clear H;have H:=HQ;clear HQ;have hga:=fun j v hj=>tC hb1' 0 D.cells O j v hj
 have hgd:∀ j v,[bX D.p,vi d.fin.marks.ins,vi d.fin.marks.move,bX D.d,bX D.y][j]?=some v->aI Ga b1 (1+j)=some v:=fun j v hj=>by rw [<- hR.ins,<- hR.mv] at hj;exact tC hb1' 1 [bX D.p,vi D.ins,vi D.move,bX D.d,bX D.y] O j v hj
 replace hR:=hR.mono hma;refine mX ?_;refine FH H wn O ?_;clear H;intro b5 a w hb5 H;refine dR uO H wn O ?_;clear H;intro b3 a w hb3 H;refine bM uO 0 (vs:=[_]) H wn O ?_;clear H;intro w H;refine aF ?_;refine K2 _ _ ?_;clear K2;refine dH (fun _ K3=>?_);refine wV H wn O O ?_;clear H;intro a H;refine kH H (au K3 O (SR fun _ K4=>Rf wJ O (Rg fC O (hga 0 _ O) (Rm O ?_))));clear H K3;intro a H;refine gD Wn (Li:=[]) (L:=C8 b3 b5 []) H wn O (agP 4294967297 V _ Ga ((oD d.flow).map HZ) (fun k _ L=>L=C8 b3 b5 (sU [] (((oD d.flow).take k).flatMap refs))) Ga _ _ 0 d.flow _ (fun _ _ h=>h) ayY (fun _ _ _ _ _ h=>h) O (Hp.owns (Li:=[]) H.hp) hR.fl V (fun i a h=>by rw [fO,pJ,h];rfl)) rfl ?_;clear H;rintro v10 tZ L10 a w rfl tH H;rw [fO,vg] at H;dsimp only [List.nil_append] at H;refine K4 _ _ ?_;clear K4;refine kP H (SR fun _ K5=>Rm O (Rf JW O ?_));clear H;intro a H;refine bq nT (cs:=[bX D.p,vi d.fin.marks.ins,vi d.fin.marks.move,bX D.d,bX D.y]) H wn O O (fun j v hj=>H.hp.aI (aK tH (hgd j v hj))) O ?_;clear H;intro a H;refine Ai (Li:=[]) (L:=C8 b3 b5 _) H wn O O (kG (caps:=[(aJ b3 0)]) aeT (ajo _ _ b3 b5 _ d.fin D.p D.d D.y (hR.hd.mono tH) (Hp.owns (Li:=[]) H.hp))) O ?_;clear H;rintro v14 EA L14 a w rfl Kj H;rw [<- Pv] at H;dsimp only [List.nil_append] at H;refine K5 _ _ ?_;clear K5;refine kP H (SR fun _ K6=>Ro uO 0 O ?_);clear H;intro a H;refine aAU (i:=1) zF mQ (aaH List.nodup_nil) H wn O O O ?_;clear H;intro es clock w hst hks H;dsimp only [List.set] at H;refine K6 _ _ ?_;clear K6;refine kP H (SR fun _ K7=>Ro uO 0 O ?_);clear H;intro a H;refine s_call aqx H wn O (ayk _ _ H.ro _) O ?_;clear H;rintro v17 Ay a w ⟨bx,rfl,hbx⟩ tK H;refine s_call aqw H wn O (aBM _ _ H.ro b5 bx clock es (rR d) hbx (H.hp.own (b5,.map es clock) (by simp)) hst hks hw hl) O ?_;clear H;rintro v18 O4 a w RA hm18 H;exact kH H (au K7 O (LR results111 O fun H=>H.rt RA))
theorem XC {C:bN} {e:Int} {h:fH} (hE:iw C e h=0):∀ q∈refs h,q=0∨q∈C.mg:=by
 have z:=lG hE;have h3:=z (jR C h.marks) (by simp);have h4:=z (kF (wE C h.marks.dJ) h.marks.dJ.length) (by simp);have h6:=z (kF (BF C e h.marks.layers) h.marks.layers.length) (by simp);intro q hq
 unfold refs at hq
 rcases iD.1 hq with rfl|hq
 ·unfold jR at h3
  by_cases h0:h.marks.ins=0
  ·exact .inl h0
  refine .inr (Classical.byContradiction fun hn=>?_);rw [aH ⟨h0,hn⟩] at h3;cases h3
 rcases iP.1 hq with hq|hq
 ·obtain ⟨x,hx,rfl⟩:=List.mem_map.1 hq;obtain ⟨k,hk,rfl⟩:=List.getElem_of_mem hx;have h5:=EI h4 k hk
  unfold wE at h5
  rw [fF hk] at h5;dsimp only [yI] at h5;refine .inr (Classical.byContradiction fun hn=>?_);rw [aH hn] at h5;cases h5
 obtain ⟨x,hx,rfl⟩:=List.mem_map.1 hq;obtain ⟨k,hk,rfl⟩:=List.getElem_of_mem hx;have h5:=EI h6 k hk
 unfold BF at h5
 rw [fF hk] at h5;dsimp only [Im] at h5;refine .inr (Classical.byContradiction fun hn=>?_);rw [aH hn] at h5;cases h5
def qh (C:bN) (L:List fH):Prop:=∀ h∈L,∃ e,iw C e h=0
theorem qh.nil (C:bN):qh C []:=fun _ h=>by cases h
theorem qh.cons {C:bN} {e:Int} {h:fH} {L:List fH} (h1:iw C e h=0) (h2:qh C L):qh C (h :: L):=fun x hx=>by
 rcases iD.1 hx with rfl|hx
 ·exact ⟨e,h1⟩
 exact h2 x hx
theorem qh.app {C:bN} {A B:List fH} (h1:qh C A) (h2:qh C B):qh C (A++B):=fun x hx=>(iP.1 hx).elim (h1 x) (h2 x)
mutual
theorem avX (C:bN) (body note:Bool) (t:Int):∀ (x:ak) (s s':CS),fu C body note t x s=(0,s')->qh C (Hu x)
 | .mk k c i tx h f r,s,s',e=>by
  have hf:=Rx C false true t f;have hr:=ahr C note (t+1) r;rw [fu] at e;(iterate 2 obtain ⟨-,e⟩:=jG e);obtain ⟨e1,e⟩:=jG e;rw [Hu];refine qh.cons e1 ?_
  by_cases h6:k=6
  ·exact acg
  rw [ay h6] at e |-;rw [gJ]
  by_cases h7:k=7
  ·rw [aH h7] at e |-;exact hr _ _ (SH e).2
  rw [ay h7];exact qh.nil C
theorem Rx (C:bN) (body note:Bool) (t:Int):∀ (l:List ak) (s s':CS),jg C body note t l s=(0,s')->qh C (oD l)
 | [],_,_,_=>by rw [oD];exact qh.nil C
 | x :: r,s,s',e=>by
  rw [jg] at e;obtain ⟨e1,e⟩:=jG e;rw [oD];exact (avX C body note t x s _ (Prod.ext e1 O)).app (Rx C body note t r _ _ e)
theorem avY (C:bN) (note:Bool) (t:Int):∀ (x:aM) (s s':CS),zw C note t x s=(0,s')->qh C (Hz x)
 | .mk h cs,s,s',e=>by
  have hc:=ahq C note t cs;rw [zw] at e;obtain ⟨e1,e⟩:=jG e;rw [Hz];exact qh.cons (lG e1 _ eT) (hc _ _ e)
theorem ahr (C:bN) (note:Bool) (t:Int):∀ (l:List aM) (s s':CS),iR C note t l s=(0,s')->qh C (zU l)
 | [],_,_,_=>by rw [zU];exact qh.nil C
 | x :: r,s,s',e=>by
  rw [iR] at e;obtain ⟨e1,e⟩:=jG e;rw [zU];exact (avY C note t x s _ (Prod.ext e1 O)).app (ahr C note t r _ _ e)
theorem avW (C:bN) (note:Bool) (t:Int):∀ (x:aN) (s s':CS),cellC C note t x s=(0,s')->qh C (Hr x)
 | .mk i h f,s,s',e=>by
  have hf:=Rx C false note t f;rw [cellC] at e;obtain ⟨-,e⟩:=jG e;obtain ⟨e1,e⟩:=jG e;rw [Hr];exact qh.cons e1 (hf _ _ e)
theorem ahq (C:bN) (note:Bool) (t:Int):∀ (l:List aN) (s s':CS),pO C note t l s=(0,s')->qh C (Bj l)
 | [],_,_,_=>by rw [Bj];exact qh.nil C
 | x :: r,s,s',e=>by
  rw [pO] at e;obtain ⟨e1,e⟩:=jG e;rw [Bj];exact (avW C note t x s _ (Prod.ext e1 O)).app (ahq C note t r _ _ e)
end
theorem Zl {d:jD} (hc:jo d=0):∀ q∈KX d,q=0∨q∈d.revs.map dw.id:=by
 have z:=lG hc;have h2:=z (eu [iw d.lW 3 d.fin,dN (zm d.fin.marks) 21]) (by simp);have h3:=z (jg d.lW true false 0 d.flow ⟨0,[]⟩).1 (by simp);have hi:=Rx d.lW true false 0 d.flow _ _ (Qn h3);intro q hq
 unfold KX at hq
 rcases iP.1 hq with hq|hq
 ·obtain ⟨h,hh,hq⟩:=List.mem_flatMap.1 hq;obtain ⟨e,he⟩:=hi h hh;exact XC he q hq
 exact XC (lG h2 _ eT) q hq
theorem ajQ {d:jD} (hc:jo d=0):(d.revs.map dw.id).Pairwise (· < ·)∧∀ q∈d.revs.map dw.id,1<=q∧q<=1073741824:=by
 have h:=lG (lG hc _ eT) (Dz d.revs) (by simp);have h1:=lG h _ (eT);have h2:=lG h _ (gH _ eT)
 have hl:d.revs.length<=256:=by
  unfold dN at h1
  by_cases hd:256 < (d.revs.length:Int)
  ·rw [aH (aG hd)] at h1;cases h1
  omega
 have hi:∀ i (hi:i < d.revs.length),1<=d.revs[i].id∧d.revs[i].id<=1073741824∧(∀ k (hk:k < d.revs.length),k+1=i->d.revs[k].id < d.revs[i].id):=by
  intro i hi;have h3:=EI h2 i V
  unfold CK at h3
  rw [fF hi] at h3;have h4:=RJ (lG h3 _ eT);rw [fF hi] at h4;refine ⟨h4.1,h4.2.1,fun k hk e=>?_⟩;subst e;have h5:=h4.2.2 V;rw [Nat.add_sub_cancel,fF hk] at h5;exact h5
 refine ⟨List.pairwise_iff_getElem.2 ?_,fun q hq=>?_⟩
 ·intro i j hi' hj hij;rw [bR] at hi' hj;rw [List.getElem_map,List.getElem_map]
  induction j with
  | zero=>omega
  | succ j ih =>
   have h1:=(hi (j+1) hj).2.2 j V O
   by_cases e:i=j
   ·subst e;exact h1
   exact Int.lt_trans (ih V V V) h1
 obtain ⟨x,hx,rfl⟩:=List.mem_map.1 hq;obtain ⟨k,hk,rfl⟩:=List.getElem_of_mem hx;exact ⟨(hi k hk).1,(hi k hk).2.1⟩
theorem aCv {d:jD} (hc:jo d=0) {q:Int} (h:q∈rR d):1<=q∧q<=1073741824:=by
 unfold rR at h
 rw [List.mem_filter,sW,Uz] at h;obtain ⟨h1|h1,h2⟩:=h
 ·cases h1
 exact (ajQ hc).2 q ((Zl hc q h1).resolve_left h2)
theorem aCu {d:jD} (hc:jo d=0):(rR d).length<=d.revs.length:=by
 obtain ⟨hi,-⟩:=ajQ hc
 have hnd:(d.revs.map dw.id).Nodup:=hi.imp fun h=>by omega
 have hu:(rR d).Nodup:=(aaH List.nodup_nil).sublist List.filter_sublist
 have hp:=(List.perm_ext_iff_of_nodup (hnd.sublist (List.filter_sublist (p:=fun q=>decide (q∈rR d)))) hu).2 fun q=>by
  rw [List.mem_filter,sW];refine ⟨fun h=>h.2,fun h=>⟨?_,h⟩⟩;have h1:=h
  unfold rR at h1
  rw [List.mem_filter,sW,Uz] at h1;obtain ⟨h2|h2,h3⟩:=h1
  ·cases h2
  exact (Zl hc q h2).resolve_left h3
 rw [<- hp.length_eq];exact Nat.le_trans (List.length_filter_le _ _) (by rw [bR];exact fD _)
theorem aif {G:GH} {α:Type} {f:α->Int} {A:List α} {B:Option Addr} {n c k:Nat} (hv:av G (.sl 1 (A.map fun q=>[li (f q)])) (.slice B n c)) (hk:k < A.length):∃ b o,B=some ⟨b,o,none⟩∧aI G b (o+k)=some (vi (f A[k])):=by
 obtain ⟨b,o,cs,h1,h2,h3,h4⟩:=hv.at_ k [li (f A[k])] (by simp [hk])
 simp only [aX] at h4
 obtain ⟨_,_,rfl,⟨rfl,-⟩,rfl⟩:=h4;exact ⟨b,o,h1,by simpa using h3 0 _ O⟩
theorem aqz:aW 189:=aY func189 O
theorem aqA:aW 190:=aY func190 O
theorem Yh {p:Nat->Bool} (hp:∀ h,p h=true->p (h+1)=true):∀ (f i j:Nat),i<=j->j - i<=f->(∀ h,i<=h->h < mZ p f i j->p h=false)∧(mZ p f i j < j->p (mZ p f i j)=true)
 | 0,i,j,h1,h2=>⟨fun h a b=>by simp only [mZ] at b;omega,fun h=>by simp only [mZ] at h;omega⟩
 | f+1,i,j,h1,h2=>by
  have up:∀ a b,a<=b->p a=true->p b=true:=fun a b hab=>by
   induction hab with
   | refl=>exact fun h=>h
   | step _ ih=>exact fun h=>hp _ (ih h)
  rw [mZ]
  by_cases h:i < j
  ·rw [aH h]
   cases hm:p ((i+j) / 2)
   ·rw [ay (by simp)];obtain ⟨r1,r2⟩:=Yh hp f ((i+j) / 2+1) j V V;refine ⟨fun q a b=>?_,r2⟩
    by_cases hq:(i+j) / 2+1<=q
    ·exact r1 q hq b
    cases hpq:p q
    ·rfl
    rw [up q _ V hpq] at hm;cases hm
   rw [aH O];obtain ⟨r1,r2⟩:=Yh hp f i ((i+j) / 2) V V;refine ⟨r1,fun _=>?_⟩
   by_cases hq:mZ p f i ((i+j) / 2) < (i+j) / 2
   ·exact r2 hq
   have:=Yg (p:=p) f i ((i+j) / 2) V;rw [show mZ p f i ((i+j) / 2)=(i+j) / 2 by omega];exact hm
  rw [ay h];exact ⟨fun q a b=>by omega,fun q=>absurd q h⟩
theorem anS {l:List Int} (hs:l.Pairwise (·<=·)) (t:Int):(∀ h (hh:h < l.length),h < ql l t->l[h] < t)∧∀ hh:ql l t < l.length,t<=l[ql l t]:=by
 -- the test,as if the list went on with its last number
 let p:Nat->Bool:=fun h=>decide (¬ l.getD h 0 < t)
 let p':Nat->Bool:=fun h=>decide (l.length<=h∨¬ l.getD h 0 < t)
 have hpp:∀ (f i j:Nat),j<=l.length->i<=j->mZ p f i j=mZ p' f i j:=by
  intro f
  induction f with
  | zero=>intro i j _ _;rfl
  | succ f ih =>
   intro i j hj hij;rw [mZ,mZ]
   by_cases h:i < j
   ·rw [aH h,aH h]
    have e:p ((i+j) / 2)=p' ((i+j) / 2):=by
     show decide _=decide _
     exact decide_eq_decide.2 ⟨.inr,fun h=>h.resolve_left V⟩
    rw [e,ih _ _ V V,ih _ _ hj V]
   rw [ay h,ay h]
 have hmono:∀ h,p' h=true->p' (h+1)=true:=fun h e=>by
  have e:=pK e;refine lT ?_
  by_cases h1:l.length<=h+1
  ·exact .inl h1
  refine .inr ?_;have e2:=e.resolve_left V;have h3:=List.pairwise_iff_getElem.1 hs h (h+1) V V (Nat.lt_succ_self _);rw [List.getD_eq_getElem?_getD,fF (show h < l.length by omega)] at e2;rw [List.getD_eq_getElem?_getD,fF (show h+1 < l.length by omega)]
  simp only [Option.getD_some] at e2 |-
  omega
 obtain ⟨r1,r2⟩:=Yh hmono l.length 0 l.length (jL _) V;have hn:ql l t=mZ p' l.length 0 l.length:=hpp _ _ _ (fD _) (jL _);rw [<- hn] at r1 r2;refine ⟨fun h hh h1=>?_,fun hh=>?_⟩
 ·have h2:=of_decide_eq_false (r1 h (jL _) h1);rw [List.getD_eq_getElem?_getD,fF hh] at h2
  simp only [Option.getD_some] at h2
  omega
 have h2:=(pK (r2 hh)).resolve_left V;rw [List.getD_eq_getElem?_getD,fF hh] at h2
 simp only [Option.getD_some] at h2
 omega
theorem auF {l:List Int} (hs:l.Pairwise (·<=·)) (t:Int):xK l t=decide (t∈l):=by
 rw [zK,sW]
 constructor
 ·intro h;exact lQ (pK h)
 intro h;obtain ⟨k,hk,rfl⟩:=List.getElem_of_mem h;obtain ⟨r1,r2⟩:=anS hs l[k]
 have hkn:ql l l[k]<=k:=by
  by_cases h:ql l l[k]<=k
  ·exact h
  have:=r1 k hk V;omega
 have h2:=r2 V
 have h3:l[ql l l[k]]<=l[k]:=by
  rcases Nat.lt_or_eq_of_le hkn with h|h
  ·exact List.pairwise_iff_getElem.1 hs _ _ V hk h
  exact Int.le_of_eq (getElem_congr_idx h)
 exact lT (by rw [fF (by omega:ql l l[k] < l.length)];exact dh some V)
theorem axQ (G:GH) (w0:World) (hG:Hold G w0) (x y:Int):Calls prog 189 #[vi x,vi y] w0 (bG w0 G fun u G'=>u=.bool (decide (x < y))∧G=G'):=by
 refine eN [(0,_),(1,_)] func189 O ntmps189 O O hG ?_;intro a H;refine kP H (SR fun _ K1=>au K1 O (SR fun _ K2=>Rm O ?_));clear H K1;intro a H;refine s_call Ws H wn O (Yq _ _ H.ro x) O ?_;clear H;rintro v6 G6 a w ⟨rfl,rfl⟩ H8 H;refine kH H (Rm O (Sp 7 O ?_ ?_)) <;> clear H
 ·intro h7 a H
  cases h7
 intro h7 a H
 refine kH H (bg h7 O (Pf h7 O (Rm O ?_)));clear H;intro a H;(iterate 2 refine FI H (wg H O O O) O O ?_;clear H;intro a H);refine IE H (wg H O O O) O O O O ?_;clear H;intro a H;exact kH H (Pf O O (au K2 O (LR results189 O fun H=>H.rt ⟨O,O⟩)))
theorem axu (G:GH) (w0:World) (hG:Hold G w0) (x:Int):Calls prog 190 #[vi x] w0 (bG w0 G fun u G'=>u=.bool false∧G=G'):=by
 refine eN [(0,_)] func190 O ntmps190 O O hG ?_;intro a H;exact kP H (SR fun _ K1=>au K1 O (SR fun _ K2=>Rm O (Rm O (Rc O (au K2 O (LR results190 O fun H=>H.rt ⟨by simp,O⟩))))))
theorem UY {p:Prop} (h:p:=by
 first
  | exact H.rt ⟨by rw [agH heq.symm V,<- heq];simp_all [aea],O⟩
  | exact H.rt ⟨by rw [agI heq.symm V,<- heq],O⟩):p:=h
theorem anR (G:GH) (w0:World) (hG:Hold G w0) (l:List Int) (t:Int) (v:ah) (hv:av G (.sl 1 (l.map fun k=>[li k])) v) (hl:l.length<=4294967296) :
  Calls prog 115 #[v,vi t] w0 (bG w0 G fun u G'=>u=.tuple #[vi (ql l t),.bool (xK l t)]∧G=G'):=by
 obtain ⟨A,c,rfl,hc1,hc2,-⟩:=hv.slice;rw [bR] at *;obtain ⟨p,hp⟩:∃ p:Nat->Bool,p=fun h=>decide (¬ l.getD h 0 < t):=⟨_,O⟩
 have hbs:ql l t=mZ p l.length 0 l.length:=by rw [hp,ql]
 refine eN [(0,_),(1,_)] func115 O ntmps115 O O hG ?_;intro a H;refine kP H (SR fun _ K1=>Ra O (au K1 O (SR fun _ K2=>Rm O (Rl uT O (au K2 O (SR fun _ K3=>Rm O (Ra O (au K3 O (SQ fun _ K4=>SB ?_)))))))));clear H K1 K2 K3;intro a H;skip;refine eO (ι:=Nat × Nat × Nat) (Tc:=[(0,_),(1,_),(6,_)]) (Lc:=[]) (fun gh=>[(7,vi gh.1),(8,vi gh.2.1)]) (fun gh=>[]) (fun gh=>G) (fun gh=>gh.1<=gh.2.1∧gh.2.1<=l.length∧gh.2.1 - gh.1<=gh.2.2∧mZ p gh.2.2 gh.1 gh.2.1=ql l t) (fun gh=>gh.2.1 - gh.1) ((0,l.length,l.length)) (by exact H.sub ⟨O,O,O,O,O,aB⟩) ?_ ?_
 ·exact ⟨jL _,fD _,Nat.sub_le _ _,hbs.symm⟩
 clear H;rintro ⟨i,j,f⟩ a w hI H;dsimp only at hI H;obtain ⟨hij,hj,hf1,heq⟩:=hI;dsimp only [lca,bD] at H;refine kP H (SQ fun _ K5=>SR fun _ K6=>Rm O (Rm O (Rc O (Kz K6 (Cd O ?_ ?_))))) <;> clear H K6
 ·intro oC a H
  try have uL:=dT oC
  have hlt:i < j:=by omega
  rw [ahU hf1 hlt] at heq;obtain ⟨m,hm⟩:∃ m,m=(i+j) / 2:=⟨_,O⟩;rw [<- hm] at heq
  have hml:m < l.length:=by omega
  obtain ⟨b,o,rfl,hrow⟩:=aif (f:=fun q=>q) hv hml
  replace hrow:aI G b (o+m*1)=some (vi l[m]):=by rw [Nat.mul_one];exact hrow
  have hpm:p m=decide (¬ l[m] < t):=by rw [hp];simp [List.getD,hml]
  rw [hpm] at heq;refine kP H (Kc K5 (SB (SR fun _ K7=>Rm O (Rm O (Rd O ?_)))));clear H K5;intro a H;rw [show ((i:Int)+(j:Int))=((i+j:Nat):Int) by push_cast;rfl] at H;refine FD ((i+j:Nat):Int) Tq mQ H wn O (ahV V V) O ?_;clear H;intro a H;refine ZG _ H wn O O O Q1 O ?_;clear H;intro a H;rw [ahT,<- hm] at H;refine FD (m:Int) mQ Tq H wn O (Ii V V) O ?_;clear H;intro a H;refine kH H (au K7 O (SR fun _ K8=>Rm O (Rm O (Ri uT aD O O (Rg aD O (by assumption) ?_)))));clear H K7;intro a H;refine kH H (Rm O ?_);clear H;intro a H;refine s_call aqz H wn O (axQ _ _ H.ro l[m] t) O ?_;clear H;rintro v27 G27 a w ⟨rfl,rfl⟩ agZ H;refine K8 _ _ ?_;clear K8;refine jX H O ?_ ?_
  ·intro h27
   try have p27:=dT h27
   rw [ay (by simpa using p27)] at heq;refine kP H (SC (Rm O (Rd O (Ra O ?_))));clear H;intro a H;refine aF ?_;refine dS ((m+1,j,f - 1)) (by exact H.sub ⟨O,O,O,O,O,aB⟩) ?_
   (try dsimp only);exact ⟨V,hj,V,heq⟩
  intro h27
  try have p27:=dF h27
  rw [aH (by simpa using p27)] at heq;refine kP H (SC (Rm O (Ra O ?_)));clear H;intro a H;refine aF ?_;refine dS ((i,m,f - 1)) (by exact H.sub ⟨O,O,O,O,O,aB⟩) ?_
  (try dsimp only);exact ⟨V,V,V,heq⟩
 intro oC a H
 try have uL:=dF oC
 refine dX ?_;refine K4 _ _ ?_;clear K4;refine bP (fun _ K9=>?_);rw [ahS V] at heq;refine kP H (SC (Rm O (Rm O (Rm O (Rc O (Rm O (Sp 35 O ?_ ?_))))))) <;> clear H
 ·intro iV a H
  try have p35:=dT iV
  have hil:i < l.length:=by omega
  obtain ⟨b,o,rfl,hrow⟩:=aif (f:=fun q=>q) hv hil
  replace hrow:aI G b (o+i*1)=some (vi l[i]):=by rw [Nat.mul_one];exact hrow
  refine kH H (YM iV O (YM iV O (YI uT aD iV O O (YR aD iV O (by assumption) ?_))));clear H;intro a H;refine kH H (YM iV O (YC iV O (YM iV O (Sp 42 O ?_ ?_)))) <;> clear H
  ·intro jy a H
   try have p42:=dT jy
   refine kH H (bg jy O (bg jy O (Ku O (Ku O (Ks jy O (PT iV jy O (Pt iV O (Ra O (aZ K9 O ?_)))))))));clear H K9;intro a H;refine gu ?_;refine (jQ H results115 (.cons (fE H O) (.cons (fE H O) .nil)) ?_).1
   exact UY
  intro jy a H
  try have p42:=dF jy
  refine kH H (YM jy O (YM jy O (YI uT aD jy O O (YR aD jy O (by assumption) ?_))));clear H;intro a H;refine s_call aqA H (wg H O O jy) O (axu _ _ H.ro l[i]) O ?_;clear H;rintro v47 G47 a w ⟨rfl,rfl⟩ aDP H;refine kH H (YM jy O (Sp 48 O ?_ ?_)) <;> clear H
  ·intro h48 a H
   cases h48
  intro h48 a H
  try have p48:=dF h48
  refine kH H (aR h48 O (PF jy h48 O (PF iV jy O (Pt iV O (Ra O (aZ K9 O ?_))))));clear H K9;intro a H;refine gu ?_;refine (jQ H results115 (.cons (fE H O) (.cons (fE H O) .nil)) ?_).1
  exact UY
 intro iV a H
 try have p35:=dF iV
 refine kH H (bg iV O (aR iV O (aR iV O (Ku O (Ku O (Ku O (Ku O (Ku O (Ku O (Ku O (Ku O (Ku O (Ks iV O (Pf iV O (Ra O (aZ K9 O ?_))))))))))))))));clear H K9;intro a H;refine gu ?_;refine (jQ H results115 (.cons (fE H O) (.cons (fE H O) .nil)) ?_).1
 exact UY
theorem aqy:aW 188:=aY func188 O
theorem Zy (G:GH) (x:dw):aX G x.dat x.cells:=by
 simp only [dw.dat,dw.cells,aX]
 exact abt
def oK (l:List dw):List ah:=(l.map dw.cells).flatten
theorem SK:∀ l:List dw,(oK l).length=l.length*3
 | []=>rfl
 | p :: l=>by
  have:=SK l
  simp only [oK,eP,List.flatten_cons,iK] at this |-
  rw [this,show p.cells.length=3 from rfl,lD];omega
theorem Zv:∀ {l:List dw} {k:Nat} (h:k < l.length) (j:Nat),j < 3->(oK l)[k*3+j]?=l[k].cells[j]?
 | p :: l,0,_,j,hj=>by
  simp only [oK,eP,List.flatten_cons,Nat.zero_mul,fO,List.getElem_cons_zero]
  rw [sZ (by rw [show p.cells.length=3 from rfl];exact hj)]
 | p :: l,k+1,h,j,hj=>by
  have ih:=Zv (l:=l) (k:=k) (by simpa using h) j hj
  simp only [oK,eP,List.flatten_cons,List.getElem_cons_succ] at ih |-
  rw [qj (by rw [show p.cells.length=3 from rfl];omega),show p.cells.length=3 from rfl,show (k+1)*3+j - 3=k*3+j by omega];exact ih
theorem Zu (l m:List dw):oK (l++m)=oK l++oK m:=by simp [oK]
theorem aAz {w0 w:World} {F:Nat->Prop} {G0 G:GH} {L Lo:OL} {e c n:Nat} {A:Option Addr} {l:List dw} (h:bV e 3 (.slice A n c) n (oK l) Lo) (hn:n=l.length) (H:Hp w0 F G0 G L w) (hsub:∀ x∈Lo,x∈L) {k:Nat} (hk:k < l.length) :
  ∃ b,A=some ⟨b,0,none⟩∧∀ j u,[vi l[k].id,.string l[k].author,vi l[k].time][j]?=some u->w.cell? ⟨b,0+k*3+j,none⟩=some u:=by
 rcases h.2 with ⟨_,h0,_⟩|⟨b,cap,cur,he,hl,h1,h2,h3,h4⟩
 ·omega
 injection he with e1 e2 e3
 refine ⟨b,e1,fun j u hu=>?_⟩
 have hj:j < 3:=by have:=(ji.1 hu).1;simpa using this
 refine H.KQ (c:=cur) (e:=e) (fz:=(0,0)) (hsub _ (by rw [hl];exact List.mem_singleton_self _)) ?_;have h5:=Zv hk j hj;rw [<- h4,sV,jZ,Array.getElem?_toList] at h5;rw [show 0+k*3+j=k*3+j by omega,h5];exact hu
theorem abN {p:Prop} (h:p:=by
 first
  | exact H.hp.gI ⟨O,by rw [Yo hk2 hno h16];rfl⟩
  | exact H.hp.gI ⟨O,by rw [show l.take k=l from lU V] at hno;rw [hno];rfl⟩):p:=h
theorem axo {G:GH} {w0:World} {Lo:OL} {v fv:ah} (l:List dw) (p:dw->Bool) (hO:fM G Lo w0) (hrw:bV 91 3 v l.length (oK l) Lo) (hf:∀ x∈l,uW fv G x.dat (p x)) :
  Calls prog 188 #[v,fv] w0 (fB w0 G Lo fun u G' L'=>L'=Lo∧u=vi (nO (l.findIdx? p))):=by
 obtain ⟨A,c,rfl,hc1,hc2⟩:=hrw.shape;have hml:maxLen=9223372036854775807:=rfl;refine iB (N:=19) (T:=[(0,_),(1,_)]) func188 O ntmps188 O O hO ?_;intro a H;refine kP H (SR fun _ K1=>au K1 O (SQ fun _ K2=>SR fun _ K3=>Rm O (Rl rQ O (Rm O (Kz K3 (SB ?_))))));clear H K1 K3;intro a H;skip;refine eO (ι:=Nat × GH) (Tc:=[(0,_),(1,_),(7,_)]) (Lc:=[]) (fun gh=>[(8,vi gh.1)]) (fun gh=>[]++Lo) (fun gh=>gh.2) (fun gh=>gh.1<=l.length∧(l.take gh.1).findIdx? p=none∧(∀ b o,G b=some o->gh.2 b=some o)) (fun gh=>l.length - gh.1) ((0,G)) (by exact H.sub ⟨O,O,O,O,aB⟩) ?_ ?_
 ·exact yE
 clear H;rintro ⟨k,g⟩ a w hI H;dsimp only at hI H;obtain ⟨hk,hno,hgm⟩:=hI;dsimp only [lca,bD] at H;refine kP H (SR fun _ K4=>Rc O (Kz K4 (SQ fun _ K5=>Cd O ?_ ?_))) <;> clear H K4
 ·intro h9 a H
  try have p9:=dT h9
  have hk2:k < l.length:=by omega
  obtain ⟨b,rfl,hrow⟩:=aAz hrw O H.hp (fun x hx=>by first|exact hx|exact gH _ hx|simpa using hx) hk2;refine kP H (Kc K5 (SQ fun _ K6=>SB (SR fun _ K7=>Rm O (au K7 O (SR fun _ K8=>Rm O (Rm O (Rm O (Ri rQ qg O O ?_))))))));clear H K5 K7;intro a H;refine bq qg (cs:=[vi l[k].id,.string l[k].author,vi l[k].time]) H wn O O hrow O ?_;clear H;intro a H;refine oL H wn O O (hf _ (jl hk2) _ _ _ hgm H.ro (Zy _ l[k])) O ?_;clear H;rintro v16 yj a w rfl zX H;refine K8 _ _ ?_;clear K8;refine jX H O ?_ ?_
  ·intro h16
   try have p16:=dT h16
   refine kP H (SR fun _ K9=>Rm O (au K9 O ?_));clear H K9;intro a H;refine lr H results188 O ?_
   exact abN
  intro h16
  try have p16:=dF h16
  refine kP H (Kc K6 (SC (Rd O (Rm O ?_))));clear H K6;intro a H;refine aF ?_;refine dS ((k+1,yj)) (by exact H.sub ⟨O,O,O,O,aB⟩) ?_
  (try dsimp only);exact abl
 intro h9 a H
 try have p9:=dF h9
 refine dX ?_;refine K2 _ _ ?_;clear K2;refine kP H (SR fun _ aT=>au aT O ?_);clear H aT;intro a H;refine lr H results188 O ?_
 exact abN
theorem aAf {G:GH} {l:List dw} {xs:List ah} (h:bT G 3 (l.map dw.dat) xs):xs=oK l:=by
 obtain ⟨css,rfl,h2,h3⟩:=h;rw [bR] at h2
 have e:css=l.map dw.cells:=by
  apply List.ext_getElem?
  intro j;rw [pJ]
  by_cases hj:j < l.length
  ·have h4:=(h3 j l[j].dat css[j] (by simp [hj]) (fF V)).1;rw [fF hj,fF V,Zx h4];rfl
  rw [List.getElem?_eq_none V,List.getElem?_eq_none V];rfl
 rw [e];rfl
theorem azP {l:List dw} {p:dw->Bool} {i:Nat} (h:l.findIdx? p=some i):∃ hi:i < l.length,(l.take (i+1)).filter (fun x=>!p x)=l.take i:=by
 obtain ⟨hi,h1,h2⟩:=List.findIdx?_eq_some_iff_getElem.1 h;refine ⟨hi,?_⟩;rw [jk hi,List.filter_append,List.filter_eq_self.2]
 ·simp [h1]
 intro x hx;obtain ⟨j,hj,rfl⟩:=List.getElem_of_mem hx;rw [List.getElem_take]
 have hj2:j < i:=by rw [List.length_take] at hj;omega
 have:=h2 j hj2
 simpa using this
theorem azQ {l:List dw} {p:dw->Bool} (h:l.findIdx? p=none):l.filter (fun x=>!p x)=l:=by
 rw [List.findIdx?_eq_none_iff] at h
 exact List.filter_eq_self.2 fun x hx=>by rw [h x hx];rfl
theorem azR {cl:List ah} {i:Nat} {x y z:ah} (h:i*3+3<=cl.length):(setRow cl (0+i*3) [x,y,z]).length=cl.length∧(setRow cl (0+i*3) [x,y,z]).take ((i+1)*3)=cl.take (i*3)++[x,y,z]∧∀ m,(i+1)*3<=m->(setRow cl (0+i*3) [x,y,z])[m]?=cl[m]?:=by
 have e:setRow cl (0+i*3) [x,y,z]=cl.take (i*3)++[x,y,z]++cl.drop (i*3+3):=by
  rw [fO,IG _ _ _ (by simpa using h)];rfl
 have hl:(cl.take (i*3)++[x,y,z]).length=(i+1)*3:=by rw [iK,List.length_take];simp;omega
 refine ⟨II ..,?_,fun m hm=>?_⟩
 ·rw [e,<- hl,List.take_left]
 rw [e,qj V,hl,List.getElem?_drop];congr 1;omega
theorem azO {l:List dw} {cl:List ah} {i:Nat} (hi:i < l.length) (h:cl.take (l.length*3)=oK l):cl.take (i*3)=oK (l.take i):=by
 have e:cl.take (i*3)=(cl.take (l.length*3)).take (i*3):=by rw [List.take_take,Nat.min_eq_left V]
 have h2:oK l=oK (l.take i)++oK (l.drop i):=by rw [<- Zu,List.take_append_drop]
 have h3:(oK (l.take i)).length=i*3:=by rw [SK,List.length_take];omega
 rw [e,h,h2,<- h3,List.take_left]
theorem azS {l:List dw} {p:dw->Bool} {j:Nat} (hj:j < l.length):(l.take (j+1)).filter (fun x=>!p x)=(l.take j).filter (fun x=>!p x)++if p l[j] then [] else [l[j]]:=by
 rw [jk hj,List.filter_append]
 cases h:p l[j] <;> simp [h]
set_option maxHeartbeats 1000000 in
theorem apx {G:GH} {w0:World} {Lo:OL} {v fv:ah} (l:List dw) (p:dw->Bool) (hO:fM G Lo w0) (hrw:bV 91 3 v l.length (oK l) Lo) (hf:∀ x∈l,uW fv G x.dat (p x)) :
  Calls prog 112 #[v,fv] w0 (fB w0 G Lo fun u G' L'=>bV 91 3 u (l.filter fun x=>!p x).length (oK (l.filter fun x=>!p x)) L'):=by
 obtain ⟨A,c,rfl,hc1,hc2⟩:=hrw.shape;have hml:maxLen=9223372036854775807:=rfl;have hdl:=SK l;refine iB (N:=42) (T:=[(0,_),(1,_)]) func112 O ntmps112 O O hO ?_;intro a H;refine kP H (SR fun _ K1=>au K1 O (SR fun _ K2=>Rm O (Rm O ?_)));clear H K1;intro a H;refine gD aqy (Li:=[]) (L:=Lo) H wn O (axo l p (Hp.owns (Li:=[]) H.hp) hrw hf) O ?_;clear H;rintro v10 tZ L10 a w ⟨rfl,rfl⟩ tH H;dsimp only [List.nil_append] at H;obtain ⟨o,ho⟩:∃ o,o=l.findIdx? p:=⟨_,O⟩;rw [<- ho] at H;refine kH H (au K2 O (SQ fun _ K3=>SR fun _ K4=>Rm O (Rc O (Kz K4 (Cd O ?_ ?_))))) <;> clear H K2 K4
 ·intro h12 a H
  try have pq:=dT h12
  obtain rfl:o=none:=by cases o with|none=>rfl|some i=>first|(simp [nO] at pq;done)|(simp [nO] at pq;omega)
  exact kP H (SR fun _ K5=>Rm O (au K5 O (LR results112 O fun H=>H.hp.gI (by rw [azQ ho.symm];exact hrw))))
 intro h12 a H
 try have pq:=dF h12
 obtain ⟨i0,rfl⟩:∃ i,o=some i:=by cases o with|none=>simp [nO] at pq|some i=>exact ⟨i,O⟩
 obtain ⟨hi0,hinit⟩:=azP ho.symm
 rcases hrw.2 with ⟨_,h0,_⟩|⟨b,cap,cur,he,rfl,hcap1,hcap2,hsz,htk⟩
 ·omega
 injection he with e1 e2 e3
 subst e1;subst e3;obtain ⟨EN,rfl⟩:∃ cl:List ah,cur=cl.toArray:=⟨cur.toList,by simp⟩;rw [List.size_toArray] at hsz;dsimp only [nO] at H;refine kP H (Kc K3 (SQ fun _ K6=>SR fun _ K7=>Rm O (Rd O (au K7 O (SB ?_)))));clear H K3 K7;intro a H;skip;refine eO (ι:=Nat × Nat × List ah × GH) (Tc:=[(0,_),(1,_)]) (Lc:=[]) (fun gh=>[(5,vi gh.2.1),(6,vi gh.1)]) (fun gh=>[(b,.cells gh.2.2.1.toArray 91 (0,0))]) (fun gh=>gh.2.2.2) (fun gh=>gh.2.1 < gh.1∧gh.1<=l.length∧gh.2.2.1.length=c*3∧gh.2.1=((l.take gh.1).filter fun x=>!p x).length∧gh.2.2.1.take (gh.2.1*3)=oK ((l.take gh.1).filter fun x=>!p x)∧(∀ m,gh.1*3<=m->m < l.length*3->gh.2.2.1[m]?=(oK l)[m]?)∧(∀ b o,G b=some o->gh.2.2.2 b=some o)) (fun gh=>l.length - gh.1) ((i0+1,i0,EN,tZ)) (by exact H.sub ⟨O,O,O,O,aB⟩) ?_ ?_
 ·exact ⟨Nat.lt_succ_self _,hi0,hsz,by rw [hinit,List.length_take];exact (Nat.min_eq_left (Nat.le_of_lt hi0)).symm,by rw [hinit];exact azO hi0 htk,fun m h1 h2=>by rw [<- htk,sV,aH h2],tH⟩
 clear H;rintro ⟨j,i,cl,g⟩ a w hI H;dsimp only at hI H;obtain ⟨hij,hj,hcl,hil,hkept,hrest,hgm⟩:=hI;dsimp only [lca,bD] at H;refine kP H (SQ fun _ K8=>SR fun _ K9=>Rm O (Rm O (Rl rQ O (Rc O (Kz K9 (Cd O ?_ ?_)))))) <;> clear H K9
 ·intro h19 a H
  try have wS:=dT h19
  have hj2:j < l.length:=by omega
  have hjc:∀ q u,[vi l[j].id,.string l[j].author,vi l[j].time][q]?=some u->cl.toArray[0+j*3+q]?=some u:=fun q u hq=>by
   have hq2:q < 3:=by have:=(ji.1 hq).1;simpa using this
   rw [List.getElem?_toArray,fO,hrest _ V V,Zv hj2 q hq2];exact hq
  have hdt:=azS (p:=p) hj2;refine kP H (Kc K8 (SQ fun _ aT=>SB (SR fun _ bJ=>Rm O (Rm O (Ri rQ qg O O ?_)))));clear H K8;intro a H;refine bq qg (cs:=[vi l[j].id,.string l[j].author,vi l[j].time]) H wn O O (fun q u hq=>H.hp.KQ (c:=cl.toArray) eT (hjc q u hq)) O ?_;clear H;intro a H;refine dR qg H wn O ?_;clear H;intro b7 a w Cq H;refine bM qg 0 (vs:=[_,_,_]) H wn O ?_;clear H;intro w H;refine bJ _ _ ?_;clear bJ;refine kP H (SR fun _ bO=>Rm O ?_);clear H;intro a H;refine bq qg (cs:=[_,_,_]) H wn O O (H.hp.dD 0 O O) O ?_;clear H;intro a H;refine oL H wn O O (hf _ (jl hj2) _ _ _ hgm H.ro (Zy _ l[j])) O ?_;clear H;rintro v28 O7 a w rfl XJ H;refine kH H (Rn O (Kz bO (Cd O ?_ ?_))) <;> clear H bO
  ·intro kS a H
   try have p29:=dT kS
   rw [ay (by simpa using kS)] at hdt;have hds:=azR (cl:=cl) (i:=i) (x:=vi l[j].id) (y:=.string l[j].author) (z:=vi l[j].time) V;refine kP H (SR fun _ bU=>Rm O (Rm O ?_));clear H;intro a H;refine bq qg (cs:=[_,_,_]) H wn O O (H.hp.dD 0 O O) O ?_;clear H;intro a H;refine kH H (Ri rQ qg O O ?_);clear H;intro a H;refine zy qg 1 (c:=cl) (vs:=[vi l[j].id,.string l[j].author,vi l[j].time]) _ H wn O O O O O O (Nat.ble_eq_true_of_le (by simp only [lD,List.length_nil];omega)) rfl ?_;clear H;intro w H;dsimp only [List.set] at H;refine bU _ _ ?_;clear bU;refine kP H (SC (Rm O (Rd O (aZ aT O (SC (Rm O (Rd O (Ra O ?_))))))));clear H aT;intro a H;refine aF ?_;refine dS ((j+1,i+1,setRow cl (0+i*3) [vi l[j].id,.string l[j].author,vi l[j].time],O7)) (by exact (H.dV (Pl:=[_,_]) (dL:=[_]) [1] Q1 O).sub ⟨O,O,O,O,aB⟩) ?_
   (try dsimp only);exact ⟨V,V,by rw [hds.1,hcl],by rw [hdt,iK,<- hil];rfl,by rw [hdt,Zu,<- hkept,hds.2.1];rfl,fun m h1 h2=>by rw [hds.2.2 m V,hrest m V h2],fun b o h=>XJ b o (hgm b o h)⟩
  intro kS a H
  try have p29:=dF kS
  rw [aH (by simpa using kS),jV] at hdt;refine kP H (Kc aT (SC (Rm O (Rd O (Ra O ?_)))));clear H aT;intro a H;refine aF ?_;refine dS ((j+1,i,cl,O7)) (by exact (H.dV (Pl:=[_,_]) (dL:=[_]) [1] Q1 O).sub ⟨O,O,O,O,aB⟩) ?_
  (try dsimp only);exact ⟨V,V,hcl,by rw [hdt];exact hil,by rw [hdt];exact hkept,fun m h1 h2=>hrest m V h2,fun b o h=>XJ b o (hgm b o h)⟩
 intro h19 a H
 try have wS:=dF h19
 refine dX ?_;refine K6 _ _ ?_;clear K6;refine kP H (SR fun _ bZ=>Rm O (Rm O ?_));clear H;intro a H;refine aA8 rQ qg i H wn O O O V O ?_;clear H;intro a H;rw [cu,Option.map_some,add_lit] at H;refine aAT rQ qg O O 0 H wn O O V V ?_;clear H;intro cz w hz1 hz2 H;dsimp only [List.set] at H;refine bZ _ _ ?_;clear bZ;refine kP H (SR fun _ dP=>Rm O (Rm O ?_));clear H;intro a H;refine Ox rQ qg i H wn O O O V O ?_;clear H;intro a H;refine kH H (au dP O ?_);clear H dP;intro a H;refine lr H results112 O ?_
 obtain rfl:j=l.length:=by omega
 rw [vg] at hil hkept;exact H.hp.gI ⟨SK _,.inr ⟨b,c,cz.toArray,by rw [<- hil],O,V,hcap2,by rw [List.size_toArray,hz1,hcl],by rw [<- hkept,<- hil];rw [fO] at hz2;exact hz2⟩⟩
theorem anJ {p:Prop} (h:p:=by
 exact H.hp.gI ⟨[],bV.nil,bT.nil⟩):p:=h
theorem GA {p:Prop} (h:p:=by
 exact H.hp.gI ⟨[],bV.empty,bT.nil⟩):p:=h
theorem GN {p:Prop} (h:p:=by
 have hr0:=hnil (by simpa using h4);subst hr0;exact anJ):p:=h
theorem adX (G:GH) (w0:World) (hO:fM G [] w0) (rows:List (List Dat)) (A:Option Addr) (n c:Nat) (hv:av G (.sl 3 rows) (.slice A n c)) (hz:rows.length<=4294967296) :
  Calls prog 113 #[.slice A n c] w0 (fB w0 G [] fun u G' L'=>∃ xs,bV 91 3 u rows.length xs L'∧bT G' 3 rows xs):=by
 obtain ⟨hn,hc1,hc2,hnil,hx⟩:=hv.cells;refine iB (N:=8) (T:=[(0,_)]) func113 O ntmps113 O O hO ?_;intro a H;refine kP H (SR fun _ K1=>au K1 O (SQ fun _ K2=>SR fun _ K3=>Rm O ?_));clear H K1;intro a H;refine CV rQ H wn O O ?_;clear H;intro a H;refine K3 _ _ ?_;clear K3;refine jX H O ?_ ?_
 ·intro h4
  refine kP H (SR fun _ K4=>au K4 O ?_);clear H K4;intro a H;refine lr H results113 O ?_;exact GN
 intro h4
 try have p4:=dF h4
 refine gT ?_;refine K2 _ _ ?_;clear K2;refine bP (fun _ K5=>?_)
 have hA:¬ A=none:=by intro e;rw [e] at h4;cases h4
 refine mX ?_;refine CU rQ qg H wn O ?_;clear H;intro b5 a w hb5 H;refine kH H (Rm O ?_);clear H;intro a H
 by_cases hr0:rows=[]
 ·have hn0:n=0:=by rw [hn,hr0];rfl
  subst hn0;refine BM rQ qg H wn O O (fD _) O ?_;clear H;intro a H;refine kH H (aZ K5 O ?_);clear H K5;intro a H;refine lr H results113 O ?_;subst hr0;exact GA
 obtain ⟨b,o,xs,rfl,hxl,hxc,hx1,fZ⟩:=hx hr0;refine mh (Li:=[]) (Lo:=[_]) (news:=xs) rQ qg O O H wn O O bV.empty hxl (fun j u hj=>H.hp.aI (hxc j u hj)) hx1 V V O ?_;clear H;intro v7 Lo a w hrow H;dsimp only [List.nil_append] at H;exact kH H (aZ K5 O (LR results113 O fun H=>H.hp.gI ⟨_,by rw [fO,hn] at hrow;exact hrow,fZ⟩))
theorem aoW (G:GH) (w0:World) (hO:fM G [] w0) (rows:List (List Dat)) (A:Option Addr) (n c:Nat) (hv:av G (.sl 6 rows) (.slice A n c)) (hz:rows.length<=4294967296) :
  Calls prog 239 #[.slice A n c] w0 (fB w0 G [] fun u G' L'=>∃ xs,bV 183 6 u rows.length xs L'∧bT G' 6 rows xs):=by
 obtain ⟨hn,hc1,hc2,hnil,hx⟩:=hv.cells;refine iB (N:=8) (T:=[(0,_)]) func239 O ntmps239 O O hO ?_;intro a H;refine kP H (SR fun _ K1=>au K1 O (SQ fun _ K2=>SR fun _ K3=>Rm O ?_));clear H K1;intro a H;refine CV mq H wn O O ?_;clear H;intro a H;refine K3 _ _ ?_;clear K3;refine jX H O ?_ ?_
 ·intro h4
  refine kP H (SR fun _ K4=>au K4 O ?_);clear H K4;intro a H;refine lr H results239 O ?_;exact GN
 intro h4
 try have p4:=dF h4
 refine gT ?_;refine K2 _ _ ?_;clear K2;refine bP (fun _ K5=>?_)
 have hA:¬ A=none:=by intro e;rw [e] at h4;cases h4
 refine mX ?_;refine CU mq kr H wn O ?_;clear H;intro b5 a w hb5 H;refine kH H (Rm O ?_);clear H;intro a H
 by_cases hr0:rows=[]
 ·have hn0:n=0:=by rw [hn,hr0];rfl
  subst hn0;refine BM mq kr H wn O O (fD _) O ?_;clear H;intro a H;refine kH H (aZ K5 O ?_);clear H K5;intro a H;refine lr H results239 O ?_;subst hr0;exact GA
 obtain ⟨b,o,xs,rfl,hxl,hxc,hx1,fZ⟩:=hx hr0;refine mh (Li:=[]) (Lo:=[_]) (news:=xs) mq kr O O H wn O O bV.empty hxl (fun j u hj=>H.hp.aI (hxc j u hj)) hx1 V V O ?_;clear H;intro v7 Lo a w hrow H;dsimp only [List.nil_append] at H;exact kH H (aZ K5 O (LR results239 O fun H=>H.hp.gI ⟨_,by rw [fO,hn] at hrow;exact hrow,fZ⟩))
theorem aoV (G:GH) (w0:World) (hO:fM G [] w0) (rows:List (List Dat)) (A:Option Addr) (n c:Nat) (hv:av G (.sl 2 rows) (.slice A n c)) (hz:rows.length<=4294967296) :
  Calls prog 240 #[.slice A n c] w0 (fB w0 G [] fun u G' L'=>∃ xs,bV 186 2 u rows.length xs L'∧bT G' 2 rows xs):=by
 obtain ⟨hn,hc1,hc2,hnil,hx⟩:=hv.cells;refine iB (N:=8) (T:=[(0,_)]) func240 O ntmps240 O O hO ?_;intro a H;refine kP H (SR fun _ K1=>au K1 O (SQ fun _ K2=>SR fun _ K3=>Rm O ?_));clear H K1;intro a H;refine CV xY H wn O O ?_;clear H;intro a H;refine K3 _ _ ?_;clear K3;refine jX H O ?_ ?_
 ·intro h4
  refine kP H (SR fun _ K4=>au K4 O ?_);clear H K4;intro a H;refine lr H results240 O ?_;exact GN
 intro h4
 try have p4:=dF h4
 refine gT ?_;refine K2 _ _ ?_;clear K2;refine bP (fun _ K5=>?_)
 have hA:¬ A=none:=by intro e;rw [e] at h4;cases h4
 refine mX ?_;refine CU xY BP H wn O ?_;clear H;intro b5 a w hb5 H;refine kH H (Rm O ?_);clear H;intro a H
 by_cases hr0:rows=[]
 ·have hn0:n=0:=by rw [hn,hr0];rfl
  subst hn0;refine BM xY BP H wn O O (fD _) O ?_;clear H;intro a H;refine kH H (aZ K5 O ?_);clear H K5;intro a H;refine lr H results240 O ?_;subst hr0;exact GA
 obtain ⟨b,o,xs,rfl,hxl,hxc,hx1,fZ⟩:=hx hr0;refine mh (Li:=[]) (Lo:=[_]) (news:=xs) xY BP O O H wn O O bV.empty hxl (fun j u hj=>H.hp.aI (hxc j u hj)) hx1 V V O ?_;clear H;intro v7 Lo a w hrow H;dsimp only [List.nil_append] at H;exact kH H (aZ K5 O (LR results240 O fun H=>H.hp.gI ⟨_,by rw [fO,hn] at hrow;exact hrow,fZ⟩))
theorem aoT (G:GH) (w0:World) (hO:fM G [] w0) (rows:List (List Dat)) (A:Option Addr) (n c:Nat) (hv:av G (.sl 6 rows) (.slice A n c)) (hz:rows.length<=4294967296) :
  Calls prog 241 #[.slice A n c] w0 (fB w0 G [] fun u G' L'=>∃ xs,bV 190 6 u rows.length xs L'∧bT G' 6 rows xs):=by
 obtain ⟨hn,hc1,hc2,hnil,hx⟩:=hv.cells;refine iB (N:=8) (T:=[(0,_)]) func241 O ntmps241 O O hO ?_;intro a H;refine kP H (SR fun _ K1=>au K1 O (SQ fun _ K2=>SR fun _ K3=>Rm O ?_));clear H K1;intro a H;refine CV Ao H wn O O ?_;clear H;intro a H;refine K3 _ _ ?_;clear K3;refine jX H O ?_ ?_
 ·intro h4
  refine kP H (SR fun _ K4=>au K4 O ?_);clear H K4;intro a H;refine lr H results241 O ?_;exact GN
 intro h4
 try have p4:=dF h4
 refine gT ?_;refine K2 _ _ ?_;clear K2;refine bP (fun _ K5=>?_)
 have hA:¬ A=none:=by intro e;rw [e] at h4;cases h4
 refine mX ?_;refine CU Ao BQ H wn O ?_;clear H;intro b5 a w hb5 H;refine kH H (Rm O ?_);clear H;intro a H
 by_cases hr0:rows=[]
 ·have hn0:n=0:=by rw [hn,hr0];rfl
  subst hn0;refine BM Ao BQ H wn O O (fD _) O ?_;clear H;intro a H;refine kH H (aZ K5 O ?_);clear H K5;intro a H;refine lr H results241 O ?_;subst hr0;exact GA
 obtain ⟨b,o,xs,rfl,hxl,hxc,hx1,fZ⟩:=hx hr0;refine mh (Li:=[]) (Lo:=[_]) (news:=xs) Ao BQ O O H wn O O bV.empty hxl (fun j u hj=>H.hp.aI (hxc j u hj)) hx1 V V O ?_;clear H;intro v7 Lo a w hrow H;dsimp only [List.nil_append] at H;exact kH H (aZ K5 O (LR results241 O fun H=>H.hp.gI ⟨_,by rw [fO,hn] at hrow;exact hrow,fZ⟩))
theorem aoN (G:GH) (w0:World) (hG:Hold G w0) (rows:List (List Dat)) (A:Option Addr) (n c:Nat) (hv:av G (.sl 6 rows) (.slice A n c)) (hz:rows.length<=4294967296) :
  Calls prog 241 #[.slice A n c] w0 (bG w0 G fun u G'=>av G' (.sl 6 rows) u):=JC hG (aoT G w0 (wR hG) rows A n c hv hz) O
theorem aoX (G:GH) (w0:World) (hO:fM G [] w0) (rows:List (List Dat)) (A:Option Addr) (n c:Nat) (hv:av G (.sl 2 rows) (.slice A n c)) (hz:rows.length<=4294967296) :
  Calls prog 242 #[.slice A n c] w0 (fB w0 G [] fun u G' L'=>∃ xs,bV 193 2 u rows.length xs L'∧bT G' 2 rows xs):=by
 obtain ⟨hn,hc1,hc2,hnil,hx⟩:=hv.cells;refine iB (N:=8) (T:=[(0,_)]) func242 O ntmps242 O O hO ?_;intro a H;refine kP H (SR fun _ K1=>au K1 O (SQ fun _ K2=>SR fun _ K3=>Rm O ?_));clear H K1;intro a H;refine CV wX H wn O O ?_;clear H;intro a H;refine K3 _ _ ?_;clear K3;refine jX H O ?_ ?_
 ·intro h4
  refine kP H (SR fun _ K4=>au K4 O ?_);clear H K4;intro a H;refine lr H results242 O ?_;exact GN
 intro h4
 try have p4:=dF h4
 refine gT ?_;refine K2 _ _ ?_;clear K2;refine bP (fun _ K5=>?_)
 have hA:¬ A=none:=by intro e;rw [e] at h4;cases h4
 refine mX ?_;refine CU wX BR H wn O ?_;clear H;intro b5 a w hb5 H;refine kH H (Rm O ?_);clear H;intro a H
 by_cases hr0:rows=[]
 ·have hn0:n=0:=by rw [hn,hr0];rfl
  subst hn0;refine BM wX BR H wn O O (fD _) O ?_;clear H;intro a H;refine kH H (aZ K5 O ?_);clear H K5;intro a H;refine lr H results242 O ?_;subst hr0;exact GA
 obtain ⟨b,o,xs,rfl,hxl,hxc,hx1,fZ⟩:=hx hr0;refine mh (Li:=[]) (Lo:=[_]) (news:=xs) wX BR O O H wn O O bV.empty hxl (fun j u hj=>H.hp.aI (hxc j u hj)) hx1 V V O ?_;clear H;intro v7 Lo a w hrow H;dsimp only [List.nil_append] at H;exact kH H (aZ K5 O (LR results242 O fun H=>H.hp.gI ⟨_,by rw [fO,hn] at hrow;exact hrow,fZ⟩))
theorem aoP (G:GH) (w0:World) (hG:Hold G w0) (rows:List (List Dat)) (A:Option Addr) (n c:Nat) (hv:av G (.sl 2 rows) (.slice A n c)) (hz:rows.length<=4294967296) :
  Calls prog 242 #[.slice A n c] w0 (bG w0 G fun u G'=>av G' (.sl 2 rows) u):=JC hG (aoX G w0 (wR hG) rows A n c hv hz) O
theorem aoU (G:GH) (w0:World) (hO:fM G [] w0) (rows:List (List Dat)) (A:Option Addr) (n c:Nat) (hv:av G (.sl 4 rows) (.slice A n c)) (hz:rows.length<=4294967296) :
  Calls prog 243 #[.slice A n c] w0 (fB w0 G [] fun u G' L'=>∃ xs,bV 220 4 u rows.length xs L'∧bT G' 4 rows xs):=by
 obtain ⟨hn,hc1,hc2,hnil,hx⟩:=hv.cells;refine iB (N:=8) (T:=[(0,_)]) func243 O ntmps243 O O hO ?_;intro a H;refine kP H (SR fun _ K1=>au K1 O (SQ fun _ K2=>SR fun _ K3=>Rm O ?_));clear H K1;intro a H;refine CV FQ H wn O O ?_;clear H;intro a H;refine K3 _ _ ?_;clear K3;refine jX H O ?_ ?_
 ·intro h4
  refine kP H (SR fun _ K4=>au K4 O ?_);clear H K4;intro a H;refine lr H results243 O ?_;exact GN
 intro h4
 try have p4:=dF h4
 refine gT ?_;refine K2 _ _ ?_;clear K2;refine bP (fun _ K5=>?_)
 have hA:¬ A=none:=by intro e;rw [e] at h4;cases h4
 refine mX ?_;refine CU FQ IK H wn O ?_;clear H;intro b5 a w hb5 H;refine kH H (Rm O ?_);clear H;intro a H
 by_cases hr0:rows=[]
 ·have hn0:n=0:=by rw [hn,hr0];rfl
  subst hn0;refine BM FQ IK H wn O O (fD _) O ?_;clear H;intro a H;refine kH H (aZ K5 O ?_);clear H K5;intro a H;refine lr H results243 O ?_;subst hr0;exact GA
 obtain ⟨b,o,xs,rfl,hxl,hxc,hx1,fZ⟩:=hx hr0;refine mh (Li:=[]) (Lo:=[_]) (news:=xs) FQ IK O O H wn O O bV.empty hxl (fun j u hj=>H.hp.aI (hxc j u hj)) hx1 V V O ?_;clear H;intro v7 Lo a w hrow H;dsimp only [List.nil_append] at H;exact kH H (aZ K5 O (LR results243 O fun H=>H.hp.gI ⟨_,by rw [fO,hn] at hrow;exact hrow,fZ⟩))
theorem aoO (G:GH) (w0:World) (hG:Hold G w0) (rows:List (List Dat)) (A:Option Addr) (n c:Nat) (hv:av G (.sl 4 rows) (.slice A n c)) (hz:rows.length<=4294967296) :
  Calls prog 243 #[.slice A n c] w0 (bG w0 G fun u G'=>av G' (.sl 4 rows) u):=JC hG (aoU G w0 (wR hG) rows A n c hv hz) O
section
def zG (x:Nat->ah × OL) (m:Nat) (y:ah × OL):Nat->ah × OL:=fun j=>if j=m then y else x j
theorem aCm (x:Nat->ah × OL) (m:Nat) (y:ah × OL):zG x m y m=y:=aH O
theorem alr {x:Nat->ah × OL} {m j:Nat} {y:ah × OL} (h:j≠m):zG x m y j=x j:=ay h
def rE (ms:List Nat) (S:Nat->Bool) (x:Nat->ah × OL):OL:=ms.flatMap fun m=>bif S m then (x m).2 else []
theorem agc {S:Nat->Bool} {x:Nat->ah × OL} {y:ah × OL} {m:Nat}:∀ {ms:List Nat},m∉ms->rE ms (dO S m) (zG x m y)=rE ms S x
 | [],_=>rfl
 | k :: ms,h=>by
  have hk:k≠m:=fun e=>h (by simp [e])
  have ih:=agc (S:=S) (x:=x) (y:=y) (ms:=ms) fun hm=>h (gH _ hm)
  unfold rE at ih |-
  rw [List.flatMap_cons,List.flatMap_cons,ih,alr hk,show dO S m k=S k from ay hk]
theorem agd {S:Nat->Bool} {x:Nat->ah × OL} {y:ah × OL} {m:Nat} (hS:S m=false):∀ {ms:List Nat},ms.Nodup->m∈ms->(y.2++rE ms S x).Perm (rE ms (dO S m) (zG x m y))
 | k :: ms,hn,hm=>by
  rw [List.nodup_cons] at hn
  by_cases hk:k=m
  ·subst hk
   have e:=agc (S:=S) (x:=x) (y:=y) hn.1
   unfold rE at e |-
   rw [List.flatMap_cons,List.flatMap_cons,e,aCm,hS,show dO S k k=true from aH O]
   exact List.Perm.refl _
  ·have ih:=agd (S:=S) (x:=x) (y:=y) hS hn.2 (by
    rcases iD.1 hm with e|h
    ·exact absurd e.symm hk
    ·exact h)
   unfold rE at ih |-
   rw [List.flatMap_cons,List.flatMap_cons,alr hk,show dO S m k=S k from ay hk,<- gY]
   refine (List.Perm.append_right _ um).trans ?_
   rw [gY]
   exact List.Perm.append_left _ ih
section
variable {N:Nat} {D:List Deferred} {w0:World} {F:Nat->Prop} {G0 G G1 G2:GH} {L L1 L2:OL} {T Xs:List (Nat × ah)}
variable {r:Option Nat} {P:Program} {Q:Exit->Act->World->Prop} {l:List Oper} {a a':Act} {w w':World}
theorem adI {id:Nat} (ms:List Nat) (hm:P.follows .mixedOrders=true) (bS:List (List Nat)) (B:List Nat) (hk:yL l bS=true) (hB:zB l bS B=true) (hnd:ms.Nodup) (hms:(ms.all fun m=>Nat.blt m l.length && !B.contains m)=true) (pr:(Nat->ah × OL)->Nat->ah->GH->Prop)
  (hp:∀ m,ms.contains m=true->∀ x y i v G,Nat.beq i m=false->(bS.getD i []).contains m=false->pr x i v G->pr (zG x m y) i v G)
  (H:St N D w0 F G0 G L T a w)
  (hstep:allI (fun i o=>∀ x L' S a w G1,(∀ q,q∈L->q∈L')->B.contains i=false->ms.contains i=false->S i=false->(∀ j∈bS.getD i [],S j=true)->(∀ k o,G k=some o->G1 k=some o)->St N D w0 F G0 G1 L' T a w->(∀ i d,S i=true->dZ l i=some d->∃ v,a.tmps[d]?=some v∧pr x i v G1) ->
   WL r P l.toArray (fun e a' w'=>e=.normal∧DX N D w0 F G0 G L' T l (pr x) (dO S i) a' w') [o] a w) 0 l)
  (hmid:allI (fun m o=>ms.contains m=true->∀ x L' S a w G1,(∀ q,q∈L->q∈L')->S m=false->(∀ j∈bS.getD m [],S j=true)->(∀ k o,G k=some o->G1 k=some o)->St N D w0 F G0 G1 L' T a w->(∀ y i d,i≠m->S i=true->dZ l i=some d->∃ v,a.tmps[d]?=some v∧pr (zG x m y) i v G1) ->
   WL r P l.toArray (fun e a' w'=>e=.normal∧∃ y,DX N D w0 F G0 G (y.2++L') T l (pr (zG x m y)) (dO S m) a' w') [o] a w) 0 l)
  (hend:∀ x a w G1,(∀ k o,G k=some o->G1 k=some o)->St N D w0 F G0 G1 (rE ms (fun _=>true) x++L) T a w->(∀ i d,B.contains i=false->dZ l i=some d->∃ v,a.tmps[d]?=some v∧pr x i v G1)->WL r P l.toArray (fun e a w=>e=.normal∧Q .normal a w) (qK l B) a w):WP r P (.region id l.toArray true) Q a w:=by
 refine MH hm bS B hk hB (fun S a w=>∃ x,DX N D w0 F G0 G (rE ms S x++L) T l (pr x) S a w)
  ⟨fun _=>(.bool false,[]),DX.perm (L1:=L) ⟨G,fun _ _ h=>h,H.move H.hp.drew,fun _ _ h=>absurd (show false=true from h) Q1⟩ (by
   have:∀ ms:List Nat,rE ms (fun _=>false) (fun _=>(.bool false,[]))=[]:=fun ms=>by
    induction ms with
    | nil=>rfl
    | cons k ms ih=>unfold rE at ih |-;rw [List.flatMap_cons,ih];rfl
   rw [this];exact List.Perm.refl _)⟩ ?_ ?_
 ·rintro i o S a w ho hb aV kM hdesc ⟨x,G1,hG,HS,hv⟩
  have hsub:∀ q,q∈L->q∈rE ms S x++L:=fun q hq=>List.mem_append_right _ hq
  have hno:∀ j,j < l.length->S j=true->(bS.getD j []).contains i=false:=fun j hjl hj=>by
   cases hc:(bS.getD j []).contains i with
   | false=>rfl
   | true =>
    have:=hdesc j hjl (by simpa using hc)
    rw [this] at hj;cases hj
  cases hi:ms.contains i with
  | true =>
   have h:=zL hmid i o ho
   rw [fO] at h
   have h:=h hi x _ S a w G1 hsub aV kM hG HS fun y j d hj hSj hd=>by
    obtain ⟨v,hv1,hv2⟩:=hv j d hSj hd
    exact ⟨v,hv1,hp i hi x y j v _ (xB hj) (hno j (wG hd) hSj) hv2⟩
   refine pF (fun e a' w' ⟨he,y,hD⟩=>⟨he,zG x i y,hD.perm ?_⟩) h
   rw [<- gY]
   exact List.Perm.append_right L (agd aV hnd (by simpa using hi))
  | false =>
   have h:=zL hstep i o ho
   rw [fO] at h
   have e:∀ ms:List Nat,i∉ms->rE ms (dO S i) x=rE ms S x:=fun ms hn=>by
    induction ms with
    | nil=>rfl
    | cons k ms ih =>
     have ih:=ih fun h=>hn (gH _ h)
     unfold rE at ih |-
     rw [List.flatMap_cons,List.flatMap_cons,ih,show dO S i k=S k from ay fun e=>hn (by simp [e])]
   refine pF (fun e' a' w' ⟨he,hD⟩=>⟨he,x,?_⟩) (h x _ S a w G1 hsub hb hi aV kM hG HS hv)
   rw [e ms (by simpa using hi)]
   exact hD
 ·rintro S a w hall Rw ⟨x,G1,hG,HS,hv⟩
  have hS:∀ m∈ms,S m=true:=fun m hmm=>by
   have h:=lS.1 hms m hmm
   rw [mG] at h
   exact hall m (Eq.mp Nat.blt_eq h.1) (by simpa using h.2)
  have e:∀ ms:List Nat,(∀ m∈ms,S m=true)->rE ms S x=rE ms (fun _=>true) x:=fun ms h=>by
   induction ms with
   | nil=>rfl
   | cons k ms ih =>
    have ih:=ih fun m hm=>h m (gH _ hm)
    unfold rE at ih |-
    rw [List.flatMap_cons,List.flatMap_cons,ih,h k eT]
  replace e:=e ms hS
  rw [e] at HS
  exact hend x a w G1 hG HS fun j d hb hd=>hv j d (hall j (wG hd) hb) hd
end
end
theorem arl:aW 239:=aY func239 O
theorem arn:aW 240:=aY func240 O
theorem aro:aW 241:=aY func241 O
theorem arp:aW 242:=aY func242 O
theorem aBY:qW prog 36 [(0,1),(1,1),(2,1),(3,1)] [.slice none 0 0,.slice none 0 0,.slice none 0 0,.slice none 0 0]:=⟨Z,Z⟩
theorem arq:aW 243:=aY func243 O
theorem aX.setAt {G:GH}:∀ {r:List Dat} {cs:List ah} {k:Nat} {d:Dat} {v:ah},aX G r cs->r[k]?=some d->av G d v->aX G r (cs.set k v)
 | [],_,_,_,_,_,h,_=>by simp at h
 | e :: r,cs,k,d,v,h,hk,hv=>by
  simp only [aX] at h |-
  obtain ⟨x,vs,rfl,h1,h2⟩:=h
  cases k with
  | zero =>
   simp only [AO,ou] at hk
   subst hk;exact ⟨v,vs,O,hv,h2⟩
  | succ k=>exact ⟨x,vs.set k v,O,h1,aX.setAt h2 (by simpa using hk) hv⟩
theorem bT.setAt {G:GH} {sz:Nat}:∀ {rows:List (List Dat)} {xs:List ah} {i k:Nat} {r:List Dat} {d:Dat} {v:ah},bT G sz rows xs->rows[i]?=some r->r[k]?=some d->k < sz->av G d v->bT G sz rows (xs.set (i*sz+k) v)
 | [],_,_,_,_,_,_,_,h,_,_,_=>by simp at h
 | q :: rows,xs,i,k,r,d,v,h,hr,hk,hs,hv=>by
  obtain ⟨css,rfl,h2,h3⟩:=h
  cases css with
  | nil=>simp at h2
  | cons c css =>
   obtain ⟨h4,h5⟩:=h3 0 q c O O;have h6:bT G sz rows css.flatten:=⟨css,O,by simpa using h2,fun j r' cs hr' hc=>h3 (j+1) r' cs (by simpa using hr') (by simpa using hc)⟩
   have h7:∀ {c' x':List ah},aX G q c'->c'.length=sz->bT G sz rows x'->bT G sz (q :: rows) (c'++x'):=fun a b e=>by
    have h8:=((bT.nil (G:=G) (sz:=sz)).snoc a b).append e
    simpa using h8
   rw [List.flatten_cons]
   cases i with
   | zero =>
    simp only [AO,ou] at hr
    subst hr;rw [Nat.zero_mul,fO,List.set_append_left _ _ V];exact h7 (h4.setAt hk hv) (by rw [List.length_set];exact h5) h6
   | succ i =>
    rw [List.set_append_right _ _ (by rw [h5,Nat.succ_mul];omega),h5,show (i+1)*sz+k - sz=i*sz+k by rw [Nat.succ_mul];omega];exact h7 h4 h5 (bT.setAt h6 (by simpa using hr) hk hs hv)
theorem aB2 {G:GH} {l:List cB} {xs:List ah} {k:Nat} (h:bT G 6 (l.map cB.dat) xs) (hk:k < l.length):∃ A c,xs[k*6+5]?=some (.slice A l[k].props.length c)∧av G (.sl 2 (l[k].props.map jf.dat)) (.slice A l[k].props.length c):=by
 obtain ⟨cs,hcl,hcx,hcr⟩:=h.at (k:=k) (r:=l[k].dat) (by simp [hk]);obtain ⟨A,c,rfl,hp⟩:=Td hcr;exact ⟨A,c,hcx 5 _ O,hp⟩
theorem axS {G:GH} {l:List fK} {xs:List ah} {k:Nat} (h:bT G 2 (l.map fK.dat) xs) (hk:k < l.length):∃ A n c,xs[k*2+1]?=some (.slice A n c)∧av G (.sl 4 (l[k].levels.map pI.dat)) (.slice A n c):=by
 obtain ⟨cs,hcl,hcx,hcr⟩:=h.at (k:=k) (r:=l[k].dat) (by simp [hk]);obtain ⟨v1,vs,rfl,-,v2,vs2,rfl,h2,-⟩:=hcr;obtain ⟨A,n,c,rfl⟩:=av.form h2;exact ⟨A,n,c,hcx 1 _ O,h2⟩
theorem anK {p:Prop} (h:p:=by
 exact JJ HT Hb hG hv (gK dW) H O):p:=h
theorem anL {p:Prop} (h:p:=by
 exact pQ Z (gK dW) O O HT Hb hG hv Bl (xO) H):p:=h
theorem vv {p:Prop} (h:p:=by
 clear H;intro a H;refine aF ⟨O,?_⟩;exact anK):p:=h
theorem Vx {p:Prop} (h:p:=by
 (iterate 15 (rcases i with _|i;(first|exact h|exact absurd hi Q1|exact absurd hc Q1)));exact trivial):p:=h
theorem adp {p:Prop} (h:p:=by
 refine dB [] O trivial Z Cx O O ?_;intro bC a w G1 hG HT H fin;exact kH H (Rf JV O fun _ H=>fin H iJ O)):p:=h
theorem adq {p:Prop} (h:p:=by
 refine dB [] O trivial Z Cy O O ?_;intro bC a w G1 hG HT H fin;exact kH H (Rf JU O fun _ H=>fin H iJ O)):p:=h
theorem acn {p:Prop} (h:p:=by
 intro bC a w G1 hG HT H fin;exact kH H (Ro sM 0 O fun _ H=>fin H iJ O)):p:=h
theorem aco {p:Prop} (h:p:=by
 intro bC a w G1 hG HT H fin;exact kH H (Ro Dc 0 O fun _ H=>fin H iJ O)):p:=h
theorem acu {p:Prop} (h:p:=by
 clear H;rintro v14 EA a w xO Bl H;refine aF ⟨O,?_⟩;exact anL):p:=h
set_option maxHeartbeats 2000000 in
theorem apa (G:GH) (w0:World) (hG:Hold G w0) (s:Ch) (a1 b1_ c1 d1:ah) (hR:AB G s a1 b1_ c1 d1) (z1:s.styles.length<=4294967296) (z2:s.lists.length<=4294967296) (z3:s.comments.length<=4294967296) (z4:s.vars.length<=4294967296) (z5:∀ x∈s.styles,x.props.length<=4294967296) (z6:∀ x∈s.lists,x.levels.length<=4294967296) :
  Calls prog 191 #[.agg #[a1,b1_,c1,d1]] w0 (bG w0 G fun u G'=>∃ a' b' c' d',u=.agg #[a',b',c',d']∧AB G' s a' b' c' d'):=by
 have hml:maxLen=9223372036854775807:=rfl;obtain ⟨aA,an,ac,rfl⟩:=hR.st.form;obtain ⟨bA,bn,bc,rfl⟩:=hR.li.form;obtain ⟨cA,cn,cc,rfl⟩:=hR.cm.form;obtain ⟨dA,dn,dc,rfl⟩:=hR.va.form;obtain ⟨hs1,hs2,hs3,hs4⟩:=hR;refine eN [(0,_)] func191 O ntmps191 O O hG ?_;intro a H;refine dH (fun _ K1=>?_);refine eB (cs:=[_,_,_,_]) H wn O O O ?_;clear H;intro b1 a w hb1 H;refine dR BX H wn O ?_;clear H;intro b2 a w hb2 H;refine K1 _ _ ?_;clear K1;refine bP (fun _ K2=>?_);have H:=H.dV (Pl:=[_,_]) (dL:=[_,_]) [1,0] Q1 O;obtain ⟨Ga,hma,hb1',H⟩:=H.fJ;have hga:=fun j v hj=>tC hb1' 0 [.slice aA an ac,.slice bA bn bc,.slice cA cn cc,.slice dA dn dc] O j v hj;replace hs1:=hs1.mono hma;replace hs2:=hs2.mono hma;replace hs3:=hs3.mono hma;replace hs4:=hs4.mono hma
 have gK:Mo1 (fun (dW:Nat->ah × OL) (dK:Nat) (v:ah) (G:GH)=>match dK with|0=>v=(aJ b1 0)|1=>v=.slice aA an ac|2=>v=(dW 2).1∧∃ xs,bV 183 6 v s.styles.length xs (dW 2).2∧bT G 6 (s.styles.map cB.dat) xs|3=>v=(aJ b1 1)|4=>v=.slice bA bn bc|5=>v=(dW 5).1∧∃ xs,bV 186 2 v s.lists.length xs (dW 5).2∧bT G 2 (s.lists.map fK.dat) xs|6=>v=(aJ b1 2)|7=>v=.slice cA cn cc|8=>av G (.sl 6 (s.comments.map jc.dat)) v|9=>v=(aJ b1 3)|10=>v=.slice dA dn dc|11=>av G (.sl 2 (s.vars.map mF.dat)) v|12=>∃ c' d',v=.agg #[(dW 2).1,(dW 5).1,c',d']∧av G (.sl 6 (s.comments.map jc.dat)) c'∧av G (.sl 2 (s.vars.map mF.dat)) d'|13=>∃ b,v=(aJ b 0)∧dW 13=((aJ b 0),[(b,.cells #[.slice none 0 0,.slice none 0 0,.slice none 0 0,.slice none 0 0] 36 (0,0))])|_=>True):=by intro dW dK v G G' hm h;(iterate 15 (rcases dK with _|dK;(first|exact h|exact let ⟨h1,xs,h2,h3⟩:=h;⟨h1,xs,h2,h3.mono hm⟩|exact av.mono hm h|exact let ⟨c',d',h1,h2,h3⟩:=h;⟨c',d',h1,h2.mono hm,h3.mono hm⟩)));exact trivial
 refine adI [2,5,13] (hmx) [[],[0],[0,1],[],[3],ra 0 5,[],[6],ra 0 8,[],[9],ra 0 11,ra 0 12,[],ra 0 14] [14] Z Z Q1 Z (fun (dW:Nat->ah × OL) (dK:Nat) (v:ah) (G:GH)=>match dK with|0=>v=(aJ b1 0)|1=>v=.slice aA an ac|2=>v=(dW 2).1∧∃ xs,bV 183 6 v s.styles.length xs (dW 2).2∧bT G 6 (s.styles.map cB.dat) xs|3=>v=(aJ b1 1)|4=>v=.slice bA bn bc|5=>v=(dW 5).1∧∃ xs,bV 186 2 v s.lists.length xs (dW 5).2∧bT G 2 (s.lists.map fK.dat) xs|6=>v=(aJ b1 2)|7=>v=.slice cA cn cc|8=>av G (.sl 6 (s.comments.map jc.dat)) v|9=>v=(aJ b1 3)|10=>v=.slice dA dn dc|11=>av G (.sl 2 (s.vars.map mF.dat)) v|12=>∃ c' d',v=.agg #[(dW 2).1,(dW 5).1,c',d']∧av G (.sl 6 (s.comments.map jc.dat)) c'∧av G (.sl 2 (s.vars.map mF.dat)) d'|13=>∃ b,v=(aJ b 0)∧dW 13=((aJ b 0),[(b,.cells #[.slice none 0 0,.slice none 0 0,.slice none 0 0,.slice none 0 0] 36 (0,0))])|_=>True) (fun m hm x y i v G hi hc h=>by
  have hm:m=2∨m=5∨m=13:=by simpa using hm
  rcases hm with rfl|rfl|rfl
  ·exact Vx
  ·exact Vx
  ·exact Vx
  ) H ?_ ?_ ?_
 ·clear H;refine aC ?_ ?_ ?_ ?_ (aC ?_ ?_ ?_ ?_ (aC ?_ ?_ ?_ ?_ (bK ?_ (bK ?_ (bK ?_ dG)))))
  ·intro dW jU bC a w G1 kU _ _ aV hc hG HT hv;have H:=HT;clear aV;have Hb:=H.full;have H:=Hb;clear hc;refine kH H (Rf JU O ?_);exact vv
  ·intro dW jU bC a w G1 kU _ _ aV hc hG HT hv;have H:=HT;clear aV;have H:=H.aQ (hv 0 6 (hc 0 Q1) O) O;have Hb:=H.full;have H:=Hb;clear hc;refine kH H (Rg sM O (aK hG (hga 0 _ O)) ?_);exact vv
  ·exact Jz
  ·intro dW jU bC a w G1 kU _ _ aV hc hG HT hv;have H:=HT;clear aV;have Hb:=H.full;have H:=Hb;clear hc;refine kH H (Rf JV O ?_);exact vv
  ·intro dW jU bC a w G1 kU _ _ aV hc hG HT hv;have H:=HT;clear aV;have H:=H.aQ (hv 3 9 (hc 3 Q1) O) O;have Hb:=H.full;have H:=Hb;clear hc;refine kH H (Rg Dc O (aK hG (hga 1 _ O)) ?_);exact vv
  ·exact Jz
  ·intro dW jU bC a w G1 kU _ _ aV hc hG HT hv;have H:=HT;clear aV;have Hb:=H.full;have H:=Hb;clear hc;refine kH H (Rf WB O ?_);exact vv
  ·intro dW jU bC a w G1 kU _ _ aV hc hG HT hv;have H:=HT;clear aV;have H:=H.aQ (hv 6 12 (hc 6 Q1) O) O;have Hb:=H.full;have H:=Hb;clear hc;refine kH H (Rg FM O (aK hG (hga 2 _ O)) ?_);exact vv
  ·intro dW jU bC a w G1 kU _ _ aV hc hG HT hv;have H:=HT;clear aV;have H:=H.aQ (hv 7 13 (hc 7 Q1) O) O;have Hb:=H.full;have H:=Hb;clear hc;refine s_call aro H wn O (aoN _ _ H.ro _ _ _ _ (hs3.mono hG) (by simpa using z3)) O ?_;exact acu
  ·intro dW jU bC a w G1 kU _ _ aV hc hG HT hv;have H:=HT;clear aV;have Hb:=H.full;have H:=Hb;clear hc;refine kH H (Rf WC O ?_);exact vv
  ·intro dW jU bC a w G1 kU _ _ aV hc hG HT hv;have H:=HT;clear aV;have H:=H.aQ (hv 9 15 (hc 9 Q1) O) O;have Hb:=H.full;have H:=Hb;clear hc;refine kH H (Rg zD O (aK hG (hga 3 _ O)) ?_);exact vv
  ·intro dW jU bC a w G1 kU _ _ aV hc hG HT hv;have H:=HT;clear aV;have H:=H.aQ (hv 10 16 (hc 10 Q1) O) O;have Hb:=H.full;have H:=Hb;clear hc;refine s_call arp H wn O (aoP _ _ H.ro _ _ _ _ (hs4.mono hG) (by simpa using z4)) O ?_;clear H;rintro v17 Ay a w Fu E8 H;refine aF ⟨O,?_⟩;exact pQ Z (gK dW) O O HT Hb hG hv E8 (Fu) H
  ·intro dW jU bC a w G1 kU _ _ aV hc hG HT hv;have H:=HT;clear aV;obtain ⟨u8,Bz,oW⟩:=hv 2 8 (hc 2 Q1) O;(try dsimp only at oW);obtain ⟨h8,TJ,Eh,QZ⟩:=oW;obtain ⟨sA,sc,rfl,-,-⟩:=Eh.shape;have H:=H.fV Bz;obtain ⟨OD,Bw,oG⟩:=hv 5 11 (hc 5 Q1) O;(try dsimp only at oG);obtain ⟨h11,LK,Ad,Kh⟩:=oG;obtain ⟨lA,lc,rfl,-,-⟩:=Ad.shape;have H:=H.fV Bw;obtain ⟨u14,N7,xO⟩:=hv 8 14 (hc 8 Q1) O;(try dsimp only at xO);obtain ⟨TP,n14,c14,rfl⟩:=xO.form;have H:=H.fV N7;obtain ⟨u17,awT,Fu⟩:=hv 11 17 (hc 11 Q1) O;(try dsimp only at Fu);obtain ⟨A17,n17,c17,rfl⟩:=Fu.form;have H:=H.fV awT;have Hb:=H.full;have H:=Hb;clear hc;refine kg aBY [_,_,_,_] H wn O O O O ?_;clear H;intro a H;refine aF ⟨O,?_⟩;exact pQ Z (gK dW) O O HT Hb hG hv (fun _ _ h=>h) (⟨_,_,by rw [<- h8,<- h11],xO,Fu⟩) H
  ·exact Jz
  intro _ _ _ _ _ _ _ hB;exact jW
 ·clear H;refine aC ?_ ?_ ?_ ?_ (aC ?_ ?_ ?_ ?_ (aC ?_ ?_ ?_ ?_ (bK ?_ (bK ?_ (bK ?_ dG)))))
  ·intro hB;exact jW
  ·intro hB;exact jW
  ·intro _ dW jU bC a w G1 kU _ hc hG HT hv;have H:=HT;have H:=H.aQ (hv (.bool false,[]) 1 7 Q1 (hc 1 Q1) O) O;have Hb:=H.full;have H:=Hb;clear hc;refine gD arl (Li:=jU) (L:=[]) (H.cast (jV _).symm) wn O (aoW _ _ (wR H.ro) _ _ _ _ (hs1.mono hG) (by simpa using z1)) O ?_;clear H;rintro v8 G8 L8 a w ⟨TJ,Eh,QZ⟩ vE H;rw [bR] at Eh;have H:=H.perm um;refine aF ⟨O,(v8,L8),?_⟩;exact EO Z (gK (zG dW 2 (v8,L8))) O HT Hb hG (fun j e h1 h2 h3=>hv (v8,L8) j e h1 h2 h3) vE (⟨O,TJ,Eh,QZ⟩) H
  ·intro hB;exact jW
  ·intro hB;exact jW
  ·intro _ dW jU bC a w G1 kU _ hc hG HT hv;have H:=HT;have H:=H.aQ (hv (.bool false,[]) 4 10 Q1 (hc 4 Q1) O) O;have Hb:=H.full;have H:=Hb;clear hc;refine gD arn (Li:=jU) (L:=[]) (H.cast (jV _).symm) wn O (aoV _ _ (wR H.ro) _ _ _ _ (hs2.mono hG) (by simpa using z2)) O ?_;clear H;rintro v11 Dl Gg a w ⟨LK,Ad,Kh⟩ lH H;rw [bR] at Ad;have H:=H.perm um;refine aF ⟨O,(v11,Gg),?_⟩;exact EO Z (gK (zG dW 5 (v11,Gg))) O HT Hb hG (fun j e h1 h2 h3=>hv (v11,Gg) j e h1 h2 h3) lH (⟨O,LK,Ad,Kh⟩) H
  ·intro hB;exact jW
  ·intro hB;exact jW
  ·intro hB;exact jW
  ·intro hB;exact jW
  ·intro hB;exact jW
  ·intro hB;exact jW
  ·intro hB;exact jW
  ·intro _ dW jU bC a w G1 kU _ hc hG HT hv;have H:=HT;have Hb:=H.full;have H:=Hb;clear hc;refine dR BX H wn O ?_;clear H;intro b3 a w hb3 H;refine aF ⟨O,((aJ b3 0),[(b3,.cells #[.slice none 0 0,.slice none 0 0,.slice none 0 0,.slice none 0 0] 36 (0,0))]),?_⟩;exact EO Z (gK (zG dW 13 ((aJ b3 0),[(b3,.cells #[.slice none 0 0,.slice none 0 0,.slice none 0 0,.slice none 0 0] 36 (0,0))]))) O HT Hb hG (fun j e h1 h2 h3=>hv ((aJ b3 0),[(b3,.cells #[.slice none 0 0,.slice none 0 0,.slice none 0 0,.slice none 0 0] 36 (0,0))]) j e h1 h2 h3) (fun _ _ h=>h) (⟨b3,O,O⟩) H
  intro hB;exact jW
 clear H;intro dW a w G jA H hv
 simp only [rE,List.flatMap_cons,List.flatMap_nil,cond_true,jV,gY] at H
 obtain ⟨u3,hu3,hp3⟩:=hv 13 3 Q1 O;(try dsimp only at hp3);obtain ⟨b3,rfl,e13⟩:=hp3;have H:=H.fV hu3;obtain ⟨u8,Bz,oW⟩:=hv 2 8 Q1 O;(try dsimp only at oW);obtain ⟨h8,TJ,Eh,QZ⟩:=oW;obtain ⟨sA,sc,rfl,-,-⟩:=Eh.shape;have H:=H.fV Bz;obtain ⟨OD,Bw,oG⟩:=hv 5 11 Q1 O;(try dsimp only at oG);obtain ⟨h11,LK,Ad,Kh⟩:=oG;obtain ⟨lA,lc,rfl,-,-⟩:=Ad.shape;have H:=H.fV Bw;obtain ⟨u18,Yc,NK⟩:=hv 12 18 Q1 O;(try dsimp only at NK);obtain ⟨aEt,aEu,rfl,hc18,agM⟩:=NK;obtain ⟨eA,en,ec,rfl⟩:=hc18.form;obtain ⟨fA,fn,fc,rfl⟩:=agM.form;have H:=H.fV Yc;clear hv;obtain ⟨⟨vS,LS⟩,eS⟩:∃ y,y=dW 2:=⟨_,O⟩;obtain ⟨⟨vL,LL⟩,eL⟩:∃ y,y=dW 5:=⟨_,O⟩;rw [<- eS,<- eL,e13] at H;rw [<- eS] at Eh h8;rw [<- eL] at Ad h11;dsimp only at H Eh Ad h8 h11;subst h8;subst h11;rw [<- gY] at H;have H:=H.perm (um (l₁:=LS++LL) (l₂:=[_,_]));dsimp only [lca,bD] at H;refine bM BX 0 (vs:=[_,_,_,_]) H wn O ?_;clear H;intro w H;refine aF ⟨O,?_⟩;refine K2 _ _ ?_;clear K2;refine kP H (SQ fun _ K3=>SR fun _ K4=>aU JU sM 0 O O (Rl mq O (Rm O (Kz K4 (SB ?_)))));clear H K4;intro a H;skip;refine eO (ι:=Nat × List ah × OL × GH) (Tc:=[(2,_),(3,_),(21,_)]) (Lc:=[(_,_),(_,_)]) (fun gh=>[(22,vi gh.1)]) (fun gh=>[]++(gh.2.2.1++LL)) (fun gh=>gh.2.2.2) (fun gh=>gh.1<=s.styles.length∧bV 183 6 (.slice sA s.styles.length sc) s.styles.length gh.2.1 gh.2.2.1∧bT gh.2.2.2 6 (s.styles.map cB.dat) gh.2.1∧(∀ b o,G b=some o->gh.2.2.2 b=some o)) (fun gh=>s.styles.length - gh.1) ((0,TJ,LS,G)) (by exact H.sub ⟨O,O,O,O,aB⟩) ?_ ?_
 ·exact ⟨jL _,Eh,QZ,fun _ _ h=>h⟩
 clear H;rintro ⟨k,xs,Lo,g⟩ a w hI H;dsimp only at hI H;obtain ⟨hk,hrw,fZ,hgm⟩:=hI;dsimp only [lca,bD] at H;refine kP H (SR fun _ K5=>Rc O (Kz K5 (SQ fun _ K6=>Cd O ?_ ?_))) <;> clear H K5
 ·intro h23 a H
  try have qL:=dT h23
  have hk2:k < s.styles.length:=by omega
  obtain ⟨bs,rfl⟩:=hrw.ptr V;obtain ⟨pA,pc,hpx,hpr⟩:=aB2 fZ hk2;obtain ⟨cur,-,rfl,hcur,hset⟩:=hrw.set1;have hpz:=z5 _ (jl hk2);refine kP H (Kc K6 (SQ fun _ K7=>SB (SR fun _ K8=>Rm O (au K8 O ?_))));clear H K6 K8;intro a H
  have Cy:wu (fun (dK:Nat) (v:ah) (G:GH)=>match dK with|0=>v=(aJ b3 0)|1=>v=.slice (some ⟨bs,0,none⟩) s.styles.length sc|2=>v=vi k|3=>v=(aJ b3 0)|4=>v=.slice (some ⟨bs,0,none⟩) s.styles.length sc|5=>v=vi k|6=>v=(aJ bs (0+k*6))|7=>v=(aJ bs (0+k*6+5))|8=>v=.slice pA s.styles[k].props.length pc|9=>av G (.sl 2 (s.styles[k].props.map jf.dat)) v|_=>True):=by intro dK v G G' hm h;(iterate 13 (rcases dK with _|dK;(first|exact h|exact av.mono hm h)));exact trivial
  refine xC (hmx) [[],[0],[],[],[3],[],[3,4,5],ra 3 4,ra 3 5,ra 3 6,ra 0 10,ra 0 11,ra 0 12] [10,11,12] Z Z _ Cy H ?_ ?_
  ·clear H;refine aC ?_ ?_ ?_ ?_ (aC ?_ ?_ ?_ ?_ (aC ?_ ?_ (bQ O) (bQ O) (bK (bQ O) dG)))
   ·exact adq
   ·refine dB [(0,25,_)] O ⟨fun _ _ h=>h,aB⟩ Z Cy O O ?_;exact acn
   ·refine dB [] O trivial Z Cy O O ?_;exact EL
   ·exact adq
   ·refine dB [(3,28,_)] O ⟨fun _ _ h=>h,aB⟩ Z Cy O O ?_;exact acn
   ·refine dB [] O trivial Z Cy O O ?_;exact EL
   ·refine dB [(4,29,_),(5,30,_)] O ⟨fun _ _ h=>h,fun _ _ h=>h,aB⟩ Z Cy O O ?_;intro bC a w G1 hG HT H fin;exact kH H (Ri mq kr O O fun _ H=>fin H iJ O)
   ·refine dB [(6,31,_)] O ⟨fun _ _ h=>h,aB⟩ Z Cy O O ?_;intro bC a w G1 hG HT H fin;exact kH H (Rf QA O fun _ H=>fin H iJ O)
   ·refine dB [(7,32,_)] O ⟨fun _ _ h=>h,aB⟩ Z Cy O O ?_;intro bC a w G1 hG HT H fin;refine tQ BS H wn O (hrw.at H.hp (fun x hx=>gH _ (gH _ (List.mem_append_left _ hx))) (by rw [fO];exact hpx)) O ?_;exact iX
   refine dB [(8,33,_)] O ⟨fun _ _ h=>h,aB⟩ Z Cy O O ?_;intro bC a w G1 hG HT H fin;refine s_call aeW H wn O (adY _ _ H.ro _ _ _ _ (hpr.mono hG) (by simpa using hpz)) O ?_;clear H;rintro v34 G34 a w NP atZ H;exact fin H atZ (NP)
  clear H;intro a w G Bn H hv;have H:=H.aQ (hv 1 26 O O) O;have H:=H.aQ (hv 2 27 O O) O;obtain ⟨u34,awU,NP⟩:=hv 9 34 Q1 O;(try dsimp only at NP);obtain ⟨I4,n34,c34,rfl⟩:=NP.form;have H:=H.fV awU;clear hv;refine kH H (Ri mq kr O O (Rf QA O ?_));clear H;intro a H;refine zy BS 2 (c:=cur) (vs:=[.slice I4 n34 c34]) (cur.set (k*6+5) (.slice I4 n34 c34)) H wn O O O O O O (by simp;omega) (by rw [fO];rfl) ?_;clear H;intro w H;dsimp only [List.set,List.cons_append,List.nil_append] at H;have hrwn:=hset (k*6+5) (.slice I4 n34 c34);have Xz:=(fZ.mono Bn).setAt (i:=k) (k:=5) (r:=s.styles[k].dat) (v:=.slice I4 n34 c34) (by simp [hk2]) O Q1 NP;refine aF ⟨O,?_⟩;refine K7 _ _ ?_;clear K7;refine kP H (SC (Rd O (Rm O ?_)));clear H;intro a H;refine aF ?_;refine dS ((k+1,xs.set (k*6+5) (.slice I4 n34 c34),[(bs,.cells (cur.set (k*6+5) (.slice I4 n34 c34)).toArray 183 (0,0))],_)) (by exact H.sub ⟨O,O,O,O,aB⟩) ?_
  (try dsimp only);exact ⟨V,hrwn,Xz,fun b o h=>Bn b o (hgm b o h)⟩
 intro h23 a H
 try have qL:=dF h23
 obtain rfl:k=s.styles.length:=by omega
 refine dX ?_;refine K3 _ _ ?_;clear K3;refine kP H (SQ fun _ K9=>SR fun _ aT=>aU JV Dc 0 O O (Rl xY O (Rm O (Kz aT (SB ?_)))));clear H aT;intro a H;skip;refine eO (ι:=Nat × List ah × OL × GH) (Tc:=[(2,_),(3,_),(40,_)]) (Lc:=[(_,_),(_,_)]) (fun gh=>[(41,vi gh.1)]) (fun gh=>[]++(Lo++gh.2.2.1)) (fun gh=>gh.2.2.2) (fun gh=>gh.1<=s.lists.length∧bV 186 2 (.slice lA s.lists.length lc) s.lists.length gh.2.1 gh.2.2.1∧bT gh.2.2.2 2 (s.lists.map fK.dat) gh.2.1∧(∀ b o,g b=some o->gh.2.2.2 b=some o)) (fun gh=>s.lists.length - gh.1) ((0,LK,LL,g)) (by exact H.sub ⟨O,O,O,O,aB⟩) ?_ ?_
 ·exact ⟨jL _,Ad,Kh.mono hgm,fun _ _ h=>h⟩
 clear H;rintro ⟨k2,xs2,Mc,g2⟩ a w hI H;dsimp only at hI H;obtain ⟨hk2,hrw2,Ki,mM⟩:=hI;dsimp only [lca,bD] at H;refine kP H (SR fun _ bJ=>Rc O (Kz bJ (SQ fun _ bO=>Cd O ?_ ?_))) <;> clear H bJ
 ·intro jy a H
  try have p42:=dT jy
  have hk3:k2 < s.lists.length:=by omega
  obtain ⟨bl,rfl⟩:=hrw2.ptr V;obtain ⟨qA,qn,qc,hqx,hqr⟩:=axS Ki hk3;obtain ⟨VX,-,rfl,aDE,awJ⟩:=hrw2.set1;have hqz:=z6 _ (jl hk3);refine kP H (Kc bO (SQ fun _ bU=>SB (SR fun _ bZ=>Rm O (au bZ O ?_))));clear H bO bZ;intro a H
  have Cx:wu (fun (dK:Nat) (v:ah) (G:GH)=>match dK with|0=>v=(aJ b3 1)|1=>v=.slice (some ⟨bl,0,none⟩) s.lists.length lc|2=>v=vi k2|3=>v=(aJ b3 1)|4=>v=.slice (some ⟨bl,0,none⟩) s.lists.length lc|5=>v=vi k2|6=>v=(aJ bl (0+k2*2))|7=>v=(aJ bl (0+k2*2+1))|8=>v=.slice qA qn qc|9=>av G (.sl 4 (s.lists[k2].levels.map pI.dat)) v|_=>True):=by intro dK v G G' hm h;(iterate 13 (rcases dK with _|dK;(first|exact h|exact av.mono hm h)));exact trivial
  refine xC (hmx) [[],[0],[],[],[3],[],[3,4,5],ra 3 4,ra 3 5,ra 3 6,ra 0 10,ra 0 11,ra 0 12] [10,11,12] Z Z _ Cx H ?_ ?_
  ·clear H;refine aC ?_ ?_ ?_ ?_ (aC ?_ ?_ ?_ ?_ (aC ?_ ?_ (bQ O) (bQ O) (bK (bQ O) dG)))
   ·exact adp
   ·refine dB [(0,44,_)] O ⟨fun _ _ h=>h,aB⟩ Z Cx O O ?_;exact aco
   ·refine dB [] O trivial Z Cx O O ?_;exact EL
   ·exact adp
   ·refine dB [(3,47,_)] O ⟨fun _ _ h=>h,aB⟩ Z Cx O O ?_;exact aco
   ·refine dB [] O trivial Z Cx O O ?_;exact EL
   ·refine dB [(4,48,_),(5,49,_)] O ⟨fun _ _ h=>h,fun _ _ h=>h,aB⟩ Z Cx O O ?_;intro bC a w G1 hG HT H fin;exact kH H (Ri xY BP O O fun _ H=>fin H iJ O)
   ·refine dB [(6,50,_)] O ⟨fun _ _ h=>h,aB⟩ Z Cx O O ?_;intro bC a w G1 hG HT H fin;exact kH H (Rf WA O fun _ H=>fin H iJ O)
   ·refine dB [(7,51,_)] O ⟨fun _ _ h=>h,aB⟩ Z Cx O O ?_;intro bC a w G1 hG HT H fin;refine tQ ZW H wn O (hrw2.at H.hp (fun x hx=>gH _ (gH _ (List.mem_append_right _ hx))) (by rw [fO];exact hqx)) O ?_;exact iX
   refine dB [(8,52,_)] O ⟨fun _ _ h=>h,aB⟩ Z Cx O O ?_;intro bC a w G1 hG HT H fin;refine s_call arq H wn O (aoO _ _ H.ro _ _ _ _ (hqr.mono hG) (by simpa using hqz)) O ?_;clear H;rintro v53 G53 a w NQ Xn H;exact fin H Xn (NQ)
  clear H;intro a w G wM H hv;have H:=H.aQ (hv 1 45 O O) O;have H:=H.aQ (hv 2 46 O O) O;obtain ⟨u53,awV,NQ⟩:=hv 9 53 Q1 O;(try dsimp only at NQ);obtain ⟨I5,n53,c53,rfl⟩:=NQ.form;have H:=H.fV awV;clear hv;refine kH H (Ri xY BP O O (Rf WA O ?_));clear H;intro a H;refine zy ZW (2+Lo.length) (c:=VX) (vs:=[.slice I5 n53 c53]) (VX.set (k2*2+1) (.slice I5 n53 c53)) H wn O (ail [_,_] Lo _) O O O O (by simp;omega) (by rw [fO];rfl) ?_;clear H;intro w H;have H:=H.cast (akD [_,_] Lo _ _);have awG:=awJ (k2*2+1) (.slice I5 n53 c53);have avb:=(Ki.mono wM).setAt (i:=k2) (k:=1) (r:=s.lists[k2].dat) (v:=.slice I5 n53 c53) (by simp [hk3]) O Q1 NQ;refine aF ⟨O,?_⟩;refine bU _ _ ?_;clear bU;refine kP H (SC (Rd O (Rm O ?_)));clear H;intro a H;refine aF ?_;refine dS ((k2+1,xs2.set (k2*2+1) (.slice I5 n53 c53),[(bl,.cells (VX.set (k2*2+1) (.slice I5 n53 c53)).toArray 186 (0,0))],_)) (by exact H.sub ⟨O,O,O,O,aB⟩) ?_
  (try dsimp only);exact ⟨V,awG,avb,fun b o h=>wM b o (mM b o h)⟩
 intro jy a H
 try have p42:=dF jy
 obtain rfl:k2=s.lists.length:=by omega
 refine dX ?_;refine K9 _ _ ?_;clear K9;refine dH (fun _ dP=>?_);refine bq BX (cs:=[_,_,_,_]) H wn O O (H.hp.dD 0 O O) O ?_;clear H;intro a H;refine bM BX 1 (vs:=[_,_,_,_]) H wn O ?_;clear H;intro w H;refine dP _ _ ?_;clear dP;refine gu ?_;have H:=H.un (A:=[_,_]);obtain ⟨Gr,hmr,awo,H⟩:=St.qF (Li:=[_,_]++Lo) H hrw2 (rows:=s.lists.map fK.dat) (by simp) Ki;obtain ⟨Gs,hms,awn,H⟩:=St.qF (Li:=[_,_]) H hrw (rows:=s.styles.map cB.dat) (by simp) ((fZ.mono mM).mono hmr);refine (leave1 H results191 (.cons (vX BX (cs:=[_,_,_,_]) H O O (H.hp.dD 1 O O)) .nil) ?_).1;exact H.rt ⟨_,_,_,_,O,awn,awo.mono hms,(((hc18.mono hgm).mono mM).mono hmr).mono hms,(((agM.mono hgm).mono mM).mono hmr).mono hms⟩
end Go.Proofs.YtggpjlchglgodaaGreat
