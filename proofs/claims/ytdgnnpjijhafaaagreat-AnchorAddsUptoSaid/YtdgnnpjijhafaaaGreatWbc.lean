/-
  What the claim stands on, part 3: Dl Lfl Dv Lpc Scn By Lps Lcl Dst Sty Stz Dsc Mi Ro Ri Chn Chk Dsv Mq Nck Cid Mt Hdr.
-/
import Derived.Test.YtdgnnpjijhafaaaGreatWbb
import Derived.Lib.ConvBytes
namespace Go.Proofs.YtdgnnpjijhafaaaGreat
set_option linter.all false
open Go.Proofs.Tryz
open Go.RowKit
section
section
variable{N:Nat}{D:List Deferred}{w0:World}{F:Nat->Prop}{G0 G G1 G2:GH}{L L1 L2:OL}{T Xs:List (Nat×aj)}
variable{r:Option Nat}{P:Program}{Q:Exit->Act->World->Prop}{l:List Oper}{a a':Act}{w w':World}
theorem Co{pr:Nat->aj->GH->Prop}{S:Nat->Bool}{i d:Nat}{v:aj}(hok:pz l T i=true)(jG:∀i v(G G':GH),(∀k o,G k=some o->G' k=some o)->pr i v G->pr i v G')(hi:dZ l i=some d)
  (HT:St N D w0 F G0 G1 L T a w)(Hb:St N D w0 F G0 G1 L (Xs++full N a) a w)(hG:∀k o,G k=some o->G1 k=some o)(hv:∀j d,j≠i->S j=true->dZ l j=some d->∃v,a.tmps[d]?=some v∧pr j v G1)
  (hG2:∀k o,G1 k=some o->G2 k=some o)(hp:pr i v G2)(H:St N D w0 F G0 G2 L1 ((d,v)::(Xs++full N a)) a' w'):DX N D w0 F G0 G L1 T l pr (dD S i) a' w':=by
 have hok1:=hok
 rw[pz,hi]at hok1
 simp only[kV,Option.isNone_iff_eq_none,lM,qo]at hok1
 have hsame:∀t,t≠d->a'.tmps[t]?=a.tmps[t]?:=by
  intro t ht
  by_cases hlt:t<N
  ·have h1:∃u,lk (Xs++full N a) t=some u:=by
    rw[KL]
    cases lk Xs t with
    |some u=>exact⟨u,M⟩
    |none=>exact⟨_,V5 a hlt⟩
   obtain⟨u,hu⟩:=h1
   rw[Hb.get t u hu,H.get t u (by rw[gL<|Ne.symm ht];exact hu)]
  ·rw[Array.getElem?_eq_none (by rw[H.nX];omega),Array.getElem?_eq_none (by rw[Hb.nX];omega)]
 refine⟨G2,fun k o hk=>hG2 k o (hG k o hk),⟨H.nX,fun t u ht=>?_,H.uS,H.hp⟩,fun j e hj he=>?_⟩
 ·rw[hsame t (fun e=>by rw[e,hok1.1]at ht;cases ht)]
  exact HT.get t u ht
 ·by_cases hji:j=i
  ·subst hji
   rw[hi]at he
   simp only[oW]at he
   subst he
   exact⟨v,H.get d v (mq _ _ _),hp⟩
  ·have hSj:S j=true:=by unfold dD at hj;rwa[au hji]at hj
   obtain⟨u,hu1,hu2⟩:=hv j e hji hSj he
   have hne:e≠d:=by
    intro e'
    subst e'
    have h2:=hok1.2 j<|rR he
    rw[qY (fun h=>hji h.symm),he]at h2
    simp at h2
   exact⟨u,by rw[hsame e hne];exact hu1,jG j u _ _ hG2 hu2⟩
theorem auX{id:Nat}{κ:Type}(k0:κ)(hm:P.follows .mixedOrders=true)(bK:List (List Nat))(B:List Nat)(hk:xO l bK=true)(hB:yx l bK B=true)(m1 m2 m3:Nat)(aCM:B.contains m1=false)(Vx:B.contains m2=false)(aCN:B.contains m3=false)(hne:Nat.beq m1 m2=false)(amR:Nat.beq m2 m3=false)(hne1:Nat.beq m1 m3=false)(h12:(bK.getD m2 []).contains m1=true)(iA:(bK.getD m3 []).contains m1=true)(h23:(bK.getD m3 []).contains m2=true)
  (C L2:OL)(ob:Obj)(L3:Nat->κ->OL)(hC:∀x,x∈C->x∈L)(hC2:∀x,x∈C->x∈L2)(hC3:∀b k x,x∈C->x∈L3 b k)(pr:Nat->κ->Nat->aj->GH->Prop)
  (aC6:∀b b' k i v G,Nat.beq i m2=false->(bK.getD i []).contains m2=false->pr b k i v G->pr b' k i v G)
  (aC7:∀b k k' i v G,Nat.beq i m3=false->(bK.getD i []).contains m3=false->pr b k i v G->pr b k' i v G)
  (H:St N D w0 F G0 G L T a w)
  (hstep:allI (fun i o=>∀b k L' S a w G1,(∀x,x∈C->x∈L')->B.contains i=false->Nat.beq i m1=false->Nat.beq i m2=false->Nat.beq i m3=false->S i=false->(∀j∈bK.getD i [],S j=true)->(∀k o,G k=some o->G1 k=some o)->St N D w0 F G0 G1 L' T a w->(∀i d,S i=true->dZ l i=some d->∃v,a.tmps[d]?=some v∧pr b k i v G1)->
   WL r P l.toArray (fun e a' w'=>e=.normal∧DX N D w0 F G0 G L' T l (pr b k) (dD S i) a' w') [o] a w) 0 l)
  (QV:∀o b k S a w G1,l[m1]?=some o->S m1=false->(∀j∈bK.getD m1 [],S j=true)->(∀k o,G k=some o->G1 k=some o)->St N D w0 F G0 G1 L T a w->(∀i d,i≠m1->S i=true->dZ l i=some d->∃v,a.tmps[d]?=some v∧pr b k i v G1)->
   WL r P l.toArray (fun e a' w'=>e=.normal∧DX N D w0 F G0 G L2 T l (pr b k) (dD S m1) a' w') [o] a w)
  (QW:∀o k S a w G1,l[m2]?=some o->S m2=false->(∀j∈bK.getD m2 [],S j=true)->(∀k o,G k=some o->G1 k=some o)->St N D w0 F G0 G1 L2 T a w->(∀b i d,i≠m2->S i=true->dZ l i=some d->∃v,a.tmps[d]?=some v∧pr b k i v G1)->
   WL r P l.toArray (fun e a' w'=>e=.normal∧∃b,DX N D w0 F G0 G ((b,ob)::L2) T l (pr b k) (dD S m2) a' w') [o] a w)
  (aCP:∀o b S a w G1,l[m3]?=some o->S m3=false->(∀j∈bK.getD m3 [],S j=true)->(∀k o,G k=some o->G1 k=some o)->St N D w0 F G0 G1 ((b,ob)::L2) T a w->(∀k i d,i≠m3->S i=true->dZ l i=some d->∃v,a.tmps[d]?=some v∧pr b k i v G1)->
   WL r P l.toArray (fun e a' w'=>e=.normal∧∃k,DX N D w0 F G0 G (L3 b k) T l (pr b k) (dD S m3) a' w') [o] a w)
  (hend:∀b k a w G1,(∀k o,G k=some o->G1 k=some o)->St N D w0 F G0 G1 (L3 b k) T a w->(∀i d,B.contains i=false->dZ l i=some d->∃v,a.tmps[d]?=some v∧pr b k i v G1)->WL r P l.toArray (fun e a w=>e=.normal∧Q .normal a w) (qM l B) a w)
  (FQ:Nat.blt m2 l.length=true)(abT:Nat.blt m3 l.length=true):WP r P (.region id l.toArray true) Q a w:=by
 have aoO:m1≠m2:=fun e=>by subst e;rw[Nat.beq_refl]at hne;cases hne
 have aoQ:m2≠m3:=fun e=>by subst e;rw[Nat.beq_refl]at amR;cases amR
 have aoP:m1≠m3:=fun e=>by subst e;rw[Nat.beq_refl]at hne1;cases hne1
 refine JG hm bK B hk hB (fun S a w=>(S m2=true->S m1=true)∧(S m3=true->S m2=true)∧∃b k L',L'=(bif S m3 then L3 b k else bif S m2 then(b,ob)::L2 else bif S m1 then L2 else L)∧DX N D w0 F G0 G L' T l (pr b k) S a w)
  ⟨fun h=>h,fun h=>h,0,k0,L,M,G,fun _ _ h=>h,H.move H.hp.drew,fun _ _ h=>absurd (show false=true from h) Z⟩ ?_ ?_
 ·rintro i o S a w ho hb aM jA hdesc ⟨FR,aC1,b,k,L',hL,G1,hG,HS,hv⟩
  have hsub:∀x,x∈C->x∈L':=fun x hx=>by
   rw[hL]
   cases S m3 with
   |true=>exact hC3 b k x hx
   |false=>cases S m2 with
    |true=>exact gH _<|hC2 x hx
    |false=>cases S m1 with
     |true=>exact hC2 x hx
     |false=>exact hC x hx
  have hno:∀j,j<l.length->S j=true->(bK.getD j []).contains i=false:=fun j hjl hj=>by
   cases hc:(bK.getD j []).contains i with
   |false=>rfl
   |true=>
    have:=hdesc j hjl (by simpa using hc)
    rw[this]at hj;cases hj
  by_cases h1:i=m1
  ·subst h1
   have hS2:S m2=false:=hdesc m2 (Eq.mp Nat.blt_eq FQ) (by simpa using h12)
   have Nc:S m3=false:=hdesc m3 (Eq.mp Nat.blt_eq abT) (by simpa using iA)
   rw[Nc,hS2,aM]at hL
   subst hL
   have h:=QV o b k S a w G1 ho aM jA hG HS fun j d hj hSj hd=>hv j d hSj hd
   have e2:dD S i m2=S m2:=au<|fun e=>aoO e.symm
   have e3:dD S i m3=S m3:=au<|fun e=>aoP e.symm
   refine mU (fun e a' w'⟨he,hD⟩=>⟨he,fun _=>ay M,fun h=>(by rw[e3,Nc]at h;cases h),b,k,_,?_,hD⟩) h
   rw[show dD S i i=true from ay M,e2,e3,hS2,Nc]
   rfl
  ·by_cases h2:i=m2
   ·subst h2
    have hS1:S m1=true:=jA m1 (by simpa using h12)
    have Nc:S m3=false:=hdesc m3 (Eq.mp Nat.blt_eq abT) (by simpa using h23)
    rw[Nc,aM,hS1]at hL
    subst hL
    have e1:dD S i m1=S m1:=au aoO
    have e3:dD S i m3=S m3:=au<|fun e=>aoQ e.symm
    have h:=QW o k S a w G1 ho aM jA hG HS fun b' j d hj hSj hd=>by
     obtain⟨v,hv1,hv2⟩:=hv j d hSj hd
     exact⟨v,hv1,aC6 b b' k j v _ (qY hj) (hno j (rR hd) hSj) hv2⟩
    refine mU (fun e a' w'⟨he,b',hD⟩=>⟨he,fun _=>by rw[e1];exact hS1,fun _=>ay M,b',k,_,?_,hD⟩) h
    rw[show dD S i i=true from ay M,e3,Nc];rfl
   ·by_cases h3:i=m3
    ·subst h3
     have hS1:S m1=true:=jA m1 (by simpa using iA)
     have hS2:S m2=true:=jA m2 (by simpa using h23)
     rw[aM,hS2]at hL
     subst hL
     have e1:dD S i m1=S m1:=au aoP
     have e2:dD S i m2=S m2:=au aoQ
     have h:=aCP o b S a w G1 ho aM jA hG HS fun k' j d hj hSj hd=>by
      obtain⟨v,hv1,hv2⟩:=hv j d hSj hd
      exact⟨v,hv1,aC7 b k k' j v _ (qY hj) (hno j (rR hd) hSj) hv2⟩
     refine mU (fun e a' w'⟨he,k',hD⟩=>⟨he,fun _=>by rw[e1];exact hS1,fun _=>by rw[e2];exact hS2,b,k',_,?_,hD⟩) h
     rw[show dD S i i=true from ay M];rfl
    ·have h:=zM hstep i o ho
     rw[fB]at h
     have e1:dD S i m1=S m1:=au<|fun e=>h1 e.symm
     have e2:dD S i m2=S m2:=au<|fun e=>h2 e.symm
     have e3:dD S i m3=S m3:=au<|fun e=>h3 e.symm
     refine mU (fun e a' w'⟨he,hD⟩=>⟨he,by rw[e1,e2];exact FR,by rw[e2,e3];exact aC1,b,k,L',?_,hD⟩)<|h b k L' S a w G1 hsub hb (qY h1) (qY h2) (qY h3) aM jA hG HS hv
     rw[e1,e2,e3];exact hL
 ·rintro S a w hall Nt ⟨_,_,b,k,L',hL,G1,hG,HS,hv⟩
  have hs3:S m3=true:=hall m3 (Eq.mp Nat.blt_eq abT) aCN
  rw[hs3]at hL
  subst hL
  exact hend b k a w G1 hG HS fun j d hb hd=>hv j d (hall j (rR hd) hb) hd
end
theorem aIq{z:Int}(h1:0<=z)(h2:z<256):IntKind.u8.wrap z=z:=by
 simp only[IntKind.wrap,IntKind.bits,IntKind.signed,Bool.false_and,zJ,if_false]
 omega
section
variable{N:Nat}{D:List Deferred}{w0:World}{F:Nat->Prop}{G0 G:GH}{L:OL}{T:List (Nat×aj)}
variable{r:Option Nat}{P:Program}{ops:Array Oper}{Q:Exit->Act->World->Prop}{rest:List Oper}{a:Act}{w:World}
variable{d:Nat}{ty:TypeId}{pos:String}{aT:Array Edge}{g:Option (Nat×Bool)}
theorem aHg{x y:Operand}{t yt:TypeId}{p q:Int}(H:St N D w0 F G0 G L T a w)(hw:Region.wanted ⟨some d,.binOp .sub t x y yt,ty,pos,aT,g⟩ (yielded ops a.tmps)=true)(hx:ev T x=some (.int .u8 p))(hy:ev T y=some (.int .u8 q))(h1:0<=p-q)(h2:p-q<256)(hd:Nat.blt d N=true)
  (k:∀a',St N D w0 F G0 G L ((d,.int .u8<|p-q)::T) a' w->WL r P ops Q rest a' w):WL r P ops Q (⟨some d,.binOp .sub t x y yt,ty,pos,aT,g⟩::rest) a w :=
 fH (v:=.int .u8<|p-q) (w':=w) hw M (by simp[execOp,eqGuard,binOp,Op.intArith,H.ev hx,H.ev hy,dP,aIq h1 h2]) (k _<|H.put hd _ H.hp)
end
end
theorem ayQ:aW 272:=aX func272 M
theorem Si:Ty prog 304 1 24 [.slice none 0 0] false:=⟨V,V⟩
theorem aaC:aW 76:=aX func76 M
theorem OG:prog.underlying 304=some (.slice 309):=by kernel_rfl
theorem OA:Ty prog 309 3 32 [.string ⟨#[]⟩,.int .i64 0,.bool false] true:=⟨V,V⟩
theorem ayR:aW 273:=aX func273 M
theorem Qm:dG prog 338 2 2:=⟨V⟩
theorem Qn:dG prog 338 3 4:=⟨V⟩
theorem aqW:sO prog 309 [(0,1),(1,1),(2,1)] [.string ⟨#[]⟩,.int .i64 0,.bool false]:=⟨V,V⟩
theorem aax:aW 258:=aX func258 M
theorem aaJ:dG prog 338 4 5:=⟨V⟩
structure jV where
 lit:ByteArray
 level:Int
 plain:Bool
def jV.dat(x:jV):List Dat:=[.lf (.string x.lit),li x.level,.lf (.bool x.plain)]
abbrev jV.cells(x:jV):List aj:=[.string x.lit,vi x.level,.bool x.plain]
theorem aga {p:Prop} (h:p:=by
 exact ⟨_,_,M,by simp [av,Value.oneCell'],_,_,M,by simp [av,Value.oneCell'],_,_,M,by simp [av,Value.oneCell'],M⟩):p:=h
theorem aos(G:GH)(x:jV):bg G x.dat x.cells:=by
 simp only[jV.dat,jV.cells,bg]
 exact aga
theorem ahi {p:Prop} (h:p:=by
 obtain⟨_,_,rfl,⟨rfl,_⟩,_,_,rfl,⟨rfl,_⟩,_,_,rfl,⟨rfl,_⟩,rfl⟩:=h
 rfl):p:=h
theorem aor{G:GH}{x:jV}{cs:List aj}(h:bg G x.dat cs):cs=x.cells:=by
 simp only[jV.dat,bg,av]at h
 exact ahi
def KN(l:List jV):List aj:=(l.map jV.cells).flatten
theorem aoq(l:List jV)(x:jV):KN (l++[x])=KN l++x.cells:=by simp[KN]
structure DW(b:Nat)(lit:List UInt8)(parts:List jV)(p v q:aj)(Lp Lo:OL):Prop where
 ptr:p=.pointer none∨p=(aK b 2)
 buf:bT 5 1 v lit.length (Lib.byteCells lit) Lo
 prt:bT 309 3 q parts.length (KN parts) Lp
def Ad(lit:List UInt8)(parts:List jV):List jV:=if lit=[]then parts else parts++[⟨⟨lit.toArray⟩,0,false⟩]
theorem auz {p:Prop} (h:p:=by
 exact Ht HT Hb hG hv (iq bP dx) H M):p:=h
theorem jC {p:Prop} (h:p:=by
 exact absurd hB Z):p:=h
theorem Tx {p:Prop} (h:p:=by
 exact ajC V M HT Hb hG (fun j e h1 h2 h3=>hv _ j e h1 h2 h3) (rfl) H):p:=h
theorem agc {p:Prop} (h:p:=by
 first
  |exact H.hp.lU (L':=jg b s i _ _ _ pl e::dx.2) (E5 _ _) ⟨_,_,_,dx.2,[],by rw[iR],⟨.inl M,bT.nil,by rw[Ad,au hne];simpa using Kt⟩⟩
  | exact H.hp.gX ⟨_,_,_,Lp,Lo,by rw [uY],by
    have h0:lit=[]:=by
     cases lit with
     |nil=>rfl
     |cons x r=>simp at p6
    subst h0;exact ⟨aC9,hbuf,by rw [Ad,ay M];exact abZ⟩⟩):p:=h
theorem JB {p:Prop} (h:p:=by
 clear H;intro a H;refine aI ⟨M,?_⟩;exact auz):p:=h
theorem Fg {p:Prop} (h:p:=by
 intro _ _ _ _ _ _ _ _ hB;exact jC):p:=h
theorem TQ {p:Prop} (h:p:=by
 intro _ _ _ _ _ _ _ _ _ hB;exact jC):p:=h
theorem Zc {p:Prop} (h:p:=by
 intro _ _ _ _ _ _ _ _ _ _ _ hB;exact jC):p:=h
theorem Zh {p:Prop} (h:p:=by
 intro bP dx gI aZ a w G1 gU _ _ _ _ aM hc hG HT hv;have H:=HT;clear aM;have Hb:=H.full;have H:=Hb;clear hc;refine kH H (Rm M ?_);exact JB):p:=h
set_option maxHeartbeats 1000000 in
theorem aaV(G:GH)(Lp Lo:OL)(w0:World)(b:Nat)(s:ByteArray)(i:Int)(p v q:aj)(pl e:Int)(lit:List UInt8)(parts:List jV)(hR:DW b lit parts p v q Lp Lo)(hO:fZ G (jg b s i p v q pl e::(Lp++Lo)) w0)(hl:lit.length<=4294967296)(hp:parts.length<=4294967296) :
  Calls prog 258 #[aK b 0] w0 (fG w0 G (jg b s i p v q pl e::(Lp++Lo)) fun u G' L'=>∃p' v' q' tZ gP,L'=jg b s i p' v' q' pl e::(tZ++gP)∧DW b [] (Ad lit parts) p' v' q' tZ gP):=by
 obtain⟨aC9,hbuf,abZ⟩:=hR;have hml:maxLen=9223372036854775807:=rfl;obtain⟨A,c,rfl,anB,anC⟩:=hbuf.shape;obtain⟨B,d,rfl,ana,anb⟩:=abZ.shape;obtain⟨Lt,uY⟩:∃x,x=Lp++Lo:=⟨_,M⟩;rw[<-uY]at hO|-;refine iY (N:=25) (T:=[(0,_)]) func258 M ntmps258 M M hO<|SR fun _ K1=>Rm M<|Rk M<|Rf Qm M fun a H=>gM ayQ (Li:=[]) (L:=jg b s i p (.slice A lit.length c) (.slice B parts.length d) pl e::Lt) H wn M (aHK _ _ _ b s i p A lit.length c B parts.length d pl e<|Hp.owns (Li:=[]) H.hp) M ?_;clear H;rintro v5 _ L5 a w ⟨rfl,rfl,rfl⟩ hm5 H;dsimp only[List.nil_append]at H;refine kH H (Rc M<|Kz K1<|Cd M ?_ ?_)<;>clear H K1
 ·intro h6 a H
  try have p6:=dT h6
  have hne:lit≠[]:=fun e=>by rw[e]at p6;simp at p6
  subst uY;refine bU<|fun _ K1=>?_
  have iq:Yd (fun(bP:Nat)(dx:(Option Addr×Nat)×OL)(cu:Nat)(v:aj)(G:GH)=>match cu with|0=>v=(aK b 0)|1=>v=(aK b 0)|2=>v=(aK b 0)|3=>v=(aK b 4)|4=>v=.slice B parts.length d|5=>v=(aK b 0)|6=>v=(aK b 0)|7=>v=(aK b 2)|8=>v=.string ⟨lit.toArray⟩|9=>v=.agg (jV.cells ⟨⟨lit.toArray⟩,0,false⟩).toArray|10=>v=.slice (some ⟨bP,0,none⟩) 1 1|11=>v=.slice dx.1.1 (parts.length+1) dx.1.2∧bT 309 3 v (parts.length+1) (KN<|parts++[⟨⟨lit.toArray⟩,0,false⟩]) dx.2|_=>True):=by intro bP dx cu v G G' hm h;(iterate 15 (rcases cu with _|cu;(first|exact h)));exact trivial
  refine auX (κ:=(Option Addr×Nat)×OL) (((none,0),[])) (hmx) [[],[],[1],[1,2],[1,2,3],[],[5],[5,6],[5,6,7],ra 5 4,ra 5 5,ra 1 10,ra 0 12,ra 0 13,ra 0 14] [12,13,14] V V 8 10 11 Z Z Z Z Z Z Z Z Z [jg b s i p (.slice A lit.length c) (.slice B parts.length d) pl e] (jg b s i p (.slice A lit.length c) (.slice B parts.length d) pl e::Lp) (.cells (jV.cells ⟨⟨lit.toArray⟩,0,false⟩).toArray 309 (0,0)) (fun b_ k_=>(b_,.cells (jV.cells ⟨⟨lit.toArray⟩,0,false⟩).toArray 309 (0,0))::jg b s i p (.slice A lit.length c) (.slice B parts.length d) pl e::k_.2) (fun x hx=>by rw[oH.1 hx];exact fJ) (fun x hx=>by rw[oH.1 hx];exact fJ) (fun _ _ x hx=>by rw[oH.1 hx];exact gH _ fJ) (fun(bP:Nat)(dx:(Option Addr×Nat)×OL)(cu:Nat)(v:aj)(G:GH)=>match cu with|0=>v=(aK b 0)|1=>v=(aK b 0)|2=>v=(aK b 0)|3=>v=(aK b 4)|4=>v=.slice B parts.length d|5=>v=(aK b 0)|6=>v=(aK b 0)|7=>v=(aK b 2)|8=>v=.string ⟨lit.toArray⟩|9=>v=.agg (jV.cells ⟨⟨lit.toArray⟩,0,false⟩).toArray|10=>v=.slice (some ⟨bP,0,none⟩) 1 1|11=>v=.slice dx.1.1 (parts.length+1) dx.1.2∧bT 309 3 v (parts.length+1) (KN<|parts++[⟨⟨lit.toArray⟩,0,false⟩]) dx.2|_=>True) (fun b b' k i v G hi hc h=>by(iterate 15 (rcases i with _|i;(first|exact h|exact absurd hi Z|exact absurd hc Z)));exact trivial) (fun b k k' i v G hi hc h=>by(iterate 15 (rcases i with _|i;(first|exact h|exact absurd hi Z|exact absurd hc Z)));exact trivial) H ?_ ?_ ?_ ?_ ?_ V V
  ·clear H;refine aD ?_ ?_ ?_ ?_<|aD ?_ ?_ ?_ ?_<|aD ?_ ?_ ?_ ?_<|bE ?_<|bE ?_<|bE ?_ dz
   ·exact Zh
   ·exact Zh
   ·intro bP dx gI aZ a w G1 gU _ _ _ _ aM hc hG HT hv;have H:=HT;clear aM;have H:=H.aQ (hv 1 8 (hc 1 Z) M) M;have Hb:=H.full;have H:=Hb;clear hc;exact kH H<|Rk M JB
   ·intro bP dx gI aZ a w G1 gU _ _ _ _ aM hc hG HT hv;have H:=HT;clear aM;have H:=H.aQ (hv 2 9 (hc 2 Z) M) M;have Hb:=H.full;have H:=Hb;clear hc;exact kH H<|Rf Qn M JB
   ·intro bP dx gI aZ a w G1 gU _ _ _ _ aM hc hG HT hv;have H:=HT;clear aM;have H:=H.aQ (hv 3 10 (hc 3 Z) M) M;have Hb:=H.full;have H:=Hb;clear hc;exact vo Si H wn M (H.hp.Iy (gU _ fJ) M) M JB
   ·exact Zh
   ·intro bP dx gI aZ a w G1 gU _ _ _ _ aM hc hG HT hv;have H:=HT;clear aM;have H:=H.aQ (hv 5 12 (hc 5 Z) M) M;have Hb:=H.full;have H:=Hb;clear hc;exact kH H<|Rk M JB
   ·intro bP dx gI aZ a w G1 gU _ _ _ _ aM hc hG HT hv;have H:=HT;clear aM;have H:=H.aQ (hv 6 13 (hc 6 Z) M) M;have Hb:=H.full;have H:=Hb;clear hc;exact kH H<|Rf Qm M JB
   ·exact TQ
   ·intro bP dx gI aZ a w G1 gU _ _ _ _ aM hc hG HT hv;have H:=HT;clear aM;have H:=H.aQ (hv 8 15 (hc 8 Z) M) M;have Hb:=H.full;have H:=Hb;clear hc;exact jM aqW [_,_,_] H wn M M M M JB
   ·intro _ _ _ _ _ _ _ _ _ _ hB;exact jC
   ·exact Zc
   ·intro _ _ _ _ _ _ _ _ hB;exact jC
   ·intro _ _ _ _ _ _ _ _ hB;exact jC
   exact Fg
  ·clear H;intro o_ bP dx aZ a w G1 kg _ hc hG HT hv;obtain rfl:_=o_:=Option.some.inj kg;clear kg;have H:=HT;have H:=H.aQ (hv 7 14 Z (hc 7 Z) M) M;have Hb:=H.full;have H:=Hb;clear hc;refine gM aaC (Li:=[]) (L:=jg b s i p (.slice A lit.length c) (.slice B parts.length d) pl e::(Lp++Lo)) H wn M (aH3 _ _ _ _ b s i p _ B parts.length d pl e lit (Hp.owns (Li:=[]) H.hp) hbuf hne) M ?_;clear H;rintro v15 Jc L15 a w ⟨rfl,rfl⟩ J3 H;dsimp only[List.nil_append]at H;exact aI ⟨M,Co V (iq bP dx) M HT Hb hG (fun j e h1 h2 h3=>hv j e h1 h2 h3) J3 (rfl) H⟩
  ·clear H;intro o_ dx aZ a w G1 kg _ hc hG HT hv;obtain rfl:_=o_:=Option.some.inj kg;clear kg;have H:=HT;have H:=H.aQ (hv 0 9 16 Z (hc 9 Z) M) M;have Hb:=H.full;have H:=Hb;clear hc;exact iT OG OA [_,_,_] [_,_,_] H wn M M M M M (by intro i q h;match i,h with|0,h=>exact h|n+1,h=>simp at h) M M fun b17 a w ami H=>aI ⟨M,b17,Tx⟩
  ·clear H;intro o_ bP aZ a w G1 kg _ hc hG HT hv;obtain rfl:_=o_:=Option.some.inj kg;clear kg;have H:=HT;have H:=H.aQ (hv (((none,0),[])) 4 11 Z (hc 4 Z) M) M;have H:=H.aQ (hv (((none,0),[])) 10 17 Z (hc 10 Z) M) M;have Hb:=H.full;have H:=Hb;clear hc;refine lW (Li:=[_,_]) (Lo:=Lp) (news:=jV.cells ⟨⟨lit.toArray⟩,0,false⟩) OG OA M M H wn M M abZ M (H.hp.dB 0 M M) M O O M ?_;clear H;intro v18 asX a w Kt H;obtain⟨A18,c18,rfl,-,-⟩:=Kt.shape;rw[<-aoq]at Kt;exact aI ⟨M,((A18,c18),asX),ajC V M HT Hb hG (fun j e h1 h2 h3=>hv _ j e h1 h2 h3) (⟨M,Kt⟩) H⟩
  clear H;intro b17 dx a w G jL H hv;have H:=H.aQ (hv 0 7 M M) M;obtain⟨u18,aco,Q7⟩:=hv 11 18 Z M;(try dsimp only at Q7);obtain⟨rfl,Kt⟩:=Q7;have H:=H.fT aco;clear hv;refine kH H<|Rk M<|Rf Qn M fun a H=>bH Si 1 (vs:=[_]) H wn M fun w H=>aI ⟨M,K1 _ _<|kP H<|SC<|Rm M<|Rk M<|Rf Qm M fun a H=>gM ayR (Li:=[_]) (L:=jg b s i p (.slice A lit.length c) (.slice dx.1.1 (parts.length+1) dx.1.2) pl e::dx.2) H wn M (aH1 _ _ _ b s i p A lit.length c dx.1.1 (parts.length+1) dx.1.2 pl e<|Hp.owns (Li:=[_]) H.hp) M ?_⟩;clear H;rintro v24 _ X4 a w ⟨rfl,rfl⟩ rW H;dsimp only[lca,bq]at H;refine aI ((leave0 H results258 ?_).2)
  exact agc
 intro h6 a H
 try have p6:=dF h6
 refine fU ((leave0 H results258 ?_).2)
 exact agc
theorem apz(G:GH)(Lp Lo:OL)(w0:World)(b:Nat)(s:ByteArray)(i:Int)(p v q:aj)(pl e:Int)(lit:List UInt8)(parts:List jV)(ch:Int)(plain:Bool)(hR:DW b lit parts p v q Lp Lo)(hO:fZ G (jg b s i p v q pl e::(Lp++Lo)) w0)(hl:lit.length<=4294967296)(hp:parts.length<=4294967290)(hc:49<=ch∧ch<=57)(hpl:0<=pl∧pl<=4294967296) :
  Calls prog 271 #[aK b 0,.int .u8 ch,.bool plain] w0 (fG w0 G (jg b s i p v q pl e::(Lp++Lo)) fun u G' L'=>∃p' v' q' tZ gP,L'=jg b s i p' v' q' (pl+1) e::(tZ++gP)∧DW b [] (Ad lit parts++[⟨⟨#[]⟩,ch-48,plain⟩]) p' v' q' tZ gP):=by
 have hml:maxLen=9223372036854775807:=rfl
 have hfl:(Ad lit parts).length<=parts.length+1:=by unfold Ad;split <;>simp
 obtain⟨A,c,rfl,anB,anC⟩:=hR.buf.shape;obtain⟨B,d,rfl,ana,anb⟩:=hR.prt.shape;obtain⟨Lt,uY⟩:∃x,x=Lp++Lo:=⟨_,M⟩;rw[<-uY]at hO|-;refine iY (N:=29) (T:=[(0,_),(1,_),(2,_)]) func271 M ntmps271 M M hO (SR fun _ K1=>Rm M fun a H=>gM aax (Li:=[]) (L:=jg b s i p (.slice A lit.length c) (.slice B parts.length d) pl e::Lt) H wn M (by subst uY;exact aaV _ Lp Lo _ b s i p _ _ pl e lit parts hR (Hp.owns (Li:=[]) H.hp) hl O) M ?_);rintro v7 G7 L7 a w ⟨p',v',q',tZ,gP,rfl,Qv⟩ Ej H;dsimp only[List.nil_append]at H;obtain⟨A7,c7,rfl,-,-⟩:=Qv.buf.shape;obtain⟨B7,d7,rfl,-,-⟩:=Qv.prt.shape;refine K1 _ _<|kP H<|SR fun _ K1=>Rm M<|Rm M<|Rk M<|aV Qn Si 0 M M<|Rm M fun a H=>aHg H wn M M O O M fun a H=>IK _ oU Sl H wn M M M ?_;intro a H;rw[KC O O]at H;refine kH H (Rm M fun a H=>jM aqW [_,_,_] H wn M M M M fun a H=>iT OG OA [_,_,_] [_,_,_] H wn M M M M M (by intro i q h;match i,h with|0,h=>exact h|n+1,h=>simp at h) M M ?_);intro b18 a w Vg H;have H:=(St.cast H (show _=[_,_]++(tZ++gP)from rfl)).perm<|List.Perm.append_left _ vD;have H:=St.un H;refine lW (Li:=[_,_]++gP) (Lo:=tZ) (news:=jV.cells ⟨⟨#[]⟩,ch-48,plain⟩) OG OA M M H wn M M Qv.prt M (H.hp.dB 0 M M) M O O M ?_;intro v19 aeD a w Iq H;obtain⟨GQ,c19,rfl,-,-⟩:=Iq.shape;rw[<-aoq]at Iq;have H:=H.assoc.perm<|List.Perm.append_left _ vD;dsimp only[lca,bq]at H;refine kH H<|Rk M<|Rf Qn M fun a H=>bH Si 1 (vs:=[_]) H wn M fun w H=>K1 _ _<|kP H<|SC<|Rm M<|Rk M<|aV aaJ aF 1 M M<|Rd M<|Rk M<|Rf aaJ M fun a H=>bH aF 1 (vs:=[_]) H wn M fun w H=>aI ((leave0 H results271 ?_).2);exact H.hp.lU (L':=jg b s i _ _ _ (pl+1) e::(aeD++gP)) (E5 _ _) ⟨_,_,_,aeD,gP,M,Qv.ptr,Qv.buf,by simpa using Iq⟩
section
section
variable{N:Nat}{D:List Deferred}{w0:World}{F:Nat->Prop}{G0 G:GH}{L:OL}{T Xs:List (Nat×aj)}
variable{r:Option Nat}{P:Program}{Q:Exit->Act->World->Prop}{l:List Oper}{a a':Act}{w w':World}
abbrev Ent:Type:=Nat×aj×Nat×Bool
def aeA(ent:List Ent)(S:Nat->Bool)(a:Act):Prop:=∀e∈ent,S e.2.2.1=e.2.2.2->a.tmps[e.1]?=some e.2.1
theorem aeA.at{ent:List Ent}{S:Nat->Bool}{a:Act}(h:aeA ent S a)(k:Nat){t:Nat}{v:aj}{j:Nat}{b:Bool}(hk:ent[k]?=some (t,v,j,b))(hS:S j=b):a.tmps[t]?=some v:=h _ (lZ hk) hS
theorem aqw{ops:Array Oper}{rest:List Oper}{d:Nat}{ty:TypeId}{pos:String}{aT:Array Edge}{g:Option (Nat×Bool)}{t:TypeId}{x y:Operand}{s:ByteArray}{ky:IntKind}{p:Int}(hi:Nat)(ht:P.underlying t=some .string)(H:St N D w0 F G0 G L T a w)(hw:Region.wanted ⟨some d,.slice t x none (some y) none,ty,pos,aT,g⟩ (yielded ops a.tmps)=true)(hx:ev T x=some (.string s))(hy:ev T y=some (.int ky p))(hp:p=(hi:Int))(h1:hi<=s.size)(hd:Nat.blt d N=true)
  (k:∀a',St N D w0 F G0 G L ((d,.string<|s.extract 0 hi)::T) a' w->WL r P ops Q rest a' w):WL r P ops Q (⟨some d,.slice t x none (some y) none,ty,pos,aT,g⟩::rest) a w:=by
 subst hp
 have hr:=run_slice_string_h (P:=P) w t s ht ky (hi:Int) O O
 rw[Int.toNat_natCast]at hr
 refine fH (v:=.string<|s.extract 0 hi) (w':=w) hw M ?_<|k _<|H.put hd _ H.hp
 simp only[execOp,H.ev hx,D5,Option.map_none,H.ev hy,dP,run_sliceAt_string w t _ _ _ _ ht,hr,kY,rO]
end
end
theorem ayS:aW 279:=aX func279 M
theorem Aa:dG prog 338 0 0:=⟨V⟩
theorem akf:aW 257:=aX func257 M
theorem aki:aW 270:=aX func270 M
theorem akj:aW 271:=aX func271 M
theorem sZ:dG prog 338 1 1:=⟨V⟩
theorem akh:aW 269:=aX func269 M
theorem FB:dG prog 338 5 6:=⟨V⟩
def wM(s p:ByteArray):Bool:=decide (p.size<=s.size)&&((s.extract 0 p.size).toList==p.toList)
theorem aBB(G:GH)(w0:World)(hG:Hold G w0)(s p:ByteArray)(hs:s.size<=4611686018427387904)(hp:p.size<=4611686018427387904):Calls prog 279 #[.string s,.string p] w0 (bD w0 G fun u G'=>u=.bool (wM s p)∧G=G'):=by
 refine eN [(0,_),(1,_)] func279 M ntmps279 M M hG ?_;intro a H;refine kP H (SR fun _ K1=>ak K1 M<|SR fun _ K2=>Rm M<|Rv gZ M<|Rm M<|Rv gZ M<|Rc M<|Rm M<|Sp 10 M ?_ ?_)<;>clear H K1
 ·intro h10 a H
  try have lC:=dT h10
  refine kH H<|YM h10 M<|YM h10 M ?_;clear H;intro a H;refine Gj gZ H (wg H M M h10) M M ?_;clear H;intro a H;refine aqw p.size gZ H (wg H M M h10) M M M O M ?_;clear H;intro a H;refine kH H<|YM h10 M ?_;clear H;intro a H;refine BN H (wg H M M h10) M M M ?_;clear H;intro a H;exact kH H (Pt h10 M (ak K2 M (LR results279 M fun H=>H.rt ⟨iN (by unfold wM;first|(simp_all;done)|(simp_all;omega)),rfl⟩)))
 intro h10 a H
 try have lC:=dF h10
 exact kH H (bJ h10 M (bJ h10 M (Pf h10 M (ak K2 M (LR results279 M fun H=>H.rt ⟨iN (by unfold wM;first|(simp_all;done)|(simp_all;omega)),rfl⟩)))))
theorem amh(G:GH)(w0:World)(hG:Hold G w0)(s p:ByteArray)(hs:s.size<=4611686018427387904)(hp:p.size<=4611686018427387904):Calls prog 269 #[.string s,.string p] w0 (bD w0 G fun u G'=>u=.bool (wM s p)∧G=G'):=by
 refine eN [(0,_),(1,_)] func269 M ntmps269 M M hG<|SR fun _ K1=>ak K1 M<|SR fun _ K2=>Rm M<|Rm M fun a H=>s_call ayS H wn M (aBB _ _ H.ro s p hs hp) M ?_;rintro v7 _ a w ⟨rfl,rfl⟩-H;exact kH H<|ak K2 M<|LR results269 M fun H=>H.rt ⟨M,M⟩
def zW(s:ByteArray)(k:Nat):Bool:=decide (k<s.size)&&decide (49<=eO s k)&&decide (eO s k<=57)
theorem ajz(G:GH)(L:OL)(w0:World)(b:Nat)(s:ByteArray)(i:Int)(p v q:aj)(pl e:Int)(k:Nat)(hs:s.size<=4611686018427387904)(hO:fZ G (jg b s i p v q pl e::L) w0) :
  Calls prog 270 #[aK b 0,vi k] w0 (fG w0 G (jg b s i p v q pl e::L) fun u G' L'=>u=.bool (zW s k)∧L'=jg b s i p v q pl e::L∧G'=G):=by
 refine iY (N:=30) (T:=[(0,_),(1,_)]) func270 M ntmps270 M M hO ?_;intro a H;refine kP H (SR fun _ K1=>ak K1 M<|SR fun _ K2=>Rm M<|Rm M<|Rk M<|aV Aa gN 0 M M<|Rv gZ M<|Rc M<|Rm M<|Sp 12 M ?_ ?_)<;>clear H K1
 ·intro h12 a H
  try have nU:=dT h12
  refine kH H<|YM h12 M ?_;clear H;intro a H;refine Gm H (wg H M M h12) M M ?_;clear H;intro a H;refine kH H<|YF Aa h12 M<|YO gN 0 h12 M<|YM h12 M ?_;clear H;intro a H;refine qO k gZ H (wg H M M h12) M M M O M ?_;clear H;intro a H;rw[<-lN]at H;refine kH H (YC h12 M<|Pt h12 M<|Rm M<|Sp 21 M ?_ ?_)<;>clear H
  ·intro h21 a H
   try have sG:=dT h21
   refine kH H<|YM h21 M ?_;clear H;intro a H;refine Gm H (wg H M M h21) M M ?_;clear H;intro a H;refine kH H<|YF Aa h21 M<|YO gN 0 h21 M<|YM h21 M ?_;clear H;intro a H;refine qO k gZ H (wg H M M h21) M M M O M ?_;clear H;intro a H;rw[<-lN]at H;exact kH H (YC h21 M (Pt h21 M (ak K2 M (LR results270 M fun H=>H.hp.gX ⟨iN (by unfold zW;first|(simp_all;done)|(simp_all;omega)),rfl,rfl⟩))))
  intro h21 a H
  try have sG:=dF h21
  exact kH H (bJ h21 M (aU h21 M (aU h21 M (Pf h21 M (ak K2 M (LR results270 M fun H=>H.hp.gX ⟨iN (by unfold zW;first|(simp_all;done)|(simp_all;omega)),rfl,rfl⟩))))))
 intro h12 a H
 try have nU:=dF h12
 exact kH H (bJ h12 M (aU h12 M (aU h12 M (Pf h12 M (Rm M (bJ M M (aU M M (aU M M (Pf M M (ak K2 M (LR results270 M fun H=>H.hp.gX ⟨iN (by unfold zW;first|(simp_all;done)|(simp_all;omega)),rfl,rfl⟩)))))))))))
structure xD where
 i:Nat
 lit:List UInt8
 parts:List jV
 pl:Nat
 e:Int
def zq(s:ByteArray)(x:xD):xD :=
 if wM (s.extract x.i s.size) ⟨#[37,37]⟩=true then⟨x.i+2,x.lit++[37],x.parts,x.pl,x.e⟩
 else if zW s (x.i+1)=true then⟨x.i+2,[],Ad x.lit x.parts++[⟨⟨#[]⟩,eO s (x.i+1)-48,false⟩],x.pl+1,x.e⟩
 else if wM (s.extract x.i s.size) ⟨#[37,100]⟩=true∧zW s (x.i+2)=true then⟨x.i+3,[],Ad x.lit x.parts++[⟨⟨#[]⟩,eO s (x.i+2)-48,true⟩],x.pl+1,x.e⟩
 else⟨x.i,x.lit,x.parts,x.pl,14⟩
abbrev zw(b:Nat)(s:ByteArray)(x:xD)(p v q:aj):Nat×Obj:=jg b s x.i p v q x.pl x.e
theorem ajy{s:ByteArray}{k:Nat}(h:zW s k=true):k<s.size∧49<=eO s k∧eO s k<=57:=by
 simpa[zW,and_assoc]using h
theorem YU {p:Prop} (h:p:=by
 first
  |exact H.hp.gX ⟨_,_,_,X8,O1,by rw[zq,au Ns,au Nr,ay ⟨c1,lT⟩];rfl,by rw[zq,au Ns,au Nr,ay ⟨c1,lT⟩];exact J5⟩
  | (have QX:¬ (wM (s.extract i s.size) ⟨#[37,100]⟩=true∧zW s (i+2)=true):=by simp_all
     exact H.hp.gX ⟨_,_,_,Lp,Lo,by rw [zq,au Ns,au Nr,au QX,uY],by rw [zq,au Ns,au Nr,au QX];exact hR⟩)):p:=h
theorem ail {p:Prop} (h:p:=by
 refine iE 8 63 M M fun _ a w G1 hG HT H fin=>?_;refine s_call akh H wn M (amh _ _ H.ro _ _ hex Z) M ?_;clear H;rintro v64 G64 a w ⟨rfl,rfl⟩ aA8 H;exact fin H aA8 (rfl)):p:=h
theorem TL {p:Prop} (h:p:=by
 clear H;intro a H;rw [<- lN] at H;exact Jv):p:=h
theorem agY {p:Prop} (h:p:=by
 refine iE 9 64 M M fun _ a w G1 hG HT H fin=>?_;refine kH H (Rm M ?_);clear H;intro a H;exact afV):p:=h
theorem Zo {p:Prop} (h:p:=by
 refine aqv i gZ H wn M M M O M ?_;exact jD):p:=h
set_option maxHeartbeats 1000000 in
theorem aF0(G:GH)(Lp Lo:OL)(w0:World)(b:Nat)(s:ByteArray)(x:xD)(p v q:aj)(hR:DW b x.lit x.parts p v q Lp Lo)(hO:fZ G (zw b s x p v q::(Lp++Lo)) w0)(hs:s.size<=4294967290)(hi:x.i<s.size)(hl:x.lit.length<=4294967290)(hp:x.parts.length<=4294967290)(hpl:x.pl<=4294967290) :
    Calls prog 256 #[aK b 0] w0 (fG w0 G (zw b s x p v q::(Lp++Lo)) fun u G' L'=>∃p' v' q' tZ gP,L'=zw b s (zq s x) p' v' q'::(tZ++gP)∧DW b (zq s x).lit (zq s x).parts p' v' q' tZ gP):=by
  obtain⟨i,lit,parts,pl,e⟩:=x;dsimp only[zw]at *
  have hex:(s.extract i s.size).size<=4611686018427387904:=by rw[ByteArray.size_extract];omega
  obtain⟨A,c,rfl,anB,anC⟩:=hR.buf.shape;obtain⟨B,d,rfl,ana,anb⟩:=hR.prt.shape;obtain⟨Lt,uY⟩:∃x,x=Lp++Lo:=⟨_,M⟩;rw[<-uY]at hO|-;refine iY (N:=93) (T:=[(0,_)]) func256 M ntmps256 M M hO fun a H=>xK<|bU<|fun _ K1=>dI hmx [[],[0],[0,1],[0,1,2],[],[4],[4,5],[4,5,6],ra 0 8,ra 0 9,ra 0 10] [] V [_,_,_,.string s,_,_,_,vi i,.string (s.extract i s.size),.bool (wM (s.extract i s.size) ⟨#[37,37]⟩),_] H (aD (Z0 M<|Rm M) (Z1 0 6 M<|Rk M) (Z1 1 7 M<|Rf Aa M) (Z1 2 8 M<|Ro gN 0 M)<|aD (Z0 M<|Rm M) (Z1 4 10 M<|Rk M) (Z1 5 11 M<|Rf sZ M) (Z1 6 12 M<|Ro aF 0 M)<|bE ?_<|bE ?_<|bE (Z1 9 15 M<|Ra M) dz) ?_
  · refine fu 3 9 7 13 M M fun _ a w G1 hG HT H fin=>?_;exact Zo
  · refine iE 8 14 M M fun _ a w G1 hG HT H fin=>?_;refine s_call akh H wn M (amh _ _ H.ro _ _ hex Z) M ?_;rintro v15 Jc a w ⟨rfl,rfl⟩ J3 H;exact fin H J3<|rfl
  clear H;intro a w G jL H hv;have H:=H.aQ (hv 10 5 M M) M;clear hv;refine aI ⟨M,K1 _ _<|jU H M ?_ ?_⟩
  · intro h5
    try have p5:=dT h5
    refine kP H (SR fun _ K1=>Rm M (Rk M (Rf Qm M fun a H=>gM akf (Li:=[]) (L:=jg b s i p (.slice A lit.length c) (.slice B parts.length d) pl e::Lt) H wn M (by subst uY;exact ase _ Lp Lo _ b s i p _ B parts.length d pl e lit.length _ 37 hR.ptr (Hp.owns (Li:=[]) H.hp) hR.buf O) M ?_)));rintro v19 _ L19 a w ⟨aKS,X5,rfl,Iq,rfl⟩ mJ H;dsimp only[List.nil_append]at H;obtain⟨GQ,c19,rfl,-,-⟩:=Iq.shape;refine K1 _ _<|kP H<|SC<|Rm M<|Rk M<|aV sZ aF 0 M M<|Rd M<|Rk M<|Rf sZ M fun a H=>bH aF 0 (vs:=[_]) H wn M fun w H=>aI ((leave0 H results256 ?_).2);exact H.hp.gX ⟨_,_,_,Lp,X5,by rw[zq,ay h5];rfl,by rw[zq,ay h5];exact⟨.inr M,by simpa[Lib.byteCells]using Iq,hR.prt⟩⟩
  intro h5;refine kP H<|SR fun _ K1=>Rm M<|Rm M<|Rk M<|aV sZ aF 0 M M<|Rd M ?_;intro a H;rw[show((i:Int)+1)=((i+1:Nat):Int)from rfl]at H;refine gM aki (Li:=[]) (L:=jg b s i p (.slice A lit.length c) (.slice B parts.length d) pl e::Lt) H wn M (ajz _ Lt _ b s i p _ _ pl e (i+1) O<|Hp.owns (Li:=[]) H.hp) M ?_;rintro v34 _ L34 a w ⟨rfl,rfl,rfl⟩ amD H;dsimp only[List.nil_append]at H;refine kH H (ak K1 M<|Cd M ?_ ?_)<;>clear H K1
  · intro h27 a H
    try have p27:=dT h27
    have hd1:=ajy h27;refine bU<|fun _ K1=>dI hmx [[],[],[1],[1,2],[1,2,3],[],[5],[5,6],[5,6,7],ra 5 4,ra 1 9,ra 0 11] [11] V [_,_,_,_,.string s,_,_,_,vi i,_,.int .u8<|eO s<|i+1] H (aD (Z0 M<|Rm M) (Z0 M<|Rm M) (Z1 1 36 M<|Rk M) (Z1 2 37 M<|Rf Aa M)<|aD (Z1 3 38 M<|Ro gN 0 M) (Z0 M<|Rm M) (Z1 5 40 M<|Rk M) (Z1 6 41 M<|Rf sZ M)<|aD (Z1 7 42 M<|Ro aF 0 M) (Z1 8 43 M<|Rd M) ?_ (bX M) dz) ?_
    · refine fu 4 39 9 44 M M fun _ a w G1 hG HT H fin=>?_;exact qO (i+1) gZ H wn M M M hd1.1 M TL
    clear H;intro a w G CK H hv;have H:=H.aQ (hv 0 35 M M) M;have H:=H.aQ (hv 10 45 M M) M;clear hv;refine gM akj (Li:=[]) (L:=jg b s i p (.slice A lit.length c) (.slice B parts.length d) pl e::Lt) H wn M (by subst uY;exact apz _ Lp Lo _ b s i p _ _ pl e lit parts (eO s<|i+1) false hR (Hp.owns (Li:=[]) H.hp) O O hd1.2 O) M ?_;rintro v46 G46 L46 a w ⟨p46,aIM,q46,X8,O1,rfl,J5⟩ aCD H;dsimp only[List.nil_append]at H;obtain⟨A46,c46,rfl,-,-⟩:=J5.buf.shape;obtain⟨B46,d46,rfl,-,-⟩:=J5.prt.shape;refine aI ⟨M,K1 _ _<|kP H<|SC<|Rm M<|Rk M<|aV sZ aF 0 M M<|Rd M<|Rk M<|Rf sZ M fun a H=>bH aF 0 (vs:=[_]) H wn M fun w H=>aI ((leave0 H results256 ?_).2)⟩;exact H.hp.gX ⟨_,_,_,X8,O1,by rw[zq,au (by simp[h5]),ay h27];rfl,by rw[zq,au (by simp[h5]),ay h27];exact J5⟩
  intro h27 a H;refine bU<|fun _ K1=>?_
  by_cases c1:wM (s.extract i s.size) ⟨#[37,100]⟩=true
  · skip;refine dI hmx [[],[0],[0,1],[0,1,2],[],[4],[4,5],[4,5,6],ra 0 8,ra 0 9,ra 0 10,ra 0 11,ra 0 11,ra 0 11++[12],(ra 0 11++[12,13]),(ra 0 11++[12,13,14]),ra 0 11++ra 12 4,ra 0 17,ra 0 18,ra 0 19] [] V [_,_,_,.string s,_,_,_,vi i,.string (s.extract i s.size),.bool (wM (s.extract i s.size) ⟨#[37,100]⟩),.bool (decide<|wM (s.extract i s.size) ⟨#[37,100]⟩=true),_,_,aK b 0,_,vi i,vi ((i+2:Nat):Int),.bool (zW s<|i+2),_,_] H (aD (Z0 M<|Rm M) (Z1 0 55 M<|Rk M) (Z1 1 56 M<|Rf Aa M) (Z1 2 57 M<|Ro gN 0 M)<|aD (Z0 M<|Rm M) (Z1 4 59 M<|Rk M) (Z1 5 60 M<|Rf sZ M) (Z1 6 61 M<|Ro aF 0 M)<|aD ?_ ?_ ?_ (Z1 10 65 M<|YM (aG c1) M)<|aD (Z1 10 65 M<|YM (aG c1) M) ?_ (Z2 13 68 10 65 M<|YF sZ (aG c1) M) (Z2 14 69 10 65 M<|YO aF 0 (aG c1) M)<|aD ?_ ?_ (Z2 10 65 17 72 M<|Pt (aG c1) M) (Z1 18 73 M<|Ra M) dz) ?_
    · refine fu 3 58 7 62 M M fun _ a w G1 hG HT H fin=>?_;exact Zo
    · exact ail
    · exact agY
    · refine fu 12 67 10 65 M M fun _ a w G1 hG HT H fin=>?_;exact Gm H (wg H M M<|aG c1) M M jD
    · refine fu 15 70 10 65 M M fun _ a w G1 hG HT H fin=>?_;exact EC _ H (wg H M M<|aG c1) M M M O O M jD
    · refine xC 11 66 16 71 10 65 M M fun _ a w G1 hG HT H fin=>?_;refine gM aki (Li:=[]) (L:=jg b s i p (.slice A lit.length c) (.slice B parts.length d) pl e::Lt) H (wg H M M<|aG c1) M (ajz _ Lt _ b s i p _ _ pl e (i+2) O<|Hp.owns (Li:=[]) H.hp) M ?_;rintro v72 G72 L72 a w ⟨rfl,rfl,rfl⟩ aBd H;dsimp only[List.nil_append]at H;exact fin H aBd<|rfl
    clear H;intro a w G tC H hv;have H:=H.aQ (hv 19 54 M M) M;clear hv;refine aI ⟨M,K1 _ _<|jU H M ?_ ?_⟩
    · intro lT
      try have p54:=dT lT
      have hd2:=ajy lT;refine bU<|fun _ K1=>dI hmx [[],[],[1],[1,2],[1,2,3],[],[5],[5,6],[5,6,7],ra 5 4,ra 1 9,ra 0 11] [11] V [_,_,_,_,.string s,_,_,_,vi i,_,.int .u8<|eO s<|i+2] H (aD (Z0 M<|Rm M) (Z0 M<|Rm M) (Z1 1 75 M<|Rk M) (Z1 2 76 M<|Rf Aa M)<|aD (Z1 3 77 M<|Ro gN 0 M) (Z0 M<|Rm M) (Z1 5 79 M<|Rk M) (Z1 6 80 M<|Rf sZ M)<|aD (Z1 7 81 M<|Ro aF 0 M) (Z1 8 82 M<|Rd M) ?_ (bX M) dz) ?_
      · refine fu 4 78 9 83 M M fun _ a w G1 hG HT H fin=>?_;exact qO (i+2) gZ H wn M M M hd2.1 M TL
      clear H;intro a w G uX H hv;have H:=H.aQ (hv 0 74 M M) M;have H:=H.aQ (hv 10 84 M M) M;clear hv;refine gM akj (Li:=[]) (L:=jg b s i p (.slice A lit.length c) (.slice B parts.length d) pl e::Lt) H wn M (by subst uY;exact apz _ Lp Lo _ b s i p _ _ pl e lit parts (eO s<|i+2) true hR (Hp.owns (Li:=[]) H.hp) O O hd2.2 O) M ?_;rintro v85 G85 L85 a w ⟨p46,aIM,q46,X8,O1,rfl,J5⟩ aCL H;dsimp only[List.nil_append]at H;obtain⟨A46,c46,rfl,-,-⟩:=J5.buf.shape;obtain⟨B46,d46,rfl,-,-⟩:=J5.prt.shape;refine aI ⟨M,K1 _ _<|kP H<|SC<|Rm M<|Rk M<|aV sZ aF 0 M M<|Rd M<|Rk M<|Rf sZ M fun a H=>bH aF 0 (vs:=[_]) H wn M fun w H=>aI ((leave0 H results256 ?_).2)⟩
      have Ns:¬wM (s.extract i s.size) ⟨#[37,37]⟩=true:=by simp[h5]
      have Nr:¬zW s (i+1)=true:=by simp[h27]
      exact YU
    intro lT;refine kP H<|SC<|Rm M<|Rk M<|Rf FB M fun a H=>bH jS 0 (vs:=[_]) H wn M fun w H=>aI ((leave0 H results256 ?_).2)
    have Ns:¬wM (s.extract i s.size) ⟨#[37,37]⟩=true:=by simp[h5]
    have Nr:¬zW s (i+1)=true:=by simp[h27]
    exact YU
  skip;refine dI hmx [[],[0],[0,1],[0,1,2],[],[4],[4,5],[4,5,6],ra 0 8,ra 0 9,ra 0 10,ra 0 11,ra 0 11,ra 0 11++[12],(ra 0 11++[12,13]),(ra 0 11++[12,13,14]),ra 0 11++ra 12 4,ra 0 17,ra 0 18,ra 0 19] [] V [_,_,_,.string s,_,_,_,vi i,.string (s.extract i s.size),.bool (wM (s.extract i s.size) ⟨#[37,100]⟩),.bool (decide<|wM (s.extract i s.size) ⟨#[37,100]⟩=true),undef,undef,undef,undef,undef,undef,undef,_,_] H (aD (Z0 M<|Rm M) (Z1 0 55 M<|Rk M) (Z1 1 56 M<|Rf Aa M) (Z1 2 57 M<|Ro gN 0 M)<|aD (Z0 M<|Rm M) (Z1 4 59 M<|Rk M) (Z1 5 60 M<|Rf sZ M) (Z1 6 61 M<|Ro aF 0 M)<|aD ?_ ?_ ?_ (aL 10 (aO c1) M M)<|aD (aL 10 (aO c1) M M) (aL 10 (aO c1) M M) (aL 10 (aO c1) M M) (aL 10 (aO c1) M M)<|aD (aL 10 (aO c1) M M) (aL 10 (aO c1) M M) (Z2 10 65 17 72 M<|Pf (aO c1) M) (Z1 18 73 M<|Ra M) dz) ?_
  · refine fu 3 58 7 62 M M fun _ a w G1 hG HT H fin=>?_;exact Zo
  · exact ail
  · exact agY
  clear H;intro a w G tC H hv;have H:=H.aQ (hv 19 54 M M) M;clear hv;refine aI ⟨M,K1 _ _<|oJ H M M<|kP H<|SC<|Rm M<|Rk M<|Rf FB M fun a H=>bH jS 0 (vs:=[_]) H wn M fun w H=>aI ((leave0 H results256 ?_).2)⟩
  have Ns:¬wM (s.extract i s.size) ⟨#[37,37]⟩=true:=by simp[h5]
  have Nr:¬zW s (i+1)=true:=by simp[h27]
  exact YU
theorem ayO:aW 256:=aX func256 M
def Tp(s:ByteArray)(i:Nat):UInt8:=if h:i<s.size then s[i]else 0
theorem aub(s:ByteArray)(i:Nat):eO s i=((Tp s i).toNat:Int):=by
 unfold eO Tp;split <;>rfl
def qP(s:ByteArray)(x:xD):xD:=if eO s x.i=37 then zq s x else⟨x.i+1,x.lit++[Tp s x.i],x.parts,x.pl,x.e⟩
def Gn(s:ByteArray):Nat->xD->xD
 |0,x=>x
 |f+1,x=>if x.i<s.size∧x.e=0 then Gn s f (qP s x)else x
def mS(s:ByteArray)(x:xD):Nat:=if x.e=0 then s.size-x.i else 0
theorem aHk{s:ByteArray}{f:Nat}{x:xD}(h:¬(x.i<s.size∧x.e=0)):Gn s f x=x:=by
 cases f with
 |zero=>rfl
 |succ f=>rw[Gn,au h]
theorem aAm(lit:List UInt8)(parts:List jV):(Ad lit parts).length<=parts.length+1:=by unfold Ad;split <;>simp
theorem ZG {p:Prop} (h:p:=by
 refine ⟨?_,?_,?_,?_,?_,?_⟩ <;> simp only [mS,gT,lK,List.length_nil] at*<;> simp only [h.2,if_true] at*<;> omega):p:=h
theorem ara(s:ByteArray)(x:xD)(h:x.i<s.size∧x.e=0)(h1:x.lit.length<=x.i)(h2:x.parts.length<=2*x.i)(h3:x.pl<=x.i) :
  (qP s x).i<=x.i+3∧(qP s x).lit.length<=(qP s x).i∧(qP s x).parts.length<=2*(qP s x).i∧(qP s x).pl<=(qP s x).i∧mS s (qP s x)<mS s x∧mS s x<=s.size:=by
 have hf:=aAm x.lit x.parts;have hm:mS s x=s.size-x.i:=ay h.2
 unfold qP zq
 split
 ·split
  ·exact ZG
  split
  ·exact ZG
  split
  ·exact ZG
  refine⟨?_,?_,?_,?_,?_,?_⟩<;>simp only[mS,gT,lK,List.length_nil]at*<;>simp only[h.2,if_true]at*<;>(try omega)<;>(simp;omega)
 refine⟨?_,?_,?_,?_,?_,?_⟩<;>simp only[mS,gT,lK,List.length_nil]at*<;>simp only[h.2,if_true]at*<;>omega
def EI:xD:=⟨0,[],[],0,0⟩
def lJ(s:ByteArray):xD:=Gn s s.size EI
def Om(x:xD):Int:=if x.e=0∧9<(x.pl:Int)then 9 else x.e
theorem Tz {p:Prop} (h:p:=by
 first
  |exact H.hp.gX ⟨_,_,_,_,_,by rw[Om,ay ⟨by assumption,by assumption⟩],J6⟩
  | exact H.hp.gX ⟨_,_,_,_,_,by rw [Om,au (by first|exact fun h=>p58 h.1|exact fun h=>p64 h.2)],J6⟩):p:=h
theorem ahP {p:Prop} (h:p:=by
 intro pG a H
 try have p58:=dT pG
 refine kH H (YM pG M ?_);clear H;intro a H;refine Gm H (wg H M M pG) M M ?_;clear H;intro a H;refine kH H (YF aaJ pG M (YO aF 0 pG M (YC pG M (Pt pG M (Kz K3 (Cd M ?_ ?_))))))<;>clear H K3
 ·intro h64 a H
  try have p64:=dT h64
  refine kP H (SC (Rm M (Rk M (Rf FB M ?_))));clear H;intro a H;refine bH jS 0 (vs:=[_]) H wn M ?_;clear H;intro w H;refine aI ?_;refine(leave0 H results249 ?_).2
  exact Tz
 intro h64 a H
 try have p64:=dF h64
 refine fU ?_;refine(leave0 H results249 ?_).2
 exact Tz):p:=h
theorem ahf {p:Prop} (h:p:=by
 rw [aHk (by first|exact fun h=>c0 O|exact fun h=>c1 h.2)] at hsc;exact hsc):p:=h
theorem TU {p:Prop} (h:p:=by
 refine Gm H (wg H M M (aG c0)) M M ?_;exact jD):p:=h
set_option maxHeartbeats 1000000 in
theorem aHi(G:GH)(SV SS:OL)(w0:World)(b:Nat)(s:ByteArray)(p0 v0 q0:aj)(hR:DW b [] [] p0 v0 q0 SV SS)(hO:fZ G (zw b s EI p0 v0 q0::(SV++SS)) w0)(hs:s.size<=1073741824) :
  Calls prog 249 #[aK b 0] w0 (fG w0 G (zw b s EI p0 v0 q0::(SV++SS)) fun u G' L'=>∃p' v' q' tZ gP,L'=jg b s (lJ s).i p' v' q' (lJ s).pl (Om<|lJ s)::(tZ++gP)∧DW b [] (Ad (lJ s).lit (lJ s).parts) p' v' q' tZ gP):=by
 obtain⟨A0,c0,rfl,-,-⟩:=hR.buf.shape;obtain⟨B0,d0,rfl,-,-⟩:=hR.prt.shape;refine iY (N:=68) (T:=[(0,_)]) func249 M ntmps249 M M hO fun a H=>bU<|fun _ K1=>xK ?_;skip;refine dY (ι:=Nat×xD×aj×Option Addr×Nat×Option Addr×Nat×OL×OL×GH) (Tc:=[(0,_)]) (Lc:=[]) (fun gh=>[]) (fun gh=>[zw b s gh.2.1 gh.2.2.1 (.slice gh.2.2.2.1 gh.2.1.lit.length gh.2.2.2.2.1) (.slice gh.2.2.2.2.2.1 gh.2.1.parts.length gh.2.2.2.2.2.2.1)]++(gh.2.2.2.2.2.2.2.1++gh.2.2.2.2.2.2.2.2.1)) (fun gh=>gh.2.2.2.2.2.2.2.2.2) (fun gh=>DW b gh.2.1.lit gh.2.1.parts gh.2.2.1 (.slice gh.2.2.2.1 gh.2.1.lit.length gh.2.2.2.2.1) (.slice gh.2.2.2.2.2.1 gh.2.1.parts.length gh.2.2.2.2.2.2.1) gh.2.2.2.2.2.2.2.1 gh.2.2.2.2.2.2.2.2.1∧Gn s gh.1 gh.2.1=lJ s∧mS s gh.2.1<=gh.1∧gh.1<=s.size∧gh.2.1.i<=s.size+3∧gh.2.1.lit.length<=gh.2.1.i∧gh.2.1.parts.length<=2*gh.2.1.i∧gh.2.1.pl<=gh.2.1.i) (fun gh=>gh.1) ((s.size,EI,p0,A0,c0,B0,d0,SV,SS,G)) (by exact H.sub ⟨M,aC⟩) ?_ ?_
 ·exact⟨hR,M,by simp[mS,EI],eP _,by simp[EI],by simp[EI],by simp[EI],by simp[EI]⟩
 clear H;rintro⟨k,x,p,vA,vc,qA,qc,Lp,Lo,g⟩ a w hI H;dsimp only at hI H;obtain⟨hR,hsc,hmk,hks,hxi,hx1,hx2,hx3⟩:=hI;dsimp only[lca,bq]at H;refine bU<|fun _ K2=>bU<|fun _ K3=>?_
 by_cases c0:(x.i:Int)<(s.size:Int)
 ·skip
  by_cases c1:x.e=0
  ·skip;refine dI hmx [[],[0],[0,1],[0,1,2],[],[4],[4,5],[4,5,6],ra 4 4,ra 0 9,ra 0 10,ra 0 11,ra 0 12,ra 0 13,ra 0 14,ra 0 15,ra 0 16] [] V [_,_,_,vi x.i,_,_,_,.string s,_,_,_,_,aK b 0,_,vi x.e,_,_] H (aD (Z0 M<|Rm M) (Z1 0 2 M<|Rk M) (Z1 1 3 M<|Rf sZ M) (Z1 2 4 M<|Ro aF 0 M)<|aD (Z0 M<|Rm M) (Z1 4 6 M<|Rk M) (Z1 5 7 M<|Rf Aa M) (Z1 6 8 M<|Ro gN 0 M)<|aD (Z1 7 9 M<|Rv gZ M) (Z2 3 5 8 10 M<|Rc M) (Z1 9 11 M<|Rm M) (Z1 10 12 M<|YM (aG c0) M)<|aD ?_ (Z2 12 14 10 12 M<|YF FB (aG c0) M) (Z2 13 15 10 12 M<|YO jS 0 (aG c0) M) (Z2 14 16 10 12 M<|YC (aG c0) M)<|bE (Z2 10 12 15 17 M<|Pt (aG c0) M) dz) ?_
   ·exact fu 11 13 10 12 M M fun _ a w G1 hG HT H fin=>TU
   clear H;intro a w G alV H hv;have H:=H.aQ (hv 16 18 M M) M;clear hv;refine aI ⟨M,K3 _ _<|zR H M (aG c1)<|kP H<|Kc K2<|SB<|SQ fun _ K3=>SQ fun _ K4=>fun a H=>dI hmx [[],[0],[0,1],[0,1,2],[],[4],[4,5],[4,5,6],ra 0 8,ra 0 9] [] V [_,_,_,.string s,_,_,_,vi x.i,.int .u8 (eO s x.i),_] H (aD (Z0 M<|Rm M) (Z1 0 19 M<|Rk M) (Z1 1 20 M<|Rf Aa M) (Z1 2 21 M<|Ro gN 0 M)<|aD (Z0 M<|Rm M) (Z1 4 23 M<|Rk M) (Z1 5 24 M<|Rf sZ M) (Z1 6 25 M<|Ro aF 0 M)<|bE ?_<|bE (Z1 8 27 M<|Rc M) dz) ?_⟩
   ·exact fu 3 22 7 26 M M fun _ a w G1 hG HT H fin=>qO x.i gZ H wn M M M O M TL
   clear H;intro a w G jL H hv;have H:=H.aQ (hv 9 28 M M) M;clear hv;refine aI ⟨M,K4 _ _<|jU H M ?_ ?_⟩
   ·intro eZ
    try have p28:=dT eZ
    refine kP H<|SR fun _ K2=>Rm M fun a H=>gM ayO (Li:=[]) (L:=zw b s x p (.slice vA x.lit.length vc) (.slice qA x.parts.length qc)::(Lp++Lo)) H wn M (aF0 _ Lp Lo _ b s x p _ _ hR (Hp.owns (Li:=[]) H.hp) O O O O O) M ?_;clear H;rintro v30 GR L30 a w ⟨p',v',q',tZ,gP,rfl,Ve⟩ Bw H;dsimp only[List.nil_append]at H;have hst:qP s x=zq s x:=ay p28;have hok:=ara s x ⟨O,c1⟩ hx1 hx2 hx3
    have hkk:k=(k-1)+1:=by omega
    have aci:Gn s (k-1) (qP s x)=lJ s:=by rw[hkk,Gn,ay ⟨O,c1⟩]at hsc;exact hsc
    rw[<-hst]at H Ve;obtain⟨A30,c30,rfl,-,-⟩:=Ve.buf.shape;obtain⟨B30,d30,rfl,-,-⟩:=Ve.prt.shape;refine K2 _ _ (dS (dO ((k-1,qP s x,p',A30,c30,B30,d30,tZ,gP,GR)) (by exact H.sub ⟨M,aC⟩) ?_))
    (try dsimp only);exact⟨Ve,aci,O,O,O,O,O,O⟩
   intro eZ
   try have p28:=dF eZ
   refine fU<|K3 _ _<|bU<|fun _ K2=>dI hmx [[],[0],[0,1],[],[3],[3,4],[3,4,5],[],[7],[7,8],[7,8,9],ra 3 8,ra 0 12] [12] V [_,_,_,_,_,_,.string s,_,_,_,vi x.i,.int .u8<|eO s x.i] H (aD (Z0 M<|Rm M) (Z1 0 31 M<|Rk M) (Z1 1 32 M<|Rf Qm M) (Z0 M<|Rm M)<|aD (Z1 3 34 M<|Rk M) (Z1 4 35 M<|Rf Aa M) (Z1 5 36 M<|Ro gN 0 M) (Z0 M<|Rm M)<|aD (Z1 7 38 M<|Rk M) (Z1 8 39 M<|Rf sZ M) (Z1 9 40 M<|Ro aF 0 M) ?_<|bE (bX M) dz) ?_
   ·exact fu 6 37 10 41 M M fun _ a w G1 hG HT H fin=>qO x.i gZ H wn M M M O M TL
   clear H;intro a w G aAV H hv;have H:=H.aQ (hv 2 33 M M) M;have H:=H.aQ (hv 11 42 M M) M;clear hv;refine gM akf (Li:=[]) (L:=zw b s x p (.slice vA x.lit.length vc) (.slice qA x.parts.length qc)::(Lp++Lo)) H wn M (ase _ Lp Lo _ b s x.i p _ qA x.parts.length qc x.pl x.e x.lit.length _ (eO s x.i) hR.ptr (Hp.owns (Li:=[]) H.hp) hR.buf O) M ?_;clear H;rintro v43 _ L43 a w ⟨aKT,X6,rfl,anh,rfl⟩ uD H;dsimp only[List.nil_append]at H;obtain⟨XI,Ue,rfl,-,-⟩:=anh.shape;have hst:qP s x=⟨x.i+1,x.lit++[Tp s x.i],x.parts,x.pl,x.e⟩:=au p28;have hok:=ara s x ⟨O,c1⟩ hx1 hx2 hx3
   have hkk:k=(k-1)+1:=by omega
   have aci:Gn s (k-1) (qP s x)=lJ s:=by rw[hkk,Gn,ay ⟨O,c1⟩]at hsc;exact hsc
   have aBx:DW b (qP s x).lit (qP s x).parts (aK b 2) (.slice XI (qP s x).lit.length Ue) (.slice qA (qP s x).parts.length qc) Lp X6:=by
    rw[hst];exact⟨.inr M,by simpa[Lib.byteCells,aub]using anh,hR.prt⟩
   refine aI ⟨M,K2 _ _<|kP H<|SC<|Rm M<|Rk M<|aV sZ aF 0 M M<|Rd M<|Rk M<|Rf sZ M fun a H=>bH aF 0 (vs:=[_]) H wn M ?_⟩;clear H;intro w H;replace H:St _ _ _ _ _ _ (zw b s (qP s x) (aK b 2) (.slice XI (qP s x).lit.length Ue) (.slice qA (qP s x).parts.length qc)::(Lp++X6)) _ _ _:=H.cast (by rw[hst];simp[zw,jg]);refine aI (dO ((k-1,qP s x,aK b 2,XI,Ue,qA,qc,Lp,X6,_)) (by exact H.sub ⟨M,aC⟩) ?_)
   (try dsimp only);exact⟨aBx,aci,O,O,O,O,O,O⟩
  skip;refine dI hmx [[],[0],[0,1],[0,1,2],[],[4],[4,5],[4,5,6],ra 4 4,ra 0 9,ra 0 10,ra 0 11,ra 0 12,ra 0 13,ra 0 14,ra 0 15,ra 0 16] [] V [_,_,_,vi x.i,_,_,_,.string s,_,_,_,_,aK b 0,_,vi x.e,_,_] H (aD (Z0 M<|Rm M) (Z1 0 2 M<|Rk M) (Z1 1 3 M<|Rf sZ M) (Z1 2 4 M<|Ro aF 0 M)<|aD (Z0 M<|Rm M) (Z1 4 6 M<|Rk M) (Z1 5 7 M<|Rf Aa M) (Z1 6 8 M<|Ro gN 0 M)<|aD (Z1 7 9 M<|Rv gZ M) (Z2 3 5 8 10 M<|Rc M) (Z1 9 11 M<|Rm M) (Z1 10 12 M<|YM (aG c0) M)<|aD ?_ (Z2 12 14 10 12 M<|YF FB (aG c0) M) (Z2 13 15 10 12 M<|YO jS 0 (aG c0) M) (Z2 14 16 10 12 M<|YC (aG c0) M)<|bE (Z2 10 12 15 17 M<|Pt (aG c0) M) dz) ?_
  ·exact fu 11 13 10 12 M M fun _ a w G1 hG HT H fin=>TU
  clear H;intro a w G alV H hv;have H:=H.aQ (hv 16 18 M M) M;clear hv;refine aI ⟨M,K3 _ _<|oJ H M (aO c1)<|dS<|K1 _ _<|bU<|fun _ K1=>?_⟩
  have hxR:x=lJ s:=by
   exact ahf
  subst hxR;refine kP H<|SC<|Rm M fun a H=>gM aax (Li:=[]) (L:=zw b s (lJ s) p (.slice vA (lJ s).lit.length vc) (.slice qA (lJ s).parts.length qc)::(Lp++Lo)) H wn M (aaV _ Lp Lo _ b s (lJ s).i p _ _ (lJ s).pl (lJ s).e (lJ s).lit (lJ s).parts hR (Hp.owns (Li:=[]) H.hp) O O) M ?_;clear H;rintro v52 G52 L52 a w ⟨p52,aIN,q52,asY,asT,rfl,J6⟩ aCE H;dsimp only[List.nil_append]at H;obtain⟨A52,c52,rfl,-,-⟩:=J6.buf.shape;obtain⟨B52,d52,rfl,-,-⟩:=J6.prt.shape;refine kH H (Kn K1<|SR fun _ K3=>Rm M<|Rk M<|aV FB jS 0 M M<|Rc M<|Rm M<|Sp 58 M ?_ ?_)<;>clear H K1
  ·exact ahP
  intro pG a H
  try have p58:=dF pG
  refine kH H<|bJ pG M<|aU pG M<|Pf pG M<|Kz K3<|Cf M M fun a H=>fU ((leave0 H results249 ?_).2)
  exact Tz
 skip;refine dI hmx [[],[0],[0,1],[0,1,2],[],[4],[4,5],[4,5,6],ra 4 4,ra 0 9,ra 0 10,ra 0 11,ra 0 12,ra 0 13,ra 0 14,ra 0 15,ra 0 16] [] V [_,_,_,vi x.i,_,_,_,.string s,_,_,_,undef,undef,undef,undef,undef,_] H (aD (Z0 M<|Rm M) (Z1 0 2 M<|Rk M) (Z1 1 3 M<|Rf sZ M) (Z1 2 4 M<|Ro aF 0 M)<|aD (Z0 M<|Rm M) (Z1 4 6 M<|Rk M) (Z1 5 7 M<|Rf Aa M) (Z1 6 8 M<|Ro gN 0 M)<|aD (Z1 7 9 M<|Rv gZ M) (Z2 3 5 8 10 M<|Rc M) (Z1 9 11 M<|Rm M) (aL 10 (aO c0) M M)<|aD (aL 10 (aO c0) M M) (aL 10 (aO c0) M M) (aL 10 (aO c0) M M) (aL 10 (aO c0) M M)<|bE (Z2 10 12 15 17 M<|Pf (aO c0) M) dz) ?_
 clear H;intro a w G alV H hv;have H:=H.aQ (hv 16 18 M M) M;clear hv;refine aI ⟨M,K3 _ _<|oJ H M M<|dS<|K1 _ _<|bU<|fun _ K1=>?_⟩
 have hxR:x=lJ s:=by
  exact ahf
 subst hxR;refine kP H<|SC<|Rm M fun a H=>gM aax (Li:=[]) (L:=zw b s (lJ s) p (.slice vA (lJ s).lit.length vc) (.slice qA (lJ s).parts.length qc)::(Lp++Lo)) H wn M (aaV _ Lp Lo _ b s (lJ s).i p _ _ (lJ s).pl (lJ s).e (lJ s).lit (lJ s).parts hR (Hp.owns (Li:=[]) H.hp) O O) M ?_;clear H;rintro v52 G52 L52 a w ⟨p52,aIN,q52,asY,asT,rfl,J6⟩ aCE H;dsimp only[List.nil_append]at H;obtain⟨A52,c52,rfl,-,-⟩:=J6.buf.shape;obtain⟨B52,d52,rfl,-,-⟩:=J6.prt.shape;refine kH H (Kn K1<|SR fun _ K3=>Rm M<|Rk M<|aV FB jS 0 M M<|Rc M<|Rm M<|Sp 58 M ?_ ?_)<;>clear H K1
 ·exact ahP
 intro pG a H
 try have p58:=dF pG
 refine kH H<|bJ pG M<|aU pG M<|Pf pG M<|Kz K3<|Cf M M fun a H=>fU ((leave0 H results249 ?_).2)
 exact Tz
section
def DI(c:Int):List Dat:=[.lf (.int .u8 c)]
theorem arE{G:GH}{c:Int}{cs:List aj}(h:bg G (DI c) cs):cs=[.int .u8 c]:=by
 simp only[DI,bg,av]at h
 obtain⟨_,_,rfl,⟨rfl,_⟩,rfl⟩:=h
 rfl
def MC(s:ByteArray):List Int:=s.data.toList.map fun b=>(b.toNat:Int)
theorem auW(G:GH)(l:List Int):bR G 1 (l.map DI) (l.map fun c=>Value.int .u8 c):=by
 refine⟨l.map fun c=>[.int .u8 c],by induction l with|nil=>rfl|cons x r ih=>simp[ih],by simp,fun j r cs hr hc=>?_⟩
 rw[ql]at hr hc
 obtain⟨x,hx,rfl⟩:=nK.1 hr
 rw[hx]at hc
 cases hc
 exact⟨by simp only[DI,bg];exact⟨_,_,M,by simp[av,Value.oneCell'],M⟩,M⟩
theorem aGp{G:GH}{sz b o n cap:Nat}{cur:Array aj}{e:TypeId}{fz:Nat×Nat}{rows:List (List Dat)}(hb:G b=some (.cells cur e fz))(h:av (fun k=>if k=b then some (.cells cur e (0,0))else G k) (.sl sz rows) (.slice (some ⟨b,o,none⟩) n cap))(hr:∀r∈rows,∃c,r=DI c):av G (.sl sz rows) (.slice (some ⟨b,o,none⟩) n cap):=by
 simp only[av]at h|-
 obtain⟨A,c,h1,h2,h3,h4⟩:=h
 refine⟨A,c,h1,h2,h3,fun hn=>?_⟩
 obtain⟨b',o',e',hrr⟩:=h4 hn
 injection h1 with e1
 subst e1
 injection e' with e2
 injection e2 with e3 e4
 subst e3;subst e4
 refine⟨_,_,M,nV.mk fun k r hk=>?_⟩
 obtain⟨cs,g1,g2,g3⟩:=hrr.get hk
 refine⟨cs,g1,fun j u hj=>?_,?_⟩
 ·have:=g2 j u hj
  unfold aJ at this|-
  simp only[if_true]at this
  rw[hb];exact this
 ·obtain⟨c,rfl⟩:=hr r<|lZ hk
  have:=arE g3
  subst this
  simp only[DI,bg];exact⟨_,_,M,by simp[av,Value.oneCell'],M⟩
section
variable{N:Nat}{D:List Deferred}{w0:World}{F:Nat->Prop}{G0 G:GH}{L:OL}{T:List (Nat×aj)}
variable{r:Option Nat}{P:Program}{ops:Array Oper}{Q:Exit->Act->World->Prop}{rest:List Oper}{a:Act}{w:World}
variable{d:Nat}{ty:TypeId}{pos:String}{aT:Array Edge}{g:Option (Nat×Bool)}
theorem aIE{w:World}{b o n:Nat}{c:Array aj}{e:TypeId}{fz:Nat×Nat}(h:w.heap[b]?=some (.cells c e fz))(hn:n≠0):∃JW,xE b (.cells c e JW) w (w.freeze ⟨b,o,none⟩ n):=by
 unfold World.freeze
 rw[au hn]
 refine⟨if fz.1==fz.2 then(o,o+n)else(min fz.1 o,max fz.2<|o+n),M,M,M,by simp,?_,fun k hk=>?_⟩
 ·simp[Array.getElem?_modify,h]
 ·simp[Array.getElem?_modify,Ne.symm hk]
theorem aGX{t u e:TypeId}{x:Operand}{s:ByteArray}(ht:P.underlying t=some .string)(hu:P.underlying u=some (.slice e))(he:P.underlying e=some (.int .u8))(H:St N D w0 F G0 G L T a w)(hw:Region.wanted ⟨some d,.convert t u x,ty,pos,aT,g⟩ (yielded ops a.tmps)=true)(hx:ev T x=some (.string s))(hz:s.size<=4294967296)(hd:Nat.blt d N=true)
  (k:∀v G' a' w',(∀k o,G k=some o->G' k=some o)->av G' (.sl 1 ((MC s).map DI)) v->St N D w0 F G0 G' L ((d,v)::T) a' w'->WL r P ops Q rest a' w'):WL r P ops Q (⟨some d,.convert t u x,ty,pos,aT,g⟩::rest) a w:=by
 have hc:=Lib.run_convert_string_bytes (P:=P) w t u e s ht hu he
 have hge:=grownCap_ge w s.size 0 e
 have hml:s.size<=maxLen:=by
  have:maxLen=9223372036854775807:=rfl
  omega
 have hgm:=grownCap_le_maxLen w s.size 0 e hml
 have H1:=H.hp.drew.alloc (.cells (Lib.bytesCells w e s) e)
 have hw1:(w.drew.alloc (.cells (Lib.bytesCells w e s) e)).heap[w.drew.heap.size]?=some (.cells (Lib.bytesCells w e s) e (0,0)):=H1.own _ fJ
 obtain⟨fz,hu2⟩:=aIE (o:=(Lib.bytesCells w e s).size) (n:=1) hw1 Z
 have H2:=H1.upd (i:=0) M hu2
 have H3:St N D w0 F G0 G ((w.heap.size,.cells (Lib.bytesCells w e s) e fz)::L) ((d,.slice (some ⟨w.heap.size,0,none⟩) s.size<|grownCap w s.size 0 e)::T) (a.put (some d) (.slice (some ⟨w.heap.size,0,none⟩) s.size<|grownCap w s.size 0 e)) (Lib.bytesWorld w e s):=H.put hd _ H2
 obtain⟨G',hm,hb,H4⟩:=H3.eX
 have hlen:(MC s).length=s.size:=by rw[MC,bM,sQ];rfl
 have hrep:av G' (.sl 1 ((MC s).map DI)) (.slice (some ⟨w.heap.size,0,none⟩) s.size<|grownCap w s.size 0 e):=by
  refine aGp hb ?_ (fun r hr=>by obtain⟨c,-,rfl⟩:=List.mem_map.1 hr;exact⟨c,M⟩)
  refine av.uK (cur:=Lib.bytesCells w e s) (e:=e) (n:=s.size) (cap:=grownCap w s.size 0 e) (by simp) (by rw[bM,hlen]) hge hgm ?_<|auW _ _
  rw[Lib.bytesCells,Array.toList_append,Nat.mul_one,List.take_left' (by rw[Array.toList_map,bM,sQ];rfl)]
  simp[MC]
 have k2:=k _ _ _ _ hm hrep H4
 refine fH (v:=.slice (some ⟨w.heap.size,0,none⟩) s.size<|grownCap w s.size 0 e) (w':=Lib.bytesWorld w e s) hw M ?_ k2
 simp only[execOp,H.ev hx,dP,hc,kY,rO]
theorem aG4{t yt:TypeId}{x y:Operand}{p q:ByteArray}(H:St N D w0 F G0 G L T a w)(hw:Region.wanted ⟨some d,.binOp .lss t x y yt,ty,pos,aT,g⟩ (yielded ops a.tmps)=true)(hx:ev T x=some (.string p))(hy:ev T y=some (.string q))(hd:Nat.blt d N=true)
  (k:∀a',St N D w0 F G0 G L ((d,.bool<|Op.bytesLess p.toList q.toList)::T) a' w->WL r P ops Q rest a' w):WL r P ops Q (⟨some d,.binOp .lss t x y yt,ty,pos,aT,g⟩::rest) a w:=by
 refine fH (v:=.bool<|Op.bytesLess p.toList q.toList) (w':=w) hw M ?_<|k _<|H.put hd _ H.hp
 simp[execOp,H.ev hx,H.ev hy,dP,eqGuard,binOp,Op.stringOp]
end
end
theorem ayN:aW 255:=aX func255 M
theorem ayK:aW 249:=aX func249 M
theorem ayI:aW 247:=aX func247 M
theorem aHZ:sO prog 338 [(0,1),(1,1),(2,2),(4,1),(5,1),(6,1)] [.string ⟨#[]⟩,.int .i64 0,.pointer none,.slice none 0 0,.slice none 0 0,.int .i64 0,.int .i64 0]:=⟨V,V⟩
theorem ayL:aW 250:=aX func250 M
theorem azT:dG prog 309 1 1:=⟨V⟩
theorem ayk:aW 217:=aX func217 M
theorem ayl:aW 218:=aX func218 M
theorem ayJ:aW 248:=aX func248 M
theorem aym:aW 219:=aX func219 M
def Yl(fv:aj)(G:GH)(c:Int)(b:Bool):Prop:=∀(G1:GH)(w1:World),(∀b o,G b=some o->G1 b=some o)->Hold G1 w1->uN prog fv [.int .u8 c] w1 (bD w1 G1 fun u G'=>u=.bool b)
theorem aD5(G:GH)(w0:World)(hG:Hold G w0)(l:List Int)(p:Int->Bool)(v fv:aj)(hv:av G (.sl 1<|l.map DI) v)(hf:∀c∈l,Yl fv G c<|p c) :
  Calls prog 255 #[v,fv] w0 (bD w0 G fun u G'=>u=vi (om<|l.findIdx? p)):=by
 obtain⟨A,c,rfl,hc1,hc2,hg⟩:=hv.slice;have hml:maxLen=9223372036854775807:=rfl;rw[bM]at *;refine eN [(0,_),(1,_)] func255 M ntmps255 M M hG ?_;intro a H;refine kP H<|SR fun _ K1=>ak K1 M<|SQ fun _ K2=>SR fun _ K3=>Rm M<|Rl zy M<|Rm M<|Kz K3<|SB ?_;clear H K1 K3;intro a H;skip;refine dY (ι:=Nat×GH) (Tc:=[(0,_),(1,_),(7,_)]) (Lc:=[]) (fun gh=>[(8,vi gh.1)]) (fun gh=>[]) (fun gh=>gh.2) (fun gh=>gh.1<=l.length∧(l.take gh.1).findIdx? p=none∧(∀b o,G b=some o->gh.2 b=some o)) (fun gh=>l.length-gh.1) ((0,G)) (by exact H.sub ⟨M,M,M,M,aC⟩) ?_ ?_
 ·exact zO
 clear H;rintro⟨k,g⟩ a w hI H;dsimp only at hI H;obtain⟨hk,hno,hgm⟩:=hI;dsimp only[lca,bq]at H;refine kP H (SR fun _ K1=>Rc M<|Kz K1<|SQ fun _ K3=>Cd M ?_ ?_)<;>clear H K1
 ·intro h9 a H
  try have p9:=dT h9
  have hk2:k<l.length:=by omega
  obtain⟨b,o,cs,rfl,hcl,hrow,hr⟩:=hg k (DI l[k]) (by simp[hk2]);obtain rfl:=arE hr
  have hcell:aJ G b (o+k*1)=some (.int .u8 l[k]):=by simpa using hrow 0 _ M
  refine kP H<|Kc K3<|SQ fun _ K1=>SB<|SR fun _ K4=>Rm M<|ak K4 M<|SR fun _ K5=>Rm M<|Rm M<|Rm M<|Ri zy OB M M<|Rg OB M (aH hgm hcell) ?_;clear H K3 K4;intro a H;refine ow H wn M M (hf _ (ig hk2) _ _ hgm H.ro) M ?_;clear H;rintro v16 xu a w rfl xW H;refine K5 _ _ ?_;clear K5;refine jU H M ?_ ?_
  ·intro h16
   try have p16:=dT h16
   refine kP H<|SR fun _ K3=>Rm M<|ak K3 M ?_;clear H K3;intro a H;refine lr H results255 M ?_
   exact Ba
  exact Mt
 intro h9 a H
 try have p9:=dF h9
 refine dS ?_;refine K2 _ _ ?_;clear K2;refine kP H<|SR fun _ K1=>ak K1 M ?_;clear H K1;intro a H;refine lr H results255 M ?_
 exact Ba
theorem acK(o:Option Nat):decide (0<=om o)=o.isSome:=by cases o<;>simp[om]
theorem awp(G:GH)(w0:World)(hG:Hold G w0)(l:List Int)(p:Int->Bool)(v fv:aj)(hv:av G (.sl 1<|l.map DI) v)(hf:∀c∈l,Yl fv G c<|p c) :
  Calls prog 247 #[v,fv] w0 (bD w0 G fun u G'=>u=.bool (l.findIdx? p).isSome):=by
 obtain⟨A,c,rfl,hc1,hc2,-⟩:=hv.slice;rw[bM]at *;refine eN [(0,_),(1,_)] func247 M ntmps247 M M hG<|SR fun _ K1=>ak K1 M<|SR fun _ K2=>Rm M<|Rm M fun a H=>s_call ayN H wn M (aD5 _ _ H.ro l p _ _ hv hf) M ?_;rintro v7 G7 a w rfl Ej H;exact kH H<|Rc M<|ak K2 M<|LR results247 M fun H=>H.rt<|iN<|acK _
def P7(c:Int):Bool:=decide (c<32)||decide (c=127)
theorem aww(G:GH)(c:Int):Yl (.func (.func 248) #[] #[]) G c (P7 c):=by
 intro G1 w0 hm hG;refine kJ (caps:=[]) ayJ ?_;refine eN [(0,_)] func248 M ntmps248 M M hG ?_;intro a H;refine kP H (SR fun _ K1=>ak K1 M<|SR fun _ K2=>Rm M<|Rc M<|Rm M<|Sp 5 M ?_ ?_)<;>clear H K1
 ·intro h5 a H
  try have p5:=dT h5
  exact kH H (aU h5 M (Pt h5 M (ak K2 M (LR results248 M fun H=>H.rt (iN (by unfold P7;first|(simp_all;done)|(simp_all;omega)))))))
 intro h5 a H
 try have p5:=dF h5
 exact kH H (YM h5 M (YC h5 M (Pf h5 M (ak K2 M (LR results248 M fun H=>H.rt (iN (by unfold P7;first|(simp_all;done)|(simp_all;omega))))))))
def Ay(t:ByteArray):Int:=if 64<t.size then 10 else if iI t=false then 12 else if((MC t).findIdx? P7).isSome=true then 5 else Om (lJ t)
def WI(t:ByteArray):List jV:=if Ay t=0 then Ad (lJ t).lit (lJ t).parts else[]
theorem aEJ(G:GH)(l:List jV):bR G 3 (l.map jV.dat) (KN l):=by
 refine⟨l.map jV.cells,M,by simp,fun j r cs hr hc=>?_⟩;rw[ql]at hr hc;obtain⟨x,hx,rfl⟩:=nK.1 hr;rw[hx]at hc
 cases hc
 exact⟨aos G x,M⟩
theorem YV {p:Prop} (h:p:=by
 first
  |exact H.rt ⟨_,by rw[he0],by rw[WI,ay he0];exact hrep⟩
  | exact H.rt ⟨_,by rw [he],by rw [WI,au (by rw [he];first|decide|assumption)];exact av.nT M Z⟩):p:=h
theorem ZC {p:Prop} (h:p:=by
 refine kP H (SC (Ra M (bZ K1 M ?_)));clear H K1;intro a H;refine eH ?_;refine(gV H results217 (.cons (cK H M) (.cons (cK H M) .nil)) ?_).1
 exact YV):p:=h
theorem aFZ(G:GH)(w0:World)(hG:Hold G w0)(t:ByteArray)(ht:t.size<4611686018427387904) :
  Calls prog 217 #[.string t] w0 (bD w0 G fun u G'=>∃x,u=.tuple #[x,vi<|Ay t]∧av G' (.sl 3 ((WI t).map jV.dat)) x):=by
 refine eN [(0,_)] func217 M ntmps217 M M hG ?_;intro a H;refine kP H (SR fun _ K1=>Ra M<|ak K1 M<|SQ fun _ K2=>SB<|SR fun _ K3=>Rm M<|Rv gZ M<|Rc M<|ak K3 M<|Cd M ?_ ?_)<;>clear H K1 K3
 ·intro h5 a H
  try have p5:=dT h5
  refine bU<|fun _ K1=>?_
  have he:Ay t=10:=by rw[Ay,iw]
  exact ZC
 intro h5 a H
 try have p5:=dF h5
 refine kP H<|SR fun _ K1=>Rm M ?_;clear H;intro a H;refine s_call JJ H wn M (Lj _ _ H.ro t ht) M ?_;clear H;rintro v11 _ a w ⟨rfl,rfl⟩-H;refine kH H (Rn M<|ak K1 M<|Cd M ?_ ?_)<;>clear H K1
 ·intro h9 a H
  try have p9:=dT h9
  refine bU<|fun _ K1=>?_
  have he:Ay t=12:=by rw[Ay,bQ,ay (by simpa using h9)]
  exact ZC
 intro h9 a H
 try have p9:=dF h9
 refine kP H<|SR fun _ K1=>Rm M ?_;clear H;intro a H;refine aGX gZ zy Sl H wn M O M ?_;clear H;intro v15 Jc a w xV anr H;obtain⟨A15,c15,rfl,-,-,-⟩:=anr.slice;refine s_call ayI H wn M (awp _ _ H.ro _ P7 _ _ anr<|fun c _=>aww _ c) M ?_;clear H;rintro v16 xu a w rfl xW H;refine kH H (ak K1 M<|Cd M ?_ ?_)<;>clear H K1
 ·intro iA a H
  try have tK:=dT iA
  refine bU<|fun _ K1=>?_
  have he:Ay t=5:=by rw[Ay,bQ,au (by simpa using h9),ay iA]
  exact ZC
 intro iA a H
 try have tK:=dF iA
 refine kP H<|Kc K2<|SR fun _ K1=>Rm M ?_;clear H K2;intro a H;refine jM aHZ [_,_,_,_,_,_,_] H wn M M M M ?_;clear H;intro a H;refine eD (cs:=[_,_,_,_,_,_,_]) H wn M M M ?_;clear H;intro b19 a w aJO H;refine kH H<|ak K1 M<|SQ fun _ K2=>SR fun _ K3=>Rm M ?_;clear H K1;intro a H;refine gM ayK (Li:=[]) (L:=[zw b19 t EI (.pointer none) (.slice none 0 0) (.slice none 0 0)]) H wn M (aHi _ [] [] _ b19 t _ _ _ ⟨.inl M,bT.nil,bT.nil⟩ (Hp.owns (Li:=[]) H.hp) O) M ?_;clear H;rintro v21 BZ L21 a w ⟨p',v',q',tZ,gP,rfl,abm⟩ ny H;dsimp only[List.nil_append]at H;obtain⟨A21,c21,rfl,-,-⟩:=abm.buf.shape;obtain⟨B21,d21,rfl,-,-⟩:=abm.prt.shape;refine K3 _ _ ?_;clear K3;refine bU<|fun _ K1=>?_
 have he:Ay t=Om (lJ t):=by rw[Ay,bQ,au (by simpa using h9),au (by simp[iA])]
 refine kP H (SC<|Rm M<|Rk M<|aV FB jS 0 M M<|Rc M<|Kn K1<|Cd M ?_ ?_)<;>clear H K1
 ·intro jZ a H
  try have p26:=dT jZ
  refine bU<|fun _ K1=>?_;have H:=H.sub (T':=[(4,_)]) ⟨M,aC⟩;refine dI hmx [[],[0],[0,1],[0,1,2],[],ra 0 5] [] V [_,_,_,vi (Om<|lJ t),_,_] H (aD (Z0 M<|Rm M) (Z1 0 27 M<|Rk M) (Z1 1 28 M<|Rf FB M) (Z1 2 29 M<|Ro jS 0 M)<|bE (Z0 M<|Ra M)<|bE (Z1 3 30 M<|Ra M) dz) ?_
  clear H;intro a w G qI H hv;have H:=H.aQ (hv 4 2 M M) M;have H:=H.aQ (hv 5 3 M M) M;clear hv;refine aI ⟨M,?_⟩;refine K1 _ _ ?_;clear K1;refine eH ?_;refine(gV H results217 (.cons (cK H M) (.cons (cK H M) .nil)) ?_).1
  exact YV
 intro jZ a H
 try have p26:=dF jZ
 refine fU ?_;refine K2 _ _ ?_;clear K2;refine bU<|fun _ K1=>?_
 have he0:Ay t=0:=by rw[he];omega
 have H:=(St.cast H (show _=[_]++(tZ++gP)from rfl)).perm<|List.Perm.append_left _ vD;have H:=St.un H;obtain⟨Gr,hmr,hrep,H⟩:=St.qy (Li:=[_]++gP) (Lo:=tZ) H abm.prt (rows:=(Ad (lJ t).lit (lJ t).parts).map jV.dat) (by simp)<|aEJ _ _;dsimp only[lca,bq]at H;refine kP H<|SC<|Rm M<|Rk M<|aV Qn Si 0 M M<|Ra M<|bZ K1 M ?_;clear H K1;intro a H;refine eH ?_;refine(gV H results217 (.cons (cK H M) (.cons (cK H M) .nil)) ?_).1
 exact YV
structure qG where
 fmt:Int
 start:Int
 Dq:ByteArray
 restart:Int
def qG.dat(x:qG):List Dat:=[li x.fmt,li x.start,.lf (.string x.Dq),li x.restart]
abbrev qG.cells(x:qG):List aj:=[vi x.fmt,vi x.start,.string x.Dq,vi x.restart]
theorem aEL{G:GH}{x:qG}{cs:List aj}(h:bg G x.dat cs):cs=x.cells:=by
 simp only[qG.dat,bg,av]at h
 exact ahb
theorem aD2(G:GH)(w0:World)(hG:Hold G w0)(l:List jV)(p:jV->Bool)(v fv:aj)(hv:av G (.sl 3<|l.map jV.dat) v)(hf:∀x∈l,wB fv G x.dat<|p x) :
  Calls prog 250 #[v,fv] w0 (bD w0 G fun u G'=>u=vi (om<|l.findIdx? p)):=by
 obtain⟨A,c,rfl,hc1,hc2,hg⟩:=hv.slice;have hml:maxLen=9223372036854775807:=rfl;rw[bM]at *;refine eN [(0,_),(1,_)] func250 M ntmps250 M M hG ?_;intro a H;refine kP H<|SR fun _ K1=>ak K1 M<|SQ fun _ K2=>SR fun _ K3=>Rm M<|Rl OG M<|Rm M<|Kz K3<|SB ?_;clear H K1 K3;intro a H;skip;refine dY (ι:=Nat×GH) (Tc:=[(0,_),(1,_),(7,_)]) (Lc:=[]) (fun gh=>[(8,vi gh.1)]) (fun gh=>[]) (fun gh=>gh.2) (fun gh=>gh.1<=l.length∧(l.take gh.1).findIdx? p=none∧(∀b o,G b=some o->gh.2 b=some o)) (fun gh=>l.length-gh.1) ((0,G)) (by exact H.sub ⟨M,M,M,M,aC⟩) ?_ ?_
 ·exact zO
 clear H;rintro⟨k,g⟩ a w hI H;dsimp only at hI H;obtain⟨hk,hno,hgm⟩:=hI;dsimp only[lca,bq]at H;refine kP H (SR fun _ K1=>Rc M<|Kz K1<|SQ fun _ K3=>Cd M ?_ ?_)<;>clear H K1
 ·intro h9 a H
  try have p9:=dT h9
  have hk2:k<l.length:=by omega
  obtain⟨b,o,cs,rfl,hcl,hrow,hr⟩:=hg k l[k].dat (by simp[hk2]);obtain rfl:=aor hr;refine kP H<|Kc K3<|SQ fun _ K1=>SB<|SR fun _ K4=>Rm M<|ak K4 M<|SR fun _ K5=>Rm M<|Rm M<|Rm M<|Ri OG OA M M ?_;clear H K3 K4;intro a H;refine aY OA (cs:=l[k].cells) H wn M M (fun j v hj=>H.hp.aJ<|aH hgm<|hrow j v hj) M ?_;clear H;intro a H;refine ow H wn M M (hf _ (ig hk2) _ _ _ hgm H.ro<|aos _ l[k]) M ?_;clear H;rintro v16 xu a w rfl xW H;refine K5 _ _ ?_;clear K5;refine jU H M ?_ ?_
  ·intro h16
   try have p16:=dT h16
   refine kP H<|SR fun _ K3=>Rm M<|ak K3 M ?_;clear H K3;intro a H;refine lr H results250 M ?_
   exact Ba
  exact Mt
 intro h9 a H
 try have p9:=dF h9
 refine dS ?_;refine K2 _ _ ?_;clear K2;refine kP H<|SR fun _ K1=>ak K1 M ?_;clear H K1;intro a H;refine lr H results250 M ?_
 exact Ba
theorem awo(G:GH)(w0:World)(hG:Hold G w0)(l:List jV)(p:jV->Bool)(v fv:aj)(hv:av G (.sl 3<|l.map jV.dat) v)(hf:∀x∈l,wB fv G x.dat<|p x) :
  Calls prog 218 #[v,fv] w0 (bD w0 G fun u G'=>u=.bool (l.findIdx? p).isSome):=by
 obtain⟨A,c,rfl,hc1,hc2,-⟩:=hv.slice;rw[bM]at *;refine eN [(0,_),(1,_)] func218 M ntmps218 M M hG<|SR fun _ K1=>ak K1 M<|SR fun _ K2=>Rm M<|Rm M fun a H=>s_call ayL H wn M (aD2 _ _ H.ro l p _ _ hv hf) M ?_;rintro v7 G7 a w rfl Ej H;exact kH H<|Rc M<|ak K2 M<|LR results218 M fun H=>H.rt<|iN<|acK _
theorem aEM{G:GH}{bl:Nat}{k:Int}(hb:aJ G bl 0=some (vi k))(x:jV):wB (.func (.func 219) #[] #[aK bl 0]) G x.dat (decide<|k<x.level):=by
 intro G1 w0 cs hm hG hr;refine kJ (caps:=[aK bl 0]) aym ?_;obtain rfl:=aor hr;replace hb:=aH hm hb;exact eN [(0,_),(1,_)] func219 M ntmps219 M M hG fun a H=>dw (fun _ K1=>eD (cs:=[_,_,_]) H wn M M M fun b2 a w hb2 H=>kH H<|ak K1 M<|SR fun _ K2=>aV azT aF 0 M M<|Rg aF M (by assumption)<|Rc M<|ak K2 M<|LR results219 M fun H=>H.rt M)
def NS(t:ByteArray)(k:Int):Int:=if k<1∨9<k then 2 else if Ay t=0∧((WI t).findIdx? fun x=>decide (k<x.level)).isSome=true then 6 else Ay t
theorem YW {p:Prop} (h:p:=by
 exact H.rt (cO vi (by unfold NS;(repeat' split) <;> first|rfl|(exfalso;simp_all;done)|(exfalso;simp_all;omega)|(simp_all;done)))):p:=h
theorem Y7 {p:Prop} (h:p:=by
 intro a H;refine lr H results164 M ?_
 exact YW):p:=h
theorem aEK(G:GH)(w0:World)(hG:Hold G w0)(t:ByteArray)(k:Int)(ht:t.size<4611686018427387904) :
  Calls prog 164 #[.string t,vi k] w0 (bD w0 G fun u G'=>u=vi (NS t k)):=by
 refine eN [(0,_),(1,_)] func164 M ntmps164 M M hG fun a H=>dw (fun _ K1=>eD (cs:=[_]) H wn M M M fun b3 a w hb3 H=>kH H<|ak K1 M<|SQ fun _ K2=>SR fun _ K3=>Ro aF 0 M<|Rc M<|Rm M<|Sp 9 M ?_ ?_)<;>clear H K1
 ·intro h9 a H
  try have p9:=dT h9
  exact kH H<|aU h9 M<|Pt h9 M<|Kz K3<|Ct M M<|SR fun _ K1=>ak K1 M Y7
 refine fun h9=>YO aF 0 h9 M (YC h9 M<|Pf h9 M<|Kz K3<|Cd M ?_ ?_)<;>clear K3
 ·intro h12 a H
  try have nU:=dT h12
  exact kP H<|SR fun _ K1=>ak K1 M Y7
 intro h12 a H;refine fU<|K2 _ _<|bU<|fun _ K1=>?_;obtain⟨Ga,hma,uq,H⟩:=H.eX
 have hbk:aJ Ga b3 0=some (vi k):=by unfold aJ;rw[uq];rfl
 refine kP H<|SC<|Rm M fun a H=>s_call ayk H wn M (aFZ _ _ H.ro t ht) M ?_;rintro v15 Jc a w ⟨x15,rfl,anD⟩ xV H;obtain⟨A15,c15,rfl,-,-,-⟩:=anD.slice;replace hbk:=aH xV hbk;refine kH H<|Rm M ?_;intro a H;(iterate 2 refine iH H wn M M M ?_;intro a H);refine kH H (Ra M<|bZ K1 M<|SQ fun _ K2=>SR fun _ K3=>Rm M<|Rc M<|Rm M<|Sp 20 M ?_ ?_)<;>clear H K1
 ·intro h20 a H
  try have BJ:=dT h20
  refine kH H<|YM h20 M fun a H=>wU H (wg H M M h20) M M fun a H=>s_call ayl H (wg H M M h20) M (awo _ _ H.ro _ (fun x=>decide<|k<x.level) _ _ anD<|fun x _=>aEM hbk x) M ?_;rintro v23 Je a w rfl rV H;refine kH H (Pt h20 M<|Kz K3<|Cd M ?_ ?_)<;>clear H K3
  ·intro eY a H
   try have pW:=dT eY
   exact kP H<|SC<|bZ K2 M<|SR fun _ K1=>Rm M<|ak K1 M fun a H=>lr H results164 M YW
  exact fun eY=>Kc K2<|SR fun _ K1=>Rm M<|ak K1 M Y7
 exact fun h20=>bJ h20 M<|Pf h20 M<|Kz K3<|Cf M M<|Kc K2<|SR fun _ K1=>Rm M<|ak K1 M fun a H=>lr H results164 M YW
theorem Le:Ty prog 209 4 40 [.int .i64 0,.int .i64 0,.string ⟨#[]⟩,.int .i64 0] true:=⟨V,V⟩
theorem IY:prog.underlying 172=some (.slice 209):=by kernel_rfl
theorem akQ:dG prog 209 0 0:=⟨V⟩
theorem akR:dG prog 209 1 1:=⟨V⟩
theorem azO:dG prog 209 2 2:=⟨V⟩
theorem axA:aW 164:=aX func164 M
theorem akS:dG prog 209 3 3:=⟨V⟩
def JH:Nat->List qG->Int
 |_,[]=>0
 |i,x::r=>if x.fmt<1∨7<x.fmt then 3 else if x.start<0∨32767<x.start then 2 else if NS x.Dq ((i+1:Nat):Int)≠0 then NS x.Dq ((i+1:Nat):Int)else if x.restart<0∨(i:Int)<x.restart then 5 else JH (i+1) r
def Cm(l:List qG):Int:=if l.length=0 then 11 else if 9<l.length then 9 else JH 0 l
theorem PZ{l:List qG}{k:Nat}(h:k<l.length):JH k (l.drop k)=if l[k].fmt<1∨7<l[k].fmt then 3 else if l[k].start<0∨32767<l[k].start then 2 else if NS l[k].Dq ((k+1:Nat):Int)≠0 then NS l[k].Dq ((k+1:Nat):Int)else if l[k].restart<0∨(k:Int)<l[k].restart then 5 else JH (k+1) (l.drop<|k+1):=by
 rw[mg h,JH]
theorem agd {p:Prop} (h:p:=by
 first
  |exact H.rt (cO vi (by rw[Cm,iw]))
  |exact H.rt (cO vi (by rw[Cm,bQ,iw]))
  |exact H.rt (cO vi (by rw[Cm,bQ,bQ,<-he,PZ hk2,iw]))
  |exact H.rt (cO vi (by rw[Cm,bQ,bQ,<-he,PZ hk2,bQ,iw]))
  |exact H.rt (cO vi (by rw[Cm,bQ,bQ,<-he,PZ hk2,bQ,bQ,ay p45]))
  |exact H.rt (cO vi (by rw[Cm,bQ,bQ,<-he,PZ hk2,bQ,bQ,au p45,iw]))
  | exact H.rt (cO vi (by rw [Cm,bQ,bQ,<- he,mh O];rfl))):p:=h
theorem Fe {p:Prop} (h:p:=by
 intro a H;refine lr H results87 M ?_
 exact agd):p:=h
theorem avC(G:GH)(w0:World)(hG:Hold G w0)(l:List qG)(v:aj)(hv:av G (.sl 4<|l.map qG.dat) v)(ht:∀x∈l,x.Dq.size<4611686018427387904) :
  Calls prog 87 #[v] w0 (bD w0 G fun u G'=>u=vi (Cm l)):=by
 obtain⟨A,c,rfl,hc1,hc2,hg⟩:=hv.slice;have hml:maxLen=9223372036854775807:=rfl;rw[bM]at *;refine eN [(0,_)] func87 M ntmps87 M M hG ?_;intro a H;refine kP H (SR fun _ K1=>ak K1 M<|SQ fun _ K2=>SB<|SR fun _ K3=>Rm M<|Rl IY M<|Rc M<|ak K3 M<|Cd M ?_ ?_)<;>clear H K1 K3
 ·intro h6 a H
  try have p6:=dT h6
  refine kP H<|SR fun _ K1=>ak K1 M ?_;clear H K1;exact Fe
 intro h6 a H
 try have p6:=dF h6
 refine kP H (SR fun _ K1=>Rm M<|Rl IY M<|Rc M<|ak K1 M<|Cd M ?_ ?_)<;>clear H K1
 ·intro h10 a H
  try have lC:=dT h10
  refine kP H<|SR fun _ K1=>ak K1 M ?_;clear H K1;exact Fe
 intro h10 a H
 try have lC:=dF h10
 refine kP H<|Kc K2<|SQ fun _ K1=>SR fun _ K3=>Rm M<|Rl IY M<|Rm M<|Kz K3<|SB ?_;clear H K2 K3;intro a H;skip;refine dY (ι:=Nat×GH) (Tc:=[(14,_),(15,_)]) (Lc:=[]) (fun gh=>[(16,vi gh.1)]) (fun gh=>[]) (fun gh=>gh.2) (fun gh=>gh.1<=l.length∧JH gh.1 (l.drop gh.1)=JH 0 l∧(∀b o,G b=some o->gh.2 b=some o)) (fun gh=>l.length-gh.1) ((0,G)) (by exact H.sub ⟨M,M,M,aC⟩) ?_ ?_
 ·exact Fb
 clear H;rintro⟨k,g⟩ a w hI H;dsimp only at hI H;obtain⟨hk,he,hgm⟩:=hI;dsimp only[lca,bq]at H;refine kP H (SR fun _ K2=>Rc M<|Kz K2<|SQ fun _ K3=>Cd M ?_ ?_)<;>clear H K2
 ·intro dL a H
  try have lD:=dT dL
  have hk2:k<l.length:=by omega
  obtain⟨b,o,cs,rfl,hcl,hrow,hr⟩:=hg k l[k].dat (by simp[hk2]);obtain rfl:=aEL hr;refine kP H<|Kc K3<|SQ fun _ K2=>SB<|SR fun _ K4=>Rm M<|Ri IY Le M M ?_;clear H K3;intro a H;refine aY Le (cs:=l[k].cells) H wn M M (fun j v hj=>H.hp.aJ<|aH hgm<|hrow j v hj) M ?_;clear H;intro a H;refine dK Le H wn M ?_;clear H;intro b4 a w hb4 H;refine kH H<|Ra M ?_;clear H;intro a H;refine bH Le 0 (vs:=[_,_,_,_]) H wn M ?_;clear H;intro w H;refine K4 _ _ ?_;clear K4;refine kP H (SQ fun _ K3=>SB<|SR fun _ K4=>aV akQ aF 0 M M<|Rc M<|Rm M<|Sp 25 M ?_ ?_)<;>clear H
  ·intro oK a H
   try have p25:=dT oK
   refine kH H<|bJ oK M<|Pt oK M<|ak K4 M<|Ct M M<|SR fun _ K5=>ak K5 M ?_;clear H K4 K5;exact Fe
  intro oK a H
  try have p25:=dF oK
  refine kH H (YF akQ oK M<|YO aF 0 oK M<|YC oK M<|Pf oK M<|ak K4 M<|Cd M ?_ ?_)<;>clear H K4
  ·intro h21 a H
   try have sG:=dT h21
   refine kP H<|SR fun _ K4=>ak K4 M ?_;clear H K4;exact Fe
  intro h21 a H
  try have sG:=dF h21
  refine kP H (SR fun _ K4=>aV akR aF 0 M M<|Rc M<|Rm M<|Sp 34 M ?_ ?_)<;>clear H
  ·intro iB a H
   try have p34:=dT iB
   refine kH H<|bJ iB M<|Pt iB M<|ak K4 M<|Ct M M<|SR fun _ K5=>ak K5 M ?_;clear H K4 K5;exact Fe
  intro iB a H
  try have p34:=dF iB
  refine kH H (YF akR iB M<|YO aF 0 iB M<|YC iB M<|Pf iB M<|ak K4 M<|Cd M ?_ ?_)<;>clear H K4
  ·intro kK a H
   try have p30:=dT kK
   refine kP H<|SR fun _ K4=>ak K4 M ?_;clear H K4;exact Fe
  intro kK a H
  try have p30:=dF kK
  refine kP H<|Kc K3<|SQ fun _ K4=>SR fun _ K5=>aV azO gN 0 M M<|Rm M<|Rd M ?_;clear H K3;intro a H;rw[show((k:Int)+1)=((k+1:Nat):Int)from rfl]at H;refine s_call axA H wn M (aEK _ _ H.ro l[k].Dq ((k+1:Nat):Int)<|ht _<|ig hk2) M ?_;clear H;rintro v43 GU a w rfl uD H;refine kH H (ak K5 M<|SR fun _ K3=>Rm M<|Rc M<|Kz K3<|Cd M ?_ ?_)<;>clear H K5 K3
  ·intro h45 a H
   try have p45:=dT h45
   refine kP H<|SR fun _ K3=>Rm M<|ak K3 M ?_;clear H K3;exact Fe
  intro h45 a H
  try have p45:=dF h45
  refine kP H (Kc K4<|SR fun _ K3=>aV akS aF 0 M M<|Rc M<|Rm M<|Sp 50 M ?_ ?_)<;>clear H K4
  ·intro h50 a H
   try have p50:=dT h50
   refine kH H<|aU h50 M<|aU h50 M<|Pt h50 M<|Kz K3<|Ct M M<|SR fun _ K4=>ak K4 M ?_;clear H K3 K4;exact Fe
  intro h50 a H
  try have p50:=dF h50
  refine kH H (YF akS h50 M<|YO aF 0 h50 M<|YM h50 M<|YC h50 M<|Pf h50 M<|Kz K3<|Cd M ?_ ?_)<;>clear H K3
  ·intro rU a H
   try have p55:=dT rU
   refine kP H<|SR fun _ K3=>ak K3 M ?_;clear H K3;exact Fe
  intro rU a H
  try have p55:=dF rU
  refine kP H<|Kc K2<|SC<|Rd M<|Rm M ?_;clear H K2;intro a H;refine aI ?_;refine dO ((k+1,GU)) (by exact(H.dR (Pl:=[_]) (dH:=[]) [] Z M).sub ⟨M,M,M,aC⟩) ?_
  (try dsimp only);exact⟨O,by rw[PZ hk2,bQ,bQ,au p45,bQ]at he;exact he,fun b o h=>uD b o<|hgm b o h⟩
 intro dL a H
 try have lD:=dF dL
 refine dS ?_;refine K1 _ _ ?_;clear K1;refine kP H<|SR fun _ K1=>ak K1 M ?_;clear H K1;intro a H;refine lr H results87 M ?_
 exact agd
theorem EM:Ty prog 32 1 24 [.slice none 0 0] false:=⟨V,V⟩
theorem zB:prog.underlying 32=some (.slice 174):=by kernel_rfl
theorem Du:Ty prog 174 2 32 [.int .i64 0,.slice none 0 0] true:=⟨V,V⟩
theorem akI:dG prog 174 0 0:=⟨V⟩
theorem aeh:Ty prog 172 1 24 [.slice none 0 0] false:=⟨V,V⟩
theorem ajJ:aW 119:=aX func119 M
theorem aaI:dG prog 174 1 1:=⟨V⟩
theorem azh:aW 87:=aX func87 M
theorem MJ:aW 117:=aX func117 M
theorem axO:aW 188:=aX func188 M
theorem axN:aW 187:=aX func187 M
structure fV where
 id:Int
 levels:List qG
def fV.dat(x:fV):List Dat:=[li x.id,.sl 4 (x.levels.map qG.dat)]
structure jw where
 id:Int
 parent:Int
 author:ByteArray
 time:Int
 text:ByteArray
 done:Bool
def jw.dat(x:jw):List Dat:=[li x.id,li x.parent,.lf (.string x.author),li x.time,.lf (.string x.text),.lf (.bool x.done)]
abbrev jw.cells(x:jw):List aj:=[vi x.id,vi x.parent,.string x.author,vi x.time,.string x.text,.bool x.done]
structure mV where
 name:ByteArray
 value:ByteArray
def mV.dat(x:mV):List Dat:=[.lf (.string x.name),.lf (.string x.value)]
abbrev mV.cells(x:mV):List aj:=[.string x.name,.string x.value]
theorem agG {p:Prop} (h:p:=by
 obtain⟨_,_,rfl,⟨rfl,_⟩,_,_,rfl,⟨rfl,_⟩,_,_,rfl,⟨rfl,_⟩,_,_,rfl,⟨rfl,_⟩,_,_,rfl,⟨rfl,_⟩,_,_,rfl,⟨rfl,_⟩,rfl⟩:=h
 rfl):p:=h
theorem ajc{G:GH}{x:jw}{cs:List aj}(h:bg G x.dat cs):cs=x.cells:=by
 simp only[jw.dat,bg,av]at h
 exact agG
theorem aIP{G:GH}{x:mV}{cs:List aj}(h:bg G x.dat cs):cs=x.cells:=by
 simp only[mV.dat,bg,av]at h
 obtain⟨_,_,rfl,⟨rfl,_⟩,_,_,rfl,⟨rfl,_⟩,rfl⟩:=h
 rfl
theorem acR{G:GH}{l:List fV}{A:Option Addr}{n c k:Nat}(hv:av G (.sl 2<|l.map fV.dat) (.slice A n c))(hk:k<l.length):∃b o B d,A=some ⟨b,o,none⟩∧(∀j u,[vi l[k].id,.slice B l[k].levels.length d][j]?=some u->aJ G b (o+k*2+j)=some u)∧av G (.sl 4<|l[k].levels.map qG.dat) (.slice B l[k].levels.length d):=by
 obtain⟨A',c',he,_,_,hg⟩:=hv.slice
 injection he with e1 e2 e3
 subst e1;obtain⟨b,o,cs,h1,h2,h3,h4⟩:=hg k l[k].dat (by simp[hk])
 simp only[fV.dat,bg]at h4
 obtain⟨v1,_,rfl,⟨rfl,-⟩,v2,_,rfl,hl,rfl⟩:∃v vs,cs=v::vs∧av G (li l[k].id) v∧∃v2 vs2,vs=v2::vs2∧av G (.sl 4<|l[k].levels.map qG.dat) v2∧vs2=[]:=h4;obtain⟨B,d,rfl,-,-,-⟩:=hl.slice;rw[bM]at *;exact⟨b,o,B,d,h1,h3,hl⟩
theorem aEB{G:GH}{bl:Nat}{l:List fV}{A:Option Addr}{n c:Nat}(hb:aJ G bl 0=some (.slice A n c))(hv:av G (.sl 2<|l.map fV.dat) (.slice A n c)):wz (.func (.func 188) #[] #[aK bl 0]) G l.length fun k=>(l[k]?.map fV.id).getD 0:=by
 intro k hk G1 w0 hm hG;refine kJ (caps:=[aK bl 0]) axO ?_;replace hb:=aH hm hb
 obtain rfl:n=l.length:=by have:=hv.len;simpa using this
 obtain⟨b,o,B,d,rfl,hrow,-⟩:=acR (hv.mono hm) hk;have hq:=hrow 0 _ M;exact eN [(0,_),(1,_)] func188 M ntmps188 M M hG (SR fun _ K1=>ak K1 M<|SR fun _ K2=>Rg EM M (by assumption)<|Rm M<|Ri zB Du M M<|Rf akI M<|Rg aF M (by assumption)<|ak K2 M<|LR results188 M fun H=>H.rt (by dsimp only;rw[gF hk];rfl))
def KJ(l:List fV)(i:Nat):Int:=fD [yh (fun k=>(l[k]?.map fV.id).getD 0) i,Cm ((l[i]?.map fV.levels).getD [])]
theorem agf {p:Prop} (h:p:=by
 exact fin H mI (rfl)):p:=h
theorem aif {p:Prop} (h:p:=by
 refine fu 0 4 1 5 M M fun _ a w G1 hG HT H fin=>?_;refine s_call ajJ H wn M (anR _ _ H.ro k _ _ O (fun i hi=>(hcb.mono hG) i O)) M ?_;clear H;rintro v6 G6 a w rfl mI H;exact agf):p:=h
theorem Jw {p:Prop} (h:p:=by
 refine Ye M fun _ a w G1 hG HT H fin=>?_;refine wU H wn M M ?_;exact jD):p:=h
theorem aEE{G:GH}{bl:Nat}{l:List fV}{A:Option Addr}{n c:Nat}(hb:aJ G bl 0=some (.slice A n c))(hv:av G (.sl 2<|l.map fV.dat) (.slice A n c))(hl:l.length<=4294967296)(ht:∀x∈l,∀y∈x.levels,y.Dq.size<4611686018427387904):wz (.func (.func 187) #[] #[aK bl 0]) G l.length (KJ l):=by
 intro k hk G1 w0 hm hG;refine kJ (caps:=[aK bl 0]) axN ?_;replace hb:=aH hm hb;replace hv:=hv.mono hm;have hcb:=aEB hb hv
 obtain rfl:n=l.length:=by have:=hv.len;simpa using this
 obtain⟨b,o,B,d,rfl,hrow,hlv⟩:=acR hv hk;have hq:=hrow 1 _ M
 have he:KJ l k=fD [yh (fun k=>(l[k]?.map fV.id).getD 0) k,Cm l[k].levels]:=by unfold KJ;rw[gF hk];rfl
 refine eN [(0,_),(1,_)] func187 M ntmps187 M M hG ?_;intro a H;refine kP H<|SR fun _ K1=>ak K1 M<|SQ fun _ K2=>?_;clear H K1;intro a H;have H:=H.sub (T':=[(0,_),(1,_)]) ⟨M,M,aC⟩;refine dI hmx [[],[],[0,1],[],[],[3,4],[3,4,5],ra 3 4,ra 0 8,ra 0 9,ra 0 10,ra 0 11] [9,10,11] V [_,.func (.func 188) #[] #[aK bl 0],vi (yh (fun k=>(l[k]?.map fV.id).getD 0) k),_,_,_,_,_,vi<|Cm l[k].levels] H (aD (Z0 M<|Rm M) ?_ ?_ (X0 M fun hG=>Rg EM M<|aH hG hb)<|aD (Z0 M<|Rm M) (Z2 3 7 4 8 M<|Ri zB Du M M) (Z1 5 9 M<|Rf aaI M) (X1 6 10 M fun hG=>Rg aeh M<|aH hG hq)<|aD ?_ (bX M) (bX M) (bX M) dz) ?_
 ·exact Jw
 ·exact aif
 ·refine iE 7 11 M M fun _ a w G1 hG HT H fin=>?_;refine s_call azh H wn M (avC _ _ H.ro _ _ (hlv.mono hG)<|ht _<|ig hk) M ?_;clear H;rintro v12 EX a w rfl pI H;exact fin H pI<|rfl
 clear H;intro a w G jL H hv;have H:=H.aQ (hv 2 6 M M) M;have H:=H.aQ (hv 8 12 M M) M;clear hv;refine iT tQ jS [_,_] [_,_] H wn M M M M M (by intro i q h;match i,h with|0,h=>exact h|1,h=>exact h|n+2,h=>simp at h) M M ?_;clear H;intro b13 a w Qy H;obtain⟨LJ,Vt,abo,H⟩:=H.eX;refine s_call uT H wn M (uV _ _ H.ro _ _<|Dr abo) M ?_;clear H;rintro v14 _ a w ⟨rfl,rfl⟩-H;refine kH H<|Ra M ?_;clear H;intro a H;refine aI ⟨M,?_⟩;refine K2 _ _ ?_;clear K2;refine lr H results187 M ?_;exact H.rt (by rw[he])
def PV(l:List fV):Int:=fD [dX (decide (64<(l.length:Int))) 9,kW (KJ l) (min l.length 64)]
theorem wz.le{fv:aj}{G:GH}{n m:Nat}{E:Nat->Int}(h:wz fv G n E)(hm:m<=n):wz fv G m E:=fun i hi=>h i O
theorem auA {p:Prop} (h:p:=by
 exact fin H iJ (cO vi O)):p:=h
theorem agh {p:Prop} (h:p:=by
 exact fin H nZ (rfl)):p:=h
theorem TY {p:Prop} (h:p:=by
 refine iE 2 5 M M fun _ a w G1 hG HT H fin=>?_;refine s_call qx H wn M (qF _ _ H.ro _ 9) M ?_;clear H;rintro v6 G6 a w ⟨rfl,-⟩ mI H;exact agf):p:=h
theorem Ub {p:Prop} (h:p:=by
 refine iE 5 8 M M fun _ a w G1 hG HT H fin=>?_;refine aqr H wn M M M ?_;clear H;intro a H;exact auA):p:=h
theorem PG {p:Prop} (h:p:=by
 clear H;rintro v11 DN a w rfl nZ H;exact agh):p:=h
theorem avD(G:GH)(w0:World)(hG:Hold G w0)(l:List fV)(v:aj)(hv:av G (.sl 2<|l.map fV.dat) v)(hl:l.length<=4294967296)(ht:∀x∈l,∀y∈x.levels,y.Dq.size<4611686018427387904) :
  Calls prog 114 #[v] w0 (bD w0 G fun u G'=>u=vi (PV l)):=by
 obtain⟨A,c,rfl,hc1,hc2,-⟩:=hv.slice;rw[bM]at *;refine eN [(0,_)] func114 M ntmps114 M M hG fun a H=>dw<|fun _ K1=>eD (cs:=[_]) H wn M M M fun b1 a w hb1 H=>kH H<|ak K1 M<|SQ fun _ K2=>?_;clear H K1;intro a H;have H:=H.sub (T':=[(1,_)]) ⟨M,aC⟩;obtain⟨Ga,hma,hb1',H⟩:=H.eX
 have hbl:aJ Ga b1 0=some (.slice A l.length c):=by unfold aJ;rw[hb1'];rfl
 have hcb:=aEE hbl (hv.mono hma) hl ht;refine dI hmx [[],[0],[0,1],[0,1,2],[],[4],[4,5],[],ra 0 8,ra 0 9,ra 0 10,ra 0 11] [9,10,11] V [_,_,_,vi (dX (decide (64<(l.length:Int))) 9),_,_,vi ((min l.length 64:Nat):Int),.func (.func 187) #[] #[aK b1 0],vi<|kW (KJ l)<|min l.length 64] H (aD (X0 M fun hG=>Rg EM M<|aH hG hbl) (Z1 0 3 M<|Rl zB M) (Z1 1 4 M<|Rc M) ?_<|aD (X0 M fun hG=>Rg EM M<|aH hG hbl) (Z1 4 7 M<|Rl zB M) ?_ ?_<|aD ?_ (bX M) (bX M) (bX M) dz) ?_
 ·exact TY
 ·exact Ub
 ·exact Jw
 ·exact fu 6 9 7 10 M M fun _ a w G1 hG HT H fin=>s_call MJ H wn M (Pg _ _ H.ro (min l.length 64) (KJ l) _ O ((hcb.mono hG).le<|Nat.min_le_left _ _)) M PG
 clear H;intro a w G jL H hv;have H:=H.aQ (hv 3 6 M M) M;have H:=H.aQ (hv 8 11 M M) M;clear hv;refine iT tQ jS [_,_] [_,_] H wn M M M M M (by intro i q h;match i,h with|0,h=>exact h|1,h=>exact h|n+2,h=>simp at h) M M ?_;intro b12 a w CP H;obtain⟨EX,CV,J9,H⟩:=H.eX;refine s_call uT H wn M (uV _ _ H.ro _ _<|Dr J9) M ?_;rintro v13 _ a w ⟨rfl,rfl⟩-H;exact kH H<|Ra M fun a H=>aI ⟨M,K2 _ _<|lr H results114 M Bb⟩
theorem mR:prog.underlying 31=some (.slice 171):=by kernel_rfl
theorem kQ:Ty prog 171 6 72 [.int .i64 0,.int .i64 0,.string ⟨#[]⟩,.int .i64 0,.int .i64 0,.slice none 0 0] true:=⟨V,V⟩
theorem Cu:dG prog 171 1 1:=⟨V⟩
theorem Ql:dG prog 171 2 2:=⟨V⟩
theorem yP:dG prog 171 0 0:=⟨V⟩
theorem ake:aW 244:=aX func244 M
theorem ayj:aW 215:=aX func215 M
theorem ayG:aW 245:=aX func245 M
theorem ayH:aW 246:=aX func246 M
structure dh where
 id:Int
 kind:Int
 name:ByteArray
 base:Int
 next:Int
 props:List jy
def dh.dat(x:dh):List Dat:=[li x.id,li x.kind,.lf (.string x.name),li x.base,li x.next,.sl 2 (x.props.map jy.dat)]
theorem Xa{G:GH}{x:dh}{cs:List aj}(h:bg G x.dat cs):∃A c,cs=[vi x.id,vi x.kind,.string x.name,vi x.base,vi x.next,.slice A x.props.length c]∧av G (.sl 2<|x.props.map jy.dat) (.slice A x.props.length c):=by
 simp only[dh.dat,bg]at h
 obtain⟨v1,_,rfl,h1,v2,_,rfl,h2,v3,_,rfl,h3,v4,_,rfl,h4,v5,_,rfl,h5,v6,_,rfl,h6,rfl⟩:=h
 simp only[av]at h1 h2 h3 h4 h5
 obtain⟨rfl,-⟩:=h1;obtain⟨rfl,-⟩:=h2;obtain⟨rfl,-⟩:=h3;obtain⟨rfl,-⟩:=h4;obtain⟨rfl,-⟩:=h5;obtain⟨A,c,rfl,-,-,-⟩:=h6.slice;rw[bM]at *;exact⟨A,c,M,h6⟩
theorem Gq{G:GH}{l:List dh}{A:Option Addr}{n c k:Nat}(hv:av G (.sl 6<|l.map dh.dat) (.slice A n c))(hk:k<l.length):∃b o pA pc,A=some ⟨b,o,none⟩∧(∀j u,[vi l[k].id,vi l[k].kind,.string l[k].name,vi l[k].base,vi l[k].next,.slice pA l[k].props.length pc][j]?=some u->aJ G b (o+k*6+j)=some u)∧av G (.sl 2<|l[k].props.map jy.dat) (.slice pA l[k].props.length pc)∧
  bg G l[k].dat [vi l[k].id,vi l[k].kind,.string l[k].name,vi l[k].base,vi l[k].next,.slice pA l[k].props.length pc]:=by
 obtain⟨A',c',he,_,_,hg⟩:=hv.slice
 injection he with e1 e2 e3
 subst e1;obtain⟨b,o,cs,h1,h2,h3,h4⟩:=hg k l[k].dat (by simp[hk]);obtain⟨pA,pc,rfl,hp⟩:=Xa h4;exact⟨b,o,pA,pc,h1,h3,hp,h4⟩
def okB(x:Int):Bool:=decide (32<=x∧x<=126)
def KP(s:ByteArray)(k:Nat):Bool:=(List.range k).all fun i=>okB (eO s i)
def NM(s:ByteArray):Bool:=decide (s.size≠0∧s.size<=40∧eO s 0≠32∧eO s (s.size-1)≠32)&&KP s s.size
theorem aE6(s:ByteArray)(k:Nat):KP s (k+1)=(KP s k&&okB (eO s k)):=by simp[KP,List.range_succ]
theorem aE5{s:ByteArray}{k:Nat}(hk:k<s.size)(h:okB (eO s k)=false):KP s s.size=false:=by
 rw[KP,List.all_eq_false];exact⟨k,by simpa using hk,by simp[h]⟩
theorem Pm {p:Prop} (h:p:=by
 first
  |exact H.rt (iN (by rw[NM,mE O,Bool.false_and]))
  |exact H.rt (iN (by rw[NM,kZ O,show s.size=k by omega,hno];rfl))
  | exact H.rt (iN (by rw [NM,aE5 (k:=k) O (mE O),Bool.and_false]))):p:=h
theorem Y8 {p:Prop} (h:p:=by
 clear H K3 K1;intro a H;refine lr H results212 M ?_
 exact Pm):p:=h
theorem acF(G:GH)(w0:World)(hG:Hold G w0)(s:ByteArray)(hs:s.size<=4611686018427387904):Calls prog 212 #[.string s] w0 (bD w0 G fun u G'=>u=.bool (NM s)):=by
 refine eN [(0,_)] func212 M ntmps212 M M hG ?_;intro a H;refine kP H (SR fun _ K1=>ak K1 M<|SQ fun _ K2=>SR fun _ K3=>Rm M<|Rv gZ M<|Rc M<|Rm M<|Sp 7 M ?_ ?_)<;>clear H K1
 ·intro h7 a H
  try have p7:=dT h7
  refine kH H<|bJ h7 M<|Pt h7 M<|Rm M<|bJ M M<|Pt M M<|Rm M<|bJ M M<|bJ M M<|Pt M M<|Kz K3<|Ct M M<|SR fun _ K1=>ak K1 M ?_;exact Y8
 intro h7 a H
 try have p7:=dF h7
 refine kH H<|YM h7 M ?_;clear H;intro a H;refine Gj gZ H (wg H M M h7) M M ?_;clear H;intro a H;refine kH H (YC h7 M<|Pf h7 M<|Rm M<|Sp 12 M ?_ ?_)<;>clear H
 ·intro h12 a H
  try have nU:=dT h12
  refine kH H<|bJ h12 M<|Pt h12 M<|Rm M<|bJ M M<|bJ M M<|Pt M M<|Kz K3<|Ct M M<|SR fun _ K1=>ak K1 M ?_;exact Y8
 intro h12 a H
 try have nU:=dF h12
 refine kH H<|YM h12 M ?_;clear H;intro a H;refine qO 0 gZ H (wg H M M h12) M M M O M ?_;clear H;intro a H;rw[<-lN]at H;refine kH H (YC h12 M<|Pf h12 M<|Rm M<|Sp 17 M ?_ ?_)<;>clear H
 ·intro dL a H
  try have lD:=dT dL
  refine kH H<|bJ dL M<|bJ dL M<|Pt dL M<|Kz K3<|Ct M M<|SR fun _ K1=>ak K1 M ?_;exact Y8
 intro dL a H
 try have lD:=dF dL
 refine kH H<|YM dL M<|YM dL M ?_;clear H;intro a H;refine Gj gZ H (wg H M M dL) M M ?_;clear H;intro a H;refine EH _ H (wg H M M dL) M M M O O M ?_;clear H;intro a H;refine qO (s.size-1) gZ H (wg H M M dL) M M O O M ?_;clear H;intro a H;rw[<-lN]at H;refine kH H (YC dL M<|Pf dL M<|Kz K3<|Cd M ?_ ?_)<;>clear H K3
 ·intro eY a H
  try have pW:=dT eY
  refine kP H<|SR fun _ K1=>ak K1 M ?_;clear H K1;intro a H;refine lr H results212 M ?_
  exact Pm
 intro eY a H
 try have pW:=dF eY
 refine kP H<|Kc K2<|SQ fun _ K1=>SR fun _ K3=>Rm M<|Rv gZ M<|Rm M<|Kz K3<|SB ?_;clear H K2 K3;intro a H;skip;refine dY (ι:=Nat) (Tc:=[(0,_),(26,_)]) (Lc:=[]) (fun gh=>[(27,vi gh)]) (fun gh=>[]) (fun gh=>G) (fun gh=>gh<=s.size∧KP s gh=true) (fun gh=>s.size-gh) (0) (by exact H.sub ⟨M,M,M,aC⟩) ?_ ?_
 ·exact Mk
 clear H;intro k a w hI H;obtain⟨hk,hno⟩:=hI;dsimp only[lca,bq]at H;refine kP H (SR fun _ K2=>Rc M<|Kz K2<|SQ fun _ K3=>Cd M ?_ ?_)<;>clear H K2
 ·intro eZ a H
  try have p28:=dT eZ
  refine kP H<|Kc K3<|SQ fun _ K2=>SB<|SR fun _ K4=>Rm M<|ak K4 M<|SR fun _ K5=>Rm M<|Rm M ?_;clear H K3 K4;intro a H;refine qO k gZ H wn M M M O M ?_;clear H;intro a H;rw[<-lN]at H;refine kH H (Rc M<|Rm M<|Sp 34 M ?_ ?_)<;>clear H
  ·intro iB a H
   try have p34:=dT iB
   refine kH H<|aU iB M<|aU iB M<|Pt iB M<|Kz K5<|Ct M M<|SR fun _ K3=>ak K3 M ?_;clear H K5 K3;intro a H;refine lr H results212 M ?_
   exact Pm
  intro iB a H
  try have p34:=dF iB
  refine kH H<|YM iB M<|YM iB M ?_;clear H;intro a H;refine qO k gZ H (wg H M M iB) M M M O M ?_;clear H;intro a H;rw[<-lN]at H;refine kH H (YC iB M<|Pf iB M<|Kz K5<|Cd M ?_ ?_)<;>clear H K5
  ·intro nM a H
   try have p39:=dT nM
   refine kP H<|SR fun _ K3=>ak K3 M ?_;clear H K3;intro a H;refine lr H results212 M ?_
   exact Pm
  intro nM a H
  try have p39:=dF nM
  refine kP H<|Kc K2<|SC<|Rd M<|Rm M ?_;clear H K2;intro a H;refine aI ?_;refine dO ((k+1)) (by exact H.sub ⟨M,M,M,aC⟩) ?_
  exact⟨O,by rw[aE6,hno];simp[okB];omega⟩
 intro eZ a H
 try have p28:=dF eZ
 refine dS ?_;refine K1 _ _ ?_;clear K1;refine kP H<|SR fun _ K1=>ak K1 M ?_;clear H K1;intro a H;refine lr H results212 M ?_
 exact Pm
theorem anT(G:GH)(w0:World)(hG:Hold G w0)(l:List dh)(p:dh->Bool)(v fv:aj)(hv:av G (.sl 6<|l.map dh.dat) v)(hf:∀x∈l,wB fv G x.dat<|p x) :
  Calls prog 244 #[v,fv] w0 (bD w0 G fun u G'=>u=vi (om<|l.findIdx? p)):=by
 obtain⟨A,c,rfl,hc1,hc2,-⟩:=hv.slice;have hml:maxLen=9223372036854775807:=rfl;rw[bM]at *;refine eN [(0,_),(1,_)] func244 M ntmps244 M M hG ?_;intro a H;refine kP H<|SR fun _ K1=>ak K1 M<|SQ fun _ K2=>SR fun _ K3=>Rm M<|Rl mR M<|Rm M<|Kz K3<|SB ?_;clear H K1 K3;intro a H;skip;refine dY (ι:=Nat×GH) (Tc:=[(0,_),(1,_),(7,_)]) (Lc:=[]) (fun gh=>[(8,vi gh.1)]) (fun gh=>[]) (fun gh=>gh.2) (fun gh=>gh.1<=l.length∧(l.take gh.1).findIdx? p=none∧(∀b o,G b=some o->gh.2 b=some o)) (fun gh=>l.length-gh.1) ((0,G)) (by exact H.sub ⟨M,M,M,M,aC⟩) ?_ ?_
 ·exact zO
 clear H;rintro⟨k,g⟩ a w hI H;dsimp only at hI H;obtain⟨hk,hno,hgm⟩:=hI;dsimp only[lca,bq]at H;refine kP H (SR fun _ K1=>Rc M<|Kz K1<|SQ fun _ K3=>Cd M ?_ ?_)<;>clear H K1
 ·intro h9 a H
  try have p9:=dT h9
  have hk2:k<l.length:=by omega
  obtain⟨b,o,pA,pc,rfl,hrow,hp,hrep⟩:=Gq (hv.mono hgm) hk2;refine kP H<|Kc K3<|SQ fun _ K1=>SB<|SR fun _ K4=>Rm M<|ak K4 M<|SR fun _ K5=>Rm M<|Rm M<|Rm M<|Ri mR kQ M M ?_;clear H K3 K4;intro a H;refine aY kQ (cs:=[_,_,_,_,_,_]) H wn M M (fun j v hj=>H.hp.aJ<|hrow j v hj) M ?_;clear H;intro a H;refine ow H wn M M (hf _ (ig hk2) _ _ _ hgm H.ro hrep) M ?_;clear H;rintro v16 xu a w rfl xW H;refine K5 _ _ ?_;clear K5;refine jU H M ?_ ?_
  ·intro h16
   try have p16:=dT h16
   refine kP H<|SR fun _ K3=>Rm M<|ak K3 M ?_;clear H K3;intro a H;refine lr H results244 M ?_
   exact Ba
  exact Mt
 intro h9 a H
 try have p9:=dF h9
 refine dS ?_;refine K2 _ _ ?_;clear K2;refine kP H<|SR fun _ K1=>ak K1 M ?_;clear H K1;intro a H;refine lr H results244 M ?_
 exact Ba
def RP(p q:ByteArray):Bool:=p.toList==q.toList
theorem azY{G:GH}{bk bn:Nat}{kind:Int}{name:ByteArray}(hk:aJ G bk 0=some (vi kind))(hn:aJ G bn 0=some (.string name))(x:dh):wB (.func (.func 245) #[] #[aK bk 0,aK bn 0]) G x.dat (decide (x.kind=kind)&&RP x.name name):=by
 intro G1 w0 cs hm hG hr;refine kJ (caps:=[aK bk 0,aK bn 0]) ayG ?_;obtain⟨pA,pc,rfl,-⟩:=Xa hr;replace hk:=aH hm hk;replace hn:=aH hm hn;refine eN [(0,_),(1,_),(2,_)] func245 M ntmps245 M M hG fun a H=>dw (fun _ K1=>eD (cs:=[_,_,_,_,_,_]) H wn M M M fun b3 a w hb3 H=>kH H<|ak K1 M<|SR fun _ K2=>aV Cu aF 0 M M<|Rg aF M (by assumption)<|Rc M<|Rm M<|Sp 9 M ?_ ?_)<;>clear H
 ·intro h9 a H
  try have p9:=dT h9
  exact kH H (YF Ql h9 M<|YO gN 0 h9 M<|YR gN h9 M (by assumption) fun a H=>BN H (wg H M M h9) M M M<|Pt h9 M<|ak K2 M<|LR results245 M fun H=>H.rt (by unfold RP;simp_all))
 exact fun h9=>aU h9 M (aU h9 M<|Pf h9 M<|ak K2 M<|LR results245 M fun H=>H.rt (by unfold RP;simp_all))
theorem azX{G:GH}{bi:Nat}{id:Int}(hb:aJ G bi 0=some (vi id))(x:dh):wB (.func (.func 246) #[] #[aK bi 0]) G x.dat (decide<|x.id=id):=by
 intro G1 w0 cs hm hG hr;refine kJ (caps:=[aK bi 0]) ayH ?_;obtain⟨pA,pc,rfl,-⟩:=Xa hr;replace hb:=aH hm hb;exact eN [(0,_),(1,_)] func246 M ntmps246 M M hG fun a H=>dw (fun _ K1=>eD (cs:=[_,_,_,_,_,_]) H wn M M M fun b2 a w hb2 H=>kH H<|ak K1 M<|SR fun _ K2=>aV yP aF 0 M M<|Rg aF M (by assumption)<|Rc M<|ak K2 M<|LR results246 M fun H=>H.rt M)
def H6(l:List dh)(kind:Int)(name:ByteArray):Option Nat:=l.findIdx? fun x=>decide (x.kind=kind)&&RP x.name name
def UQ(l:List dh)(id:Int):Option Nat:=l.findIdx? fun x=>decide (x.id=id)
theorem aob(o:Option Nat):decide (0<=om o)=o.isSome:=by cases o<;>simp[om]
theorem azZ(G:GH)(w0:World)(hG:Hold G w0)(l:List dh)(kind:Int)(name:ByteArray)(v:aj)(hv:av G (.sl 6<|l.map dh.dat) v) :
  Calls prog 213 #[v,vi kind,.string name] w0 (bD w0 G fun u G'=>u=.tuple #[vi (max (om<|H6 l kind name) 0),.bool (H6 l kind name).isSome]):=by
 obtain⟨A,c,rfl,hc1,hc2,-⟩:=hv.slice;rw[bM]at *;refine eN [(0,_),(1,_),(2,_)] func213 M ntmps213 M M hG fun a H=>dw<|fun _ K1=>eD (cs:=[_]) H wn M M M fun b4 a w hb4 H=>eD (cs:=[_]) H wn M M M fun b5 a w hb5 H=>kH H<|Ra M<|ak K1 M<|SQ fun _ K2=>?_;clear H K1;intro a H;obtain⟨Ga,hma,rE,H⟩:=H.eX;obtain⟨Gb,hmb,Ai,H⟩:=H.eX
 have q4:aJ Gb b4 0=some (vi kind):=by unfold aJ;rw[Ai];rfl
 have q5:aJ Gb b5 0=some (.string name):=by unfold aJ;rw[hmb _ _ rE];rfl
 refine kP H<|SC<|Rm M fun a H=>wU H wn M M fun a H=>s_call ake H wn M (anT _ _ H.ro l (fun x=>decide (x.kind=kind)&&RP x.name name) _ _ ((hv.mono hma).mono hmb)<|fun x _=>azY q4 q5 x) M ?_;rintro v11 DN a w rfl QM H;refine kH H<|bZ K2 M<|SR fun _ K1=>Rm M fun a H=>KZ H wn M M M<|Rm M<|Rc M<|Ra M<|ak K1 M fun a H=>eH ((gV H results213 (.cons (cK H M) (.cons (cK H M) .nil)) ?_).1);exact H.rt (by rw[<-aob];rfl)
theorem aAc(G:GH)(w0:World)(hG:Hold G w0)(l:List dh)(id:Int)(v:aj)(hv:av G (.sl 6<|l.map dh.dat) v) :
  Calls prog 215 #[v,vi id] w0 (bD w0 G fun u G'=>u=.tuple #[vi (max (om<|UQ l id) 0),.bool (UQ l id).isSome]):=by
 obtain⟨A,c,rfl,hc1,hc2,-⟩:=hv.slice;rw[bM]at *;refine eN [(0,_),(1,_)] func215 M ntmps215 M M hG fun a H=>dw<|fun _ K1=>eD (cs:=[_]) H wn M M M fun b3 a w hb3 H=>kH H<|Ra M<|ak K1 M<|SQ fun _ K2=>?_;clear H K1;intro a H;obtain⟨Ga,hma,uq,H⟩:=H.eX
 have q3:aJ Ga b3 0=some (vi id):=by unfold aJ;rw[uq];rfl
 refine kP H<|SC<|Rm M fun a H=>wU H wn M M fun a H=>s_call ake H wn M (anT _ _ H.ro l (fun x=>decide<|x.id=id) _ _ (hv.mono hma)<|fun x _=>azX q3 x) M ?_;rintro v9 G9 a w rfl ze H;refine kH H<|bZ K2 M<|SR fun _ K1=>Rm M fun a H=>KZ H wn M M M<|Rm M<|Rc M<|Ra M<|ak K1 M fun a H=>eH ((gV H results215 (.cons (cK H M) (.cons (cK H M) .nil)) ?_).1);exact H.rt (by rw[<-aob];rfl)
def RD(l:List dh)(kind id:Int):Bool:=match UQ l id with|some i=>decide ((l[i]?.map dh.kind)=some kind)|none=>false
theorem agi {p:Prop} (h:p:=by
 first
  |exact H.rt (iN (by rw[RD,<-ho];dsimp only;rw[gF hil];simp))
  | exact H.rt (iN (by rw [RD,<- ho];cases o <;> simp_all))):p:=h
theorem acG(G:GH)(w0:World)(hG:Hold G w0)(l:List dh)(kind id:Int)(v:aj)(hv:av G (.sl 6<|l.map dh.dat) v) :
  Calls prog 162 #[v,vi kind,vi id] w0 (bD w0 G fun u G'=>u=.bool (RD l kind id)):=by
 obtain⟨A,c,rfl,hc1,hc2,-⟩:=hv.slice;rw[bM]at *;refine eN [(0,_),(1,_),(2,_)] func162 M ntmps162 M M hG<|SR fun _ K1=>ak K1 M<|SR fun _ K2=>Rm M<|Rm M fun a H=>s_call ayj H wn M (aAc _ _ H.ro l id _ hv) M ?_;rintro v12 EX a w rfl CV H;obtain⟨o,ho⟩:∃o,o=UQ l id:=⟨_,M⟩;rw[<-ho]at H;refine kH H<|Rm M ?_;intro a H;(iterate 2 refine iH H wn M M M ?_;intro a H);refine kH H (Ra M<|ak K2 M<|SR fun _ K1=>Rm M<|Rm M<|Sp 16 M ?_ ?_)<;>clear H K2
 ·intro h16 a H
  try have p16:=dT h16
  obtain⟨i,rfl⟩:=Option.isSome_iff_exists.1 h16
  have hil:i<l.length:=by
   obtain⟨hi,-⟩:=List.findIdx?_eq_some_iff_getElem.1 ho.symm;exact hi
  rw[show max (om<|some i) 0=(i:Int) by simp[om]]at H;obtain⟨b,o',pA,pc,rfl,hrow,hp,hrep⟩:=Gq (hv.mono CV) hil;have r1:aJ EX b (o'+i*6+1)=some (vi l[i].kind):=hrow 1 _ M;exact kH H (YM h16 M<|YM h16 M<|YI mR kQ h16 M M<|YF Cu h16 M<|YR aF h16 M (by assumption)<|YM h16 M<|YC h16 M<|Pt h16 M<|ak K1 M fun a H=>lr H results162 M agi)
 exact fun h16=>bJ h16 M<|aU h16 M<|aU h16 M<|Pf h16 M<|ak K1 M fun a H=>lr H results162 M agi
theorem aau:aW 212:=aX func212 M
theorem ayh:aW 213:=aX func213 M
theorem UM:dG prog 171 5 5:=⟨V⟩
theorem ayi:aW 214:=aX func214 M
theorem akr:aW 90:=aX func90 M
theorem av.pre{G:GH}{sz:Nat}{rows:List (List Dat)}{A:Option Addr}{n c:Nat}(h:av G (.sl sz rows) (.slice A n c))(k:Nat)(hk:k<=rows.length):av G (.sl sz<|rows.take k) (.slice A k c):=by
 have h:=h.part 0 k (fP _) hk
 have e:(if c=0 then A else A.map (·.add (0*sz)))=A:=by
  split
  ·rfl
  cases A<;>simp[Addr.add]
 rw[e]at h
 simpa using h
theorem awV(G:GH)(w0:World)(hG:Hold G w0)(kind:Int):Calls prog 214 #[vi kind] w0 (bD w0 G fun u G'=>u=vi (if kind=1 then 2 else 1)):=by
 refine eN [(0,_)] func214 M ntmps214 M M hG ?_;intro a H;refine kP H (SR fun _ K1=>ak K1 M<|SQ fun _ K2=>SR fun _ K3=>Rm M<|Rc M<|Kz K3<|Cd M ?_ ?_)<;>clear H K1 K3
 ·intro h4 a H
  try have p4:=dT h4
  exact kP H (SR fun _ K1=>ak K1 M (LR results214 M fun H=>H.rt (by first|(rw[iw];done)|rw[bQ])))
 intro h4 a H
 try have p4:=dF h4
 exact kP H (Kc K2 (SR fun _ K1=>ak K1 M (LR results214 M fun H=>H.rt (by first|(rw[iw];done)|rw[bQ]))))
def BK(l:List dh)(k:Nat):Option Int:=if k=0 then none else l[k-1]?.map dh.id
theorem WG{l:List dh}{k:Nat}(h:k=0):BK l k=none:=ay h
def Pj(k:Int):Bool:=decide (k=20)||decide (k=1)
def Dh(q:Option Int)(dup:Bool)(s:dh):Int :=
 if s.id<1∨1073741824<s.id then 18 else if q=some s.id then 7 else if NR q s.id=true then 6 else if s.kind≠1∧s.kind≠2 then 3 else if NM s.name=false then 13 else if dup=true then 7
 else if s.props.any (fun p=>Pj p.key)=true then 4 else sU (if s.kind=1 then 2 else 1) s.props
def rF(l:List dh)(k:Nat)(s:dh):Int:=Dh (BK l k) (H6 (l.take k) s.kind s.name).isSome s
theorem Mq {p:Prop} (h:p:=by
 first
  |exact H.rt (cO vi e0.symm)
  |exact H.rt (cO vi e4.symm)
  |exact H.rt (cO vi e7.symm)
  |exact H.rt (cO vi e13.symm)
  |exact H.rt (cO vi e3.symm)
  |exact H.rt (cO vi e6.symm)
  | exact H.rt (cO vi (by rw [rF,Dh,iw]))):p:=h
theorem YX {p:Prop} (h:p:=by
 exact ⟨O,q1',q2',O,by simpa using oL,fun b o h=>hm63 b o (mI b o (M9 b o h))⟩):p:=h
theorem auB {p:Prop} (h:p:=by
 exact ⟨x.props[n],ig hn2,by simp [Pj];omega⟩):p:=h
theorem agZ {p:Prop} (h:p:=by
 intro rU a H
 try have p55:=dT rU
 refine kH H (YF Cu rU M (YO aF 0 rU M (YC rU M (Pt rU M (bZ K1 M (Cd M ?_ ?_))))))<;>clear H K1
 ·intro jE a H
  try have p51:=dT jE
  refine bU (fun _ K1=>?_)
  have e3:rF l k x=3:=by rw[rF,Dh,bQ,au q1',au q2',iw]
  refine kP H (SC (bZ K1 M ?_));clear H K1;intro a H;refine lr H results161 M ?_
  exact Mq
 intro jE a H
 try have p51:=dF jE
 refine kP H (SR fun _ K1=>aV Ql gN 0 M M ?_);clear H;intro a H;refine s_call aau H wn M (acF _ _ H.ro x.name hs) M ?_;clear H;rintro v63 OY a w rfl hm63 H;refine kH H (Rn M (ak K1 M (Cd M ?_ ?_)))<;>clear H K1
 ·intro oL a H
  try have p60:=dT oL
  refine bU (fun _ K1=>?_)
  have e13:rF l k x=13:=by rw[rF,Dh,bQ,au q1',au q2',bQ,ay (by simpa using oL)]
  refine kP H (SC (bZ K1 M ?_));clear H K1;intro a H;refine lr H results161 M ?_
  exact Mq
 intro oL a H
 try have p60:=dF oL
 refine fU ?_;refine ⟨OY,by exact H.sub ⟨M,M,M,aC⟩,?_⟩;exact YX):p:=h
theorem ahK {p:Prop} (h:p:=by
 intro oL a H
 try have p60:=dT oL
 refine bU (fun _ K1=>?_)
 have e13:rF l k x=13:=by rw[rF,Dh,bQ,au q1',au q2',bQ,ay (by simpa using oL)]
 refine kP H (SC (bZ K1 M ?_));clear H K1;intro a H;refine lr H results161 M ?_
 exact Mq):p:=h
theorem ahO {p:Prop} (h:p:=by
 refine kP H (SC (bZ K1 M ?_));clear H K1;intro a H;refine lr H results161 M ?_
 exact Mq):p:=h
theorem Pz {p:Prop} (h:p:=by
 intro a H;refine lr H results161 M ?_
 exact Mq):p:=h
theorem agV {p:Prop} (h:p:=by
 rw [rF,Dh,bQ,au q1',au q2',au q3,au q4,au q5,ay];rw [List.any_eq_true];exact auB):p:=h
theorem ahA {p:Prop} (h:p:=by
 refine iE 8 65 M M fun _ a w G1 hG HT H fin=>?_;refine iH H wn M M M ?_;exact jD):p:=h
set_option maxHeartbeats 1000000 in
theorem aFO(G:GH)(w0:World)(hG:Hold G w0)(l:List dh)(k:Nat)(v:aj)(hv:av G (.sl 6<|l.map dh.dat) v)(hk:k<l.length)(hs:l[k].name.size<=4611686018427387904) :
  Calls prog 161 #[v,vi k] w0 (bD w0 G fun u G'=>u=vi (rF l k l[k])):=by
 obtain⟨A,c,rfl,hc1,hc2,-⟩:=hv.slice;have hml:maxLen=9223372036854775807:=rfl;rw[bM]at *;obtain⟨b,o,pA,pc,rfl,hrow,hp,hrep⟩:=Gq hv hk;obtain⟨x,hx⟩:∃x,x=l[k]:=⟨_,M⟩;rw[<-hx]at hs hrow hp hrep|-;have hdp:∀j v,[vi x.id,vi x.kind,.string x.name,vi x.base,vi x.next,.slice pA x.props.length pc][j]?=some v->aJ G b (o+k*6+j)=some v:=hrow;obtain⟨_,_,he0,aKl,aKm,-⟩:=hp.slice
 injection he0 with _ he1 he2
 rw[bM]at *;subst he2
 obtain⟨pk,hpk⟩:∃pk,0<k->aJ G b (o+(k-1)*6+0)=some (vi pk)∧BK l k=some pk:=by
  by_cases h0:0<k
  ·obtain⟨b',o',_,_,he,hr',-,-⟩:=Gq hv (show k-1<l.length by omega)
   injection he with he
   injection he with e1 e2 e3
   subst e1;subst e2;exact⟨_,fun _=>⟨hr' 0 _ M,by rw[BK,bQ,gF O];rfl⟩⟩
  exact⟨0,fun h=>absurd h h0⟩
 refine eN [(0,_),(1,_)] func161 M ntmps161 M M hG (SR fun _ K1=>ak K1 M (SR fun _ K2=>Rm M (Rm M (Ri mR kQ M M fun a H=>aY kQ (cs:=[_,_,_,_,_,_]) H wn M M (fun j v hj=>H.hp.aJ<|hrow j v hj) M fun a H=>dK kQ H wn M fun b5 a w hb5 H=>bH kQ 0 (vs:=[_,_,_,_,_,_]) H wn M fun w H=>K2 _ _ (rQ (ι:=GH) (Tc:=[(0,_),(1,_),(5,_)]) (Lc:=[(_,_)]) (fun gh=>[]) (fun gh=>[]) (fun gh=>gh) (fun gh=>¬(x.id<1∨1073741824<x.id)∧¬BK l k=some x.id∧¬NR (BK l k) x.id=true∧¬(x.kind≠1∧x.kind≠2)∧¬NM x.name=false∧(∀b o,G b=some o->gh b=some o)) (by exact H.sub ⟨M,M,M,aC⟩) ?_ ?_)))))
 ·skip;refine kP H (SB<|SR fun _ K1=>aV yP aF 0 M M<|Rc M<|Rm M<|Sp 18 M ?_ ?_)<;>clear H
  ·intro h18 a H
   try have pU:=dT h18
   exact kH H<|bJ h18 M<|Pt h18 M<|ak K1 M<|Ct M M<|SR fun _ K2=>ak K2 M Pz
  intro h18 a H
  try have pU:=dF h18
  refine kH H (YF yP h18 M<|YO aF 0 h18 M<|YC h18 M<|Pf h18 M<|ak K1 M<|Cd M ?_ ?_)<;>clear H K1
  ·intro dW a H
   try have kF:=dT dW
   exact kP H<|SR fun _ K1=>ak K1 M Pz
  intro dW a H
  try have kF:=dF dW
  refine bU<|fun _ K1=>?_
  by_cases c0:0<(k:Int)
  ·skip
   by_cases c1:x.id=pk
   ·skip;refine dI hmx [[],[0],[0,1],[0,1,2],ra 0 4,[0,1,2],[0,1,2],[0,1,2,6],[0,1,2,5,6,7],[0,1,2,5,6,7,8],[0,1,2,5,6,7,8,9],ra 0 11,ra 0 12,ra 0 13] [13] V [_,_,_,_,vi x.id,_,_,vi ((k-1:Nat):Int),_,_,_,_,_] H (aD (Z0 M<|Rm M) (Z1 0 24 M<|Rc M) (Z1 1 25 M<|Rm M) (Z1 2 26 M<|YF yP (aG c0) M)<|aD (Z2 3 27 2 26 M<|YO aF 0 (aG c0) M) (Z1 2 26 M<|YM (aG c0) M) (Z1 2 26 M<|YM (aG c0) M) ?_<|aD (Z3 5 29 7 31 2 26 M<|YI mR kQ (aG c0) M M) (Z2 8 32 2 26 M<|YF yP (aG c0) M) (X2 9 33 2 26 M fun hG=>YR aF (aG c0) M<|aH hG (hpk O).1) (Z3 4 28 10 34 2 26 M<|YC (aG c0) M)<|bE (Z2 2 26 11 35 M<|Pt (aG c0) M)<|bE (bX M) dz) ?_
    ·exact fu 6 30 2 26 M M fun _ a w G1 hG HT H fin=>Bc
    clear H;intro a w G M9 H hv;have H:=H.aQ (hv 12 36 M M) M;clear hv;refine kH H<|Ra M fun a H=>aI ⟨M,K1 _ _<|zR H M (aG c1)<|bU<|fun _ K1=>?_⟩
    have e7:rF l k x=7:=by rw[rF,Dh,bQ,ay (by rw[(hpk O).2,c1])]
    exact ahO
   skip;refine dI hmx [[],[0],[0,1],[0,1,2],ra 0 4,[0,1,2],[0,1,2],[0,1,2,6],[0,1,2,5,6,7],[0,1,2,5,6,7,8],[0,1,2,5,6,7,8,9],ra 0 11,ra 0 12,ra 0 13] [13] V [_,_,_,_,vi x.id,_,_,vi ((k-1:Nat):Int),_,_,_,_,_] H (aD (Z0 M<|Rm M) (Z1 0 24 M<|Rc M) (Z1 1 25 M<|Rm M) (Z1 2 26 M<|YF yP (aG c0) M)<|aD (Z2 3 27 2 26 M<|YO aF 0 (aG c0) M) (Z1 2 26 M<|YM (aG c0) M) (Z1 2 26 M<|YM (aG c0) M) ?_<|aD (Z3 5 29 7 31 2 26 M<|YI mR kQ (aG c0) M M) (Z2 8 32 2 26 M<|YF yP (aG c0) M) (X2 9 33 2 26 M fun hG=>YR aF (aG c0) M<|aH hG (hpk O).1) (Z3 4 28 10 34 2 26 M<|YC (aG c0) M)<|bE (Z2 2 26 11 35 M<|Pt (aG c0) M)<|bE (bX M) dz) ?_
   ·exact fu 6 30 2 26 M M fun _ a w G1 hG HT H fin=>Bc
   clear H;intro a w G M9 H hv;have H:=H.aQ (hv 12 36 M M) M;clear hv;refine kH H<|Ra M fun a H=>aI ⟨M,K1 _ _<|oJ H M (aO c1)<|bU<|fun _ K1=>?_⟩
   have q1:¬(0<(k:Int)∧x.id=pk):=by first|exact fun h=>c1 h.2|exact fun h=>c0 h.1
   have q1':¬BK l k=some x.id:=fun h=>q1 (by
    by_cases h0:0<k
    ·exact TM
    rw[WG O]at h
    cases h)
   by_cases c3:x.id<pk
   ·skip;refine dI hmx [[],[0],[0,1],[0,1,2],ra 0 4,[0,1,2],[0,1,2],[0,1,2,6],[0,1,2,5,6,7],[0,1,2,5,6,7,8],[0,1,2,5,6,7,8,9],ra 0 11,ra 0 12,ra 0 13] [13] V [_,_,_,_,vi x.id,_,_,vi ((k-1:Nat):Int),_,_,_,_,_] H (aD (Z0 M<|Rm M) (Z1 0 38 M<|Rc M) (Z1 1 39 M<|Rm M) (Z1 2 40 M<|YF yP (aG c0) M)<|aD (Z2 3 41 2 40 M<|YO aF 0 (aG c0) M) (Z1 2 40 M<|YM (aG c0) M) (Z1 2 40 M<|YM (aG c0) M) ?_<|aD (Z3 5 43 7 45 2 40 M<|YI mR kQ (aG c0) M M) (Z2 8 46 2 40 M<|YF yP (aG c0) M) (X2 9 47 2 40 M fun hG=>YR aF (aG c0) M<|aH hG<|aH M9 (hpk O).1) (Z3 4 42 10 48 2 40 M<|YC (aG c0) M)<|bE (Z2 2 40 11 49 M<|Pt (aG c0) M)<|bE (bX M) dz) ?_
    ·exact fu 6 44 2 40 M M fun _ a w G1 hG HT H fin=>Bc
    clear H;intro a w G mI H hv;have H:=H.aQ (hv 12 50 M M) M;clear hv;refine kH H<|Ra M fun a H=>aI ⟨M,K1 _ _<|zR H M (aG c3)<|bU<|fun _ K1=>?_⟩
    have e6:rF l k x=6:=by rw[rF,Dh,bQ,au q1',ay (by rw[(hpk O).2];exact aG c3)]
    exact ahO
   skip;refine dI hmx [[],[0],[0,1],[0,1,2],ra 0 4,[0,1,2],[0,1,2],[0,1,2,6],[0,1,2,5,6,7],[0,1,2,5,6,7,8],[0,1,2,5,6,7,8,9],ra 0 11,ra 0 12,ra 0 13] [13] V [_,_,_,_,vi x.id,_,_,vi ((k-1:Nat):Int),_,_,_,_,_] H (aD (Z0 M<|Rm M) (Z1 0 38 M<|Rc M) (Z1 1 39 M<|Rm M) (Z1 2 40 M<|YF yP (aG c0) M)<|aD (Z2 3 41 2 40 M<|YO aF 0 (aG c0) M) (Z1 2 40 M<|YM (aG c0) M) (Z1 2 40 M<|YM (aG c0) M) ?_<|aD (Z3 5 43 7 45 2 40 M<|YI mR kQ (aG c0) M M) (Z2 8 46 2 40 M<|YF yP (aG c0) M) (X2 9 47 2 40 M fun hG=>YR aF (aG c0) M<|aH hG<|aH M9 (hpk O).1) (Z3 4 42 10 48 2 40 M<|YC (aG c0) M)<|bE (Z2 2 40 11 49 M<|Pt (aG c0) M)<|bE (bX M) dz) ?_
   ·exact fu 6 44 2 40 M M fun _ a w G1 hG HT H fin=>Bc
   clear H;intro a w G mI H hv;have H:=H.aQ (hv 12 50 M M) M;clear hv;refine kH H<|Ra M fun a H=>aI ⟨M,K1 _ _<|oJ H M (aO c3)<|bU<|fun _ K1=>?_⟩
   have q2:¬(0<(k:Int)∧x.id<pk):=by first|exact fun h=>c3 h.2|exact fun h=>c0 h.1
   have q2':¬NR (BK l k) x.id=true:=fun h=>q2 (by
    by_cases h0:0<k
    ·exact TR
    rw[WG O]at h
    cases h)
   refine kP H (SC<|aV Cu aF 0 M M<|Rc M<|Rm M<|Sp 55 M ?_ ?_)<;>clear H
   ·exact agZ
   intro rU a H
   try have p55:=dF rU
   refine kH H<|bJ rU M<|Pf rU M<|bZ K1 M<|Cf M M<|SR fun _ K2=>aV Ql gN 0 M M fun a H=>s_call aau H wn M (acF _ _ H.ro x.name hs) M ?_;clear H;rintro v63 OY a w rfl hm63 H;refine kH H (Rn M<|ak K2 M<|Cd M ?_ ?_)<;>clear H K2
   ·exact ahK
   intro oL a H
   try have p60:=dF oL
   exact fU ⟨OY,by exact H.sub ⟨M,M,M,aC⟩,YX⟩
  skip;refine dI hmx [[],[0],[0,1],[0,1,2],ra 0 4,[0,1,2],[0,1,2],[0,1,2,6],[0,1,2,5,6,7],[0,1,2,5,6,7,8],[0,1,2,5,6,7,8,9],ra 0 11,ra 0 12,ra 0 13] [13] V [_,_,_,undef,undef,undef,undef,undef,undef,undef,undef,undef,_] H (aD (Z0 M<|Rm M) (Z1 0 24 M<|Rc M) (Z1 1 25 M<|Rm M) (aL 2 (aO c0) M M)<|aD (aL 2 (aO c0) M M) (aL 2 (aO c0) M M) (aL 2 (aO c0) M M) (aL 2 (aO c0) M M)<|aD (aL 2 (aO c0) M M) (aL 2 (aO c0) M M) (aL 2 (aO c0) M M) (aL 2 (aO c0) M M)<|bE (Z2 2 26 11 35 M<|Pf (aO c0) M)<|bE (bX M) dz) ?_
  clear H;intro a w G M9 H hv;have H:=H.aQ (hv 12 36 M M) M;clear hv;refine kH H<|Ra M fun a H=>aI ⟨M,K1 _ _<|oJ H M M<|bU<|fun _ K1=>?_⟩
  have q1:¬(0<(k:Int)∧x.id=pk):=by first|exact fun h=>c1 h.2|exact fun h=>c0 h.1
  have q1':¬BK l k=some x.id:=fun h=>q1 (by
   by_cases h0:0<k
   ·exact TM
   rw[WG O]at h
   cases h)
  refine dI hmx [[],[0],[0,1],[0,1,2],ra 0 4,[0,1,2],[0,1,2],[0,1,2,6],[0,1,2,5,6,7],[0,1,2,5,6,7,8],[0,1,2,5,6,7,8,9],ra 0 11,ra 0 12,ra 0 13] [13] V [_,_,_,undef,undef,undef,undef,undef,undef,undef,undef,undef,_] H (aD (Z0 M<|Rm M) (Z1 0 38 M<|Rc M) (Z1 1 39 M<|Rm M) (aL 2 (aO c0) M M)<|aD (aL 2 (aO c0) M M) (aL 2 (aO c0) M M) (aL 2 (aO c0) M M) (aL 2 (aO c0) M M)<|aD (aL 2 (aO c0) M M) (aL 2 (aO c0) M M) (aL 2 (aO c0) M M) (aL 2 (aO c0) M M)<|bE (Z2 2 40 11 49 M<|Pf (aO c0) M)<|bE (bX M) dz) ?_
  clear H;intro a w G mI H hv;have H:=H.aQ (hv 12 50 M M) M;clear hv;refine kH H<|Ra M fun a H=>aI ⟨M,K1 _ _<|oJ H M M<|bU<|fun _ K1=>?_⟩
  have q2:¬(0<(k:Int)∧x.id<pk):=by first|exact fun h=>c3 h.2|exact fun h=>c0 h.1
  have q2':¬NR (BK l k) x.id=true:=fun h=>q2 (by
   by_cases h0:0<k
   ·exact TR
   rw[WG O]at h
   cases h)
  refine kP H (SC<|aV Cu aF 0 M M<|Rc M<|Rm M<|Sp 55 M ?_ ?_)<;>clear H
  ·exact agZ
  intro rU a H
  try have p55:=dF rU
  refine kH H<|bJ rU M<|Pf rU M<|bZ K1 M<|Cf M M<|SR fun _ K2=>aV Ql gN 0 M M fun a H=>s_call aau H wn M (acF _ _ H.ro x.name hs) M ?_;clear H;rintro v63 OY a w rfl hm63 H;refine kH H (Rn M<|ak K2 M<|Cd M ?_ ?_)<;>clear H K2
  ·exact ahK
  intro oL a H
  try have p60:=dF oL
  exact fU ⟨OY,by exact H.sub ⟨M,M,M,aC⟩,YX⟩
 clear H;intro g a w hI H;obtain⟨q0,q1',q2',q3,q4,hgm⟩:=hI;dsimp only[lca,bq]at H;refine bU<|fun _ K1=>bU<|fun _ K2=>?_;have anq:=(hv.mono hgm).pre k (by rw[bM];omega);rw[<-List.map_take]at anq;have aC3:=hp.mono hgm;refine dI hmx [[],[],[0,1],[],[3],[],[5],ra 0 7,ra 0 8,ra 0 9,ra 0 9,ra 0 10,ra 0 12] [12] V [_,_,.slice (some ⟨b,o,none⟩) k c,_,vi x.kind,_,.string x.name,.tuple #[vi (max (om<|H6 (l.take k) x.kind x.name) 0),.bool (H6 (l.take k) x.kind x.name).isSome],_,vi (max (om<|H6 (l.take k) x.kind x.name) 0),.bool (H6 (l.take k) x.kind x.name).isSome,_] H (aD (Z0 M<|Rm M) (Z0 M<|Rm M) ?_ (Z0 M<|Rf Cu M)<|aD (Z1 3 69 M<|Ro aF 0 M) (Z0 M<|Rf Ql M) (Z1 5 71 M<|Ro gN 0 M) ?_<|aD (Z1 7 73 M<|Rm M) ?_ ?_ (Z1 9 74 M<|Ra M)<|bE (bX M) dz) ?_
 ·exact fu 0 66 1 67 M M fun _ a w G1 hG HT H fin=>R8 mR kQ k H wn M M M O M jD
 ·refine xC 2 68 4 70 6 72 M M fun _ a w G1 hG HT H fin=>s_call ayh H wn M (azZ _ _ H.ro (l.take k) x.kind x.name _<|anq.mono hG) M ?_;clear H;rintro v73 G73 a w rfl aBe H;exact fin H aBe<|rfl
 ·exact ahA
 ·exact ahA
 clear H;intro a w G pI H hv;have H:=H.aQ (hv 10 75 M M) M;clear hv;refine kH H (Ra M fun a H=>aI ⟨M,K2 _ _<|kP H<|SR fun _ K2=>Rm M<|Kz K2<|Cd M ?_ ?_⟩)<;>clear H K2
 ·intro Ag a H
  try have RS:=dT Ag
  refine bU<|fun _ K2=>?_
  have e7:rF l k x=7:=by rw[rF,Dh,bQ,au q1',au q2',au q3,au q4,ay Ag]
  exact kP H<|SC<|bZ K2 M Pz
 intro Ag a H
 try have RS:=dF Ag
 refine kP H<|Kc K1<|SQ fun _ K2=>SQ fun _ K3=>?_;clear H K1;intro a H
 have q5:¬(H6 (l.take k) x.kind x.name).isSome=true:=by simpa using Ag
 have Ii:=aC3.mono pI;refine kP H<|SC<|aV UM Dy 0 M M<|Rl tT M<|Rm M<|Kn K3<|SB ?_;clear H K3;intro a H;skip;refine dY (ι:=Nat) (Tc:=[(5,_),(78,_),(79,_)]) (Lc:=[(_,_)]) (fun gh=>[(80,vi gh)]) (fun gh=>[]) (fun gh=>G) (fun gh=>gh<=x.props.length∧(x.props.take gh).any (fun p=>Pj p.key)=false) (fun gh=>x.props.length-gh) (0) (by exact H.sub ⟨M,M,M,M,aC⟩) ?_ ?_
 ·exact Mk
 clear H;intro n a w hI H;obtain⟨hn,hno⟩:=hI;dsimp only[lca,bq]at H;refine kP H (SR fun _ K1=>Rc M<|Kz K1<|SQ fun _ K3=>Cd M ?_ ?_)<;>clear H K1
 ·intro h81 a H
  try have p81:=dT h81
  have hn2:n<x.props.length:=by omega
  obtain⟨pb,po,rfl,hrow2⟩:=WH Ii hn2;have hrow:=hrow2;refine kP H (Kc K3<|SQ fun _ K1=>SB<|SR fun _ K4=>Ri tT qR M M fun a H=>aY qR (cs:=[_,_]) H wn M M (fun j v hj=>H.hp.aJ<|hrow j v hj) M fun a H=>dK qR H wn M fun b9 a w yY H=>bH qR 0 (vs:=[_,_]) H wn M fun w H=>K4 _ _<|kP H<|SR fun _ K3=>aV zZ aF 0 M M<|Rc M<|Rm M<|Sp 87 M ?_ ?_)<;>clear H
  ·intro h87 a H
   try have Wz:=dT h87
   refine kH H<|bJ h87 M<|Pt h87 M<|Kz K3<|Ct M M<|SQ fun _ K4=>?_;clear H K3;intro a H
   have e4:rF l k x=4:=by
    exact agV
   exact kP H<|SC<|bZ K4 M Pz
  intro h87 a H
  try have Wz:=dF h87
  refine kH H (YF zZ h87 M<|YO aF 0 h87 M<|YC h87 M<|Pf h87 M<|Kz K3<|Cd M ?_ ?_)<;>clear H K3
  ·intro h91 a H
   try have p91:=dT h91
   refine bU<|fun _ K3=>?_
   have e4:rF l k x=4:=by
    exact agV
   exact kP H<|SC<|bZ K3 M Pz
  intro h91 a H
  try have p91:=dF h91
  exact kP H (Kc K1 (SC (Rd M (Rm M fun a H=>aI (dO ((n+1)) (by exact(H.dR (Pl:=[_,_]) (dH:=[_]) [1] Z M).sub ⟨M,M,M,M,aC⟩) ⟨O,by rw[ji hn2,List.any_append,hno];simp[Pj];omega⟩)))))
 intro h81 a H
 try have p81:=dF h81
 refine dS<|K2 _ _<|bU<|fun _ K1=>?_
 have q6:¬x.props.any (fun p=>Pj p.key)=true:=by
  rw[show x.props.take n=x.props from jX O]at hno;rw[hno];decide
 have e0:rF l k x=sU (if x.kind=1 then 2 else 1) x.props:=by rw[rF,Dh,bQ,au q1',au q2',au q3,au q4,au q5,au q6]
 refine dI hmx [[],[0],[0,1],[],[3],ra 0 5,ra 0 6] [5,6] V [_,vi x.kind,vi (if x.kind=1 then 2 else 1),_,.slice pA x.props.length pc] H (aD (Z0 M<|Rf Cu M) (Z1 0 93 M<|Ro aF 0 M) ?_ (Z0 M<|Rf UM M)<|bE (Z1 3 96 M<|Ro Dy 0 M)<|bE (bX M)<|bE (bX M) dz) ?_
 ·refine iE 1 94 M M fun _ a w G1 hG HT H fin=>s_call ayi H wn M (awV _ _ H.ro x.kind) M ?_;clear H;rintro v95 G95 a w rfl aBk H;exact fin H aBk<|rfl
 clear H;intro a w G M8 H hv;have H:=H.aQ (hv 2 95 M M) M;have H:=H.aQ (hv 4 97 M M) M;clear hv;refine s_call akr H wn M (apB _ _ H.ro _ x.props _<|Ii.mono M8) M ?_;clear H;rintro v98 G98 a w rfl aKj H;exact kH H<|Ra M fun a H=>aI ⟨M,K1 _ _<|lr H results161 M Mq⟩
theorem IW:Ty prog 33 1 24 [.slice none 0 0] false:=⟨V,V⟩
theorem BS:prog.underlying 33=some (.slice 178):=by kernel_rfl
theorem Dw:Ty prog 178 6 64 [.int .i64 0,.int .i64 0,.string ⟨#[]⟩,.int .i64 0,.string ⟨#[]⟩,.bool false] true:=⟨V,V⟩
theorem akJ:dG prog 178 0 0:=⟨V⟩
theorem akK:dG prog 178 1 1:=⟨V⟩
theorem ayE:aW 241:=aX func241 M
theorem axR:aW 190:=aX func190 M
theorem azL:dG prog 178 2 2:=⟨V⟩
theorem ajL:aW 121:=aX func121 M
theorem azM:dG prog 178 3 3:=⟨V⟩
theorem azN:dG prog 178 4 4:=⟨V⟩
theorem ajV:aW 193:=aX func193 M
theorem axT:aW 192:=aX func192 M
theorem axS:aW 191:=aX func191 M
theorem axP:aW 189:=aX func189 M
theorem KD{G:GH}{b:Nat}(l:List Int)(h:G b=some (.cells (l.map vi).toArray 41 (0,0)))(hl:l.length<=maxLen):av G (.sl 1<|l.map fun k=>[li k]) (.slice (some ⟨b,0,none⟩) l.length l.length) :=
 av.uK h (by simp) (eP _) hl (jX (by simp)) (FZ G l)
theorem Z7{G:GH}{l:List jw}{A:Option Addr}{n c k:Nat}(hv:av G (.sl 6<|l.map jw.dat) (.slice A n c))(hk:k<l.length):∃b o,A=some ⟨b,o,none⟩∧(∀j u,l[k].cells[j]?=some u->aJ G b (o+k*6+j)=some u)∧bg G l[k].dat l[k].cells:=by
 obtain⟨A',c',he,_,_,hg⟩:=hv.slice
 injection he with e1 e2 e3
 subst e1;obtain⟨b,o,cs,h1,h2,h3,h4⟩:=hg k l[k].dat (by simp[hk]);have:=ajc h4;subst this;exact⟨b,o,h1,h3,h4⟩
theorem awi{G:GH}{bl:Nat}{l:List jw}{A:Option Addr}{n c:Nat}(hb:aJ G bl 0=some (.slice A n c))(hv:av G (.sl 6<|l.map jw.dat) (.slice A n c)):wz (.func (.func 192) #[] #[aK bl 0]) G l.length fun k=>(l[k]?.map jw.id).getD 0:=by
 intro k hk G1 w0 hm hG;refine kJ (caps:=[aK bl 0]) axT ?_;replace hb:=aH hm hb
 obtain rfl:n=l.length:=by have:=hv.len;simpa using this
 obtain⟨b,o,rfl,hrow,-⟩:=Z7 (hv.mono hm) hk;have hq:=hrow 0 _ M;exact eN [(0,_),(1,_)] func192 M ntmps192 M M hG (SR fun _ K1=>ak K1 M<|SR fun _ K2=>Rg IW M (by assumption)<|Rm M<|Ri BS Dw M M<|Rf akJ M<|Rg aF M (by assumption)<|ak K2 M<|LR results192 M fun H=>H.rt (by dsimp only;rw[gF hk];rfl))
theorem awj{G:GH}{bc:Nat}{x:jw}(hb:aJ G bc 1=some (vi x.parent))(y:jw):wB (.func (.func 191) #[] #[aK bc 0]) G y.dat (decide<|y.id=x.parent):=by
 intro G1 w0 cs hm hG hr;refine kJ (caps:=[aK bc 0]) axS ?_;obtain rfl:=ajc hr;replace hb:=aH hm hb;exact eN [(0,_),(1,_)] func191 M ntmps191 M M hG fun a H=>dw (fun _ K1=>eD (cs:=[_,_,_,_,_,_]) H wn M M M fun b2 a w hb2 H=>kH H<|ak K1 M<|SR fun _ K2=>aV akJ aF 0 M M<|Rf akK M<|Rg aF M (by assumption)<|Rc M<|ak K2 M<|LR results191 M fun H=>H.rt M)
theorem aD0(G:GH)(w0:World)(hG:Hold G w0)(l:List jw)(p:jw->Bool)(v fv:aj)(hv:av G (.sl 6<|l.map jw.dat) v)(hf:∀x∈l,wB fv G x.dat<|p x) :
  Calls prog 241 #[v,fv] w0 (bD w0 G fun u G'=>u=vi (om<|l.findIdx? p)):=by
 obtain⟨A,c,rfl,hc1,hc2,hg⟩:=hv.slice;have hml:maxLen=9223372036854775807:=rfl;rw[bM]at *;refine eN [(0,_),(1,_)] func241 M ntmps241 M M hG ?_;intro a H;refine kP H<|SR fun _ K1=>ak K1 M<|SQ fun _ K2=>SR fun _ K3=>Rm M<|Rl BS M<|Rm M<|Kz K3<|SB ?_;clear H K1 K3;intro a H;skip;refine dY (ι:=Nat×GH) (Tc:=[(0,_),(1,_),(7,_)]) (Lc:=[]) (fun gh=>[(8,vi gh.1)]) (fun gh=>[]) (fun gh=>gh.2) (fun gh=>gh.1<=l.length∧(l.take gh.1).findIdx? p=none∧(∀b o,G b=some o->gh.2 b=some o)) (fun gh=>l.length-gh.1) ((0,G)) (by exact H.sub ⟨M,M,M,M,aC⟩) ?_ ?_
 ·exact zO
 clear H;rintro⟨k,g⟩ a w hI H;dsimp only at hI H;obtain⟨hk,hno,hgm⟩:=hI;dsimp only[lca,bq]at H;refine kP H (SR fun _ K1=>Rc M<|Kz K1<|SQ fun _ K3=>Cd M ?_ ?_)<;>clear H K1
 ·intro h9 a H
  try have p9:=dT h9
  have hk2:k<l.length:=by omega
  obtain⟨b,o,rfl,hrow,hrep⟩:=Z7 hv hk2;refine kP H<|Kc K3<|SQ fun _ K1=>SB<|SR fun _ K4=>Rm M<|ak K4 M<|SR fun _ K5=>Rm M<|Rm M<|Rm M<|Ri BS Dw M M ?_;clear H K3 K4;intro a H;refine aY Dw (cs:=l[k].cells) H wn M M (fun j v hj=>H.hp.aJ<|aH hgm<|hrow j v hj) M ?_;clear H;intro a H;refine ow H wn M M (hf _ (ig hk2) _ _ _ hgm H.ro<|hrep.mono hgm) M ?_;clear H;rintro v16 xu a w rfl xW H;refine K5 _ _ ?_;clear K5;refine jU H M ?_ ?_
  ·intro h16
   try have p16:=dT h16
   refine kP H<|SR fun _ K3=>Rm M<|ak K3 M ?_;clear H K3;intro a H;refine lr H results241 M ?_
   exact Ba
  exact Mt
 intro h9 a H
 try have p9:=dF h9
 refine dS ?_;refine K2 _ _ ?_;clear K2;refine kP H<|SR fun _ K1=>ak K1 M ?_;clear H K1;intro a H;refine lr H results241 M ?_
 exact Ba
theorem awn(G:GH)(w0:World)(hG:Hold G w0)(l:List jw)(p:jw->Bool)(v fv:aj)(hv:av G (.sl 6<|l.map jw.dat) v)(hf:∀x∈l,wB fv G x.dat<|p x) :
  Calls prog 190 #[v,fv] w0 (bD w0 G fun u G'=>u=.bool (l.findIdx? p).isSome):=by
 obtain⟨A,c,rfl,hc1,hc2,-⟩:=hv.slice;rw[bM]at *;refine eN [(0,_),(1,_)] func190 M ntmps190 M M hG<|SR fun _ K1=>ak K1 M<|SR fun _ K2=>Rm M<|Rm M fun a H=>s_call ayE H wn M (aD0 _ _ H.ro l p _ _ hv hf) M ?_;rintro v7 G7 a w rfl Ej H;exact kH H<|Rc M<|ak K2 M<|LR results190 M fun H=>H.rt<|iN<|acK _
def Mh(l:List jw)(i:Nat)(x:jw):Bool:=decide (x.parent=0)||((l.take i).findIdx? fun y=>decide (y.id=x.parent)).isSome
def Z6(l:List jw)(i:Nat)(x:jw):Int:=fD [yh (fun k=>(l[k]?.map jw.id).getD 0) i,dX (!Mh l i x) 8,dX (!yK x.author) 39,dX (!decide (0<=x.time∧x.time<=1099511627776)) 40,Gx x.text]
def MG(l:List jw)(i:Nat):Int:=match l[i]? with|some x=>Z6 l i x|none=>0
theorem awh{G:GH}{bl:Nat}{l:List jw}{A:Option Addr}{n c:Nat}(hb:aJ G bl 0=some (.slice A n c))(hv:av G (.sl 6<|l.map jw.dat) (.slice A n c))(hl:l.length<=4294967296)(ht:∀x∈l,x.author.size<4611686018427387904∧x.text.size<4611686018427387904):wz (.func (.func 189) #[] #[aK bl 0]) G l.length (MG l):=by
 intro k hk G1 w0 hm hG;refine kJ (caps:=[aK bl 0]) axP ?_;replace hb:=aH hm hb;replace hv:=hv.mono hm;have hcb:=awi hb hv;obtain⟨_,_,hee,hvc,-,-⟩:=hv.slice
 injection hee with _ _ hcc
 subst hcc;rw[bM]at hvc
 obtain rfl:n=l.length:=by have:=hv.len;simpa using this
 obtain⟨b,o,rfl,hrow,hrep⟩:=Z7 hv hk;have hte:=ht _<|ig hk;obtain⟨x,hx⟩:∃x,x=l[k]:=⟨_,M⟩;rw[<-hx]at hrow hte
 have he:MG l k=Z6 l k x:=by unfold MG;rw[gF hk,hx]
 refine eN [(0,_),(1,_)] func189 M ntmps189 M M hG (SR fun _ K1=>ak K1 M<|SR fun _ K2=>Rg IW M (by assumption)<|Rm M<|Ri BS Dw M M fun a H=>aY Dw (cs:=x.cells) H wn M M (fun j v hj=>H.hp.aJ<|hrow j v hj) M fun a H=>dK Dw H wn M fun b4 a w hb4 H=>bH Dw 0 (vs:=[_,_,_,_,_,_]) H wn M ?_);clear H;intro w H;obtain⟨Ga,hma,Ai,H⟩:=H.eX
 have hcell:∀(j:Nat)(u:aj),x.cells[j]?=some u->aJ Ga b4 j=some u:=fun j u hj=>by unfold aJ;rw[Ai];simpa using hj
 have q1:=hcell 1 _ M;have hbA:=aH hma hb;have VL:=(hv.mono hma).pre k (by rw[bM];omega);rw[<-List.map_take]at VL;refine K2 _ _ (rQ (ι:=Bool×GH) (Tc:=[(0,_),(1,_),(4,_)]) (Lc:=[]) (fun gh=>[(5,.bool gh.1)]) (fun gh=>[]) (fun gh=>gh.2) (fun gh=>gh.1=Mh l k x∧(∀b o,Ga b=some o->gh.2 b=some o)) (by exact H.sub ⟨M,M,M,aC⟩) ?_ ?_)
 ·skip;refine kP H (SC<|Rf akK M<|Rg aF M (by assumption)<|Rc M<|Rm M<|Sp 13 M ?_ ?_)<;>clear H
  ·intro iA a H
   try have tK:=dT iA
   refine kH H (bJ iA M<|aU iA M<|Pt iA M<|Ra M fun a H=>aI ⟨(_,_),by exact H.sub ⟨M,M,M,M,aC⟩,?_⟩);(try dsimp only)
   first
   |exact⟨by unfold Mh;rw[kZ (by assumption)];rfl,fun _ _ h=>h⟩
   |exact⟨by unfold Mh;rw[mE (by assumption)];rfl,hm18⟩
  intro iA a H
  try have tK:=dF iA
  refine kH H (YR IW iA M (by assumption)<|YM iA M fun a H=>R8 BS Dw k H (wg H M M iA) M M M O M fun a H=>wU H (wg H M M iA) M M fun a H=>s_call axR H (wg H M M iA) M (awn _ _ H.ro (l.take k) (fun y=>decide<|y.id=x.parent) _ _ VL<|fun y _=>awj q1 y) M ?_);clear H;rintro v18 OU a w rfl hm18 H;refine kH H (Pf iA M<|Ra M fun a H=>aI ⟨(_,_),by exact H.sub ⟨M,M,M,M,aC⟩,?_⟩);(try dsimp only)
  first
  |exact⟨by unfold Mh;rw[kZ (by assumption)];rfl,fun _ _ h=>h⟩
  |exact⟨by unfold Mh;rw[mE (by assumption)];rfl,hm18⟩
 clear H;rintro⟨bf,g⟩ a w hI H;dsimp only at hI H;obtain⟨hbf,hgm⟩:=hI;replace hcell:=fun j u hj=>aH hgm<|hcell j u hj;replace hcb:=(hcb.mono hma).mono hgm;dsimp only[lca,bq]at H;refine bU<|fun _ K1=>?_;have H:=H.sub (T':=[(0,_),(1,_),(4,_),(5,_)]) ⟨M,M,M,M,aC⟩;refine dI hmx [[],[],[0,1],[],[3],ra 0 5,[],[6],ra 0 8,ra 0 9,ra 0 10,[],[11],ra 0 13,ra 0 14,ra 0 15,[],[16],ra 0 18,ra 0 19,ra 0 20,ra 0 21] [19,20,21] V [_,.func (.func 192) #[] #[aK bl 0],vi (yh (fun k=>(l[k]?.map jw.id).getD 0) k),_,_,vi (dX (!bf) 8),_,_,.bool (yK x.author),_,vi (dX (!yK x.author) 39),_,_,.bool (decide (0<=x.time∧x.time<=1099511627776)),_,vi (dX (!decide (0<=x.time∧x.time<=1099511627776)) 40),_,_,vi<|Gx x.text] H (aD (Z0 M<|Rm M) ?_ ?_ (Z0 M<|Rm M)<|aD (Z1 3 23 M<|Rn M) ?_ (Z0 M<|Rf azL M) (X1 6 26 M fun hG=>Rg gN M<|aH hG<|hcell 2 _ M)<|aD ?_ (Z1 8 28 M<|Rn M) ?_ (Z0 M<|Rf azM M)<|aD (X1 11 31 M fun hG=>Rg aF M<|aH hG<|hcell 3 _ M) ?_ (Z1 13 33 M<|Rn M) ?_<|aD (Z0 M<|Rf azN M) (X1 16 36 M fun hG=>Rg gN M<|aH hG<|hcell 4 _ M) ?_ (bX M)<|bE (bX M)<|bE (bX M) dz) ?_
 ·exact Jw
 ·refine fu 0 20 1 21 M M fun _ a w G1 hG HT H fin=>s_call ajJ H wn M (anR _ _ H.ro k _ _ O<|fun i hi=>(hcb.mono hG) i O) M ?_;clear H;rintro v22 G22 a w rfl abf H;exact fin H abf<|rfl
 ·refine iE 4 24 M M fun _ a w G1 hG HT H fin=>s_call qx H wn M (qF _ _ H.ro _ 8) M ?_;clear H;rintro v25 OV a w ⟨rfl,-⟩ aAR H;exact fin H aAR<|rfl
 ·refine iE 7 27 M M fun _ a w G1 hG HT H fin=>s_call ajL H wn M (afs _ _ H.ro x.author hte.1) M ?_;clear H;rintro v28 LM a w ⟨rfl,-⟩ aAT H;exact fin H aAT<|rfl
 ·refine iE 9 29 M M fun _ a w G1 hG HT H fin=>s_call qx H wn M (qF _ _ H.ro _ 39) M ?_;clear H;rintro v30 GR a w ⟨rfl,-⟩ abg H;exact fin H abg<|rfl
 ·refine iE 12 32 M M fun _ a w G1 hG HT H fin=>s_call zX H wn M (Aq _ _ H.ro x.time 0 1099511627776) M ?_;clear H;rintro v33 LP a w ⟨rfl,-⟩ aAW H;exact fin H aAW<|rfl
 ·refine iE 14 34 M M fun _ a w G1 hG HT H fin=>s_call qx H wn M (qF _ _ H.ro _ 40) M ?_;clear H;rintro v35 G35 a w ⟨rfl,-⟩ abh H;exact fin H abh<|rfl
 ·refine iE 17 37 M M fun _ a w G1 hG HT H fin=>s_call ajV H wn M (arj _ _ H.ro x.text hte.2) M ?_;clear H;rintro v38 OW a w rfl aAZ H;exact fin H aAZ<|rfl
 clear H;intro a w G aAV H hv;have H:=H.aQ (hv 2 22 M M) M;have H:=H.aQ (hv 5 25 M M) M;have H:=H.aQ (hv 10 30 M M) M;have H:=H.aQ (hv 15 35 M M) M;have H:=H.aQ (hv 18 38 M M) M;clear hv;refine iT tQ jS [_,_,_,_,_] [_,_,_,_,_] H wn M M M M M (by intro i q h;match i,h with|0,h=>exact h|1,h=>exact h|2,h=>exact h|3,h=>exact h|4,h=>exact h|n+5,h=>simp at h) M M ?_;clear H;intro b39 a w aJU H;obtain⟨LQ,Vv,aBH,H⟩:=H.eX;refine s_call uT H wn M (uV _ _ H.ro _ _ (KD [yh (fun k=>(l[k]?.map jw.id).getD 0) k,dX (!bf) 8,dX (!yK x.author) 39,dX (!decide (0<=x.time∧x.time<=1099511627776)) 40,Gx x.text] aBH (show 5<=maxLen by decide))) rfl ?_;clear H;rintro v40 _ a w ⟨rfl,rfl⟩-H;exact kH H (Ra M fun a H=>aI ⟨M,K1 _ _<|lr H results189 M<|H.rt (by rw[he,Z6,<-hbf])⟩)
def Uh(l:List jw):Int:=fD [dX (decide (1024<(l.length:Int))) 9,kW (MG l) (min l.length 1024)]
theorem avB(G:GH)(w0:World)(hG:Hold G w0)(l:List jw)(v:aj)(hv:av G (.sl 6<|l.map jw.dat) v)(hl:l.length<=4294967296)(ht:∀x∈l,x.author.size<4611686018427387904∧x.text.size<4611686018427387904) :
  Calls prog 115 #[v] w0 (bD w0 G fun u G'=>u=vi (Uh l)):=by
 obtain⟨A,c,rfl,hc1,hc2,-⟩:=hv.slice;rw[bM]at *;refine eN [(0,_)] func115 M ntmps115 M M hG fun a H=>dw<|fun _ K1=>eD (cs:=[_]) H wn M M M fun b1 a w hb1 H=>kH H<|ak K1 M<|SQ fun _ K2=>?_;clear H K1;intro a H;have H:=H.sub (T':=[(1,_)]) ⟨M,aC⟩;obtain⟨Ga,hma,hb1',H⟩:=H.eX
 have hbl:aJ Ga b1 0=some (.slice A l.length c):=by unfold aJ;rw[hb1'];rfl
 have hcb:=awh hbl (hv.mono hma) hl ht;refine dI hmx [[],[0],[0,1],[0,1,2],[],[4],[4,5],[],ra 0 8,ra 0 9,ra 0 10,ra 0 11] [9,10,11] V [_,_,_,vi (dX (decide (1024<(l.length:Int))) 9),_,_,vi ((min l.length 1024:Nat):Int),.func (.func 189) #[] #[aK b1 0],vi<|kW (MG l)<|min l.length 1024] H (aD (X0 M fun hG=>Rg IW M<|aH hG hbl) (Z1 0 3 M<|Rl BS M) (Z1 1 4 M<|Rc M) ?_<|aD (X0 M fun hG=>Rg IW M<|aH hG hbl) (Z1 4 7 M<|Rl BS M) ?_ ?_<|aD ?_ (bX M) (bX M) (bX M) dz) ?_
 ·exact TY
 ·exact Ub
 ·exact Jw
 ·exact fu 6 9 7 10 M M fun _ a w G1 hG HT H fin=>s_call MJ H wn M (Pg _ _ H.ro (min l.length 1024) (MG l) _ O ((hcb.mono hG).le<|Nat.min_le_left _ _)) M PG
 clear H;intro a w G jL H hv;have H:=H.aQ (hv 3 6 M M) M;have H:=H.aQ (hv 8 11 M M) M;clear hv;refine iT tQ jS [_,_] [_,_] H wn M M M M M (by intro i q h;match i,h with|0,h=>exact h|1,h=>exact h|n+2,h=>simp at h) M M ?_;intro b12 a w CP H;obtain⟨EX,CV,J9,H⟩:=H.eX;refine s_call uT H wn M (uV _ _ H.ro _ _<|Dr J9) M ?_;rintro v13 _ a w ⟨rfl,rfl⟩-H;exact kH H<|Ra M fun a H=>aI ⟨M,K2 _ _<|lr H results115 M Bb⟩
def Av:Nat->List Int->List MapEntry
 |_,[]=>[]
 |i,k::r=>⟨.int .i64 k,.int .i64 (i:Int),i⟩::Av (i+1) r
theorem aov(x:Int):∀(i:Nat)(l:List Int),Av i (l++[x])=Av i l++[⟨.int .i64 x,.int .i64 ((i+l.length:Nat):Int),i+l.length⟩]
 |_,[]=>rfl
 |i,k::r=>by
  rw[jl,Av,aov x (i+1) r,Av,jl,lK,show i+1+r.length=i+(r.length+1) by omega]
def yg(x:Int):Nat->List Int->Option Nat
 |_,[]=>none
 |i,k::r=>if k=x then some i else yg x (i+1) r
theorem anL{x:Int}:∀{l:List Int}{i n:Nat},yg x i l=some n->i<=n
 |[],_,_,h=>by cases h
 |k::r,i,n,h=>by
  rw[yg]at h;split at h
  ·cases h;exact eP _
  ·have:=anL h;omega
theorem anN{x:Int}:∀{l:List Int}{i:Nat},x∉l->yg x i l=none
 |[],_,_=>rfl
 |k::r,i,h=>by
  rw[yg,au (fun e=>h (by simp[e])),anN<|fun hm=>h<|gH _ hm]
theorem aaO(x:Int):∀(i j:Nat)(l:List Int),Instr.findNow (.int .i64) (.int .i64 x) (Av i l) j=some ((yg x i l).map fun n=>(j+(n-i),.int .i64 (n:Int)))
 |_,_,[]=>rfl
 |i,j,k::r=>by
  have ih:=aaO x (i+1) (j+1) r
  by_cases e:k=x
  ·subst e
   simp only[Av,Instr.findNow,Instr.sameNow,ay,yg,beq_self_eq_true]
   simp
  ·have hb:(x==k)=false:=by simp;exact fun h=>e h.symm
   simp only[Av,Instr.findNow,Instr.sameNow,ay,hb,yg,au e,ih]
   cases h:yg x (i+1) r with
   |none=>rfl
   |some n=>
    have:=anL h
    simp only[D5,oW,jd,and_true]
    omega
abbrev auc(b:Nat)(l:List Int):Nat×Obj:=(b,.map (Av 0 l).toArray l.length)
theorem aES(l:List Int)(x:Int):(Av 0 l).toArray.push ⟨.int .i64 x,.int .i64 (l.length:Int),l.length⟩=(Av 0<|l++[x]).toArray:=by
 rw[aov,List.push_toArray,fB]
section
section
variable{P:Program}{N:Nat}{D:List Deferred}{w0 w w':World}{F:Nat->Prop}{G0 G G':GH}{L L' Li Lo:OL}{T:List (Nat×aj)}{a a':Act}{Q:Exit->Act->World->Prop}
variable{r:Option Nat}{ops:Array Oper}{rest:List Oper}
def XZ(P:Program)(Gi:GH)(B:OL)(gv:aj)(xs:List AP):Prop :=
 ∀(J:Nat->GH->OL->Prop)(Jx:GH->OL->Prop)(fv:aj)(G:GH)(L:OL)(w:World),fv.cells=#[fv]->(∀b o,Gi b=some o->G b=some o)->GX J->Ma Jx->J 0 G L->fZ G (B++L) w->OQ P fv G xs J Jx->
  uN P gv [fv] w (fG w G (B++L) fun _ G' L'=>J xs.length G' L'∨Jx G' L')
theorem XZ.mono{Gi GV:GH}{B:OL}{gv:aj}{xs:List AP}(h:XZ P Gi B gv xs)(hm:∀b o,Gi b=some o->GV b=some o):XZ P GV B gv xs :=
 fun J Jx fv G L w h0 h1=>h J Jx fv G L w h0 fun b o hb=>h1 b o<|hm b o hb
end
end
section
section
variable{P:Program}{N:Nat}{D:List Deferred}{w0 w w':World}{F:Nat->Prop}{G0 G G':GH}{L L' Li Lo:OL}{T:List (Nat×aj)}{a a':Act}{Q:Exit->Act->World->Prop}
variable{r:Option Nat}{ops:Array Oper}{rest:List Oper}
def LW(P:Program)(Gi:GH)(B:OL)(gv:aj)(xs:List AP)(fin:Bool):Prop :=
 ∀(J:Nat->GH->OL->Prop)(Jx:GH->OL->Prop)(fv:aj)(G:GH)(L:OL)(w:World),fv.cells=#[fv]->(∀b o,Gi b=some o->G b=some o)->GX J->Ma Jx->J 0 G L->fZ G (B++L) w->OQ P fv G xs J Jx->(fin=false->∀g l,¬J xs.length g l)->
  uN P gv [fv] w (fG w G (B++L) fun _ G' L'=>J xs.length G' L'∨Jx G' L')
theorem LW.mono{Gi GV:GH}{B:OL}{gv:aj}{xs:List AP}{fin:Bool}(h:LW P Gi B gv xs fin)(hm:∀b o,Gi b=some o->GV b=some o):LW P GV B gv xs fin :=
 fun J Jx fv G L w h0 h1=>h J Jx fv G L w h0 fun b o hb=>h1 b o<|hm b o hb
theorem avg{fin:Bool}{B:OL}{Cw:Operand}{ps:List Nat}{assign body:Code}{gf:FuncId}{caps:List aj}{xs:List AP}{Gi:GH}
  (H:St N D w0 F G0 G (B++L) T a w)(hg:ev T Cw=some (.func (.func gf) #[] caps.toArray))(en:∀args w,(callFunc gf args).run P w=.ok (.enter gf args) w)(hit:LW P Gi B (.func (.func gf) #[] caps.toArray) xs fin)(hGi:∀b o,Gi b=some o->G b=some o)
  (hps:ps.all (Nat.blt · N)=true)(hlen:∀k args g,zD xs k args g->args.length=ps.length)
  (J:Nat->GH->OL->Prop)(Jx:Code->GH->OL->Prop)(hno:fin=false->∀g l,¬J xs.length g l)(wK:GX J)(hJx:∀c,Ma<|Jx c)(h0:J 0 G L)(ace:Yg P N ps assign body T G J Jx xs)
  (hdone:∀Dk G1 L1 a1 w1,(∀b o,G b=some o->G1 b=some o)->J xs.length G1 L1->St N ({ target:=.collected Dk,args:=#[] }::D) w0 F G0 G1 ((Dk,.deferred<|some [])::L1) T a1 w1->Q .normal a1 w1)
  (hstop:∀Dk c G1 L1 a1 w1,(∀b o,G b=some o->G1 b=some o)->Jx c G1 L1->St N ({ target:=.collected Dk,args:=#[] }::D) w0 F G0 G1 ((Dk,.deferred<|some [])::L1) T a1 w1->WP none P c Q a1 w1) :
  WP none P (.rangeFunc Cw ps.toArray assign body) Q a w:=by
 refine wpIn_rangeFunc ?_
 intro fn _
 have hev:=H.ev hg
 let q:Rec:=⟨fn,a.tmps,ps.toArray,assign,body,w.heap.size⟩
 obtain⟨W1,hW1⟩:∃W1,W1=(w.alloc (.deferred<|some [])).alloc (q.at .ready none):=⟨_,M⟩
 have H1:Hp w0 F G0 G (B++((w.heap.size+1,q.at .ready none)::(w.heap.size,.deferred<|some [])::L)) W1:=by
  have:=(H.hp.alloc (.deferred<|some [])).alloc<|q.at .ready none
  rw[World.size_alloc]at this
  rw[hW1]
  refine this.perm ?_
  have e:=vD (l₁:=[(w.heap.size+1,q.at .ready none),(w.heap.size,Obj.deferred<|some [])]) (l₂:=B)
  have e2:=List.Perm.append_right L e
  rw[iG,iG]at e2
  exact e2
 refine⟨w.heap.size+1,[{ target:=.collected w.heap.size,args:=#[] }],W1,{ target:=.fn (.func gf) caps.toArray,args:=#[.func (.yield<|w.heap.size+1) #[] #[]] },W1,gf,
  #[.func (.yield<|w.heap.size+1) #[] #[]]++caps.toArray,W1,by rw[hW1];exact run_enterLoop_outer fn a.tmps ps.toArray assign body,?_,fun _ _=>trivial,?_,SK none,?_⟩
 ·simp only[resolve,rangeCall,hev]
  simp[Deferred.ofValue,Act.eval]
 ·simp[invoke,en]
 ·have hcv:=hit (fun k=>Jr (w.heap.size+1) q [(w.heap.size,.deferred<|some [])]<|J k) (SN (w.heap.size+1) q [(w.heap.size,.deferred<|some [])] Jx) (.func (.yield<|w.heap.size+1) #[] #[]) G
   ((w.heap.size+1,q.at .ready none)::(w.heap.size,.deferred<|some [])::L) W1 rfl hGi (fun k G G' L hm⟨Lu,e,h⟩=>⟨Lu,e,wK k G G' Lu hm h⟩) (fun G G' L hm⟨c,Lu,e,h⟩=>⟨c,Lu,e,hJx c G G' Lu hm h⟩) ⟨L,M,h0⟩ (Hp.owns (Li:=[]) H1) (aiO H.nX H.get hps hlen ace) (fun e g l⟨Lu,_,h⟩=>hno e g Lu h)
  replace hcv:=hcv.go
  have e:(do let d <-Deferred.ofValue (.func (.func gf) #[] caps.toArray) [Value.func (.yield<|w.heap.size+1) #[] #[]].toArray;invoke d.target d.args:Sem Next).run P W1=.ok (.enter gf (#[.func (.yield<|w.heap.size+1) #[] #[]]++caps.toArray)) W1:=by
   simp[Deferred.ofValue,invoke,en]
  rw[e]at hcv
  refine(ZX hcv).mono ?_
  rintro e w2 ⟨v,G2,L2,rfl,hch,hJ⟩
  have H2:=Hp.change (Li:=[]) H1 hch
  rcases hJ with⟨Lu,rfl,hJ⟩|⟨c,Lu,rfl,hJ⟩
  ·have hl:=H2.own _<|fJ
   have H3:=(H2.upd (i:=0) M<|IZ (q.at .exhausted none) hl).drop<|E5 _ _
   exact⟨none,_,run_endLoop hl (by simp),hdone _ G2 Lu _ _ hch.gm hJ ⟨H.nX,H.get,by simp[H.uS],H3⟩⟩
  ·have hl:=H2.own _<|fJ
   have H3:=(H2.upd (i:=0) M<|IZ (q.at .exhausted (some c)) hl).drop<|E5 _ _
   exact⟨some c,_,run_endLoop hl (by simp),hstop _ c G2 Lu _ _ hch.gm hJ ⟨H.nX,H.get,by simp[H.uS],H3⟩⟩
theorem avh{fin:Bool}{B:OL}{ι κ:Type}{Lc:OL}{Cw:Operand}{ps:List Nat}{assign body:Code}{gf:FuncId}{caps:List aj}{xs:List AP}{Gi:GH}
  (Lv:Nat->ι->OL)(Lt:Nat->ι->OL)(inv:Nat->ι->GH->Prop)(cx:κ->Code)(Lx Jj:κ->OL)(Da:κ->GH->Prop)(i0:ι)
  (H:St N D w0 F G0 G (B++(Lc++Lv 0 i0++Lt 0 i0)) T a w)(hg:ev T Cw=some (.func (.func gf) #[] caps.toArray))(en:∀args w,(callFunc gf args).run P w=.ok (.enter gf args) w)(hit:LW P Gi B (.func (.func gf) #[] caps.toArray) xs fin)(hGi:∀b o,Gi b=some o->G b=some o)
  (hno:fin=false->∀i g,¬inv xs.length i g)(hps:ps.all (Nat.blt · N)=true)(hlen:∀k args g,zD xs k args g->args.length=ps.length)(hinv:∀k i(G G':GH),(∀b o,G b=some o->G' b=some o)->inv k i G->inv k i G')(abM:∀x(G G':GH),(∀b o,G b=some o->G' b=some o)->Da x G->Da x G')(h0:inv 0 i0 G)
  (round:∀(l:Nat)(Dj zQ:Obj)(bk:OL)(k:Nat)(args:List aj)(i:ι)(G1:GH)(w1:World)(F1:Nat->Prop)(B1:Code->Exit->Act->World->Prop)(a1:Act),zD xs k args G1->(∀b o,G b=some o->G1 b=some o)->inv k i G1->
   (∀T' G2 L2 a2 w2 c,St N [] w1 F1 G1 G2 ((l,Dj)::L2) T' a2 w2->(∀w3,St N [] w1 F1 G1 G2 ((l,zQ)::L2) T' a2 w3->WP (some l) P c (B1 c) a2 w3)->Exit.then (fun a2 w2=>∃w3,(Instr.beginRound l).run P w2=.ok () w3∧c.wpIn (FW<|some l) 0 P (B1 c) a2 w3) (fun _ _ _=>False) .normal a2 w2)->
   (∀i' T' G2 a2 w2 c,St N [] w1 F1 G1 G2 ((l,zQ)::(Lc++Lv (k+1) i'++(bk++Lt (k+1) i'))) T' a2 w2->inv (k+1) i' G2->B1 c .normal a2 w2)->
   (∀x T' G2 a2 w2 c,St N [] w1 F1 G1 G2 ((l,zQ)::(Lc++Lx x++(bk++Jj x))) T' a2 w2->Da x G2->(cx x=.ret->B1 c .ret a2 w2)∧∀n,cx x=.exit n->B1 c (.exit n) a2 w2)->
   St N [] w1 F1 G1 G1 ((l,Dj)::(Lc++Lv k i++(bk++Lt k i))) (yJ ps args T) a1 w1->
   WP (some l) P assign (Exit.then (fun a2 w2=>∃w3,(Instr.beginRound l).run P w2=.ok () w3∧body.wpIn (FW<|some l) 0 P (B1 body) a2 w3) (fun _ _ _=>False)) a1 w1)
  (hdone:∀Dk i G1 a1 w1,(∀b o,G b=some o->G1 b=some o)->inv xs.length i G1->St N ({ target:=.collected Dk,args:=#[] }::D) w0 F G0 G1 ((Dk,.deferred<|some [])::(Lc++Lv xs.length i++Lt xs.length i)) T a1 w1->Q .normal a1 w1)
  (hstop:∀Dk x G1 a1 w1,(∀b o,G b=some o->G1 b=some o)->Da x G1->St N ({ target:=.collected Dk,args:=#[] }::D) w0 F G0 G1 ((Dk,.deferred<|some [])::(Lc++Lx x++Jj x)) T a1 w1->WP none P (cx x) Q a1 w1) :
  WP none P (.rangeFunc Cw ps.toArray assign body) Q a w:=by
 refine avg (J:=fun k g L=>∃i,L=Lc++Lv k i++Lt k i∧inv k i g) (Jx:=fun c g L=>∃x,c=cx x∧L=Lc++Lx x++Jj x∧Da x g) H hg en hit hGi hps hlen (hno:=fun e g l⟨i,_,h⟩=>hno e i g h) (fun k G G' L hm⟨i,e,h⟩=>⟨i,e,hinv k i G G' hm h⟩) (fun c G G' L hm⟨x,e1,e2,h⟩=>⟨x,e1,e2,abM x G G' hm h⟩) ⟨i0,M,h0⟩ ?_ ?_ ?_
 ·rintro l q bk k args G1 L1 w1 a1 hk hm ⟨i,rfl,hi⟩ H1
  have pm:∀A B:OL,(bk++(A++B)).Perm (A++(bk++B)):=fun A B=>by
   rw[<-iG,<-iG]
   exact List.Perm.append_right B vD
  refine round l (q.at .ready none) (q.at .busy none) bk k args i G1 w1 _ (fun _=>roundPost P l _) a1 hk hm hi ?_ ?_ ?_<|H1.perm<|List.Perm.cons _<|pm _ _
  ·intro T' G2 L2 a2 w2 c H2 h;exact aiK H2 h
  ·intro i' T' G2 a2 w2 c H2 h2;exact Oe none (H2.perm<|List.Perm.cons _ (pm _ _).symm) ⟨_,M,i',M,h2⟩
  ·intro x T' G2 a2 w2 c H2 h2
   have H3:=H2.perm<|List.Perm.cons _ (pm _ _).symm
   refine⟨fun e=>?_,fun n e=>?_⟩
   ·exact Oe (some .ret) H3 ⟨_,_,M,x,e.symm,M,h2⟩
   ·exact Oe (some (.exit n)) H3 ⟨_,_,M,x,e.symm,M,h2⟩
 ·rintro Dk G1 L1 a1 w1 hm ⟨i,rfl,hi⟩ H1
  exact hdone Dk i G1 a1 w1 hm hi H1
 ·rintro Dk c G1 L1 a1 w1 hm ⟨x,rfl,rfl,hx⟩ H1
  exact hstop Dk x G1 a1 w1 hm hx H1
end
end
theorem Xl:prog.underlying 102=some (.map 3 3):=by kernel_rfl
theorem uL:Ty prog 31 1 24 [.slice none 0 0] false:=⟨V,V⟩
theorem aaH:dG prog 171 3 3:=⟨V⟩
theorem ajY:aW 216:=aX func216 M
theorem anM{x:Int}:∀{l:List Int}{i n:Nat},yg x i l=some n->n<i+l.length
 |[],_,_,h=>by cases h
 |k::r,i,n,h=>by
  rw[yg]at h;split at h
  ·cases h;simp
  have:=anM h;simp only[lK];omega
def Bd(l:List dh):Nat->Int->List dh
 |0,_=>[]
 |f+1,id=>if id=0 then[]else match yg id 0 (l.map dh.id)with|none=>[]|some i=>match l[i]? with|none=>[]|some s=>s::Bd l f s.base
def MF(l:List dh)(id:Int):List dh:=Bd l (l.length+1) id
theorem avy{l:List dh}{f:Nat}{id:Int}(h:id=0):Bd l f id=[]:=by
 cases f with
 |zero=>rfl
 |succ f=>rw[Bd,ay h]
theorem avw{l:List dh}{f:Nat}{id:Int}(h0:¬id=0)(h:yg id 0 (l.map dh.id)=none):Bd l f id=[]:=by
 cases f with
 |zero=>rfl
 |succ f=>rw[Bd,au h0,h]
theorem avx{l:List dh}{f i:Nat}{id:Int}(h0:¬id=0)(h:yg id 0 (l.map dh.id)=some i)(hi:i<l.length):Bd l (f+1) id=l[i]::Bd l f l[i].base:=by
 rw[Bd,au h0,h];dsimp only;rw[gF hi]
def stP(x:dh):AP:=fun args g=>∃cs,args=[.agg cs.toArray]∧bg g x.dat cs
theorem aik {p:Prop} (h:p:=by
 obtain ⟨p,hp,hargs⟩:=h;rw [ql] at hp;obtain ⟨q,hq,rfl⟩:=nK.1 hp;obtain ⟨hk,rfl⟩:=jJ.1 hq;obtain ⟨cs,h1,h2⟩:=hargs;exact ⟨hk,cs,h1,h2⟩):p:=h
theorem aqZ{A:List dh}{k:Nat}{args:List aj}{g:GH}(h:zD (A.map stP) k args g):∃(hk:k<A.length)(cs:List aj),args=[.agg cs.toArray]∧bg g A[k].dat cs:=by
 exact aik
abbrev bI(b:Nat)(n:Int):Nat×Obj:=(b,.cells #[vi n] 3 (0,0))
theorem Pn {p:Prop} (h:p:=by
 exact fP _):p:=h
set_option maxHeartbeats 1000000 in
theorem avz{G:GH}{bl bi:Nat}{l:List dh}{id:Int}{v:aj}(hb:aJ G bl 0=some v)(hv:av G (.sl 6<|l.map dh.dat) v)(hnd:∀(k:Nat)(h:k<l.length),l[k].id∉(l.take k).map dh.id) :
  LW prog G [bI bi id] (.func (.func 216) #[] #[aK bl 0,aK bi 0]) ((MF l id).map stP) (decide ((MF l id).length<=l.length)):=by
 intro J Jx fv G1 L w0 hfv hGi wK hJx hJ hO hcb hfin;refine kJ (caps:=[aK bl 0,aK bi 0]) ajY ?_;obtain⟨A,c,rfl,hc1,hc2,-⟩:=hv.slice;have hml:maxLen=9223372036854775807:=rfl;rw[bM]at *;replace hb:=aH hGi hb;replace hv:=hv.mono hGi;refine iY (N:=46) (T:=[(0,_),(1,_),(2,_)]) func216 M ntmps216 M M hO fun a H=>dw (fun _ K1=>IL H wn M fun bm a w Nj H=>kH H<|ak K1 M<|SQ fun _ K2=>SR fun _ K3=>Rg uL M (by assumption)<|Rl mR M<|Rm M<|Kz K3<|SB ?_);clear H K3;intro a H;skip;refine dY (ι:=Nat) (Tc:=[(0,_),(1,_),(2,_),(4,_),(10,_),(11,_)]) (Lc:=[(_,_)]) (fun gh=>[(12,vi gh)]) (fun gh=>[auc bm ((l.take gh).map dh.id)]++L) (fun gh=>G1) (fun gh=>gh<=l.length) (fun gh=>l.length-gh) (0) (by exact(H.dR (Pl:=[_,_]) (dH:=[_,_]) [1,0] Z M).sub ⟨M,M,M,M,M,M,M,aC⟩) ?_ ?_
 ·exact Pn
 clear H;intro k a w hI H;have hk:=hI;dsimp only[lca,bq]at H;refine kP H (SR fun _ K1=>Rc M<|Kz K1<|SQ fun _ K3=>Cd M ?_ ?_)<;>clear H K1
 ·intro iA a H
  try have tK:=dT iA
  have hk2:k<l.length:=by omega
  obtain⟨b,o,pA,pc,rfl,hrow,hp,hrep⟩:=Gq hv hk2;have aCT:=hnd k hk2
  have hlk:((l.take k).map dh.id).length=k:=by rw[bM,List.length_take];omega
  have hnx:(l.take k).map dh.id++[l[k].id]=(l.take<|k+1).map dh.id:=by rw[ji hk2,iy];rfl
  refine kP H (Kc K3<|SQ fun _ K1=>SB<|SR fun _ K4=>Rm M<|Ri mR kQ M M fun a H=>aY kQ (cs:=[_,_,_,_,_,_]) H wn M M (fun j v hj=>H.hp.aJ<|hrow j v hj) M fun a H=>dK kQ H wn M fun b6 a w hb6 H=>kH H<|Ra M fun a H=>bH kQ 0 (vs:=[_,_,_,_,_,_]) H wn M fun w H=>K4 _ _<|kP H<|SC<|Rm M<|aV yP aF 0 M M<|Rm M fun a H=>aqp (i:=2) (ky:=vi l[k].id) (v:=vi k) Xl oU H wn M M M M (by trivial) (by rw[List.toList_toArray,aaO,anN aCT];rfl) ?_);clear H;intro w H
  have hpush:((Av 0 ((l.take k).map dh.id)).toArray.push ⟨vi l[k].id,vi k,((l.take k).map dh.id).length⟩)=(Av 0 ((l.take<|k+1).map dh.id)).toArray:=by rw[<-hnx,<-aES,hlk]
  rw[hpush,show((l.take k).map dh.id).length+1=((l.take<|k+1).map dh.id).length by rw[<-hnx];simp]at H;refine kH H (Kn K1 (SC (Rd M (Rm M fun a H=>aI (dO ((k+1)) (by exact(H.dR (Pl:=[_,_,_]) (dH:=[_,_]) [1,2] Z M).sub ⟨M,M,M,M,M,M,M,aC⟩) ?_)))));exact by omega
 intro iA a H
 try have tK:=dF iA
 obtain rfl:k=l.length:=by omega
 rw[oI]at H;refine dS<|K2 _ _<|xK ?_;skip;refine dY (ι:=Int×Nat×Nat×OL×GH) (Tc:=[(0,_),(1,_),(2,_),(4,_)]) (Lc:=[(_,_)]) (fun gh=>[]) (fun gh=>[bI bi gh.1]++gh.2.2.2.1) (fun gh=>gh.2.2.2.2) (fun gh=>(∀b o,G1 b=some o->gh.2.2.2.2 b=some o)∧Now ((MF l id).map stP) stP J (MF l id).length gh.2.2.1 (Bd l gh.2.1 gh.1) gh.2.2.2.2 gh.2.2.2.1∧gh.2.2.1+gh.2.1=l.length+1) (fun gh=>gh.2.1) ((id,l.length+1,0,L,G1)) (by exact(H.dR (Pl:=[_,_]) (dH:=[_,_]) [1,0] Z M).sub ⟨M,M,M,M,aC⟩) ?_ ?_
 ·exact⟨fun _ _ h=>h,⟨hJ,fun i a h=>by rw[fB,ql];rw[show Bd l (l.length+1) id=MF l id from rfl]at h;rw[h];rfl,fB _⟩,fB _⟩
 clear H;rintro⟨i,f,j1,Lt,g⟩ a w hI H;dsimp only at hI H;obtain⟨hgm,gy,hjf⟩:=hI;have hbg:=aH hgm hb;dsimp only[lca,bq]at H;refine kP H (SQ fun _ K1=>SR fun _ K2=>Ro aF 1 M<|Rc M<|Kz K2<|Cd M ?_ ?_)<;>clear H K2
 ·intro h23 a H
  try have rH:=dT h23
  have h0:¬i=0:=by simpa using h23
  obtain⟨an,han⟩:∃an,an=yg i 0 (l.map dh.id):=⟨_,M⟩;have hfn:=aaO i 0 0<|l.map dh.id;rw[<-han]at hfn;refine kP H (Kc K1<|SB<|SR fun _ K2=>Rm M<|Ro aF 1 M fun a H=>aG2 (i:=0) (zv:=vi 0) _ Xl oU V H wn M M M (by trivial) (by simpa using hfn) M<|Rm M ?_);clear H;intro a H;(iterate 2 refine iH H wn M M M ?_;clear H;intro a H);refine kH H (Ra M<|ak K2 M<|SQ fun _ K1=>SR fun _ K4=>Rm M<|Rn M<|Rm M<|Sp 32 M ?_ ?_)<;>clear H K2
  ·intro h32 a H
   try have p32:=dT h32
   obtain rfl:an=none:=by
    cases an with
    |none=>rfl
    |some n=>simp[F5]at h32
   rw[avw h0 han.symm]at gy;refine kH H<|bJ h32 M<|aU h32 M<|aU h32 M<|Pt h32 M<|Kz K4<|Ct M M fun a H=>eH ((leave0 H results216 ?_).1);refine H.hp.lU (L':=Lt) (by repeat(first|exact nW _|apply List.Sublist.cons)) (.inl ?_);have h:=gy.len
   simp only[List.length_nil,oZ]at h
   rw[<-h];exact gy.now
  intro h32 a H
  try have p32:=dF h32
  obtain⟨n,rfl⟩:∃n,an=some n:=by
   cases an with
   |none=>simp[F5]at h32
   |some n=>exact⟨n,M⟩
  have hnl:n<l.length:=by have:=anM han.symm;simpa using this
  obtain⟨f',rfl⟩:∃f',f=f'+1:=by
   cases f with
   |succ f'=>exact⟨f',M⟩
   |zero=>
    exfalso
    have hl:=gy.len
    simp only[Bd,List.length_nil,oZ]at hl
    refine hfin (mE O) g Lt ?_;rw[<-hl];exact gy.now
  rw[avx h0 han.symm hnl]at gy;dsimp only[F5,Option.map_some]at H;obtain⟨b,o,pA,pc,rfl,hrow,hp,hrep⟩:=Gq (hv.mono hgm) hnl;refine kH H (YM h32 M (YR uL h32 M (by assumption)<|YM h32 M<|YI mR kQ h32 M M fun a H=>aY kQ (cs:=[_,_,_,_,_,_]) H (wg H M M h32) M M (fun j v hj=>H.hp.aJ<|hrow j v hj) M fun a H=>BM (Li:=[_,_]) (L:=Lt) H (wg H M M h32) M M (hcb j1 _ _ _ _ ⟨_,gy.head,_,M,hrep⟩ hgm gy.now<|Hp.owns (Li:=[_,_]) H.hp) M ?_));clear H;rintro v38 OW aeH a w ⟨AZ,rfl,hb1,hb2⟩ CW H;have hbg:=aH CW hbg;have r3:=aH CW<|hrow 3 _ M;refine kH H (YN h32 M<|Pf h32 M<|Kz K4<|Cd M ?_ ?_)<;>clear H K4
  ·intro nY a H
   try have p40:=dT nY
   refine eH ((leave0 H results216 ?_).1);exact H.hp.lU (L':=aeH) (by repeat(first|exact nW _|apply List.Sublist.cons)) (.inr<|hb2 (by simpa using nY))
  intro nY a H
  try have p40:=dF nY
  refine kP H (Kc K1 (SC (Rg uL M (by assumption) (Rm M (Ri mR kQ M M (Rf aaH M (Rg aF M (by assumption) fun a H=>bH aF 1 (vs:=[_]) H wn M fun w H=>aI (dO ((l[n].base,f',j1+1,aeH,OW)) (by exact H.sub ⟨M,M,M,M,aC⟩) ?_))))))))
  (try dsimp only);exact⟨fun b o h=>CW b o (hgm b o h),gy.step (hb1 (by simpa using nY)),O⟩
 intro h23 a H
 try have rH:=dF h23
 refine dS ((leave0 H results216 ?_).2);rw[avy (by simpa using h23)]at gy;refine H.hp.lU (L':=Lt) (by repeat(first|exact nW _|apply List.Sublist.cons)) (.inl ?_);have h:=gy.len
 simp only[List.length_nil,oZ]at h
 rw[<-h];exact gy.now
theorem axz:aW 163:=aX func163 M
theorem axy:aW 161:=aX func161 M
theorem aao:aW 162:=aX func162 M
theorem UL:dG prog 171 4 4:=⟨V⟩
theorem avA{G:GH}{w0:World}(hO:fZ G [] w0)(l:List dh)(id:Int)(v:aj)(hv:av G (.sl 6<|l.map dh.dat) v) :
  Calls prog 163 #[v,vi id] w0 (fG w0 G [] fun u G' L'=>∃bl bi,u=.func (.func 216) #[] #[aK bl 0,aK bi 0]∧L'=[bI bi id]∧aJ G' bl 0=some v):=by
 obtain⟨A,c,rfl,hc1,hc2,-⟩:=hv.slice;refine iY (N:=6) (T:=[(0,_),(1,_)]) func163 M ntmps163 M M hO fun a H=>dw<|fun _ K1=>eD (cs:=[_]) H wn M M M fun b2 a w hb2 H=>eD (cs:=[_]) H wn M M M fun b3 a w hb3 H=>kH H<|ak K1 M<|SR fun _ K2=>fun a H=>wU H wn M M<|ak K2 M fun a H=>lr H results163 M ?_;have H:=H.dR (Pl:=[_,_]) (dH:=[_,_]) [1,0] Z M;obtain⟨Ga,hma,hb2',H⟩:=H.eX;exact H.hp.gX ⟨b2,b3,M,M,by unfold aJ;rw[hb2'];rfl⟩
def wG(p:Nat->Int):Nat->Nat->Int
 |_,0=>0
 |k,n+1=>if p k=0 then wG p (k+1) n else p k
theorem azB{p:Nat->Int}{k m:Nat}(h:k<m):wG p k (m-k)=if p k=0 then wG p (k+1) (m-(k+1))else p k:=by
 obtain⟨n,hn⟩:∃n,m-k=n+1:=⟨m-k-1,O⟩;rw[hn,wG,show m-(k+1)=n by omega]
theorem azA{p:Nat->Int}{k m:Nat}(h:m<=k):wG p k (m-k)=0:=by rw[show m-k=0 by omega];rfl
theorem akx{p:Nat->Int}:∀{n k:Nat},wG p k n=0->∀j,k<=j->j<k+n->p j=0
 |0,k,_,j,h1,h2=>by omega
 |n+1,k,h,j,h1,h2=>by
  rw[wG]at h;split at h
  ·rename_i hp
   by_cases e:j=k
   ·rw[e];exact hp
   exact akx h j O O
  rename_i hp;exact absurd h hp
def Dg(l:List dh)(k:Nat):Int:=match l[k]? with|some s=>rF l k s|none=>0
theorem apo{l:List dh}{k:Nat}(h:k<l.length):Dg l k=rF l k l[k]:=by unfold Dg;rw[gF h]
def Js(l:List dh)(s:dh):Bool:=(decide (s.base≠0)&&!RD l s.kind s.base)||(decide (s.next≠0)&&(decide (s.kind=2)||!RD l 1 s.next))
def cyc(l:List dh)(s:dh):Bool:=decide (l.length<(MF l s.id).length)
def Ck(l:List dh):Int:=if 128<l.length then 9 else if wG (Dg l) 0 l.length≠0 then wG (Dg l) 0 l.length else if l.any (Js l)=true then 25 else if l.any (cyc l)=true then 16 else 0
theorem aFN{l:List dh}(h:wG (Dg l) 0 l.length=0){k:Nat}(hk:k+1<l.length):l[k].id<l[k+1].id:=by
 have h1:=akx h (k+1) (fP _) O;rw[apo hk,rF,Dh]at h1
 have hp:BK l (k+1)=some l[k].id:=by rw[BK,bQ,Nat.add_sub_cancel,gF O];rfl
 rw[hp]at h1
 split at h1
 ·cases h1
 split at h1
 ·cases h1
 split at h1
 ·cases h1
 rename_i _ h2 h3
 have h2':¬l[k].id=l[k+1].id:=fun e=>h2 (by rw[e]);have h3':¬l[k+1].id<l[k].id:=fun e=>h3<|aG e
 omega
theorem apq{l:List dh}(h:wG (Dg l) 0 l.length=0):∀{k j:Nat}(hk:k<l.length)(hj:j<k),l[j].id<l[k].id
 |k+1,j,hk,hj=>by
  have h1:=aFN h hk
  by_cases e:j=k
  ·subst e;exact h1
  have:=apq h (k:=k) (j:=j) O O
  omega
theorem apr{l:List dh}(h:wG (Dg l) 0 l.length=0)(k:Nat)(hk:k<l.length):l[k].id∉(l.take k).map dh.id:=by
 intro hm;obtain⟨x,hx1,hx2⟩:=List.mem_map.1 hm;obtain⟨j,hj,rfl⟩:=List.getElem_of_mem hx1;rw[List.getElem_take]at hx2;rw[List.length_take]at hj;have:=apq h hk (j:=j) O
 omega
theorem afo{α:Type}{p:α->Bool}{l:List α}{k:Nat}(hk:k<l.length)(h:(l.take k).any p=false)(hp:p l[k]=false):(l.take<|k+1).any p=false:=by
 rw[ji hk,List.any_append,h];simp[hp]
theorem YD{α:Type}{p:α->Bool}{l:List α}{k:Nat}(hk:k<l.length)(hp:p l[k]=true):l.any p=true:=List.any_eq_true.2 ⟨_,ig hk,hp⟩
theorem afn{α:Type}{p:α->Bool}{l:List α}{k:Nat}(hk:l.length<=k)(h:(l.take k).any p=false):¬l.any p=true:=by
 rw[jX hk]at h;rw[h];decide
theorem Po {p:Prop} (h:p:=by
 first
  |exact H.rt (cO vi (by rw[Ck,iw]))
  |exact H.rt (cO vi (by rw[au (by simpa using pV)]at heq;rw[Ck,bQ,<-heq,ay (by simpa using pV)]))
  |exact H.rt (cO vi (by rw[Ck,bQ,au (by rw[hok];decide),ay hbad]))
  |exact H.rt (cO vi (by rw[Ck,bQ,au (by rw[hok];decide),au hbad,ay (YD hj2 hI)]))
  | exact H.rt (cO vi (by rw [Ck,bQ,au (by rw [hok];decide),au hbad,au (afn O hnc)]))):p:=h
theorem YZ {p:Prop} (h:p:=by
 exact ⟨O,afo hk4 hno (by unfold Js;simp_all),nk⟩):p:=h
theorem Y0 {p:Prop} (h:p:=by
 exact kZ O):p:=h
theorem Zx {p:Prop} (h:p:=by
 clear H K4;intro a H;have hbad:l.any (Js l)=true:=YD hk4 (by unfold Js;simp_all);refine mF ?_;refine bH jS 1 (vs:=[_]) H wn M ?_;clear H;intro w H;refine aI ?_;refine K5 _ _ ?_;clear K5;refine eH ?_;refine(leave1 H results86 (.cons (AA jS H M (H.hp.sD 1 M M)) .nil) ?_).1
 exact Po):p:=h
theorem auL {p:Prop} (h:p:=by
 refine eH ?_;refine(leave1 H results86 (.cons (AA jS H M (H.hp.sD 1 M M)) .nil) ?_).1
 exact Po):p:=h
theorem ahW {p:Prop} (h:p:=by
 intro jv a H
 try have p59:=dF jv
 refine kP H (Kc K2 (SC (Rd M (Rm M ?_))));clear H K2;intro a H;refine aI ?_;refine dO ((k+1,g2)) (by exact(H.dR (Pl:=[_,_,_]) (dH:=[_,_]) [1,2] Z M).sub ⟨M,M,M,M,M,aC⟩) ?_
 (try dsimp only);exact YZ):p:=h
theorem agO {p:Prop} (h:p:=by
 refine eH ?_;refine(leave1 H results86 (.cons (AA jS H M (H.hp.sD 0 M M)) .nil) ?_).1
 exact Po):p:=h
theorem ahn {p:Prop} (h:p:=by
 intro jv a H
 try have p59:=dT jv
 refine bU (fun _ K4=>?_);have hbad:l.any (Js l)=true:=YD hk4 (by unfold Js;simp_all);refine mF ?_;refine bH jS 1 (vs:=[_]) H wn M ?_;clear H;intro w H;refine aI ?_;refine K4 _ _ ?_;clear K4;exact auL):p:=h
set_option maxHeartbeats 1000000 in
theorem avH(G:GH)(w0:World)(hG:Hold G w0)(l:List dh)(v:aj)(hv:av G (.sl 6<|l.map dh.dat) v)(hN:∀s∈l,s.name.size<=4611686018427387904) :
  Calls prog 86 #[v] w0 (bD w0 G fun u G'=>u=vi (Ck l)):=by
 obtain⟨A,c,rfl,hc1,hc2,-⟩:=hv.slice;have hml:maxLen=9223372036854775807:=rfl;rw[bM]at *;refine eN [(0,_)] func86 M ntmps86 M M hG ?_;intro a H;refine dw<|fun _ K1=>?_;refine eD (cs:=[_]) H wn M M M ?_;clear H;intro b1 a w hb1 H;refine dK jS H wn M ?_;clear H;intro b2 a w hb2 H;refine K1 _ _ ?_;clear K1;refine kP H (SQ fun _ K1=>SR fun _ K2=>Ro uL 1 M<|Rl mR M<|Rc M<|Kz K2<|Cd M ?_ ?_)<;>clear H K2
 ·intro h12 a H
  try have nU:=dT h12
  refine dw<|fun _ K2=>?_;refine bH jS 0 (vs:=[_]) H wn M ?_;clear H;intro w H;refine K2 _ _ ?_;clear K2;exact agO
 intro h12 a H
 try have nU:=dF h12
 refine kP H<|Kc K1<|SQ fun _ K2=>SR fun _ K3=>Ro uL 1 M<|Rl mR M<|Rm M<|Kz K3<|SB ?_;clear H K1 K3;intro a H;skip;refine dY (ι:=Nat×GH) (Tc:=[(1,_),(2,_),(14,_)]) (Lc:=[(_,_),(_,_)]) (fun gh=>[(15,vi gh.1)]) (fun gh=>[]) (fun gh=>gh.2) (fun gh=>gh.1<=l.length∧wG (Dg l) gh.1 (l.length-gh.1)=wG (Dg l) 0 l.length∧(∀b o,G b=some o->gh.2 b=some o)) (fun gh=>l.length-gh.1) ((0,G)) (by exact H.sub ⟨M,M,M,M,aC⟩) ?_ ?_
 ·exact Fb
 clear H;rintro⟨k,g⟩ a w hI H;dsimp only at hI H;obtain⟨hk,heq,hgm⟩:=hI;dsimp only[lca,bq]at H;refine kP H (SR fun _ K1=>Rc M<|Kz K1<|SQ fun _ K3=>Cd M ?_ ?_)<;>clear H K1
 ·intro h16 a H
  try have p16:=dT h16
  have hk2:k<l.length:=by omega
  rw[azB hk2,apo hk2]at heq;refine kP H<|Kc K3<|SQ fun _ K1=>SB<|SR fun _ K4=>Rm M<|ak K4 M<|SR fun _ K5=>Ro uL 1 M<|Rm M ?_;clear H K3 K4;intro a H;refine s_call axy H wn M (aFO _ _ H.ro l k _ (hv.mono hgm) hk2<|hN _<|ig hk2) M ?_;clear H;rintro v20 Jd a w rfl Ei H;refine kH H (ak K5 M<|SR fun _ K3=>Rm M<|Rc M<|Kz K3<|Cd M ?_ ?_)<;>clear H K5 K3
  ·intro h22 a H
   try have pV:=dT h22
   refine kP H<|SR fun _ K3=>Rm M ?_;clear H;intro a H;refine bH jS 0 (vs:=[_]) H wn M ?_;clear H;intro w H;refine K3 _ _ ?_;clear K3;exact agO
  intro h22 a H
  try have pV:=dF h22
  refine kP H<|Kc K1<|SC<|Rd M<|Rm M ?_;clear H K1;intro a H;refine aI ?_;refine dO ((k+1,Jd)) (by exact H.sub ⟨M,M,M,M,aC⟩) ?_
  (try dsimp only);exact⟨O,by rw[ay (by simpa using pV)]at heq;exact heq,fun b o h=>Ei b o<|hgm b o h⟩
 intro h16 a H
 try have p16:=dF h16
 have hok:wG (Dg l) 0 l.length=0:=by rw[<-heq];exact azA O
 clear heq;have Ky:=hv.mono hgm;refine dS ?_;refine K2 _ _ ?_;clear K2;refine kP H<|SQ fun _ K1=>SR fun _ K2=>Ro uL 1 M<|Rl mR M<|Rm M<|Kz K2<|SB ?_;clear H K2;intro a H;skip;refine dY (ι:=Nat×GH) (Tc:=[(1,_),(2,_),(25,_),(26,_)]) (Lc:=[(_,_),(_,_)]) (fun gh=>[(27,vi gh.1)]) (fun gh=>[]) (fun gh=>gh.2) (fun gh=>gh.1<=l.length∧(l.take gh.1).any (Js l)=false∧(∀b o,g b=some o->gh.2 b=some o)) (fun gh=>l.length-gh.1) ((0,g)) (by exact H.sub ⟨M,M,M,M,M,aC⟩) ?_ ?_
 ·exact Fb
 clear H;rintro⟨k,g2⟩ a w hI H;dsimp only at hI H;obtain⟨hk3,hno,nk⟩:=hI;have C8:=Ky.mono nk;dsimp only[lca,bq]at H;refine kP H (SR fun _ K2=>Rc M<|Kz K2<|SQ fun _ K4=>Cd M ?_ ?_)<;>clear H K2
 ·intro eZ a H
  try have p28:=dT eZ
  have hk4:k<l.length:=by omega
  obtain⟨b,o,pA,pc,rfl,hrow,hp,hrep⟩:=Gq C8 hk4;refine kP H<|Kc K4<|SQ fun _ K2=>SB<|SR fun _ K5=>Ri mR kQ M M ?_;clear H K4;intro a H;refine aY kQ (cs:=[_,_,_,_,_,_]) H wn M M (fun j v hj=>H.hp.aJ<|hrow j v hj) M ?_;clear H;intro a H;refine dK kQ H wn M ?_;clear H;intro b6 a w hb6 H;refine bH kQ 0 (vs:=[_,_,_,_,_,_]) H wn M ?_;clear H;intro w H;refine K5 _ _ ?_;clear K5;refine kP H (SR fun _ K4=>aV aaH aF 0 M M<|Rc M<|Rm M<|Sp 34 M ?_ ?_)<;>clear H
  ·intro iB a H
   try have p34:=dT iB
   refine kH H<|YO uL 2 iB M<|YF Cu iB M<|YO aF 0 iB M<|YF aaH iB M<|YO aF 0 iB M ?_;clear H;intro a H;refine s_call aao H (wg H M M iB) M (acG _ _ H.ro l l[k].kind l[k].base _ C8) M ?_;clear H;rintro v40 g2 a w rfl FP H;replace nk:=fun b o(h:g b=some o)=>FP b o<|nk b o h;replace C8:=C8.mono FP;refine kH H (YN iB M<|Pt iB M<|Rm M<|Sp 43 M ?_ ?_)<;>clear H
   ·intro h43 a H
    try have p43:=dT h43
    refine kH H<|aU h43 M<|aU h43 M<|Ku M<|Ku M<|Ku M<|Ku M<|Ku M<|Ku M<|Ku M<|Ku M<|Ku M<|Ku M<|Ks h43 M<|Pt h43 M<|Kz K4<|Ct M M<|SQ fun _ K5=>?_;exact Zx
   intro h43 a H
   try have p43:=dF h43
   refine kH H (YF UL h43 M<|YO aF 0 h43 M<|YC h43 M<|YM h43 M<|Sp 47 M ?_ ?_)<;>clear H
   ·intro h47 a H
    try have p47:=dT h47
    refine kH H (YF Cu h47 M<|YO aF 0 h47 M<|YC h47 M<|YM h47 M<|Sp 51 M ?_ ?_)<;>clear H
    ·intro jE a H
     try have p51:=dT jE
     refine kH H<|bJ jE M<|aU jE M<|PT h47 jE M<|PT h43 h47 M<|Pf h43 M<|Kz K4<|Ct M M<|SQ fun _ K5=>?_;exact Zx
    intro jE a H
    try have p51:=dF jE
    refine kH H<|YO uL 2 jE M<|YF UL jE M<|YO aF 0 jE M ?_;clear H;intro a H;refine s_call aao H (wg H M M jE) M (acG _ _ H.ro l 1 l[k].next _ C8) M ?_;clear H;rintro v55 g2 a w rfl Ak H;replace nk:=fun b o(h:g b=some o)=>Ak b o<|nk b o h;replace C8:=C8.mono Ak;refine kH H (YN jE M<|PF h47 jE M<|PT h43 h47 M<|Pf h43 M<|Kz K4<|Cd M ?_ ?_)<;>clear H K4
    ·exact ahn
    exact ahW
   intro h47 a H
   try have p47:=dF h47
   refine kH H<|aU h47 M<|aU h47 M<|Ku M<|Ku M<|Ku M<|Ku M<|Ku M<|Ks h47 M<|PF h43 h47 M<|Pf h43 M<|Kz K4<|Cf M M<|Kc K2<|SC<|Rd M<|Rm M ?_;clear H K4 K2;intro a H;refine aI ?_;refine dO ((k+1,g2)) (by exact(H.dR (Pl:=[_,_,_]) (dH:=[_,_]) [1,2] Z M).sub ⟨M,M,M,M,M,aC⟩) ?_
   (try dsimp only);exact YZ
  intro iB a H
  try have p34:=dF iB
  refine kH H<|bJ iB M<|aU iB M<|aU iB M<|Pf iB M<|Rm M ?_;clear H;intro a H;refine Oj UL H (wg H M M M) M M ?_;clear H;intro a H;refine vo aF H (wg H M M M) M (H.hp.sD 0 M M) M ?_;clear H;intro a H;refine KX H (wg H M M M) M M M M ?_;clear H;intro a H;refine IQ H (wg H M M M) M M ?_;clear H;intro a H;refine WU H 47 M ?_ ?_
  ·intro h47
   try have p47:=dT h47
   refine kH H (YF Cu h47 M<|YO aF 0 h47 M<|YC h47 M<|YM h47 M<|Sp 51 M ?_ ?_)<;>clear H
   ·intro jE a H
    try have p51:=dT jE
    refine kH H<|bJ jE M<|aU jE M<|PT h47 jE M ?_;clear H;intro a H;refine Ol H (wg H M M M) M h47 M M ?_;clear H;intro a H;refine kH H<|Pf M M<|Kz K4<|Ct M M<|SQ fun _ K5=>?_;exact Zx
   intro jE a H
   try have p51:=dF jE
   refine kH H<|YO uL 2 jE M<|YF UL jE M<|YO aF 0 jE M ?_;clear H;intro a H;refine s_call aao H (wg H M M jE) M (acG _ _ H.ro l 1 l[k].next _ C8) M ?_;clear H;rintro v55 g2 a w rfl Ak H;replace nk:=fun b o(h:g b=some o)=>Ak b o<|nk b o h;replace C8:=C8.mono Ak;refine kH H<|YN jE M<|PF h47 jE M ?_;clear H;intro a H;refine Ol H (wg H M M M) M h47 M M ?_;clear H;intro a H;refine kH H (Pf M M<|Kz K4<|Cd M ?_ ?_)<;>clear H K4
   ·exact ahn
   exact ahW
  intro h47
  try have p47:=dF h47
  refine kH H<|aU h47 M<|aU h47 M<|Ku M<|Ku M<|Ku M<|Ku M<|Ku M<|Ks h47 M ?_;clear H;intro a H;refine R6 H (wg H M M M) M h47 M M ?_;clear H;intro a H;refine kH H<|Pf M M<|Kz K4<|Cf M M<|Kc K2<|SC<|Rd M<|Rm M ?_;clear H K4 K2;intro a H;refine aI ?_;refine dO ((k+1,g2)) (by exact(H.dR (Pl:=[_,_,_]) (dH:=[_,_]) [1,2] Z M).sub ⟨M,M,M,M,M,aC⟩) ?_
  (try dsimp only);exact YZ
 intro eZ a H
 try have p28:=dF eZ
 have hbad:=afn O hno;refine dS ?_;refine K1 _ _ ?_;clear K1;refine kP H<|SQ fun _ K1=>SR fun _ K2=>Ro uL 1 M<|Rl mR M<|Rm M<|Kz K2<|SB ?_;clear H K2;intro a H;skip;refine ave (ι:=Nat×GH×List Nat) (Tc:=[(1,_),(2,_),(61,_),(62,_)]) (Lc:=[(_,_),(_,_)]) (fun gh=>mkD gh.2.2) (fun gh=>[(63,vi gh.1)]) (fun gh=>[]++(KO gh.2.2++[])) (fun gh=>gh.2.1) (fun gh=>gh.1<=l.length∧(l.take gh.1).any (cyc l)=false∧(∀b o,g2 b=some o->gh.2.1 b=some o)) (fun gh=>l.length-gh.1) ((0,g2,[])) (by exact H.sub ⟨M,M,M,M,M,aC⟩) ?_ ?_
 ·exact Fb
 clear H;rintro⟨j,g3,ds⟩ a w hI H;dsimp only at hI H;obtain⟨hj,hnc,Aj⟩:=hI;have acz:=C8.mono Aj;dsimp only[lca,bq]at H;refine kP H (SR fun _ K2=>Rc M<|Kz K2<|SQ fun _ K5=>Cd M ?_ ?_)<;>clear H K2
 ·intro h64 a H
  try have p64:=dT h64
  have hj2:j<l.length:=by omega
  obtain⟨b,o,pA,pc,rfl,hrow,hp,hrep⟩:=Gq acz hj2;refine kP H<|Kc K5<|SQ fun _ K2=>SB<|SR fun _ K6=>Ri mR kQ M M ?_;clear H K5;intro a H;refine aY kQ (cs:=[_,_,_,_,_,_]) H wn M M (fun j v hj=>H.hp.aJ<|hrow j v hj) M ?_;clear H;intro a H;refine dK kQ H wn M ?_;clear H;intro b8 a w Ee H;refine bH kQ 0 (vs:=[_,_,_,_,_,_]) H wn M ?_;clear H;intro w H;refine K6 _ _ ?_;clear K6;refine dw<|fun _ K5=>?_;refine dK aF H wn M ?_;clear H;intro b9 a w yY H;refine bH aF 0 (vs:=[_]) H wn M ?_;clear H;intro w H;refine K5 _ _ ?_;clear K5;refine kP H<|SR fun _ K5=>Ro uL 3 M<|aV yP aF 1 M M ?_;clear H;intro a H;refine gM axz (Li:=[_,_,_,_]++KO ds) (L:=[]) (St.un (A:=[_,_,_,_]) H) wn M (avA (Hp.owns (Li:=[_,_,_,_]++KO ds) (St.un (A:=[_,_,_,_]) H).hp) l l[j].id _ acz) M ?_;clear H;rintro v70 g4 L70 a w ⟨bl,bi,rfl,rfl,hbl⟩ amI H;have H:=(St.NV (A:=[_,_,_,_,_]) (B:=KO ds)<|H.perm vD);dsimp only[lca,bq]at H;have hit:=avz (l:=l) (id:=l[j].id) (bi:=bi) hbl (acz.mono amI)<|apr hok;refine K5 _ _ ?_;clear K5;refine xK ?_;skip;refine avh (B:=[(_,_)]) (ι:=Unit) (κ:=Int) (Lc:=[(_,_),(_,_)]) (fun(k:Nat)(gh:Unit)=>[(b9,.cells #[vi k] 3 (0,0)),(b2,.cells #[vi 0] 41 (0,0))]) (fun(k:Nat)(gh:Unit)=>(KO ds++[])) (fun(k:Nat)(gh:Unit)(g:GH)=>k<=l.length) (fun(gx:Int)=>Code.ret) (fun(gx:Int)=>[(b9,.cells #[vi gx] 3 (0,0)),(b2,.cells #[vi 16] 41 (0,0))]) (fun(gx:Int)=>(KO ds++[])) (fun(gx:Int)(g:GH)=>cyc l l[j]=true) (()) (by exact H.dR (Pl:=[_,_,_,_,_]) (dH:=[_,_,_,_,_]) [0,2,4,1,3] Z M) M ajY (hit) (fun _ _ h=>h) (fun e i g h=>absurd (of_decide_eq_false e) (by rw[bM]at h;omega)) rfl (fun k args g h=>by obtain⟨_,_,rfl,_⟩:=aqZ h;rfl) (fun _ _ _ _ _ h=>h) (fun _ _ _ _ h=>h) (fP _) ?_ ?_ ?_
  ·clear H;intro l21 Dj zQ bk k args gh BZ w21 F21 B21 a amw ny hI aBP aCS aDC H;obtain⟨amw,aJB,rfl,aKp⟩:=aqZ amw;dsimp only[yJ,List.cons_append,List.nil_append]at H;refine fU ?_;refine aBP _ _ _ _ _ _ (by exact H) ?_;clear H;intro w H;refine kP H<|SB<|SR fun _ K5=>Ro aF 3 M<|Rd M ?_;clear H;intro a H;refine bH aF 3 (vs:=[_]) H wn M ?_;clear H;intro w H;refine K5 _ _ ?_;clear K5;refine kP H (SR fun _ K5=>Ro aF 3 M<|Ro uL 2 M<|Rl mR M<|Rc M<|Kz K5<|Cd M ?_ ?_)<;>clear H K5
   ·intro wJ a H
    try have F9:=dT wJ
    refine dw<|fun _ K5=>?_;refine bH jS 4 (vs:=[_]) H wn M ?_;clear H;intro w H;refine K5 _ _ ?_;clear K5;refine eH ?_;refine(aDC ((k:Int)+1) _ _ _ _ _ (by exact H) ?_).1 M;exact Y0
   intro wJ a H
   try have F9:=dF wJ
   refine fU ?_;refine aCS (()) _ _ _ _ _ (by exact H) ?_
   omega
  ·clear H;intro aex gh aeB a w ny hI H;dsimp only[lca,bq]at H;refine K2 _ _ ?_;clear K2;refine kP H<|SC<|Rd M<|Rm M ?_;clear H;intro a H;refine aI ?_;refine aEH ((j+1,aeB,aex::ds)) (by exact(H.dR (Pl:=[_,_,_,_,_]) (dH:=[_,_,_]) [4,2,0] Z M).sub ⟨M,M,M,M,M,aC⟩) ?_ ?_
   ·(try dsimp only);exact⟨O,afo hj2 hnc (mE (by rw[bM]at hI;omega)),fun b o h=>ny b o<|amI b o<|Aj b o h⟩
   first|omega|(dsimp only;omega)
  clear H;intro aex x aeB a w ny hI H;dsimp only[lca,bq]at H;refine eH ?_;refine(Iu H 0 M ?_).1;clear H;intro a w H;dsimp only[List.eraseIdx_cons_succ,List.eraseIdx_cons_zero]at H;refine(acP (Lh:=[_,_,_,_]) _ H ?_).1;clear H;intro a w H;dsimp only[lca,bq]at H;refine(leave1 H results86 (.cons (AA jS H M<|H.hp.sD 3 M M) .nil) ?_).1
  exact Po
 intro h64 a H
 try have p64:=dF h64
 refine dS ?_;refine K1 _ _ ?_;clear K1;refine dw<|fun _ K1=>?_;refine bH jS 0 (vs:=[_]) H wn M ?_;clear H;intro w H;refine K1 _ _ ?_;clear K1;refine eH ?_;refine(acP (Lh:=[_,_]) _ H ?_).1;clear H;intro a w H;dsimp only[lca,bq]at H;refine(leave1 H results86 (.cons (AA jS H M<|H.hp.sD 0 M M) .nil) ?_).1
 exact Po
theorem AJ:Ty prog 34 1 24 [.slice none 0 0] false:=⟨V,V⟩
theorem yB:prog.underlying 34=some (.slice 181):=by kernel_rfl
theorem Dx:Ty prog 181 2 32 [.string ⟨#[]⟩,.string ⟨#[]⟩] true:=⟨V,V⟩
theorem MP:dG prog 181 0 0:=⟨V⟩
theorem UD:aW 60:=aX func60 M
theorem akL:dG prog 181 1 1:=⟨V⟩
theorem MS:dG prog 36 0 0:=⟨V⟩
theorem azg:aW 86:=aX func86 M
theorem MU:dG prog 36 1 1:=⟨V⟩
theorem axg:aW 114:=aX func114 M
theorem aaK:dG prog 36 2 2:=⟨V⟩
theorem axh:aW 115:=aX func115 M
theorem aaL:dG prog 36 3 3:=⟨V⟩
theorem axi:aW 116:=aX func116 M
theorem axU:aW 194:=aX func194 M
theorem arR{G:GH}{l:List mV}{A:Option Addr}{n c k:Nat}(hv:av G (.sl 2<|l.map mV.dat) (.slice A n c))(hk:k<l.length):∃b o,A=some ⟨b,o,none⟩∧(∀j u,l[k].cells[j]?=some u->aJ G b (o+k*2+j)=some u):=by
 obtain⟨A',c',he,_,_,hg⟩:=hv.slice
 injection he with e1 e2 e3
 subst e1;obtain⟨b,o,cs,h1,h2,h3,h4⟩:=hg k l[k].dat (by simp[hk]);have:=aIP h4;subst this;exact Mj
def arQ(k:Nat)(x:mV)(pn:ByteArray):Int:=fD [dX (!pq x.name) 13,dX (decide (0<(k:Int))&&(x.name.toList==pn.toList)) 7,dX (decide (0<(k:Int))&&Op.bytesLess x.name.toList pn.toList) 6,Gx x.value]
def OH(l:List mV)(k:Nat):Int:=match l[k]? with|some x=>arQ k x ((l[k-1]?.map mV.name).getD ⟨#[]⟩)|none=>0
theorem TB {p:Prop} (h:p:=by
 exact fin H iJ (iN (by first|(rw [kZ c0,Me];done)|(rw [mE c0,Bool.false_and];done)))):p:=h
theorem T9 {p:Prop} (h:p:=by
 clear H;intro a H;exact YS):p:=h
theorem aip {p:Prop} (h:p:=by
 refine iE 48 52 M M fun _ a w G1 hG HT H fin=>?_;refine s_call ajV H wn M (arj _ _ H.ro x.value hte.2) M ?_;clear H;rintro v53 G53 a w rfl abk H;exact fin H abk (rfl)):p:=h
theorem aiq {p:Prop} (h:p:=by
 refine iE 4 8 M M fun _ a w G1 hG HT H fin=>?_;refine s_call UD H wn M (Ul _ _ H.ro x.name hte.1) M ?_;clear H;rintro v9 G9 a w ⟨rfl,-⟩ FM H;exact fin H FM (rfl)):p:=h
theorem ait {p:Prop} (h:p:=by
 refine iE 24 28 M M fun _ a w G1 hG HT H fin=>?_;refine s_call qx H wn M (qF _ _ H.ro _ 7) M ?_;clear H;rintro v29 Jf a w ⟨rfl,-⟩ aAU H;exact fin H aAU (rfl)):p:=h
theorem aiu {p:Prop} (h:p:=by
 refine iE 42 46 M M fun _ a w G1 hG HT H fin=>?_;refine s_call qx H wn M (qF _ _ H.ro _ 6) M ?_;clear H;rintro v47 G47 a w ⟨rfl,-⟩ aA3 H;exact fin H aA3 (rfl)):p:=h
theorem aix {p:Prop} (h:p:=by
 refine iE 6 10 M M fun _ a w G1 hG HT H fin=>?_;refine s_call qx H wn M (qF _ _ H.ro _ 13) M ?_;clear H;rintro v11 DN a w ⟨rfl,-⟩ nZ H;exact agh):p:=h
set_option maxHeartbeats 2000000 in
theorem aIO{G:GH}{bl:Nat}{l:List mV}{A:Option Addr}{n c:Nat}(hb:aJ G bl 0=some (.slice A n c))(hv:av G (.sl 2<|l.map mV.dat) (.slice A n c))(hl:l.length<=4294967296)(ht:∀x∈l,x.name.size<4611686018427387904∧x.value.size<4611686018427387904):wz (.func (.func 194) #[] #[aK bl 0]) G l.length (OH l):=by
 intro k hk G1 w0 hm hG;refine kJ (caps:=[aK bl 0]) axU ?_;replace hb:=aH hm hb;replace hv:=hv.mono hm
 obtain rfl:n=l.length:=by have:=hv.len;simpa using this
 obtain⟨b,o,rfl,hrow⟩:=arR hv hk
 have hk1:k-1<l.length:=by omega
 obtain⟨b',o',he',hrow'⟩:=arR hv hk1
 injection he' with he'
 injection he' with e1 e2
 subst e1;subst e2;have hte:=ht _<|ig hk
 have he:OH l k=arQ k l[k] l[k-1].name:=by unfold OH;rw[gF hk,gF hk1];rfl
 obtain⟨x,hx⟩:∃x,x=l[k]:=⟨_,M⟩;obtain⟨y,hy⟩:∃y,y=l[k-1]:=⟨_,M⟩;rw[<-hx]at hrow hte he;rw[<-hy]at hrow' he;refine eN [(0,_),(1,_)] func194 M ntmps194 M M hG ?_;intro a H;refine kP H<|SR fun _ K1=>ak K1 M<|SQ fun _ K2=>?_;clear H K1;intro a H;have H:=H.sub (T':=[(0,_),(1,_)]) ⟨M,M,aC⟩
 by_cases c0:0<(k:Int)
 ·skip;refine dI hmx [[],[],[0,1],[0,1,2],ra 0 4,ra 0 5,ra 0 6,ra 0 7,[],[8],ra 0 10,ra 0 11,ra 0 11,ra 0 13,ra 0 14,ra 0 15,ra 0 11,ra 0 11,ra 0 11++[17],(ra 0 11++[17,18]),ra 0 11++ra 16 4,ra 0 11++ra 16 5,ra 0 11++ra 16 6,ra 0 23,ra 0 24,ra 0 25,[],[26],ra 0 28,ra 0 29,ra 0 29,ra 0 31,ra 0 32,ra 0 33,ra 0 29,ra 0 29,ra 0 29++[35],(ra 0 29++[35,36]),ra 0 29++ra 34 4,ra 0 29++ra 34 5,ra 0 29++ra 34 6,ra 0 41,ra 0 42,ra 0 43,[],[],[44,45],[44,45,46],ra 44 4,ra 0 49,ra 0 50,ra 0 51,ra 0 52] [50,51,52] V [_,_,_,_,_,.bool (pq x.name),_,vi (dX (!pq x.name) 13),_,_,_,_,_,_,_,_,_,_,vi ((max k 1:Nat):Int),vi ((k-1:Nat):Int),_,_,_,.bool (x.name.toList==y.name.toList),.bool (decide (0<(k:Int))&&(x.name.toList==y.name.toList)),vi (dX (decide (0<(k:Int))&&(x.name.toList==y.name.toList)) 7),_,_,_,_,_,_,_,_,_,_,vi ((max k 1:Nat):Int),vi ((k-1:Nat):Int),_,_,_,.bool (Op.bytesLess x.name.toList y.name.toList),.bool (decide (0<(k:Int))&&Op.bytesLess x.name.toList y.name.toList),vi (dX (decide (0<(k:Int))&&Op.bytesLess x.name.toList y.name.toList) 6),_,_,_,_,_,vi<|Gx x.value] H (aD (X0 M fun hG=>Rg AJ M<|aH hG hb) (Z0 M<|Rm M) (Z2 0 4 1 5 M<|Ri yB Dx M M) (Z1 2 6 M<|Rf MP M)<|aD (X1 3 7 M fun hG=>Rg gN M<|aH hG<|hrow 0 _ M) ?_ (Z1 5 9 M<|Rn M) ?_<|aD (Z0 M<|Rm M) (Z1 8 12 M<|Rc M) (Z1 9 13 M<|Rm M) (X1 10 14 M fun hG=>YR AJ (aG c0) M<|aH hG hb)<|aD (Z1 10 14 M<|YM (aG c0) M) (Z3 11 15 12 16 10 14 M<|YI yB Dx (aG c0) M M) (Z2 13 17 10 14 M<|YF MP (aG c0) M) (X2 14 18 10 14 M fun hG=>YR gN (aG c0) M<|aH hG<|hrow 0 _ M)<|aD (X1 10 14 M fun hG=>YR AJ (aG c0) M<|aH hG hb) (Z1 10 14 M<|YM (aG c0) M) ?_ ?_<|aD (Z3 16 20 19 23 10 14 M<|YI yB Dx (aG c0) M M) (Z2 20 24 10 14 M<|YF MP (aG c0) M) (X2 21 25 10 14 M fun hG=>YR gN (aG c0) M<|aH hG<|hrow' 0 _ M) ?_<|aD ?_ ?_ (Z0 M<|Rm M) (Z1 26 30 M<|Rc M)<|aD (Z1 27 31 M<|Rm M) (X1 28 32 M fun hG=>YR AJ (aG c0) M<|aH hG hb) (Z1 28 32 M<|YM (aG c0) M) (Z3 29 33 30 34 28 32 M<|YI yB Dx (aG c0) M M)<|aD (Z2 31 35 28 32 M<|YF MP (aG c0) M) (X2 32 36 28 32 M fun hG=>YR gN (aG c0) M<|aH hG<|hrow 0 _ M) (X1 28 32 M fun hG=>YR AJ (aG c0) M<|aH hG hb) (Z1 28 32 M<|YM (aG c0) M)<|aD ?_ ?_ (Z3 34 38 37 41 28 32 M<|YI yB Dx (aG c0) M M) (Z2 38 42 28 32 M<|YF MP (aG c0) M)<|aD (X2 39 43 28 32 M fun hG=>YR gN (aG c0) M<|aH hG<|hrow' 0 _ M) ?_ ?_ ?_<|aD (X0 M fun hG=>Rg AJ M<|aH hG hb) (Z0 M<|Rm M) (Z2 44 48 45 49 M<|Ri yB Dx M M) (Z1 46 50 M<|Rf akL M)<|aD (X1 47 51 M fun hG=>Rg gN M<|aH hG<|hrow 1 _ M) ?_ (bX M) (bX M)<|bE (bX M) dz) ?_
  ·exact aiq
  ·exact aix
  ·refine fu 17 21 10 14 M M fun _ a w G1 hG HT H fin=>?_;refine KZ H (wg H M M<|aG c0) M M M ?_;exact T9
  ·refine fu 18 22 10 14 M M fun _ a w G1 hG HT H fin=>?_;exact Bc
  ·refine xC 15 19 22 26 10 14 M M fun _ a w G1 hG HT H fin=>?_;refine BN H (wg H M M<|aG c0) M M M ?_;exact jD
  ·refine fu 10 14 23 27 M M fun _ a w G1 hG HT H fin=>?_;refine kH H<|Pt (aG c0) M ?_;clear H;intro a H;exact TB
  ·exact ait
  ·refine fu 35 39 28 32 M M fun _ a w G1 hG HT H fin=>?_;refine KZ H (wg H M M<|aG c0) M M M ?_;exact T9
  ·refine fu 36 40 28 32 M M fun _ a w G1 hG HT H fin=>?_;exact Bc
  ·refine xC 33 37 40 44 28 32 M M fun _ a w G1 hG HT H fin=>?_;refine aG4 H (wg H M M<|aG c0) M M M ?_;exact jD
  ·refine fu 28 32 41 45 M M fun _ a w G1 hG HT H fin=>?_;refine kH H<|Pt (aG c0) M ?_;clear H;intro a H;exact TB
  ·exact aiu
  ·exact aip
  clear H;intro a w G jL H hv;have H:=H.aQ (hv 7 11 M M) M;have H:=H.aQ (hv 25 29 M M) M;have H:=H.aQ (hv 43 47 M M) M;have H:=H.aQ (hv 49 53 M M) M;clear hv;refine iT tQ jS [_,_,_,_] [_,_,_,_] H wn M M M M M (by intro i q h;match i,h with|0,h=>exact h|1,h=>exact h|2,h=>exact h|3,h=>exact h|n+4,h=>simp at h) M M ?_;clear H;intro b54 a w aBK H;obtain⟨G54,QS,abv,H⟩:=H.eX;refine s_call uT H wn M (uV _ _ H.ro _ _ (KD [dX (!pq x.name) 13,dX (decide (0<(k:Int))&&(x.name.toList==y.name.toList)) 7,dX (decide (0<(k:Int))&&Op.bytesLess x.name.toList y.name.toList) 6,Gx x.value] abv (show 4<=maxLen by decide))) rfl ?_;clear H;rintro v55 _ a w ⟨rfl,rfl⟩-H;refine kH H<|Ra M ?_;clear H;intro a H;refine aI ⟨M,?_⟩;refine K2 _ _ ?_;clear K2;refine lr H results194 M ?_;exact H.rt (by rw[he];rfl)
 skip;refine dI hmx [[],[],[0,1],[0,1,2],ra 0 4,ra 0 5,ra 0 6,ra 0 7,[],[8],ra 0 10,ra 0 11,ra 0 11,ra 0 13,ra 0 14,ra 0 15,ra 0 11,ra 0 11,ra 0 11++[17],(ra 0 11++[17,18]),ra 0 11++ra 16 4,ra 0 11++ra 16 5,ra 0 11++ra 16 6,ra 0 23,ra 0 24,ra 0 25,[],[26],ra 0 28,ra 0 29,ra 0 29,ra 0 31,ra 0 32,ra 0 33,ra 0 29,ra 0 29,ra 0 29++[35],(ra 0 29++[35,36]),ra 0 29++ra 34 4,ra 0 29++ra 34 5,ra 0 29++ra 34 6,ra 0 41,ra 0 42,ra 0 43,[],[],[44,45],[44,45,46],ra 44 4,ra 0 49,ra 0 50,ra 0 51,ra 0 52] [50,51,52] V [_,_,_,_,_,.bool (pq x.name),_,vi (dX (!pq x.name) 13),_,_,_,undef,undef,undef,undef,undef,undef,undef,undef,undef,undef,undef,undef,undef,.bool (decide (0<(k:Int))&&(x.name.toList==y.name.toList)),vi (dX (decide (0<(k:Int))&&(x.name.toList==y.name.toList)) 7),_,_,_,undef,undef,undef,undef,undef,undef,undef,undef,undef,undef,undef,undef,undef,.bool (decide (0<(k:Int))&&Op.bytesLess x.name.toList y.name.toList),vi (dX (decide (0<(k:Int))&&Op.bytesLess x.name.toList y.name.toList) 6),_,_,_,_,_,vi<|Gx x.value] H (aD (X0 M fun hG=>Rg AJ M<|aH hG hb) (Z0 M<|Rm M) (Z2 0 4 1 5 M<|Ri yB Dx M M) (Z1 2 6 M<|Rf MP M)<|aD (X1 3 7 M fun hG=>Rg gN M<|aH hG<|hrow 0 _ M) ?_ (Z1 5 9 M<|Rn M) ?_<|aD (Z0 M<|Rm M) (Z1 8 12 M<|Rc M) (Z1 9 13 M<|Rm M) (aL 10 (aO c0) M M)<|aD (aL 10 (aO c0) M M) (aL 10 (aO c0) M M) (aL 10 (aO c0) M M) (aL 10 (aO c0) M M)<|aD (aL 10 (aO c0) M M) (aL 10 (aO c0) M M) (aL 10 (aO c0) M M) (aL 10 (aO c0) M M)<|aD (aL 10 (aO c0) M M) (aL 10 (aO c0) M M) (aL 10 (aO c0) M M) (aL 10 (aO c0) M M)<|aD ?_ ?_ (Z0 M<|Rm M) (Z1 26 30 M<|Rc M)<|aD (Z1 27 31 M<|Rm M) (aL 28 (aO c0) M M) (aL 28 (aO c0) M M) (aL 28 (aO c0) M M)<|aD (aL 28 (aO c0) M M) (aL 28 (aO c0) M M) (aL 28 (aO c0) M M) (aL 28 (aO c0) M M)<|aD (aL 28 (aO c0) M M) (aL 28 (aO c0) M M) (aL 28 (aO c0) M M) (aL 28 (aO c0) M M)<|aD (aL 28 (aO c0) M M) (aL 28 (aO c0) M M) ?_ ?_<|aD (X0 M fun hG=>Rg AJ M<|aH hG hb) (Z0 M<|Rm M) (Z2 44 48 45 49 M<|Ri yB Dx M M) (Z1 46 50 M<|Rf akL M)<|aD (X1 47 51 M fun hG=>Rg gN M<|aH hG<|hrow 1 _ M) ?_ (bX M) (bX M)<|bE (bX M) dz) ?_
 ·exact aiq
 ·exact aix
 ·refine fu 10 14 23 27 M M fun _ a w G1 hG HT H fin=>?_;refine kH H<|Pf (aO c0) M ?_;clear H;intro a H;exact TB
 ·exact ait
 ·refine fu 28 32 41 45 M M fun _ a w G1 hG HT H fin=>?_;refine kH H<|Pf (aO c0) M ?_;clear H;intro a H;exact TB
 ·exact aiu
 ·exact aip
 clear H;intro a w G jL H hv;have H:=H.aQ (hv 7 11 M M) M;have H:=H.aQ (hv 25 29 M M) M;have H:=H.aQ (hv 43 47 M M) M;have H:=H.aQ (hv 49 53 M M) M;clear hv;refine iT tQ jS [_,_,_,_] [_,_,_,_] H wn M M M M M (by intro i q h;match i,h with|0,h=>exact h|1,h=>exact h|2,h=>exact h|3,h=>exact h|n+4,h=>simp at h) M M ?_;clear H;intro b54 a w aBK H;obtain⟨G54,QS,abv,H⟩:=H.eX;refine s_call uT H wn M (uV _ _ H.ro _ _ (KD [dX (!pq x.name) 13,dX (decide (0<(k:Int))&&(x.name.toList==y.name.toList)) 7,dX (decide (0<(k:Int))&&Op.bytesLess x.name.toList y.name.toList) 6,Gx x.value] abv (show 4<=maxLen by decide))) rfl ?_;clear H;rintro v55 _ a w ⟨rfl,rfl⟩-H;refine kH H<|Ra M ?_;clear H;intro a H;refine aI ⟨M,?_⟩;refine K2 _ _ ?_;clear K2;refine lr H results194 M ?_;exact H.rt (by rw[he];rfl)
def Ui(l:List mV):Int:=fD [dX (decide (128<(l.length:Int))) 9,kW (OH l) (min l.length 128)]
theorem avG(G:GH)(w0:World)(hG:Hold G w0)(l:List mV)(v:aj)(hv:av G (.sl 2<|l.map mV.dat) v)(hl:l.length<=4294967296)(ht:∀x∈l,x.name.size<4611686018427387904∧x.value.size<4611686018427387904) :
  Calls prog 116 #[v] w0 (bD w0 G fun u G'=>u=vi (Ui l)):=by
 obtain⟨A,c,rfl,hc1,hc2,-⟩:=hv.slice;rw[bM]at *;refine eN [(0,_)] func116 M ntmps116 M M hG fun a H=>dw<|fun _ K1=>eD (cs:=[_]) H wn M M M fun b1 a w hb1 H=>kH H<|ak K1 M<|SQ fun _ K2=>?_;clear H K1;intro a H;have H:=H.sub (T':=[(1,_)]) ⟨M,aC⟩;obtain⟨Ga,hma,hb1',H⟩:=H.eX
 have hbl:aJ Ga b1 0=some (.slice A l.length c):=by unfold aJ;rw[hb1'];rfl
 have hcb:=aIO hbl (hv.mono hma) hl ht;refine dI hmx [[],[0],[0,1],[0,1,2],[],[4],[4,5],[],ra 0 8,ra 0 9,ra 0 10,ra 0 11] [9,10,11] V [_,_,_,vi (dX (decide (128<(l.length:Int))) 9),_,_,vi ((min l.length 128:Nat):Int),.func (.func 194) #[] #[aK b1 0],vi<|kW (OH l)<|min l.length 128] H (aD (X0 M fun hG=>Rg AJ M<|aH hG hbl) (Z1 0 3 M<|Rl yB M) (Z1 1 4 M<|Rc M) ?_<|aD (X0 M fun hG=>Rg AJ M<|aH hG hbl) (Z1 4 7 M<|Rl yB M) ?_ ?_<|aD ?_ (bX M) (bX M) (bX M) dz) ?_
 ·exact TY
 ·exact Ub
 ·exact Jw
 ·exact fu 6 9 7 10 M M fun _ a w G1 hG HT H fin=>s_call MJ H wn M (Pg _ _ H.ro (min l.length 128) (OH l) _ O ((hcb.mono hG).le<|Nat.min_le_left _ _)) M PG
 clear H;intro a w G jL H hv;have H:=H.aQ (hv 3 6 M M) M;have H:=H.aQ (hv 8 11 M M) M;clear hv;refine iT tQ jS [_,_] [_,_] H wn M M M M M (by intro i q h;match i,h with|0,h=>exact h|1,h=>exact h|n+2,h=>simp at h) M M ?_;intro b12 a w CP H;obtain⟨EX,CV,J9,H⟩:=H.eX;refine s_call uT H wn M (uV _ _ H.ro _ _<|Dr J9) M ?_;rintro v13 _ a w ⟨rfl,rfl⟩-H;exact kH H<|Ra M fun a H=>aI ⟨M,K2 _ _<|lr H results116 M Bb⟩
structure DY where
 styles:List dh
 lists:List fV
 comments:List jw
 vars:List mV
structure Ca(G:GH)(s:DY)(a b c d:aj):Prop where
 st:av G (.sl 6 (s.styles.map dh.dat)) a
 li:av G (.sl 2 (s.lists.map fV.dat)) b
 cm:av G (.sl 6 (s.comments.map jw.dat)) c
 va:av G (.sl 2 (s.vars.map mV.dat)) d
structure Yk(s:DY):Prop where
 sn:∀x∈s.styles,x.name.size<=4611686018427387904
 ln:s.lists.length<=4294967296
 lt:∀x∈s.lists,∀y∈x.levels,y.Dq.size<4611686018427387904
 cn:s.comments.length<=4294967296
 ct:∀x∈s.comments,x.author.size<4611686018427387904∧x.text.size<4611686018427387904
 vn:s.vars.length<=4294967296
 vt:∀x∈s.vars,x.name.size<4611686018427387904∧x.value.size<4611686018427387904
 pl:∀x∈s.styles,x.props.length<=4294967296
 ll:∀x∈s.lists,x.levels.length<=4294967296
def PW(s:DY):Int:=fD [Ck s.styles,PV s.lists,Uh s.comments,Ui s.vars]
theorem avF(G:GH)(w0:World)(hG:Hold G w0)(s:DY)(a b c d:aj)(hR:Ca G s a b c d)(hz:Yk s) :
  Calls prog 46 #[.agg #[a,b,c,d]] w0 (bD w0 G fun u G'=>u=vi (PW s)):=by
 obtain⟨sA,sn,sc,rfl⟩:=hR.st.form;obtain⟨lA,ln,lc,rfl⟩:=hR.li.form;obtain⟨cA,cn,cc,rfl⟩:=hR.cm.form;obtain⟨vA,vn,vc,rfl⟩:=hR.va.form;refine eN [(0,_)] func46 M ntmps46 M M hG fun a H=>dw<|fun _ K1=>eD (cs:=[_,_,_,_]) H wn M M M fun b1 a w hb1 H=>kH H<|ak K1 M<|SQ fun _ K2=>?_;clear H K1;intro a H;have H:=H.sub (T':=[(1,_)]) ⟨M,aC⟩;obtain⟨Ga,hma,hb1',H⟩:=H.eX
 have hc0:aJ Ga b1 0=some (.slice sA sn sc):=by unfold aJ;rw[hb1'];rfl
 have hc1:aJ Ga b1 1=some (.slice lA ln lc):=by unfold aJ;rw[hb1'];rfl
 have hc2:aJ Ga b1 2=some (.slice cA cn cc):=by unfold aJ;rw[hb1'];rfl
 have hc3:aJ Ga b1 3=some (.slice vA vn vc):=by unfold aJ;rw[hb1'];rfl
 refine dI hmx [[],[0],[0,1],[],[3],ra 0 5,[],[6],ra 0 8,[],[9],ra 0 11,ra 0 12,ra 0 13,ra 0 14] [12,13,14] V [_,_,vi (Ck s.styles),_,_,vi (PV s.lists),_,_,vi (Uh s.comments),_,_,vi<|Ui s.vars] H (aD (Z0 M<|Rf MS M) (X1 0 3 M fun hG=>Rg uL M<|aH hG hc0) ?_ (Z0 M<|Rf MU M)<|aD (X1 3 6 M fun hG=>Rg EM M<|aH hG hc1) ?_ (Z0 M<|Rf aaK M) (X1 6 9 M fun hG=>Rg IW M<|aH hG hc2)<|aD ?_ (Z0 M<|Rf aaL M) (X1 9 12 M fun hG=>Rg AJ M<|aH hG hc3) ?_<|bE (bX M)<|bE (bX M)<|bE (bX M) dz) ?_
 ·refine iE 1 4 M M fun _ a w G1 hG HT H fin=>s_call azg H wn M (avH _ _ H.ro s.styles _ ((hR.st.mono hma).mono hG) hz.sn) M ?_;rintro v5 G5 a w rfl CK H;exact fin H CK<|rfl
 ·refine iE 4 7 M M fun _ a w G1 hG HT H fin=>s_call axg H wn M (avD _ _ H.ro s.lists _ ((hR.li.mono hma).mono hG) hz.ln hz.lt) M ?_;rintro v8 G8 a w rfl uX H;exact fin H uX<|rfl
 ·exact iE 7 10 M M fun _ a w G1 hG HT H fin=>s_call axh H wn M (avB _ _ H.ro s.comments _ ((hR.cm.mono hma).mono hG) hz.cn hz.ct) M PG
 ·refine iE 10 13 M M fun _ a w G1 hG HT H fin=>s_call axi H wn M (avG _ _ H.ro s.vars _ ((hR.va.mono hma).mono hG) hz.vn hz.vt) M ?_;rintro v14 DR a w rfl J2 H;exact fin H J2<|rfl
 clear H;intro a w G jL H hv;have H:=H.aQ (hv 2 5 M M) M;have H:=H.aQ (hv 5 8 M M) M;have H:=H.aQ (hv 8 11 M M) M;have H:=H.aQ (hv 11 14 M M) M;clear hv;refine iT tQ jS [_,_,_,_] [_,_,_,_] H wn M M M M M (by intro i q h;match i,h with|0,h=>exact h|1,h=>exact h|2,h=>exact h|3,h=>exact h|n+4,h=>simp at h) M M ?_;intro b15 a w abq H;obtain⟨Jc,xV,abr,H⟩:=H.eX;refine s_call uT H wn M (uV _ _ H.ro _ _<|KD [Ck s.styles,PV s.lists,Uh s.comments,Ui s.vars] abr (show 4<=maxLen by decide)) rfl ?_;rintro v16 _ a w ⟨rfl,rfl⟩-H;exact kH H<|Ra M fun a H=>aI ⟨M,K2 _ _<|lr H results46 M Bb⟩
section
def jB:Nat->List (Int×aj)->List MapEntry
 |_,[]=>[]
 |i,(k,v)::r=>⟨.int .i64 k,v,i⟩::jB (i+1) r
theorem aox(x:Int×aj):∀(i:Nat)(l:List (Int×aj)),jB i (l++[x])=jB i l++[⟨.int .i64 x.1,x.2,i+l.length⟩]
 |_,[]=>rfl
 |i,k::r=>by
  rw[jl,jB,aox x (i+1) r,jB,jl,lK,show i+1+r.length=i+(r.length+1) by omega]
def wS(x:Int):List (Int×aj)->Option aj
 |[]=>none
 |(k,v)::r=>if k=x then some v else wS x r
theorem RJ{x:Int}:∀{l:List (Int×aj)},x∉l.map (·.1)->wS x l=none
 |[],_=>rfl
 |(k,v)::r,h=>by
  rw[wS,au (fun e=>h (by simp[e])),RJ<|fun hm=>h<|gH _ hm]
theorem aaP(x:Int):∀(i j:Nat)(l:List (Int×aj)),∃an,Instr.findNow (.int .i64) (.int .i64 x) (jB i l) j=some an∧an.map (·.2)=wS x l
 |_,_,[]=>⟨none,M,M⟩
 |i,j,(k,v)::r=>by
  obtain⟨an,h1,h2⟩:=aaP x (i+1) (j+1) r
  by_cases e:k=x
  ·subst e
   exact⟨some (j,v),by simp only[jB,Instr.findNow,Instr.sameNow,ay,beq_self_eq_true],by rw[wS,ay M];rfl⟩
  ·have hb:(x==k)=false:=by simp;exact fun h=>e h.symm
   exact⟨an,by simpa only[jB,Instr.findNow,Instr.sameNow,ay,hb]using h1,by rw[wS,au e];exact h2⟩
abbrev gG(l:List (Int×aj)):Obj:=.map (jB 0 l).toArray l.length
section
variable{N:Nat}{D:List Deferred}{w0:World}{F:Nat->Prop}{G0 G:GH}{L:OL}{T:List (Nat×aj)}
variable{r:Option Nat}{P:Program}{ops:Array Oper}{Q:Exit->Act->World->Prop}{rest:List Oper}{a:Act}{w:World}
variable{d:Nat}{ty:TypeId}{pos:String}{aT:Array Edge}{g:Option (Nat×Bool)}
theorem KY{t kt et:TypeId}{x y:Operand}{b:Nat}{l:List (Int×aj)}{ky:Int}{zv:aj}(hm:P.underlying t=some (.map kt et))(hk:P.underlying kt=some (.int .i64))(hz:(P.info? et).map (fun i=>i.zero)=some (some zv))(H:St N D w0 F G0 G L T a w)
  (hw:Region.wanted ⟨some d,.lookup t x y false,ty,pos,aT,g⟩ (yielded ops a.tmps)=true)(hx:ev T x=some (.map<|some b))(hy:ev T y=some (.int .i64 ky))(hb:w.heap[b]?=some (gG l))(hd:Nat.blt d N=true)
  (k:∀a',St N D w0 F G0 G L ((d,(wS ky l).getD zv)::T) a' w->WL r P ops Q rest a' w):WL r P ops Q (⟨some d,.lookup t x y false,ty,pos,aT,g⟩::rest) a w:=by
 obtain⟨an,hf,han⟩:=aaP ky 0 0 l
 obtain⟨inf,hi1,hi2⟩:=nK.1 hz
 refine fH (v:=(wS ky l).getD zv) (w':=w) hw M ?_<|k _<|H.put hd _ H.hp
 have hkey:MapKept.IsKey (.int .i64) (.int .i64 ky):=by trivial
 have hf2:Instr.findNow (.int .i64) (.int .i64 ky) (jB 0 l).toArray.toList 0=some an:=by simpa using hf
 replace hb:w.heap[b]?=some (.map (jB 0 l).toArray l.length):=hb
 generalize(jB 0 l).toArray=es at hb hf2
 have h1:=MapKept.run_checkKey (P:=P) (w:=w) hk hkey es.isEmpty 9999
 have h2:=MapKept.run_findKey (P:=P) (w:=w) hk hf2
 rw[<-han]
 cases an with
 |none=>simp[execOp,Instr.lookup,H.ev hx,H.ev hy,dP,lV hm,MapKept.run_getObj_map hb,h1,h2,Result.andThen,zeroValue,EA hi1,hi2]
 |some q=>simp[execOp,Instr.lookup,H.ev hx,H.ev hy,dP,lV hm,MapKept.run_getObj_map hb,h1,h2,Result.andThen]
theorem R7{t kt et:TypeId}{x y z:Operand}{b i:Nat}{l:List (Int×aj)}{ky:Int}{v:aj}(hm:P.underlying t=some (.map kt et))(hk:P.underlying kt=some (.int .i64))(H:St N D w0 F G0 G L T a w)
  (hw:Region.wanted ⟨none,.mapUpdate t x y z,ty,pos,aT,g⟩ (yielded ops a.tmps)=true)(hx:ev T x=some (.map<|some b))(hy:ev T y=some (.int .i64 ky))(hzv:ev T z=some v)(hi:L[i]?=some (b,gG l))(hn:wS ky l=none)
  (k:∀w',St N D w0 F G0 G (L.set i (b,gG<|l++[(ky,v)])) T a w'->WL r P ops Q rest a w'):WL r P ops Q (⟨none,.mapUpdate t x y z,ty,pos,aT,g⟩::rest) a w:=by
 obtain⟨an,hf,han⟩:=aaP ky 0 0 l
 have hnone:an=none:=by
  rw[hn]at han
  cases an with
  |none=>rfl
  |some q=>cases han
 subst hnone
 refine aqp (i:=i) hm hk H hw hx hy hzv hi (by trivial) (by simpa using hf) ?_
 intro w' H'
 have e:(jB 0 l).toArray.push ⟨.int .i64 ky,v,l.length⟩=(jB 0<|l++[(ky,v)]).toArray:=by
  rw[aox,List.push_toArray,fB]
 refine k w' ?_
 rw[e]at H'
 rw[gG,gT]
 exact H'
end
end
theorem AL:prog.underlying 103=some (.map 3 4):=by kernel_rfl
theorem qU:Ty prog 81 3 32 [.int .i64 0,.string ⟨#[]⟩,.int .i64 0] true:=⟨V,V⟩
theorem aHX:sO prog 105 [(0,1),(1,1),(2,1),(3,1),(4,1),(5,1)] [.map none,.map none,.map none,.map none,.map none,.int .i64 0]:=⟨V,V⟩
theorem Qo:dG prog 38 3 7:=⟨V⟩
theorem akD:dG prog 105 0 0:=⟨V⟩
theorem arB:Ty prog 102 1 8 [.map none] false:=⟨V,V⟩
theorem akE:dG prog 105 1 1:=⟨V⟩
theorem vY:Ty prog 103 1 8 [.map none] false:=⟨V,V⟩
theorem MW:dG prog 38 2 6:=⟨V⟩
theorem Dz:Ty prog 30 1 24 [.slice none 0 0] false:=⟨V,V⟩
theorem tV:prog.underlying 30=some (.slice 81):=by kernel_rfl
theorem Qi:dG prog 105 2 2:=⟨V⟩
theorem aaN:dG prog 81 0 0:=⟨V⟩
structure dJ where
 id:Int
 author:ByteArray
 time:Int
def dJ.dat(x:dJ):List Dat:=[li x.id,.lf (.string x.author),li x.time]
abbrev dJ.cells(x:dJ):List aj:=[vi x.id,.string x.author,vi x.time]
theorem adJ{G:GH}{x:dJ}{cs:List aj}(h:bg G x.dat cs):cs=x.cells:=by
 simp only[dJ.dat,bg,av]at h
 exact ahi
theorem adI{G:GH}{l:List dJ}{A:Option Addr}{n c k:Nat}(hv:av G (.sl 3<|l.map dJ.dat) (.slice A n c))(hk:k<l.length):∃b o,A=some ⟨b,o,none⟩∧(∀j u,l[k].cells[j]?=some u->aJ G b (o+k*3+j)=some u):=by
 obtain⟨A',c',he,_,_,hg⟩:=hv.slice
 injection he with e1 e2 e3
 subst e1;obtain⟨b,o,cs,h1,h2,h3,h4⟩:=hg k l[k].dat (by simp[hk]);have:=adJ h4;subst this;exact Mj
abbrev iV(b ms ml mr mb mu:Nat)(n:Int):Nat×Obj:=(b,.cells #[.map (some ms),.map (some ml),.map (some mr),.map (some mb),.map (some mu),vi n] 105 (0,0))
def Dc(l:List dh):List (Int×aj):=l.map fun s=>(s.id,vi s.kind)
def gW(l:List Int):List (Int×aj):=l.map fun k=>(k,.bool true)
structure yE(us:List Int)(G:GH)(st:List dh)(li:List fV)(rv:List dJ)(ms ml mr mu:Nat):Prop where
 sty:G ms=some (gG (Dc st))
 oq:G ml=some (gG (gW (li.map fV.id)))
 rev:G mr=some (gG (gW (rv.map dJ.id)))
 use:G mu=some (gG (gW us))
theorem yE.mono{us:List Int}{G G':GH}{st:List dh}{li:List fV}{rv:List dJ}{ms ml mr mu:Nat}(h:yE us G st li rv ms ml mr mu)(hm:∀b o,G b=some o->G' b=some o):yE us G' st li rv ms ml mr mu:=⟨hm _ _ h.sty,hm _ _ h.oq,hm _ _ h.rev,hm _ _ h.use⟩
structure XL(G:GH)(st:List dh)(li:List fV)(rv:List dJ)(ms ml mr:Nat):Prop where
 sty:G ms=some (gG (Dc st))
 oq:G ml=some (gG (gW (li.map fV.id)))
 rev:G mr=some (gG (gW (rv.map dJ.id)))
theorem XL.with{us:List Int}{G G':GH}{st:List dh}{li:List fV}{rv:List dJ}{ms ml mr mu:Nat}(h:XL G st li rv ms ml mr)(hm:∀b o,G b=some o->G' b=some o)(hu:G' mu=some (gG<|gW us)):yE us G' st li rv ms ml mr mu:=⟨hm _ _ h.sty,hm _ _ h.oq,hm _ _ h.rev,hu⟩
def EW(l:List Int):Prop:=∀(k:Nat)(h:k<l.length),l[k]∉l.take k
theorem aEP{l:List dh}{k:Nat}(h:k<l.length):Dc (l.take<|k+1)=Dc (l.take k)++[(l[k].id,vi l[k].kind)]:=by rw[Dc,ji h,iy];rfl
theorem aou{l:List Int}{k:Nat}(h:k<l.length):gW (l.take<|k+1)=gW (l.take k)++[(l[k],.bool true)]:=by rw[gW,ji h,iy];rfl
theorem aEO{l:List dh}{k:Nat}(f:EW (l.map dh.id))(h:k<l.length):wS l[k].id (Dc<|l.take k)=none:=by
 refine RJ ?_;have:=f k (by simpa using h)
 simpa[Dc,List.map_take,List.map_map,Function.comp_def]using this
theorem aot{l:List Int}{k:Nat}(f:EW l)(h:k<l.length):wS l[k] (gW<|l.take k)=none:=by
 refine RJ ?_;have:=f k h
 simpa[gW,List.map_map,Function.comp_def]using this
theorem TD {p:Prop} (h:p:=by
 exact ⟨fP _,fun _ _ h=>h⟩):p:=h
theorem aFm(G:GH)(w0:World)(hO:fZ G [] w0)(D:jh)(st:List dh)(li:List fV)(rv:List dJ)(hst:av G (.sl 6<|st.map dh.dat) (bN D.s1))(QL:av G (.sl 2<|li.map fV.dat) (bN D.s2))(xZ:av G (.sl 3<|rv.map dJ.dat) (bN D.r))
  (f1:EW (st.map dh.id))(f2:EW (li.map fV.id))(f3:EW (rv.map dJ.id))(z1:st.length<=4294967296)(z2:li.length<=4294967296)(z3:rv.length<=4294967296) :
  Calls prog 48 #[D.val] w0 (fG w0 G [] fun u G' L'=>∃b ms ml mr mb mu,u=(aK b 0)∧L'=[iV b ms ml mr mb mu 0,(mb,gG []),(mu,gG [])]∧XL G' st li rv ms ml mr):=by
 obtain⟨df,dp,dd,dy,⟨rA,rn,rc⟩,⟨sA,sn,sc⟩,⟨lA,ln,lc⟩,d3,d4,ins,mv⟩:=D;dsimp only at hst QL xZ
 obtain rfl:sn=st.length:=by have:=hst.len;simpa using this
 obtain rfl:ln=li.length:=by have:=QL.len;simpa using this
 obtain rfl:rn=rv.length:=by have:=xZ.len;simpa using this
 have hml:maxLen=9223372036854775807:=rfl;refine iY (N:=64) (T:=[(0,_)]) func48 M ntmps48 M M hO fun a H=>dw<|fun _ K1=>eD (cs:=[_,_,_,_,_,_,_,_,_,_,_]) H wn M M M fun b1 a w hb1 H=>kH H<|ak K1 M<|SQ fun _ K2=>?_;clear H K1;intro a H;obtain⟨Ga,hma,hb1',H⟩:=H.eX
 have hc7:aJ Ga b1 7=some (.slice sA st.length sc):=by unfold aJ;rw[hb1'];rfl
 have hc8:aJ Ga b1 8=some (.slice lA li.length lc):=by unfold aJ;rw[hb1'];rfl
 have hc6:aJ Ga b1 6=some (.slice rA rv.length rc):=by unfold aJ;rw[hb1'];rfl
 replace hst:=hst.mono hma;replace QL:=QL.mono hma;replace xZ:=xZ.mono hma;refine mF (IL H wn M fun b10 a w abn H=>IL H wn M fun b11 a w Qx H=>IL H wn M fun b12 a w CP H=>IL H wn M fun b13 a w Qy H=>IL H wn M fun b14 a w Nh H=>jM aHX [_,_,_,_,_,_] H wn M M M M fun a H=>eD (cs:=[_,_,_,_,_,_]) H wn M M M fun b16 a w abt H=>kH H<|bZ K2 M<|SQ fun _ K1=>SR fun _ K3=>Rf Qo M<|Rf MS M<|Rg uL M (by assumption)<|Rl mR M<|Rm M<|Kz K3<|SB ?_);clear H K3;intro a H;skip;refine dY (ι:=Nat×GH) (Tc:=[(1,_),(3,_),(19,_),(20,_)]) (Lc:=[(_,_),(_,_),(_,_),(_,_),(_,_)]) (fun gh=>[(21,vi gh.1)]) (fun gh=>[(b10,gG<|Dc<|st.take gh.1)]) (fun gh=>gh.2) (fun gh=>gh.1<=st.length∧(∀b o,Ga b=some o->gh.2 b=some o)) (fun gh=>st.length-gh.1) ((0,Ga)) (by exact H.sub ⟨M,M,M,M,M,aC⟩) ?_ ?_
 ·exact TD
 clear H;rintro⟨k,g1⟩ a w hI H;dsimp only at hI H;obtain⟨hk,Nq⟩:=hI;dsimp only[lca,bq]at H;refine kP H (SR fun _ K2=>Rc M<|Kz K2<|SQ fun _ K3=>Cd M ?_ ?_)<;>clear H K2
 ·intro h22 a H
  try have pV:=dT h22
  have hk2:k<st.length:=by omega
  obtain⟨xb,xo,pA,pc,rfl,hrow,-,-⟩:=Gq (hst.mono Nq) hk2;have hnew:=aEO f1 hk2;refine kP H<|Kc K3<|SQ fun _ K2=>SB<|SR fun _ K4=>Ri mR kQ M M fun a H=>aY kQ (cs:=_) H wn M M (fun j v hj=>H.hp.aJ<|hrow j v hj) M fun a H=>dK kQ H wn M fun b5 a w hb5 H=>bH kQ 0 (vs:=[_,_,_,_,_,_]) H wn M fun w H=>K4 _ _<|dI hmx [[],[0],[0,1],[0,1,2],[],[4],[],[6],ra 0 8] [8] V [_,_,_,.map (some b10),_,vi st[k].id,_,vi st[k].kind] H (aD (Z0 M<|Rm M) (Z1 0 25 M<|Rk M) (Z1 1 26 M<|Rf akD M) (Z1 2 27 M<|Ro arB 1 M)<|aD (Z0 M<|Rf yP M) (Z1 4 29 M<|Ro aF 0 M) (Z0 M<|Rf Cu M) (Z1 6 31 M<|Ro aF 0 M)<|bE (bX M) dz) ?_
  clear H;intro a w G CK H hv;have H:=H.aQ (hv 3 28 M M) M;have H:=H.aQ (hv 5 30 M M) M;have H:=H.aQ (hv 7 32 M M) M;clear hv;refine R7 (i:=6) Xl oU H wn M M M M hnew ?_;clear H;intro w H;dsimp only[List.set,List.append,lca,bq]at H;rw[<-aEP hk2]at H;refine aI ⟨M,K2 _ _ (kP H (SC (Rd M (Rm M fun a H=>aI (dO ((k+1,G)) (by exact(H.dR (Pl:=[_,_,_,_,_,_,_]) (dH:=[_,_,_,_,_,_]) [1,2,3,4,5,6] Z M).sub ⟨M,M,M,M,M,aC⟩) ?_)))))⟩
  (try dsimp only);exact⟨O,fun b o h=>CK b o<|Nq b o h⟩
 intro h22 a H
 try have pV:=dF h22
 obtain rfl:k=st.length:=by omega
 rw[oI]at H;have aJ4:=aH Nq hc8;refine dS (K1 _ _<|kP H<|SQ fun _ K1=>SR fun _ K2=>Rf Qo M<|Rf MU M<|Rg EM M (by assumption)<|Rl zB M<|Rm M<|Kz K2<|SB ?_);clear H K2;intro a H;skip;refine dY (ι:=Nat×GH) (Tc:=[(1,_),(3,_),(36,_),(37,_)]) (Lc:=[(_,_),(_,_),(_,_),(_,_),(_,_)]) (fun gh=>[(38,vi gh.1)]) (fun gh=>[(b11,gG<|gW ((li.map fV.id).take gh.1))]) (fun gh=>gh.2) (fun gh=>gh.1<=li.length∧(∀b o,g1 b=some o->gh.2 b=some o)) (fun gh=>li.length-gh.1) ((0,g1)) (by exact(H.dR (Pl:=[_,_,_,_,_,_]) (dH:=[_,_,_,_,_,_]) [0,1,2,3,5,4] Z M).sub ⟨M,M,M,M,M,aC⟩) ?_ ?_
 ·exact TD
 clear H;rintro⟨k,g2⟩ a w hI H;dsimp only at hI H;obtain⟨hk,VA⟩:=hI;dsimp only[lca,bq]at H;refine kP H (SR fun _ K2=>Rc M<|Kz K2<|SQ fun _ K4=>Cd M ?_ ?_)<;>clear H K2
 ·intro nM a H
  try have p39:=dT nM
  have hk2:k<li.length:=by omega
  obtain⟨xb,xo,B,d,rfl,hrow,-⟩:=acR ((QL.mono Nq).mono VA) hk2
  have hk3:k<(li.map fV.id).length:=by simpa using hk2
  have hnew:=aot f2 hk3
  have QH:(li.map fV.id)[k]=li[k].id:=by simp
  rw[QH]at hnew;refine kP H<|Kc K4<|SQ fun _ K2=>SB<|SR fun _ K5=>Ri zB Du M M fun a H=>aY Du (cs:=_) H wn M M (fun j v hj=>H.hp.aJ<|hrow j v hj) M fun a H=>dK Du H wn M fun b7 a w Bt H=>bH Du 0 (vs:=[_,_]) H wn M fun w H=>K5 _ _<|dI hmx [[],[0],[0,1],[0,1,2],[],[4],ra 0 6] [6] V [_,_,_,.map (some b11),_,vi li[k].id] H (aD (Z0 M<|Rm M) (Z1 0 42 M<|Rk M) (Z1 1 43 M<|Rf akE M) (Z1 2 44 M<|Ro vY 1 M)<|bE (Z0 M<|Rf akI M)<|bE (Z1 4 46 M<|Ro aF 0 M)<|bE (bX M) dz) ?_
  clear H;intro a w G qI H hv;have H:=H.aQ (hv 3 45 M M) M;have H:=H.aQ (hv 5 47 M M) M;clear hv;refine R7 (i:=6) AL oU H wn M M M M hnew ?_;clear H;intro w H;dsimp only[List.set,List.append,lca,bq]at H;rw[<-QH,<-aou hk3]at H;refine aI ⟨M,K2 _ _ (kP H (SC (Rd M (Rm M fun a H=>aI (dO ((k+1,G)) (by exact(H.dR (Pl:=[_,_,_,_,_,_,_]) (dH:=[_,_,_,_,_,_]) [1,2,3,4,5,6] Z M).sub ⟨M,M,M,M,M,aC⟩) ?_)))))⟩
  (try dsimp only);exact⟨O,fun b o h=>qI b o<|VA b o h⟩
 intro nM a H
 try have p39:=dF nM
 obtain rfl:k=li.length:=by omega
 rw[jX (by simp)]at H;have aJ3:=aH VA<|aH Nq hc6;refine dS (K1 _ _<|kP H<|SQ fun _ K1=>SR fun _ K2=>Rf MW M<|Rg Dz M (by assumption)<|Rl tV M<|Rm M<|Kz K2<|SB ?_);clear H K2;intro a H;skip;refine dY (ι:=Nat×GH) (Tc:=[(3,_),(50,_),(51,_)]) (Lc:=[(_,_),(_,_),(_,_),(_,_),(_,_)]) (fun gh=>[(52,vi gh.1)]) (fun gh=>[(b12,gG<|gW ((rv.map dJ.id).take gh.1))]) (fun gh=>gh.2) (fun gh=>gh.1<=rv.length∧(∀b o,g2 b=some o->gh.2 b=some o)) (fun gh=>rv.length-gh.1) ((0,g2)) (by exact(H.dR (Pl:=[_,_,_,_,_,_]) (dH:=[_,_,_,_,_,_]) [0,1,2,4,5,3] Z M).sub ⟨M,M,M,M,aC⟩) ?_ ?_
 ·exact TD
 clear H;rintro⟨k,g3⟩ a w hI H;dsimp only at hI H;obtain⟨hk,amJ⟩:=hI;dsimp only[lca,bq]at H;refine kP H (SR fun _ K2=>Rc M<|Kz K2<|SQ fun _ K5=>Cd M ?_ ?_)<;>clear H K2
 ·intro h53 a H
  try have p53:=dT h53
  have hk2:k<rv.length:=by omega
  obtain⟨xb,xo,rfl,hrow⟩:=adI (((xZ.mono Nq).mono VA).mono amJ) hk2
  have hk3:k<(rv.map dJ.id).length:=by simpa using hk2
  have hnew:=aot f3 hk3
  have QH:(rv.map dJ.id)[k]=rv[k].id:=by simp
  rw[QH]at hnew;refine kP H<|Kc K5<|SQ fun _ K2=>SB<|SR fun _ K6=>Ri tV qU M M fun a H=>aY qU (cs:=_) H wn M M (fun j v hj=>H.hp.aJ<|hrow j v hj) M fun a H=>dK qU H wn M fun b9 a w yY H=>bH qU 0 (vs:=[_,_,_]) H wn M fun w H=>K6 _ _<|dI hmx [[],[0],[0,1],[0,1,2],[],[4],ra 0 6] [6] V [_,_,_,.map (some b12),_,vi rv[k].id] H (aD (Z0 M<|Rm M) (Z1 0 56 M<|Rk M) (Z1 1 57 M<|Rf Qi M) (Z1 2 58 M<|Ro vY 1 M)<|bE (Z0 M<|Rf aaN M)<|bE (Z1 4 60 M<|Ro aF 0 M)<|bE (bX M) dz) ?_
  clear H;intro a w G J3 H hv;have H:=H.aQ (hv 3 59 M M) M;have H:=H.aQ (hv 5 61 M M) M;clear hv;refine R7 (i:=6) AL oU H wn M M M M hnew ?_;clear H;intro w H;dsimp only[List.set,List.append,lca,bq]at H;rw[<-QH,<-aou hk3]at H;refine aI ⟨M,K2 _ _ (kP H (SC (Rd M (Rm M fun a H=>aI (dO ((k+1,G)) (by exact(H.dR (Pl:=[_,_,_,_,_,_,_]) (dH:=[_,_,_,_,_,_]) [1,2,3,4,5,6] Z M).sub ⟨M,M,M,M,aC⟩) ?_)))))⟩
  (try dsimp only);exact⟨O,fun b o h=>J3 b o<|amJ b o h⟩
 intro h53 a H
 try have p53:=dF h53
 obtain rfl:k=rv.length:=by omega
 rw[jX (by simp)]at H;refine dS<|K1 _ _<|kP H<|SR fun _ K1=>Rm M<|ak K1 M fun a H=>eH ?_;have H:=H.dR (Pl:=[_,_,_,_,_,_]) (dH:=[_,_,_,_,_,_]) [3,4,5,0,2,1] Z M;obtain⟨Gs,hms,hs,H⟩:=H.eX;obtain⟨Gl,FQ,hl,H⟩:=H.eX;obtain⟨Gr,hmr,hr,H⟩:=H.eX;exact lv H results48 M<|H.hp.gX ⟨b16,b10,b11,b12,b13,b14,M,M,⟨hmr _ _ (FQ _ _ hs),hmr _ _ hl,hr⟩⟩
section
theorem azK:dG prog 105 4 4:=⟨V⟩
theorem akF:dG prog 105 3 3:=⟨V⟩
variable{us:List Int}
theorem KM(x:Int):∀l:List Int,(wS x<|gW l).getD (.bool false)=.bool (decide<|x∈l)
 |[]=>rfl
 |k::r=>by
  have ih:=KM x r;rw[gW,dV,wS]
  by_cases e:k=x
  ·subst e;simp
  rw[au e,show(r.map fun k=>(k,Value.bool true))=gW r from rfl,ih]
  simp[show x≠k from fun h=>e h.symm]
def W9(st:List dh)(v:Int):Int:=((st.find? fun s=>decide (s.id=v)).map dh.kind).getD 0
theorem aop(x:Int):∀l:List dh,(wS x<|Dc l).getD (vi 0)=vi (W9 l x)
 |[]=>rfl
 |s::r=>by
  have ih:=aop x r;rw[Dc,dV,wS]
  by_cases e:s.id=x
  ·subst e;simp[W9]
  rw[au e,show(r.map fun s=>(s.id,vi s.kind))=Dc r from rfl,ih]
  simp[W9,e]
def uG(us bV:List Int)(x:Int):Int:=if¬(1<=x∧x<=1073741824)∨x∈us then 18 else if x∈bV then 7 else 0
def oN(us bV:List Int)(x:Int):List Int:=if uG us bV x=0 then bV++[x]else bV
theorem aEN(l:List Int)(x:Int):gW (l++[x])=gW l++[(x,.bool true)]:=by simp[gW]
theorem agj {p:Prop} (h:p:=by
 first
  |exact H.hp.gX ⟨by rw[e],by rw[oN,ay e],M⟩
  | exact H.hp.gX ⟨by rw [e],by rw [oN,au (by rw [e];decide)],rfl⟩):p:=h
theorem air {p:Prop} (h:p:=by
 refine kP H (SC (bZ K1 M ?_));clear H K1;intro a H;refine lr H results196 M ?_
 exact agj):p:=h
theorem ahB {p:Prop} (h:p:=by
 have e:uG us bV x=18:=by rw[uG,ay (by first|(simp_all;done)|(simp_all;omega))]
 exact air):p:=h
theorem Z5(G:GH)(L:OL)(w0:World)(st:List dh)(li:List fV)(rv:List dJ)(b ms ml mr mb mu:Nat)(n:Int)(bV:List Int)(x:Int)(hck:yE us G st li rv ms ml mr mu)(hO:fZ G (iV b ms ml mr mb mu n::(mb,gG<|gW bV)::L) w0) :
  Calls prog 196 #[aK b 0,vi x] w0 (fG w0 G (iV b ms ml mr mb mu n::(mb,gG<|gW bV)::L) fun u G' L'=>u=vi (uG us bV x)∧L'=iV b ms ml mr mb mu n::(mb,gG<|gW<|oN us bV x)::L∧G=G'):=by
 refine iY (N:=29) (T:=[(0,_),(1,_)]) func196 M ntmps196 M M hO<|SR fun _ K1=>ak K1 M<|SQ fun _ K2=>SB<|SR fun _ K3=>Rm M fun a H=>s_call zX H wn M (Aq _ _ H.ro x 1 1073741824) M ?_;rintro v7 _ a w ⟨rfl,rfl⟩-H;refine kH H (Rn M<|Rm M<|Sp 9 M ?_ ?_)<;>clear H
 ·intro h9 a H
  try have p9:=dT h9
  exact kH H<|bJ h9 M<|bJ h9 M<|Pt h9 M<|ak K3 M<|Ct M M<|SQ fun _ K1=>fun a H=>ahB
 refine fun h9=>YM h9 M fun a H=>Gm H (wg H M M h9) M M<|YF azK h9 M<|YO vY 0 h9 M<|YM h9 M fun a H=>KY (zv:=.bool false) AL oU V H (wg H M M h9) M M (H.ro _ _ hck.use) M ?_;intro a H;rw[KM]at H;refine kH H (Pf h9 M<|ak K3 M<|Cd M ?_ ?_)<;>clear H K3
 ·intro h5 a H
  try have p5:=dT h5
  exact bU<|fun _ K1=>ahB
 intro h5 a H
 have hin:¬(¬(1<=x∧x<=1073741824)∨x∈us):=by first|(simp_all;done)|(simp_all;omega)
 refine kP H<|SR fun _ K1=>Rm M<|Rk M<|aV akF vY 0 M M<|Rm M fun a H=>KY (zv:=.bool false) AL oU V H wn M M (H.hp.own _<|gH _ fJ) M ?_;intro a H;rw[KM]at H;refine kH H (ak K1 M<|Cd M ?_ ?_)<;>clear H K1
 ·intro dL a H;refine bU<|fun _ K1=>?_
  have e:uG us bV x=7:=by rw[uG,au hin,ay<|mW dL]
  exact air
 intro dL a H
 have hx:x∉bV:=of_decide_eq_false dL;have hnew:wS x (gW bV)=none:=RJ (by simpa[gW,List.map_map,Function.comp_def]using hx)
 have e:uG us bV x=0:=by rw[uG,au hin,au hx]
 refine kP H<|Kc K2<|SR fun _ K1=>Rm M<|Rk M<|aV akF vY 0 M M<|Rm M fun a H=>R7 (i:=1) AL oU H wn M M M M hnew ?_;intro w H;dsimp only[List.set]at H;rw[<-aEN]at H;exact K1 _ _<|kP H<|SR fun _ K1=>ak K1 M fun a H=>lr H results196 M agj
def BL(st:List dh)(oq:List Int)(key v:Int):Int :=
 if key=20∨key=1 then dX (decide (v≠0∧W9 st v≠(if key=1 then 2 else 1))) 25 else if key=33 then dX (decide (v≠0∧v∉oq)) 26 else 0
theorem Mr {p:Prop} (h:p:=by
 exact H.rt ⟨cO vi (by unfold BL;(repeat' split) <;> first|rfl|(simp_all;done)|(exfalso;simp_all;done)|(congr 1;rw [zL];simp only [Bool.not_eq_true',Ci,qm];exact ⟨fun h=>⟨p31,h⟩,fun h=>h.2⟩)),M⟩):p:=h
theorem ahR {p:Prop} (h:p:=by
 intro h16 a H
 try have p16:=dT h16
 refine kH H (YM h16 M ?_);clear H;intro a H;refine Gm H (wg H M M h16) M M ?_;clear H;intro a H;refine kH H (YF akD h16 M (YR arB h16 M (by assumption) ?_));clear H;intro a H;refine kH H (YM h16 M ?_);clear H;intro a H;refine KY (zv:=vi 0) Xl oU V H (wg H M M h16) M M (H.ro _ _ hck.sty) M ?_;clear H;intro a H;rw[aop]at H;refine kH H (YM h16 M (YC h16 M (Pt h16 M ?_)));clear H;intro a H;refine s_call qx H wn M (qF _ _ H.ro _ 25) M ?_;clear H;rintro v26 _ a w ⟨rfl,rfl⟩-H;refine kH H (ak K1 M ?_);clear H K1;intro a H;refine lr H results123 M ?_
 exact Mr):p:=h
theorem auN {p:Prop} (h:p:=by
 clear H;intro a H;refine s_call qx H wn M (qF _ _ H.ro _ 25) M ?_;clear H;rintro v26 _ a w ⟨rfl,rfl⟩-H;refine kH H (ak K1 M ?_);clear H K1;intro a H;refine lr H results123 M ?_
 exact Mr):p:=h
theorem auO {p:Prop} (h:p:=by
 intro a H;refine s_call qx H wn M (qF _ _ H.ro _ 25) M ?_;clear H;rintro v26 _ a w ⟨rfl,rfl⟩-H;refine kH H (ak K1 M ?_);clear H K1;intro a H;refine lr H results123 M ?_
 exact Mr):p:=h
theorem aho {p:Prop} (h:p:=by
 intro iA a H
 try have tK:=dT iA
 refine kP H (SC (bZ K3 M (SR fun _ K1=>Rm M (Rc M (Rm M (Sp 16 M ?_ ?_))))))<;>clear H K3
 ·exact ahR
 intro h16 a H
 try have p16:=dF h16
 refine kH H (bJ h16 M (bJ h16 M (aU h16 M (Pf h16 M ?_))));clear H;exact auO):p:=h
theorem ahq {p:Prop} (h:p:=by
 intro iA a H
 try have tK:=dF iA
 refine kP H (Kc K3 (SR fun _ K1=>Rm M (Rc M (Rm M (Sp 16 M ?_ ?_)))))<;>clear H K3
 ·exact ahR
 intro h16 a H
 try have p16:=dF h16
 refine kH H (bJ h16 M (bJ h16 M (aU h16 M (Pf h16 M ?_))));exact auN):p:=h
theorem aiV(G:GH)(w0:World)(hG:Hold G w0)(st:List dh)(li:List fV)(rv:List dJ)(b ms ml mr mb mu:Nat)(n:Int)(key v:Int)(hck:yE us G st li rv ms ml mr mu)(hb:G b=some (iV b ms ml mr mb mu n).2) :
  Calls prog 123 #[aK b 0,vi key,vi v] w0 (bD w0 G fun u G'=>u=vi (BL st (li.map fV.id) key v)∧G=G'):=by
 have hc0:aJ G b 0=some (.map<|some ms):=by unfold aJ;rw[hb];rfl
 have hc1:aJ G b 1=some (.map<|some ml):=by unfold aJ;rw[hb];rfl
 refine eN [(0,_),(1,_),(2,_)] func123 M ntmps123 M M hG ?_;intro a H;refine kP H (SR fun _ K1=>ak K1 M<|SQ fun _ K2=>SR fun _ K3=>Rm M<|Kz K3<|SB<|SQ fun _ K4=>SR fun _ K5=>Rc M<|ak K5 M<|Cd M ?_ ?_)<;>clear H K1 K3 K5
 ·intro h9 a H
  try have p9:=dT h9
  refine kP H (Kc K4<|Ct M h9<|SR fun _ K1=>ak K1 M<|SQ fun _ K3=>SR fun _ K5=>Rm M<|Rc M<|Kz K5<|Cd M ?_ ?_)<;>clear H K4 K1 K5
  ·exact aho
  exact ahq
 intro h9 a H
 try have p9:=dF h9
 refine kP H (SC<|Rc M<|bZ K4 M<|Cd M ?_ ?_)<;>clear H K4
 ·intro h9 a H
  try have p9:=dT h9
  refine kP H (SR fun _ K1=>ak K1 M<|SQ fun _ K3=>SR fun _ K4=>Rm M<|Rc M<|Kz K4<|Cd M ?_ ?_)<;>clear H K1 K4
  ·exact aho
  exact ahq
 intro h9 a H
 try have p9:=dF h9
 refine kP H (SR fun _ K1=>Rc M<|ak K1 M<|Cd M ?_ ?_)<;>clear H K1
 ·intro h27 a H
  try have p27:=dT h27
  refine kP H (SR fun _ K1=>Rm M<|Rc M<|Rm M<|Sp 31 M ?_ ?_)<;>clear H
  ·intro h31 a H
   try have p31:=dT h31
   refine kH H<|YM h31 M ?_;clear H;intro a H;refine Gm H (wg H M M h31) M M ?_;clear H;intro a H;refine kH H (YF akE h31 M<|YR vY h31 M (by assumption) ?_);clear H;intro a H;refine kH H<|YM h31 M ?_;clear H;intro a H;refine KY (zv:=.bool false) AL oU V H (wg H M M h31) M M (H.ro _ _ hck.oq) M ?_;clear H;intro a H;rw[KM]at H;refine kH H<|YN h31 M<|Pt h31 M ?_;clear H;intro a H;refine s_call qx H wn M (qF _ _ H.ro _ 26) M ?_;clear H;rintro v40 _ a w ⟨rfl,rfl⟩-H;refine kH H<|ak K1 M ?_;clear H K1;intro a H;refine lr H results123 M ?_
   exact Mr
  intro h31 a H
  try have p31:=dF h31
  refine kH H<|bJ h31 M<|aU h31 M<|aU h31 M<|Pf h31 M ?_;clear H;intro a H;refine s_call qx H wn M (qF _ _ H.ro _ 26) M ?_;clear H;rintro v40 _ a w ⟨rfl,rfl⟩-H;refine kH H<|ak K1 M ?_;clear H K1;intro a H;refine lr H results123 M ?_
  exact Mr
 intro h27 a H
 try have p27:=dF h27
 refine kP H<|Kc K2<|SR fun _ K1=>ak K1 M ?_;clear H K2 K1;intro a H;refine lr H results123 M ?_
 exact Mr
end
section
section
variable{N:Nat}{D:List Deferred}{w0:World}{F:Nat->Prop}{G0 G G':GH}{L L':OL}{T:List (Nat×aj)}
variable{r:Option Nat}{P:Program}{ops:Array Oper}{Q:Exit->Act->World->Prop}{rest:List Oper}{a:Act}{w w':World}
theorem GD{ι:Type}{Tc:List (Nat×aj)}{l:List Oper}(k:Nat)(Tv:ι->List (Nat×aj))(Pr:ι->Prop)(_:St N D w0 F G0 G L Tc a w)
  (h1:(∀i a w,Pr i->St N D w0 F G0 G L (Tv i++Tc) a w->WL r P ops Q (l.drop k) a w)->WL r P ops Q l a w)
  (h2:∀i a w,Pr i->St N D w0 F G0 G L (Tv i++Tc) a w->WL r P ops Q (l.drop k) a w):WL r P ops Q l a w:=h1 h2
theorem Change.back(h:Change w w' G G' L L'):Change w w' G G L L' :=
 ⟨h.os,h.tape,h.output,h.size,h.fr,fun _ _ h=>h,fun _ _ h=>.inl h,⟨fun k o hk=>h.owns.ro k o (h.gm k o hk),h.owns.own,fun p hp=>(by
  have hs:=h.owns.sep p hp
  cases hg:G p.1 with
  |none=>rfl
  |some o=>have:=h.gm _ _ hg;rw[hs]at this;cases this),h.owns.nd⟩,h.lx⟩
theorem fG.back{R:aj->GH->OL->Prop}{R':aj->OL->Prop}(hR:∀v G' L',R v G' L'->R' v L'){e:Ending}(h:fG w G L R e w'):fG w G L (fun v G' L'=>G=G'∧R' v L') e w':=by
 obtain⟨v,G',L',rfl,hc,hr⟩:=h
 exact⟨v,G,L',M,hc.back,M,hR _ _ _ hr⟩
theorem Calls.aud{f:FuncId}{args:Array aj}{R:aj->GH->OL->Prop}{R':aj->OL->Prop}(h:Calls P f args w (fG w G L R))(hR:∀v G' L',R v G' L'->R' v L'):Calls P f args w (fG w G L fun v G' L'=>G=G'∧R' v L') :=
 h.mono fun _ _=>fG.back hR
theorem bD.back{R:aj->GH->Prop}{e:Ending}(h:bD w G R e w'):bD w G (fun v G'=>(∃g,R v g)∧G=G') e w':=by
 obtain⟨v,G',rfl,hb,hX,hr⟩:=h
 exact⟨v,G,M,hb,⟨fun _ _ h=>h,fun _ _ h=>.inl h,fun k o hk=>hX.2.2 k o<|hX.1 k o hk⟩,⟨G',hr⟩,M⟩
theorem afx{f:FuncId}{args:Array aj}{R:aj->GH->Prop}(h:Calls P f args w (bD w G R)):Calls P f args w (bD w G fun v G'=>(∃g,R v g)∧G=G'):=h.mono fun _ _=>bD.back
theorem fZ.add{b:Nat}{o:Obj}(h:fZ G ((b,o)::L) w):Hold (G.add b o) w:=fun k o' hk=>by
 unfold GH.add at hk
 split at hk
 ·next e=>cases hk;subst e;exact h.own _ fJ
 ·exact h.ro k o' hk
theorem aGr{b:Nat}{o:Obj}{R:aj->GH->Prop}{R':aj->Prop}(hO:fZ G ((b,o)::L) w)(hR:∀v G',R v G'->R' v){e:Ending}(h:bD w (G.add b o) R e w'):fG w G ((b,o)::L) (fun v G' L'=>G=G'∧L'=(b,o)::L∧R' v) e w':=by
 obtain⟨v,G',rfl,hb,hX,hr⟩:=h
 exact⟨v,G,_,M,(hO.hp.below hb).arl,M,M,hR _ _ hr⟩
end
end
section
theorem akO:dG prog 190 0 0:=⟨V⟩
theorem Fz:dG prog 190 1 1:=⟨V⟩
theorem akP:dG prog 190 3 3:=⟨V⟩
theorem MR:dG prog 190 2 2:=⟨V⟩
theorem ajM:aW 123:=aX func123 M
variable{us:List Int}
structure bG where
 st:List dh
 oq:List Int
 mP:List Int
 us:List Int
abbrev bS(us:List Int)(st:List dh)(li:List fV)(rv:List dJ):bG:=⟨st,li.map fV.id,rv.map dJ.id,us⟩
theorem acN{G:GH}{l:List ku}{A:Option Addr}{n c k:Nat}(hv:av G (.sl 4<|l.map ku.dat) (.slice A n c))(hk:k<l.length):∃b o,A=some ⟨b,o,none⟩∧(∀j u,l[k].cells[j]?=some u->aJ G b (o+k*4+j)=some u):=by
 obtain⟨A',c',he,_,_,hg⟩:=hv.slice
 injection he with e1 e2 e3
 subst e1;obtain⟨b,o,cs,h1,h2,h3,h4⟩:=hg k l[k].dat (by simp[hk]);have:=acO h4;subst this;exact Mj
theorem aai{G:GH}{l:List kS}{A:Option Addr}{n c k:Nat}(hv:av G (.sl 2<|l.map kS.dat) (.slice A n c))(hk:k<l.length):∃b o,A=some ⟨b,o,none⟩∧(∀j u,l[k].cells[j]?=some u->aJ G b (o+k*2+j)=some u):=by
 obtain⟨A',c',he,_,_,hg⟩:=hv.slice
 injection he with e1 e2 e3
 subst e1;obtain⟨b,o,cs,h1,h2,h3,h4⟩:=hg k l[k].dat (by simp[hk]);have:=aaj h4;subst this;exact Mj
def KH(C:bG)(e:Int)(k:Nat)(x:ku)(pk:Int):Int :=
 if x.rev∉C.mP then 22 else if H7 e x.key=false then 4 else if 0<k∧x.key<pk then 6 else if x.had=false then dX (decide (x.before≠0)) 21 else fD [zS x.key x.before,BL C.st C.oq x.key x.before]
def Db(C:bG)(e:Int)(l:List ku)(k:Nat):Int:=match l[k]? with|some x=>KH C e k x ((l[k-1]?.map ku.key).getD 0)|none=>0
theorem TT {p:Prop} (h:p:=by
 refine lr H results125 M ?_
 exact H.rt (by rw [he];refine cO vi ?_;clear he hrow hrow' hq hx hy;unfold KH;(repeat' split) <;> first|rfl|(simp_all;done)|(exfalso;simp_all;done))):p:=h
theorem ahH {p:Prop} (h:p:=by
 clear H K2;intro a H;refine lr H results125 M ?_
 exact H.rt (by rw [he];refine cO vi ?_;clear he hrow hrow' hq hx hy;unfold KH;(repeat' split) <;> first|rfl|(simp_all;done)|(exfalso;simp_all;done))):p:=h
theorem ahY {p:Prop} (h:p:=by
 refine xC 5 56 7 58 9 60 M M fun _ a w G1 hG HT H fin=>?_;refine s_call ajM H wn M (aiV _ _ H.ro st li rv b ms ml mr mb mu n x.key x.before (hck.mono hG) (hG _ _ hb)) M ?_;clear H;rintro v61 G61 a w ⟨rfl,-⟩ aA6 H;exact fin H aA6 (rfl)):p:=h
theorem ain {p:Prop} (h:p:=by
 refine fu 1 52 3 54 M M fun _ a w G1 hG HT H fin=>?_;refine s_call akt H wn M (aiT _ _ H.ro x.key x.before) M ?_;clear H;rintro v55 LU a w rfl aA5 H;exact fin H aA5 (rfl)):p:=h
theorem aEw(G:GH)(w0:World)(hG:Hold G w0)(st:List dh)(li:List fV)(rv:List dJ)(b ms ml mr mb mu:Nat)(n:Int)(hck:yE us G st li rv ms ml mr mu)(hb:G b=some (iV b ms ml mr mb mu n).2)
  (e:Int)(l:List ku)(v:aj)(hv:av G (.sl 4<|l.map ku.dat) v)(k:Nat)(hk:k<l.length) :
  Calls prog 125 #[aK b 0,vi e,v,vi k] w0 (bD w0 G fun u G'=>u=vi (Db (bS us st li rv) e l k)):=by
 have hc2:aJ G b 2=some (.map<|some mr):=by unfold aJ;rw[hb];rfl
 obtain⟨A,c,rfl,hl1,hl2,-⟩:=hv.slice;have hml:maxLen=9223372036854775807:=rfl;rw[bM]at *;obtain⟨xb,xo,rfl,hrow⟩:=acN hv hk
 have hk1:k-1<l.length:=by omega
 obtain⟨b',o',he',hrow'⟩:=acN hv hk1
 injection he' with he'
 injection he' with e1 e2
 subst e1;subst e2
 have he:Db (bS us st li rv) e l k=KH (bS us st li rv) e k l[k] l[k-1].key:=by unfold Db;rw[gF hk,gF hk1];rfl
 obtain⟨x,hx⟩:∃x,x=l[k]:=⟨_,M⟩;obtain⟨y,hy⟩:∃y,y=l[k-1]:=⟨_,M⟩;rw[<-hx]at hrow he;rw[<-hy]at hrow' he;have hq:=hrow' 1 _ M;refine eN [(0,_),(1,_),(2,_),(3,_)] func125 M ntmps125 M M hG<|SR fun _ K1=>ak K1 M<|SR fun _ K2=>Rm M<|Rm M<|Ri wZ wh M M fun a H=>aY wh (cs:=x.cells) H wn M M (fun j v hj=>H.hp.aJ<|hrow j v hj) M fun a H=>dK wh H wn M fun b9 a w yY H=>bH wh 0 (vs:=[_,_,_,_]) H wn M fun w H=>K2 _ _<|kP H<|SQ fun _ K1=>SB<|SQ fun _ K2=>fun a H=>dI hmx [[],[0],[0,1],[0,1,2],[],[4],ra 0 6,ra 0 7,ra 0 8] [8] V [_,_,_,_,_,vi x.rev,.bool (decide<|x.rev∈rv.map dJ.id),_] H (aD (Z0 M<|Rm M) (Z1 0 15 M<|Rk M) (Z1 1 16 M<|Rf Qi M) (X1 2 17 M fun hG=>Rg vY M<|aH hG hc2)<|aD (Z0 M<|Rf akO M) (Z1 4 19 M<|Ro aF 0 M) ?_ (Z1 6 21 M<|Rn M)<|bE (bX M) dz) ?_
 ·refine fu 3 18 5 20 M M fun _ a w G1 hG HT H fin=>KY (zv:=.bool false) AL oU V H wn M M (H.ro _ _<|hG _ _ hck.rev) M ?_;intro a H;rw[KM]at H;exact Jv
 clear H;intro a w G FL H hv;have H:=H.aQ (hv 7 22 M M) M;clear hv;refine kH H<|Ra M fun a H=>aI ⟨M,K2 _ _<|jU H M ?_ ?_⟩
 ·intro dW
  try have kF:=dT dW
  exact kP H<|SR fun _ K2=>ak K2 M fun a H=>TT
 intro dW;refine kP H<|SR fun _ K2=>Rm M<|aV Fz aF 0 M M fun a H=>s_call aks H wn M (afx<|alm _ _ H.ro e x.key) M ?_;rintro v27 _ a w ⟨⟨_,rfl⟩,rfl⟩-H;refine kH H (Rn M<|ak K2 M<|Cd M ?_ ?_)<;>clear H K2
 ·intro h23 a H
  try have rH:=dT h23
  exact kP H<|SR fun _ K2=>ak K2 M fun a H=>TT
 intro h23 a H;refine bU<|fun _ K2=>?_;replace hq:=aH FL hq
 by_cases c0:0<(k:Int)
 ·skip
  by_cases c1:x.key<y.key
  ·skip;refine dI hmx [[],[0],[0,1],[0,1,2],ra 0 4,[0,1,2],[0,1,2],[0,1,2,6],[0,1,2,5,6,7],[0,1,2,5,6,7,8],[0,1,2,5,6,7,8,9],ra 0 11,ra 0 12,ra 0 13] [13] V [_,_,_,_,vi x.key,_,_,vi ((k-1:Nat):Int),_,_,_,_,_] H (aD (Z0 M<|Rm M) (Z1 0 30 M<|Rc M) (Z1 1 31 M<|Rm M) (Z1 2 32 M<|YF Fz (aG c0) M)<|aD (Z2 3 33 2 32 M<|YO aF 0 (aG c0) M) (Z1 2 32 M<|YM (aG c0) M) (Z1 2 32 M<|YM (aG c0) M) ?_<|aD (Z3 5 35 7 37 2 32 M<|YI wZ wh (aG c0) M M) (Z2 8 38 2 32 M<|YF Fz (aG c0) M) (X2 9 39 2 32 M fun hG=>YR aF (aG c0) M<|aH hG hq) (Z3 4 34 10 40 2 32 M<|YC (aG c0) M)<|bE (Z2 2 32 11 41 M<|Pt (aG c0) M)<|bE (bX M) dz) ?_
   ·exact fu 6 36 2 32 M M fun _ a w G1 hG HT H fin=>Bc
   clear H;intro a w G mI H hv;have H:=H.aQ (hv 12 42 M M) M;clear hv;refine kH H<|Ra M fun a H=>aI ⟨M,K2 _ _<|zR H M (aG c1)<|bU<|fun _ K2=>?_⟩;have hz:0<k∧x.key<y.key:=⟨O,c1⟩;exact kP H<|SC<|bZ K2 M ahH
  skip;refine dI hmx [[],[0],[0,1],[0,1,2],ra 0 4,[0,1,2],[0,1,2],[0,1,2,6],[0,1,2,5,6,7],[0,1,2,5,6,7,8],[0,1,2,5,6,7,8,9],ra 0 11,ra 0 12,ra 0 13] [13] V [_,_,_,_,vi x.key,_,_,vi ((k-1:Nat):Int),_,_,_,_,_] H (aD (Z0 M<|Rm M) (Z1 0 30 M<|Rc M) (Z1 1 31 M<|Rm M) (Z1 2 32 M<|YF Fz (aG c0) M)<|aD (Z2 3 33 2 32 M<|YO aF 0 (aG c0) M) (Z1 2 32 M<|YM (aG c0) M) (Z1 2 32 M<|YM (aG c0) M) ?_<|aD (Z3 5 35 7 37 2 32 M<|YI wZ wh (aG c0) M M) (Z2 8 38 2 32 M<|YF Fz (aG c0) M) (X2 9 39 2 32 M fun hG=>YR aF (aG c0) M<|aH hG hq) (Z3 4 34 10 40 2 32 M<|YC (aG c0) M)<|bE (Z2 2 32 11 41 M<|Pt (aG c0) M)<|bE (bX M) dz) ?_
  ·exact fu 6 36 2 32 M M fun _ a w G1 hG HT H fin=>Bc
  clear H;intro a w G mI H hv;have H:=H.aQ (hv 12 42 M M) M;clear hv;refine kH H<|Ra M fun a H=>aI ⟨M,K2 _ _<|oJ H M (aO c1)<|bU<|fun _ K2=>?_⟩
  have hz:¬(0<k∧x.key<y.key):=by first|exact fun h=>c1 h.2|exact fun h=>c0 O
  refine kP H (SC<|aV akP wm 0 M M<|Rn M<|bZ K2 M<|Cd M ?_ ?_)<;>clear H K2
  ·intro h43 a H
   try have p43:=dT h43
   refine kP H<|SR fun _ K2=>aV MR aF 0 M M<|Rc M fun a H=>s_call qx H wn M (qF _ _ H.ro _ 21) M ?_;rintro v50 _ a w ⟨rfl,rfl⟩-H;exact kH H<|ak K2 M ahH
  intro h43 a H
  try have p43:=dF h43
  refine fU<|K1 _ _<|bU<|fun _ K1=>?_;replace hck:=(hck.mono FL).mono mI;replace hb:=mI _ _<|FL _ _ hb;refine dI hmx [[],[0],[],[2],ra 0 4,[],[],[6],[],[8],ra 0 10,ra 0 11,ra 0 12,ra 0 13] [11,12,13] V [_,vi x.key,_,vi x.before,vi (zS x.key x.before),_,_,vi x.key,_,vi x.before,vi<|BL st (li.map fV.id) x.key x.before] H (aD (Z0 M<|Rf Fz M) (Z1 0 51 M<|Ro aF 0 M) (Z0 M<|Rf MR M) (Z1 2 53 M<|Ro aF 0 M)<|aD ?_ (Z0 M<|Rm M) (Z0 M<|Rf Fz M) (Z1 6 57 M<|Ro aF 0 M)<|aD (Z0 M<|Rf MR M) (Z1 8 59 M<|Ro aF 0 M) ?_ (bX M)<|bE (bX M)<|bE (bX M) dz) ?_
  ·exact ain
  ·exact ahY
  clear H;intro a w G qI H hv;have H:=H.aQ (hv 4 55 M M) M;have H:=H.aQ (hv 10 61 M M) M;clear hv;refine iT tQ jS [_,_] [_,_] H wn M M M M M (by intro i q h;match i,h with|0,h=>exact h|1,h=>exact h|n+2,h=>simp at h) M M ?_;intro b62 a w aBM H;obtain⟨G62,aCI,abw,H⟩:=H.eX;refine s_call uT H wn M (uV _ _ H.ro _ _<|Dr abw) M ?_;rintro v63 _ a w ⟨rfl,rfl⟩-H;exact kH H<|Ra M fun a H=>aI ⟨M,K1 _ _ TT⟩
 skip;refine dI hmx [[],[0],[0,1],[0,1,2],ra 0 4,[0,1,2],[0,1,2],[0,1,2,6],[0,1,2,5,6,7],[0,1,2,5,6,7,8],[0,1,2,5,6,7,8,9],ra 0 11,ra 0 12,ra 0 13] [13] V [_,_,_,undef,undef,undef,undef,undef,undef,undef,undef,undef,_] H (aD (Z0 M<|Rm M) (Z1 0 30 M<|Rc M) (Z1 1 31 M<|Rm M) (aL 2 (aO c0) M M)<|aD (aL 2 (aO c0) M M) (aL 2 (aO c0) M M) (aL 2 (aO c0) M M) (aL 2 (aO c0) M M)<|aD (aL 2 (aO c0) M M) (aL 2 (aO c0) M M) (aL 2 (aO c0) M M) (aL 2 (aO c0) M M)<|bE (Z2 2 32 11 41 M<|Pf (aO c0) M)<|bE (bX M) dz) ?_
 clear H;intro a w G mI H hv;have H:=H.aQ (hv 12 42 M M) M;clear hv;refine kH H<|Ra M fun a H=>aI ⟨M,K2 _ _<|oJ H M M<|bU<|fun _ K2=>?_⟩
 have hz:¬(0<k∧x.key<y.key):=by first|exact fun h=>c1 h.2|exact fun h=>c0 O
 refine kP H (SC<|aV akP wm 0 M M<|Rn M<|bZ K2 M<|Cd M ?_ ?_)<;>clear H K2
 ·intro h43 a H
  try have p43:=dT h43
  refine kP H<|SR fun _ K2=>aV MR aF 0 M M<|Rc M fun a H=>s_call qx H wn M (qF _ _ H.ro _ 21) M ?_;rintro v50 _ a w ⟨rfl,rfl⟩-H;exact kH H<|ak K2 M fun a H=>TT
 intro h43 a H;refine fU<|K1 _ _<|bU<|fun _ K1=>?_;replace hck:=(hck.mono FL).mono mI;replace hb:=mI _ _<|FL _ _ hb;refine dI hmx [[],[0],[],[2],ra 0 4,[],[],[6],[],[8],ra 0 10,ra 0 11,ra 0 12,ra 0 13] [11,12,13] V [_,vi x.key,_,vi x.before,vi (zS x.key x.before),_,_,vi x.key,_,vi x.before,vi<|BL st (li.map fV.id) x.key x.before] H (aD (Z0 M<|Rf Fz M) (Z1 0 51 M<|Ro aF 0 M) (Z0 M<|Rf MR M) (Z1 2 53 M<|Ro aF 0 M)<|aD ?_ (Z0 M<|Rm M) (Z0 M<|Rf Fz M) (Z1 6 57 M<|Ro aF 0 M)<|aD (Z0 M<|Rf MR M) (Z1 8 59 M<|Ro aF 0 M) ?_ (bX M)<|bE (bX M)<|bE (bX M) dz) ?_
 ·exact ain
 ·exact ahY
 clear H;intro a w G qI H hv;have H:=H.aQ (hv 4 55 M M) M;have H:=H.aQ (hv 10 61 M M) M;clear hv;refine iT tQ jS [_,_] [_,_] H wn M M M M M (by intro i q h;match i,h with|0,h=>exact h|1,h=>exact h|n+2,h=>simp at h) M M ?_;intro b62 a w aBM H;obtain⟨G62,aCI,abw,H⟩:=H.eX;refine s_call uT H wn M (uV _ _ H.ro _ _<|Dr abw) M ?_;rintro v63 _ a w ⟨rfl,rfl⟩-H;refine kH H<|Ra M fun a H=>aI ⟨M,K1 _ _<|lr H results125 M ?_⟩;exact H.rt (by rw[he];refine cO vi ?_;clear he hrow hrow' hq hx hy;unfold KH;(repeat' split)<;>first|rfl|(simp_all;done)|(exfalso;simp_all;done))
end
end Go.Proofs.YtdgnnpjijhafaaaGreat
