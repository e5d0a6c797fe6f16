/-
  What the claim stands on, part 3: Drawn regions in which a call turns what is owned, and an operation behind it makes it more. Package leveltext: the scanner's flush and place. Regions that draw the order of their operations, of which some write slots that others read before; the beginning of a string. Package leveltext: the scanner's percent. Package leveltext: the scanner's scan. The bytes of a string as a slice that is only read. Package leveltext: Parse, Check, CheckLevels. Package leveltext: CheckLevels. Package document: checkLists. Package stylesheet: IsName, FindName, Find, is. Package stylesheet: own. Package document: checkComments. Maps from numbers to their places in a list. Ranges over functions that turn a block of their own. Ranges over functions that turn a block of their own and might never end by themselves. Package stylesheet: the chain of a style.
-/
import Derived.Test.YtlnhhlighgaapaaGreatWcb
import Derived.Lib.ConvBytes
namespace Go.Proofs.YtlnhhlighgaapaaGreat
section
open Go.RowKit
section
variable {N:Nat} {D:List Deferred} {w0:World} {F:Nat→Prop} {G0 G G1 G2:GH} {L L1 L2:OL} {T Xs:List (Nat × Value)}
variable {r:Option Nat} {P:Program} {Q:Exit→Act→World→Prop} {l:List Oper} {a a':Act} {w w':World}
theorem draw_valL {pr:Nat→Value→GH→Prop} {S:Nat→Bool} {i d:Nat} {v:Value} (hok:dst1 l T i=true) (hprm:∀ i v (G G':GH),(∀ k o,G k=some o→G' k=some o)→pr i v G→pr i v G') (hi:dstOf l i=some d)
  (HT:St N D w0 F G0 G1 L T a w) (Hb:St N D w0 F G0 G1 L (Xs++full N a) a w) (hG:∀ k o,G k=some o→G1 k=some o) (hv:∀ j d,j≠i→S j=true→dstOf l j=some d→∃ v,a.tmps[d]?=some v∧pr j v G1)
  (hG2:∀ k o,G1 k=some o→G2 k=some o) (hp:pr i v G2) (H:St N D w0 F G0 G2 L1 ((d,v) :: (Xs++full N a)) a' w'):DX N D w0 F G0 G L1 T l pr (setT S i) a' w':=by
 have hok1:=hok
 rw [dst1,hi] at hok1
 simp only [Bool.and_eq_true,Option.isNone_iff_eq_none,List.all_eq_true,List.mem_range] at hok1
 have hsame:∀ t,t≠d→a'.tmps[t]?=a.tmps[t]?:=by
  intro t ht
  by_cases hlt:t < N
  ·have h1:∃ u,lk (Xs++full N a) t=some u:=by
    rw [lk_append]
    cases lk Xs t with
    | some u=>exact ⟨u,rfl⟩
    | none=>exact ⟨_,lk_full a hlt⟩
   obtain ⟨u,hu⟩:=h1
   rw [Hb.get t u hu,H.get t u (by rw [lk_cons_ne (Ne.symm ht)];exact hu)]
  ·rw [Array.getElem?_eq_none (by rw [H.asz];omega),Array.getElem?_eq_none (by rw [Hb.asz];omega)]
 refine ⟨G2,fun k o hk=>hG2 k o (hG k o hk),⟨H.asz,fun t u ht=>?_,H.dfr,H.hp⟩,fun j e hj he=>?_⟩
 ·rw [hsame t (fun e=>by rw [e,hok1.1] at ht;cases ht)]
  exact HT.get t u ht
 ·by_cases hji:j=i
  ·subst hji
   rw [hi] at he
   simp only [Option.some.injEq] at he
   subst he
   exact ⟨v,H.get d v (lk_cons_self _ _ _),hp⟩
  ·have hSj:S j=true:=by unfold setT at hj;rwa [if_neg hji] at hj
   obtain ⟨u,hu1,hu2⟩:=hv j e hji hSj he
   have hne:e≠d:=by
    intro e'
    subst e'
    have h2:=hok1.2 j (dstOf_lt he)
    rw [beq_no (fun h=>hji h.symm),he] at h2
    simp at h2
   exact ⟨u,by rw [hsame e hne];exact hu1,hprm j u _ _ hG2 hu2⟩
/-- Operation m1 turns L into L2, operation m2 behind it makes a block, operation m3 behind that turns all into L3; the others look into C alone. -/
theorem c_drawLM3 {id:Nat} {κ:Type} (k0:κ) (hm:P.follows .mixedOrders=true) (clo:List (List Nat)) (B:List Nat) (hk:drawOk l clo=true) (hB:tailOk l clo B=true) (m1 m2 m3:Nat) (hmB1:B.contains m1=false) (hmB2:B.contains m2=false) (hmB3:B.contains m3=false) (hne:Nat.beq m1 m2=false) (hne3:Nat.beq m2 m3=false) (hne1:Nat.beq m1 m3=false) (h12:(clo.getD m2 []).contains m1=true) (h13:(clo.getD m3 []).contains m1=true) (h23:(clo.getD m3 []).contains m2=true)
  (C L2:OL) (ob:Obj) (L3:Nat→κ→OL) (hC:∀ x,x∈C→x∈L) (hC2:∀ x,x∈C→x∈L2) (hC3:∀ b k x,x∈C→x∈L3 b k) (pr:Nat→κ→Nat→Value→GH→Prop)
  (hprb:∀ b b' k i v G,Nat.beq i m2=false→(clo.getD i []).contains m2=false→pr b k i v G→pr b' k i v G)
  (hprk:∀ b k k' i v G,Nat.beq i m3=false→(clo.getD i []).contains m3=false→pr b k i v G→pr b k' i v G)
  (H:St N D w0 F G0 G L T a w)
  (hstep:allI (fun i o=>∀ b k L' S a w G1,(∀ x,x∈C→x∈L')→B.contains i=false→Nat.beq i m1=false→Nat.beq i m2=false→Nat.beq i m3=false→S i=false→(∀ j∈clo.getD i [],S j=true)→(∀ k o,G k=some o→G1 k=some o)→St N D w0 F G0 G1 L' T a w→(∀ i d,S i=true→dstOf l i=some d→∃ v,a.tmps[d]?=some v∧pr b k i v G1) →
   WL r P l.toArray (fun e a' w'=>e=.normal∧DX N D w0 F G0 G L' T l (pr b k) (setT S i) a' w') [o] a w) 0 l)
  (hmid1:∀ o b k S a w G1,l[m1]?=some o→S m1=false→(∀ j∈clo.getD m1 [],S j=true)→(∀ k o,G k=some o→G1 k=some o)→St N D w0 F G0 G1 L T a w→(∀ i d,i≠m1→S i=true→dstOf l i=some d→∃ v,a.tmps[d]?=some v∧pr b k i v G1) →
   WL r P l.toArray (fun e a' w'=>e=.normal∧DX N D w0 F G0 G L2 T l (pr b k) (setT S m1) a' w') [o] a w)
  (hmid2:∀ o k S a w G1,l[m2]?=some o→S m2=false→(∀ j∈clo.getD m2 [],S j=true)→(∀ k o,G k=some o→G1 k=some o)→St N D w0 F G0 G1 L2 T a w→(∀ b i d,i≠m2→S i=true→dstOf l i=some d→∃ v,a.tmps[d]?=some v∧pr b k i v G1) →
   WL r P l.toArray (fun e a' w'=>e=.normal∧∃ b,DX N D w0 F G0 G ((b,ob) :: L2) T l (pr b k) (setT S m2) a' w') [o] a w)
  (hmid3:∀ o b S a w G1,l[m3]?=some o→S m3=false→(∀ j∈clo.getD m3 [],S j=true)→(∀ k o,G k=some o→G1 k=some o)→St N D w0 F G0 G1 ((b,ob) :: L2) T a w→(∀ k i d,i≠m3→S i=true→dstOf l i=some d→∃ v,a.tmps[d]?=some v∧pr b k i v G1) →
   WL r P l.toArray (fun e a' w'=>e=.normal∧∃ k,DX N D w0 F G0 G (L3 b k) T l (pr b k) (setT S m3) a' w') [o] a w)
  (hend:∀ b k a w G1,(∀ k o,G k=some o→G1 k=some o)→St N D w0 F G0 G1 (L3 b k) T a w→(∀ i d,B.contains i=false→dstOf l i=some d→∃ v,a.tmps[d]?=some v∧pr b k i v G1)→WL r P l.toArray (fun e a w=>e=.normal∧Q .normal a w) (opsAt l B) a w)
  (hml2:Nat.blt m2 l.length=true) (hml3:Nat.blt m3 l.length=true):WP r P (.region id l.toArray true) Q a w:=by
 have ne12:m1≠m2:=fun e=>by subst e;rw [Nat.beq_refl] at hne;cases hne
 have ne23:m2≠m3:=fun e=>by subst e;rw [Nat.beq_refl] at hne3;cases hne3
 have ne13:m1≠m3:=fun e=>by subst e;rw [Nat.beq_refl] at hne1;cases hne1
 refine c_drawG hm clo B hk hB (fun S a w=>(S m2=true→S m1=true)∧(S m3=true→S m2=true)∧∃ b k L',L'=(bif S m3 then L3 b k else bif S m2 then (b,ob) :: L2 else bif S m1 then L2 else L)∧DX N D w0 F G0 G L' T l (pr b k) S a w)
  ⟨fun h=>h,fun h=>h,0,k0,L,rfl,G,fun _ _ h=>h,H.move H.hp.drew,fun _ _ h=>absurd (show false=true from h) (by decide)⟩ ?_ ?_
 ·rintro i o S a w ho hb hSi hclo hdesc ⟨hord,hord3,b,k,L',hL,G1,hG,HS,hv⟩
  have hsub:∀ x,x∈C→x∈L':=fun x hx=>by
   rw [hL]
   cases S m3 with
   | true=>exact hC3 b k x hx
   | false=>cases S m2 with
    | true=>exact List.mem_cons_of_mem _ (hC2 x hx)
    | false=>cases S m1 with
     | true=>exact hC2 x hx
     | false=>exact hC x hx
  have hno:∀ j,j < l.length→S j=true→(clo.getD j []).contains i=false:=fun j hjl hj=>by
   cases hc:(clo.getD j []).contains i with
   | false=>rfl
   | true =>
    have:=hdesc j hjl (by simpa using hc)
    rw [this] at hj;cases hj
  by_cases h1:i=m1
  ·subst h1
   have hS2:S m2=false:=hdesc m2 (Eq.mp Nat.blt_eq hml2) (by simpa using h12)
   have hS3:S m3=false:=hdesc m3 (Eq.mp Nat.blt_eq hml3) (by simpa using h13)
   rw [hS3,hS2,hSi] at hL
   subst hL
   have h:=hmid1 o b k S a w G1 ho hSi hclo hG HS fun j d hj hSj hd=>hv j d hSj hd
   have e2:setT S i m2=S m2:=if_neg (fun e=>ne12 e.symm)
   have e3:setT S i m3=S m3:=if_neg (fun e=>ne13 e.symm)
   refine wl_mono (fun e a' w' ⟨he,hD⟩=>⟨he,fun _=>if_pos rfl,fun h=>(by rw [e3,hS3] at h;cases h),b,k,_,?_,hD⟩) h
   rw [show setT S i i=true from if_pos rfl,e2,e3,hS2,hS3]
   rfl
  ·by_cases h2:i=m2
   ·subst h2
    have hS1:S m1=true:=hclo m1 (by simpa using h12)
    have hS3:S m3=false:=hdesc m3 (Eq.mp Nat.blt_eq hml3) (by simpa using h23)
    rw [hS3,hSi,hS1] at hL
    subst hL
    have e1:setT S i m1=S m1:=if_neg ne12
    have e3:setT S i m3=S m3:=if_neg (fun e=>ne23 e.symm)
    have h:=hmid2 o k S a w G1 ho hSi hclo hG HS fun b' j d hj hSj hd=>by
     obtain ⟨v,hv1,hv2⟩:=hv j d hSj hd
     exact ⟨v,hv1,hprb b b' k j v _ (beq_no hj) (hno j (dstOf_lt hd) hSj) hv2⟩
    refine wl_mono (fun e a' w' ⟨he,b',hD⟩=>⟨he,fun _=>by rw [e1];exact hS1,fun _=>if_pos rfl,b',k,_,?_,hD⟩) h
    rw [show setT S i i=true from if_pos rfl,e3,hS3];rfl
   ·by_cases h3:i=m3
    ·subst h3
     have hS1:S m1=true:=hclo m1 (by simpa using h13)
     have hS2:S m2=true:=hclo m2 (by simpa using h23)
     rw [hSi,hS2] at hL
     subst hL
     have e1:setT S i m1=S m1:=if_neg ne13
     have e2:setT S i m2=S m2:=if_neg ne23
     have h:=hmid3 o b S a w G1 ho hSi hclo hG HS fun k' j d hj hSj hd=>by
      obtain ⟨v,hv1,hv2⟩:=hv j d hSj hd
      exact ⟨v,hv1,hprk b k k' j v _ (beq_no hj) (hno j (dstOf_lt hd) hSj) hv2⟩
     refine wl_mono (fun e a' w' ⟨he,k',hD⟩=>⟨he,fun _=>by rw [e1];exact hS1,fun _=>by rw [e2];exact hS2,b,k',_,?_,hD⟩) h
     rw [show setT S i i=true from if_pos rfl];rfl
    ·have h:=allI_get hstep i o ho
     rw [Nat.zero_add] at h
     have e1:setT S i m1=S m1:=if_neg (fun e=>h1 e.symm)
     have e2:setT S i m2=S m2:=if_neg (fun e=>h2 e.symm)
     have e3:setT S i m3=S m3:=if_neg (fun e=>h3 e.symm)
     refine wl_mono (fun e a' w' ⟨he,hD⟩=>⟨he,by rw [e1,e2];exact hord,by rw [e2,e3];exact hord3,b,k,L',?_,hD⟩) (h b k L' S a w G1 hsub hb (beq_no h1) (beq_no h2) (beq_no h3) hSi hclo hG HS hv)
     rw [e1,e2,e3];exact hL
 ·rintro S a w hall hnB ⟨_,_,b,k,L',hL,G1,hG,HS,hv⟩
  have hs3:S m3=true:=hall m3 (Eq.mp Nat.blt_eq hml3) hmB3
  rw [hs3] at hL
  subst hL
  exact hend b k a w G1 hG HS fun j d hb hd=>hv j d (hall j (dstOf_lt hd) hb) hd
end
theorem u8_wrap {z:Int} (h1:0≤z) (h2:z < 256):IntKind.u8.wrap z=z:=by
 simp only [IntKind.wrap,IntKind.bits,IntKind.signed,Bool.false_and,Bool.false_eq_true,if_false]
 omega
section
variable {N:Nat} {D:List Deferred} {w0:World} {F:Nat→Prop} {G0 G:GH} {L:OL} {T:List (Nat × Value)}
variable {r:Option Nat} {P:Program} {ops:Array Oper} {Q:Exit→Act→World→Prop} {rest:List Oper} {a:Act} {w:World}
variable {d:Nat} {ty:TypeId} {pos:String} {aft:Array Edge} {g:Option (Nat × Bool)}
theorem s_subu {x y:Operand} {t yt:TypeId} {p q:Int} (H:St N D w0 F G0 G L T a w) (hw:Region.wanted ⟨some d,.binOp .sub t x y yt,ty,pos,aft,g⟩ (yielded ops a.tmps)=true) (hx:ev T x=some (.int .u8 p)) (hy:ev T y=some (.int .u8 q)) (h1:0≤p - q) (h2:p - q < 256) (hd:Nat.blt d N=true)
  (k:∀ a',St N D w0 F G0 G L ((d,.int .u8 (p - q)) :: T) a' w→WL r P ops Q rest a' w):WL r P ops Q (⟨some d,.binOp .sub t x y yt,ty,pos,aft,g⟩ :: rest) a w :=
 wl_value (v:=.int .u8 (p - q)) (w':=w) hw rfl (by simp [execOp,eqGuard,binOp,Op.intArith,H.ev hx,H.ev hy,Sem.run_bind,u8_wrap h1 h2]) (k _ (H.put hd _ H.hp))
end
end
section
open Go.RowKit
theorem en243lfl:∀ args w,(callFunc 243 args).run Tryz.prog w=.ok (.enter 243 args) w:=enters Tryz.func243 rfl (by kernel_rfl)
theorem ty288lfl:Ty Tryz.prog 288 1 24 [.slice none 0 0] false:=⟨by kernel_rfl,by kernel_rfl⟩
theorem en175lfl:∀ args w,(callFunc 175 args).run Tryz.prog w=.ok (.enter 175 args) w:=enters Tryz.func175 rfl (by kernel_rfl)
theorem un288lfl:Tryz.prog.underlying 288=some (.slice 293):=by kernel_rfl
theorem ty293lfl:Ty Tryz.prog 293 3 32 [.string ⟨#[]⟩,.int .i64 0,.bool false] true:=⟨by kernel_rfl,by kernel_rfl⟩
theorem en244lfl:∀ args w,(callFunc 244 args).run Tryz.prog w=.ok (.enter 244 args) w:=enters Tryz.func244 rfl (by kernel_rfl)
theorem fd321_2lfl:Fld Tryz.prog 321 2 2:=⟨by kernel_rfl⟩
theorem fd321_3lfl:Fld Tryz.prog 321 3 4:=⟨by kernel_rfl⟩
theorem sr293lfl:Srt Tryz.prog 293 [(0,1),(1,1),(2,1)] [.string ⟨#[]⟩,.int .i64 0,.bool false]:=⟨by kernel_rfl,by kernel_rfl⟩
theorem en236lfl:∀ args w,(callFunc 236 args).run Tryz.prog w=.ok (.enter 236 args) w:=enters Tryz.func236 rfl (by kernel_rfl)
theorem fd321_4lfl:Fld Tryz.prog 321 4 5:=⟨by kernel_rfl⟩
structure LpD where
 lit:ByteArray
 level:Int
 plain:Bool
def LpD.dat (x:LpD):List Dat:=[.lf (.string x.lit),li x.level,.lf (.bool x.plain)]
abbrev LpD.cells (x:LpD):List Value:=[.string x.lit,vi x.level,.bool x.plain]
theorem lp_row (G:GH) (x:LpD):RepRow G x.dat x.cells:=by
 simp only [LpD.dat,LpD.cells,RepRow]
 exact ⟨_,_,rfl,by simp [RepV,Value.oneCell'],_,_,rfl,by simp [RepV,Value.oneCell'],_,_,rfl,by simp [RepV,Value.oneCell'],rfl⟩
theorem lp_of {G:GH} {x:LpD} {cs:List Value} (h:RepRow G x.dat cs):cs=x.cells:=by
 simp only [LpD.dat,RepRow,RepV] at h
 obtain ⟨_,_,rfl,⟨rfl,_⟩,_,_,rfl,⟨rfl,_⟩,_,_,rfl,⟨rfl,_⟩,rfl⟩:=h
 rfl
def lpC (l:List LpD):List Value:=(l.map LpD.cells).flatten
theorem lpC_snoc (l:List LpD) (x:LpD):lpC (l++[x])=lpC l++x.cells:=by simp [lpC]
/-- What the scanner holds besides its numbers: the literal that was begun, and the parts. -/
structure ScR (b:Nat) (lit:List UInt8) (parts:List LpD) (p v q:Value) (Lp Lo:OL):Prop where
 ptr:p=.pointer none∨p=.pointer (some ⟨b,2,none⟩)
 buf:IsRow 5 1 v lit.length (Lib.byteCells lit) Lo
 prt:IsRow 293 3 q parts.length (lpC parts) Lp
def flS (lit:List UInt8) (parts:List LpD):List LpD:=if lit=[] then parts else parts++[⟨⟨lit.toArray⟩,0,false⟩]
set_option maxHeartbeats 1000000 in
theorem flush_spec (G:GH) (Lp Lo:OL) (w0:World) (b:Nat) (s:ByteArray) (i:Int) (p v q:Value) (pl e:Int) (lit:List UInt8) (parts:List LpD) (hR:ScR b lit parts p v q Lp Lo) (hO:Owns G (scB b s i p v q pl e :: (Lp++Lo)) w0) (hl:lit.length≤4294967296) (hp:parts.length≤4294967296) :
  Calls Tryz.prog 236 #[.pointer (some ⟨b,0,none⟩)] w0 (RetL w0 G (scB b s i p v q pl e :: (Lp++Lo)) fun u G' L'=>∃ p' v' q' Lp' Lo',L'=scB b s i p' v' q' pl e :: (Lp'++Lo')∧ScR b [] (flS lit parts) p' v' q' Lp' Lo'):=by
 obtain ⟨hptr,hbuf,hprt⟩:=hR;have hml:maxLen=9223372036854775807:=rfl;obtain ⟨A,c,rfl,hvc1,hvc2⟩:=hbuf.shape;obtain ⟨B,d,rfl,hqc1,hqc2⟩:=hprt.shape;obtain ⟨Lt,hLt⟩:∃ x,x=Lp++Lo:=⟨_,rfl⟩;rw [← hLt] at hO ⊢;refine enterL (N:=25) (T:=[(0,_)]) Tryz.func236 rfl Tryz.ntmps236 rfl rfl hO ?_;intro a H;refine kP H (SR fun _ K1=>Rm rfl (Rk rfl (Rf fd321_2lfl rfl ?_)));clear H;intro a H;refine s_callL en243lfl (Li:=[]) (L:=scB b s i p (.slice A lit.length c) (.slice B parts.length d) pl e :: Lt) H wn rfl (slen_spec _ _ _ b s i p A lit.length c B parts.length d pl e (Hp.owns (Li:=[]) H.hp)) rfl ?_;clear H;rintro v5 _ L5 a w ⟨rfl,rfl,rfl⟩ hm5 H;dsimp only [List.nil_append] at H;refine kH H (Rc rfl (Kz K1 ?_));clear H K1;intro a H;refine c_cond H rfl ?_ ?_
 ·intro h6
  try have p6:=dT h6
  have hne:lit≠[]:=fun e=>by rw [e] at p6;simp at p6
  subst hLt;refine c_seq (fun _ K2=>?_)
  have hprm1:∀ (bM_:Nat) (kE_:(Option Addr × Nat) × OL) (ix_:Nat) (v:Value) (G G':GH),(∀ k o,G k=some o→G' k=some o)→(fun (bM_:Nat) (kE_:(Option Addr × Nat) × OL) (ix_:Nat) (v:Value) (G:GH)=>match ix_ with|0=>v=.pointer (some ⟨b,0,none⟩)|1=>v=.pointer (some ⟨b,0,none⟩)|2=>v=.pointer (some ⟨b,0,none⟩)|3=>v=.pointer (some ⟨b,4,none⟩)|4=>v=.slice B parts.length d|5=>v=.pointer (some ⟨b,0,none⟩)|6=>v=.pointer (some ⟨b,0,none⟩)|7=>v=.pointer (some ⟨b,2,none⟩)|8=>v=.string ⟨lit.toArray⟩|9=>v=.agg (LpD.cells ⟨⟨lit.toArray⟩,0,false⟩).toArray|10=>v=.slice (some ⟨bM_,0,none⟩) 1 1|11=>v=.slice kE_.1.1 (parts.length+1) kE_.1.2∧IsRow 293 3 v (parts.length+1) (lpC (parts++[⟨⟨lit.toArray⟩,0,false⟩])) kE_.2|_=>True) bM_ kE_ ix_ v G→(fun (bM_:Nat) (kE_:(Option Addr × Nat) × OL) (ix_:Nat) (v:Value) (G:GH)=>match ix_ with|0=>v=.pointer (some ⟨b,0,none⟩)|1=>v=.pointer (some ⟨b,0,none⟩)|2=>v=.pointer (some ⟨b,0,none⟩)|3=>v=.pointer (some ⟨b,4,none⟩)|4=>v=.slice B parts.length d|5=>v=.pointer (some ⟨b,0,none⟩)|6=>v=.pointer (some ⟨b,0,none⟩)|7=>v=.pointer (some ⟨b,2,none⟩)|8=>v=.string ⟨lit.toArray⟩|9=>v=.agg (LpD.cells ⟨⟨lit.toArray⟩,0,false⟩).toArray|10=>v=.slice (some ⟨bM_,0,none⟩) 1 1|11=>v=.slice kE_.1.1 (parts.length+1) kE_.1.2∧IsRow 293 3 v (parts.length+1) (lpC (parts++[⟨⟨lit.toArray⟩,0,false⟩])) kE_.2|_=>True) bM_ kE_ ix_ v G':=by
   intro bM_ kE_ ix_ v G G' hm h
   match ix_,h with
   | 0,h=>exact h
   | 1,h=>exact h
   | 2,h=>exact h
   | 3,h=>exact h
   | 4,h=>exact h
   | 5,h=>exact h
   | 6,h=>exact h
   | 7,h=>exact h
   | 8,h=>exact h
   | 9,h=>exact h
   | 10,h=>exact h
   | 11,h=>exact h
   | 12,h=>exact trivial
   | 13,h=>exact trivial
   | 14,h=>exact trivial
   | _+15,h=>exact trivial
  refine c_drawLM3 (κ:=(Option Addr × Nat) × OL) (((none,0),[])) (hmx) [[],[],[1],[1,2],[1,2,3],[],[5],[5,6],[5,6,7],[5,6,7,8],[5,6,7,8,9],[1,2,3,4,5,6,7,8,9,10],(List.range 12),(List.range 13),(List.range 14)] [12,13,14] (by kernel_rfl) (by kernel_rfl) 8 10 11 (by decide) (by decide) (by decide) (by decide) (by decide) (by decide) (by decide) (by decide) (by decide) [scB b s i p (.slice A lit.length c) (.slice B parts.length d) pl e] (scB b s i p (.slice A lit.length c) (.slice B parts.length d) pl e :: Lp) (.cells (LpD.cells ⟨⟨lit.toArray⟩,0,false⟩).toArray 293 (0,0)) (fun b_ k_=>(b_,.cells (LpD.cells ⟨⟨lit.toArray⟩,0,false⟩).toArray 293 (0,0)) :: scB b s i p (.slice A lit.length c) (.slice B parts.length d) pl e :: k_.2) (fun x hx=>by rw [List.mem_singleton.1 hx];exact List.mem_cons_self) (fun x hx=>by rw [List.mem_singleton.1 hx];exact List.mem_cons_self) (fun _ _ x hx=>by rw [List.mem_singleton.1 hx];exact List.mem_cons_of_mem _ List.mem_cons_self) (fun (bM_:Nat) (kE_:(Option Addr × Nat) × OL) (ix_:Nat) (v:Value) (G:GH)=>match ix_ with|0=>v=.pointer (some ⟨b,0,none⟩)|1=>v=.pointer (some ⟨b,0,none⟩)|2=>v=.pointer (some ⟨b,0,none⟩)|3=>v=.pointer (some ⟨b,4,none⟩)|4=>v=.slice B parts.length d|5=>v=.pointer (some ⟨b,0,none⟩)|6=>v=.pointer (some ⟨b,0,none⟩)|7=>v=.pointer (some ⟨b,2,none⟩)|8=>v=.string ⟨lit.toArray⟩|9=>v=.agg (LpD.cells ⟨⟨lit.toArray⟩,0,false⟩).toArray|10=>v=.slice (some ⟨bM_,0,none⟩) 1 1|11=>v=.slice kE_.1.1 (parts.length+1) kE_.1.2∧IsRow 293 3 v (parts.length+1) (lpC (parts++[⟨⟨lit.toArray⟩,0,false⟩])) kE_.2|_=>True) (fun b b' k i v G hi hc h=>by match i,hi,hc,h with|0,_,_,h=>exact h|1,_,_,h=>exact h|2,_,_,h=>exact h|3,_,_,h=>exact h|4,_,_,h=>exact h|5,_,_,h=>exact h|6,_,_,h=>exact h|7,_,_,h=>exact h|8,_,_,h=>exact h|9,_,_,h=>exact h|10,hi,_,_=>exact absurd hi (by decide)|11,_,hc,_=>exact absurd hc (by decide)|12,_,hc,_=>exact absurd hc (by decide)|13,_,hc,_=>exact absurd hc (by decide)|14,_,hc,_=>exact absurd hc (by decide)|_+15,_,_,_=>exact trivial) (fun b k k' i v G hi hc h=>by match i,hi,hc,h with|0,_,_,h=>exact h|1,_,_,h=>exact h|2,_,_,h=>exact h|3,_,_,h=>exact h|4,_,_,h=>exact h|5,_,_,h=>exact h|6,_,_,h=>exact h|7,_,_,h=>exact h|8,_,_,h=>exact h|9,_,_,h=>exact h|10,_,_,h=>exact h|11,hi,_,_=>exact absurd hi (by decide)|12,_,hc,_=>exact absurd hc (by decide)|13,_,hc,_=>exact absurd hc (by decide)|14,_,hc,_=>exact absurd hc (by decide)|_+15,_,_,_=>exact trivial) H ?_ ?_ ?_ ?_ ?_ (by kernel_rfl) (by kernel_rfl)
  ·clear H;refine al4 ?_ ?_ ?_ ?_ (al4 ?_ ?_ ?_ ?_ (al4 ?_ ?_ ?_ ?_ (allI_cons ?_ (allI_cons ?_ (allI_cons ?_ allI_nil)))))
   ·intro bM_ kE_ Lx_ Sd_ a w G1 hLx_ _ _ _ _ hSi hc hG HT hv;have H:=HT;clear hSi;have Hb:=H.full;have H:=Hb;clear hc;refine kH H (Rm rfl ?_);clear H;intro a H;refine wl_nil ⟨rfl,?_⟩;exact draw_val (by kernel_rfl) (hprm1 bM_ kE_) rfl rfl HT Hb hG hv (fun _ _ h=>h) (rfl) H
   ·intro bM_ kE_ Lx_ Sd_ a w G1 hLx_ _ _ _ _ hSi hc hG HT hv;have H:=HT;clear hSi;have Hb:=H.full;have H:=Hb;clear hc;refine kH H (Rm rfl ?_);clear H;intro a H;refine wl_nil ⟨rfl,?_⟩;exact draw_val (by kernel_rfl) (hprm1 bM_ kE_) rfl rfl HT Hb hG hv (fun _ _ h=>h) (rfl) H
   ·intro bM_ kE_ Lx_ Sd_ a w G1 hLx_ _ _ _ _ hSi hc hG HT hv;have H:=HT;clear hSi;obtain ⟨u8,hu8,hp8⟩:=hv 1 8 (hc 1 (by decide)) rfl;obtain rfl:u8=.pointer (some ⟨b,0,none⟩):=hp8;have H:=H.addS hu8;have Hb:=H.full;have H:=Hb;clear hc;refine kH H (Rk rfl ?_);clear H;intro a H;refine wl_nil ⟨rfl,?_⟩;exact draw_val (by kernel_rfl) (hprm1 bM_ kE_) rfl rfl HT Hb hG hv (fun _ _ h=>h) (rfl) H
   ·intro bM_ kE_ Lx_ Sd_ a w G1 hLx_ _ _ _ _ hSi hc hG HT hv;have H:=HT;clear hSi;obtain ⟨u9,hu9,hp9⟩:=hv 2 9 (hc 2 (by decide)) rfl;obtain rfl:u9=.pointer (some ⟨b,0,none⟩):=hp9;have H:=H.addS hu9;have Hb:=H.full;have H:=Hb;clear hc;refine kH H (Rf fd321_3lfl rfl ?_);clear H;intro a H;refine wl_nil ⟨rfl,?_⟩;exact draw_val (by kernel_rfl) (hprm1 bM_ kE_) rfl rfl HT Hb hG hv (fun _ _ h=>h) (rfl) H
   ·intro bM_ kE_ Lx_ Sd_ a w G1 hLx_ _ _ _ _ hSi hc hG HT hv;have H:=HT;clear hSi;obtain ⟨u10,hu10,hp10⟩:=hv 3 10 (hc 3 (by decide)) rfl;obtain rfl:u10=.pointer (some ⟨b,4,none⟩):=hp10;have H:=H.addS hu10;have Hb:=H.full;have H:=Hb;clear hc;refine s_load ty288lfl H wn rfl (H.hp.mcell (hLx_ _ List.mem_cons_self) rfl) rfl ?_;clear H;intro a H;refine wl_nil ⟨rfl,?_⟩;exact draw_val (by kernel_rfl) (hprm1 bM_ kE_) rfl rfl HT Hb hG hv (fun _ _ h=>h) (rfl) H
   ·intro bM_ kE_ Lx_ Sd_ a w G1 hLx_ _ _ _ _ hSi hc hG HT hv;have H:=HT;clear hSi;have Hb:=H.full;have H:=Hb;clear hc;refine kH H (Rm rfl ?_);clear H;intro a H;refine wl_nil ⟨rfl,?_⟩;exact draw_val (by kernel_rfl) (hprm1 bM_ kE_) rfl rfl HT Hb hG hv (fun _ _ h=>h) (rfl) H
   ·intro bM_ kE_ Lx_ Sd_ a w G1 hLx_ _ _ _ _ hSi hc hG HT hv;have H:=HT;clear hSi;obtain ⟨u12,hu12,hp12⟩:=hv 5 12 (hc 5 (by decide)) rfl;obtain rfl:u12=.pointer (some ⟨b,0,none⟩):=hp12;have H:=H.addS hu12;have Hb:=H.full;have H:=Hb;clear hc;refine kH H (Rk rfl ?_);clear H;intro a H;refine wl_nil ⟨rfl,?_⟩;exact draw_val (by kernel_rfl) (hprm1 bM_ kE_) rfl rfl HT Hb hG hv (fun _ _ h=>h) (rfl) H
   ·intro bM_ kE_ Lx_ Sd_ a w G1 hLx_ _ _ _ _ hSi hc hG HT hv;have H:=HT;clear hSi;obtain ⟨u13,hu13,hp13⟩:=hv 6 13 (hc 6 (by decide)) rfl;obtain rfl:u13=.pointer (some ⟨b,0,none⟩):=hp13;have H:=H.addS hu13;have Hb:=H.full;have H:=Hb;clear hc;refine kH H (Rf fd321_2lfl rfl ?_);clear H;intro a H;refine wl_nil ⟨rfl,?_⟩;exact draw_val (by kernel_rfl) (hprm1 bM_ kE_) rfl rfl HT Hb hG hv (fun _ _ h=>h) (rfl) H
   ·intro _ _ _ _ _ _ _ _ _ hB;exact absurd hB (by decide)
   ·intro bM_ kE_ Lx_ Sd_ a w G1 hLx_ _ _ _ _ hSi hc hG HT hv;have H:=HT;clear hSi;obtain ⟨u15,hu15,hp15⟩:=hv 8 15 (hc 8 (by decide)) rfl;obtain rfl:u15=.string ⟨lit.toArray⟩:=hp15;have H:=H.addS hu15;have Hb:=H.full;have H:=Hb;clear hc;refine s_build sr293lfl [_,_,_] H wn rfl rfl rfl rfl ?_;clear H;intro a H;refine wl_nil ⟨rfl,?_⟩;exact draw_val (by kernel_rfl) (hprm1 bM_ kE_) rfl rfl HT Hb hG hv (fun _ _ h=>h) (rfl) H
   ·intro _ _ _ _ _ _ _ _ _ _ hB;exact absurd hB (by decide)
   ·intro _ _ _ _ _ _ _ _ _ _ _ hB;exact absurd hB (by decide)
   ·intro _ _ _ _ _ _ _ _ hB;exact absurd hB (by decide)
   ·intro _ _ _ _ _ _ _ _ hB;exact absurd hB (by decide)
   intro _ _ _ _ _ _ _ _ hB;exact absurd hB (by decide)
  ·clear H;intro o_ bM_ kE_ Sd_ a w G1 ho_ _ hc hG HT hv;obtain rfl:_=o_:=Option.some.inj ho_;clear ho_;have H:=HT;obtain ⟨u14,hu14,hp14⟩:=hv 7 14 (by decide) (hc 7 (by decide)) rfl;obtain rfl:u14=.pointer (some ⟨b,2,none⟩):=hp14;have H:=H.addS hu14;have Hb:=H.full;have H:=Hb;clear hc;refine s_callL en175lfl (Li:=[]) (L:=scB b s i p (.slice A lit.length c) (.slice B parts.length d) pl e :: (Lp++Lo)) H wn rfl (sstr_spec _ _ _ _ b s i p _ B parts.length d pl e lit (Hp.owns (Li:=[]) H.hp) hbuf hne) rfl ?_;clear H;rintro v15 G15 L15 a w ⟨rfl,rfl⟩ hGm15 H;dsimp only [List.nil_append] at H;refine wl_nil ⟨rfl,?_⟩;exact draw_valL (by kernel_rfl) (hprm1 bM_ kE_) rfl HT Hb hG (fun j e h1 h2 h3=>hv j e h1 h2 h3) hGm15 (rfl) H
  ·clear H;intro o_ kE_ Sd_ a w G1 ho_ _ hc hG HT hv;obtain rfl:_=o_:=Option.some.inj ho_;clear ho_;have H:=HT;obtain ⟨u16,hu16,hp16⟩:=hv 0 9 16 (by decide) (hc 9 (by decide)) rfl;obtain rfl:u16=.agg (LpD.cells ⟨⟨lit.toArray⟩,0,false⟩).toArray:=hp16;have H:=H.addS hu16;have Hb:=H.full;have H:=Hb;clear hc;refine s_buildSlice un288lfl ty293lfl [_,_,_] [_,_,_] H wn rfl rfl rfl rfl rfl (by intro i q h;match i,h with|0,h=>exact h|n+1,h=>simp at h) rfl rfl ?_;clear H;intro b17 a w hb17 H;refine wl_nil ⟨rfl,b17,?_⟩;exact draw_mid (by kernel_rfl) rfl HT Hb hG (fun j e h1 h2 h3=>hv _ j e h1 h2 h3) (rfl) H
  ·clear H;intro o_ bM_ Sd_ a w G1 ho_ _ hc hG HT hv;obtain rfl:_=o_:=Option.some.inj ho_;clear ho_;have H:=HT;obtain ⟨u11,hu11,hp11⟩:=hv (((none,0),[])) 4 11 (by decide) (hc 4 (by decide)) rfl;obtain rfl:u11=.slice B parts.length d:=hp11;have H:=H.addS hu11;obtain ⟨u17,hu17,hp17⟩:=hv (((none,0),[])) 10 17 (by decide) (hc 10 (by decide)) rfl;obtain rfl:u17=.slice (some ⟨bM_,0,none⟩) 1 1:=hp17;have H:=H.addS hu17;have Hb:=H.full;have H:=Hb;clear hc;refine s_append (Li:=[_,_]) (Lo:=Lp) (news:=LpD.cells ⟨⟨lit.toArray⟩,0,false⟩) un288lfl ty293lfl rfl rfl H wn rfl rfl hprt rfl (H.hp.ocells 0 rfl rfl) rfl (by omega) (by omega) rfl ?_;clear H;intro v18 Lp18 a w hrw18 H;obtain ⟨A18,c18,rfl,-,-⟩:=hrw18.shape;rw [← lpC_snoc] at hrw18;refine wl_nil ⟨rfl,((A18,c18),Lp18),?_⟩;exact draw_mid (by kernel_rfl) rfl HT Hb hG (fun j e h1 h2 h3=>hv _ j e h1 h2 h3) (⟨rfl,hrw18⟩) H
  clear H;intro b17 kE_ a w G hGm1 H hv;obtain ⟨u7,hu7,hp7⟩:=hv 0 7 (by decide) rfl;obtain rfl:u7=.pointer (some ⟨b,0,none⟩):=hp7;have H:=H.addS hu7;obtain ⟨u18,hu18,hp18⟩:=hv 11 18 (by decide) rfl;(try dsimp only at hp18);obtain ⟨rfl,hrw18⟩:=hp18;have H:=H.addS hu18;clear hv;refine kH H (Rk rfl (Rf fd321_3lfl rfl ?_));clear H;intro a H;refine s_store ty288lfl 1 (vs:=[_]) _ H wn rfl rfl rfl rfl rfl rfl rfl rfl ?_;clear H;intro w H;dsimp only [List.set,setRow] at H;refine wl_nil ⟨rfl,?_⟩;refine K2 _ _ ?_;clear K2;refine kP H (SC (Rm rfl (Rk rfl (Rf fd321_2lfl rfl ?_))));clear H;intro a H;refine s_callL en244lfl (Li:=[_]) (L:=scB b s i p (.slice A lit.length c) (.slice kE_.1.1 (parts.length+1) kE_.1.2) pl e :: kE_.2) H wn rfl (sreset_spec _ _ _ b s i p A lit.length c kE_.1.1 (parts.length+1) kE_.1.2 pl e (Hp.owns (Li:=[_]) H.hp)) rfl ?_;clear H;rintro v24 _ L24 a w ⟨rfl,rfl⟩ hm24 H;dsimp only [List.cons_append,List.nil_append] at H;refine wl_nil ?_;refine (leave0 H Tryz.results236 ?_).2
  first
   | exact H.hp.retD (L':=scB b s i _ _ _ pl e :: kE_.2) (List.sublist_cons_self _ _) ⟨_,_,_,kE_.2,[],by rw [List.append_nil],⟨.inl rfl,IsRow.nil,by rw [flS,if_neg hne];simpa using hrw18⟩⟩
   | exact H.hp.retL ⟨_,_,_,Lp,Lo,by rw [hLt],by
     have h0:lit=[]:=by
      cases lit with
      | nil=>rfl
      | cons x r=>simp at p6
     subst h0;exact ⟨hptr,hbuf,by rw [flS,if_pos rfl];exact hprt⟩⟩
 intro h6
 try have p6:=dF h6
 refine c_skip ?_;refine (leave0 H Tryz.results236 ?_).2
 first
  | exact H.hp.retD (L':=scB b s i _ _ _ pl e :: kE_.2) (List.sublist_cons_self _ _) ⟨_,_,_,kE_.2,[],by rw [List.append_nil],⟨.inl rfl,IsRow.nil,by rw [flS,if_neg hne];simpa using hrw18⟩⟩
  | exact H.hp.retL ⟨_,_,_,Lp,Lo,by rw [hLt],by
    have h0:lit=[]:=by
     cases lit with
     | nil=>rfl
     | cons x r=>simp at p6
    subst h0;exact ⟨hptr,hbuf,by rw [flS,if_pos rfl];exact hprt⟩⟩
theorem place_spec2 (G:GH) (Lp Lo:OL) (w0:World) (b:Nat) (s:ByteArray) (i:Int) (p v q:Value) (pl e:Int) (lit:List UInt8) (parts:List LpD) (ch:Int) (plain:Bool) (hR:ScR b lit parts p v q Lp Lo) (hO:Owns G (scB b s i p v q pl e :: (Lp++Lo)) w0) (hl:lit.length≤4294967296) (hp:parts.length≤4294967290) (hc:49≤ch∧ch≤57) (hpl:0≤pl∧pl≤4294967296) :
  Calls Tryz.prog 242 #[.pointer (some ⟨b,0,none⟩),.int .u8 ch,.bool plain] w0 (RetL w0 G (scB b s i p v q pl e :: (Lp++Lo)) fun u G' L'=>∃ p' v' q' Lp' Lo',L'=scB b s i p' v' q' (pl+1) e :: (Lp'++Lo')∧ScR b [] (flS lit parts++[⟨⟨#[]⟩,ch - 48,plain⟩]) p' v' q' Lp' Lo'):=by
 have hml:maxLen=9223372036854775807:=rfl
 have hfl:(flS lit parts).length≤parts.length+1:=by unfold flS;split <;> simp
 obtain ⟨A,c,rfl,hvc1,hvc2⟩:=hR.buf.shape;obtain ⟨B,d,rfl,hqc1,hqc2⟩:=hR.prt.shape;obtain ⟨Lt,hLt⟩:∃ x,x=Lp++Lo:=⟨_,rfl⟩;rw [← hLt] at hO ⊢;refine enterL (N:=29) (T:=[(0,_),(1,_),(2,_)]) Tryz.func242 rfl Tryz.ntmps242 rfl rfl hO ?_;intro a H;refine kP H (SR fun _ K1=>Rm rfl ?_);clear H;intro a H;refine s_callL en236lfl (Li:=[]) (L:=scB b s i p (.slice A lit.length c) (.slice B parts.length d) pl e :: Lt) H wn rfl (by subst hLt;exact flush_spec _ Lp Lo _ b s i p _ _ pl e lit parts hR (Hp.owns (Li:=[]) H.hp) hl (by omega)) rfl ?_;clear H;rintro v7 G7 L7 a w ⟨p',v',q',Lp',Lo',rfl,hR7⟩ hm7 H;dsimp only [List.nil_append] at H;obtain ⟨A7,c7,rfl,-,-⟩:=hR7.buf.shape;obtain ⟨B7,d7,rfl,-,-⟩:=hR7.prt.shape;refine K1 _ _ ?_;clear K1;refine kP H (SR fun _ K2=>Rm rfl (Rm rfl (Rk rfl (Rf fd321_3lfl rfl (Ro ty288lfl 0 rfl rfl (Rm rfl ?_))))));clear H;intro a H;refine s_subu H wn rfl rfl (by omega) (by omega) rfl ?_;clear H;intro a H;refine s_conv _ un3cp un5cp H wn rfl rfl rfl ?_;clear H;intro a H;rw [i64_wrap (by omega) (by omega)] at H;refine kH H (Rm rfl ?_);clear H;intro a H;refine s_build sr293lfl [_,_,_] H wn rfl rfl rfl rfl ?_;clear H;intro a H;refine s_buildSlice un288lfl ty293lfl [_,_,_] [_,_,_] H wn rfl rfl rfl rfl rfl (by intro i q h;match i,h with|0,h=>exact h|n+1,h=>simp at h) rfl rfl ?_;clear H;intro b18 a w hb18 H;have H:=(St.cast H (show _=[_,_]++(Lp'++Lo') from rfl)).perm (List.Perm.append_left _ List.perm_append_comm);have H:=St.un H;refine s_append (Li:=[_,_]++Lo') (Lo:=Lp') (news:=LpD.cells ⟨⟨#[]⟩,ch - 48,plain⟩) un288lfl ty293lfl rfl rfl H wn rfl rfl hR7.prt rfl (H.hp.ocells 0 rfl rfl) rfl (by omega) (by omega) rfl ?_;clear H;intro v19 Lp19 a w hrw19 H;obtain ⟨A19,c19,rfl,-,-⟩:=hrw19.shape;rw [← lpC_snoc] at hrw19;have H:=H.assoc.perm (List.Perm.append_left _ List.perm_append_comm);dsimp only [List.cons_append,List.nil_append] at H;refine kH H (Rk rfl (Rf fd321_3lfl rfl ?_));clear H;intro a H;refine s_store ty288lfl 1 (vs:=[_]) _ H wn rfl rfl rfl rfl rfl rfl rfl rfl ?_;clear H;intro w H;dsimp only [List.set,setRow] at H;refine K2 _ _ ?_;clear K2;refine kP H (SC (Rm rfl (Rk rfl (Rf fd321_4lfl rfl (Ro ty3run 1 rfl rfl (Rd rfl (Rk rfl (Rf fd321_4lfl rfl ?_))))))));clear H;intro a H;refine s_store ty3run 1 (vs:=[_]) _ H wn rfl rfl rfl rfl rfl rfl rfl rfl ?_;clear H;intro w H;dsimp only [List.set,setRow] at H;refine wl_nil ?_;refine (leave0 H Tryz.results242 ?_).2;exact H.hp.retD (L':=scB b s i _ _ _ (pl+1) e :: (Lp19++Lo')) (List.sublist_cons_self _ _) ⟨_,_,_,Lp19,Lo',rfl,hR7.ptr,hR7.buf,by simpa using hrw19⟩
end
section
open Go.RowKit
section
variable {N:Nat} {D:List Deferred} {w0:World} {F:Nat→Prop} {G0 G:GH} {L:OL} {T Xs:List (Nat × Value)}
variable {r:Option Nat} {P:Program} {Q:Exit→Act→World→Prop} {l:List Oper} {a a':Act} {w w':World}
/-- A slot, what it holds, the operation on which that hangs, and whether that one is done. -/
abbrev Ent:Type:=Nat × Value × Nat × Bool
def EntOk (ent:List Ent) (S:Nat→Bool) (a:Act):Prop:=∀ e∈ent,S e.2.2.1=e.2.2.2→a.tmps[e.1]?=some e.2.1
theorem EntOk.at {ent:List Ent} {S:Nat→Bool} {a:Act} (h:EntOk ent S a) (k:Nat) {t:Nat} {v:Value} {j:Nat} {b:Bool} (hk:ent[k]?=some (t,v,j,b)) (hS:S j=b):a.tmps[t]?=some v:=h _ (List.mem_of_getElem? hk) hS
/-- The beginning of a string. -/
theorem s_strTo {ops:Array Oper} {rest:List Oper} {d:Nat} {ty:TypeId} {pos:String} {aft:Array Edge} {g:Option (Nat × Bool)} {t:TypeId} {x y:Operand} {s:ByteArray} {ky:IntKind} {p:Int} (hi:Nat) (ht:P.underlying t=some .string) (H:St N D w0 F G0 G L T a w) (hw:Region.wanted ⟨some d,.slice t x none (some y) none,ty,pos,aft,g⟩ (yielded ops a.tmps)=true) (hx:ev T x=some (.string s)) (hy:ev T y=some (.int ky p)) (hp:p=(hi:Int)) (h1:hi≤s.size) (hd:Nat.blt d N=true)
  (k:∀ a',St N D w0 F G0 G L ((d,.string (s.extract 0 hi)) :: T) a' w→WL r P ops Q rest a' w):WL r P ops Q (⟨some d,.slice t x none (some y) none,ty,pos,aft,g⟩ :: rest) a w:=by
 subst hp
 have hr:=run_slice_string_h (P:=P) w t s ht ky (hi:Int) (by omega) (by omega)
 rw [Int.toNat_natCast] at hr
 refine wl_value (v:=.string (s.extract 0 hi)) (w':=w) hw rfl ?_ (k _ (H.put hd _ H.hp))
 simp only [execOp,H.ev hx,Option.map_some,Option.map_none,H.ev hy,Sem.run_bind,run_sliceAt_string w t _ _ _ _ ht,hr,Result.andThen_ok,Sem.run_pure]
end
end
section
open Go.RowKit
theorem en245lpc:∀ args w,(callFunc 245 args).run Tryz.prog w=.ok (.enter 245 args) w:=enters Tryz.func245 rfl (by kernel_rfl)
theorem fd321_0lpc:Fld Tryz.prog 321 0 0:=⟨by kernel_rfl⟩
theorem en235lpc:∀ args w,(callFunc 235 args).run Tryz.prog w=.ok (.enter 235 args) w:=enters Tryz.func235 rfl (by kernel_rfl)
theorem en241lpc:∀ args w,(callFunc 241 args).run Tryz.prog w=.ok (.enter 241 args) w:=enters Tryz.func241 rfl (by kernel_rfl)
theorem en242lpc:∀ args w,(callFunc 242 args).run Tryz.prog w=.ok (.enter 242 args) w:=enters Tryz.func242 rfl (by kernel_rfl)
theorem fd321_1lpc:Fld Tryz.prog 321 1 1:=⟨by kernel_rfl⟩
theorem en240lpc:∀ args w,(callFunc 240 args).run Tryz.prog w=.ok (.enter 240 args) w:=enters Tryz.func240 rfl (by kernel_rfl)
theorem fd321_5lpc:Fld Tryz.prog 321 5 6:=⟨by kernel_rfl⟩
def hasP (s p:ByteArray):Bool:=decide (p.size≤s.size) && ((s.extract 0 p.size).toList == p.toList)
theorem hasPre_spec0 (G:GH) (w0:World) (hG:Hold G w0) (s p:ByteArray) (hs:s.size≤4611686018427387904) (hp:p.size≤4611686018427387904):Calls Tryz.prog 245 #[.string s,.string p] w0 (Ret w0 G fun u G'=>u=.bool (hasP s p)∧G=G'):=by
 refine eN [(0,_),(1,_)] Tryz.func245 rfl Tryz.ntmps245 rfl rfl hG ?_;intro a H;refine kP H (SR fun _ K1=>Ra rfl (Kz K1 (SR fun _ K2=>Rm rfl (Rv un9cp rfl (Rm rfl (Rv un9cp rfl (Rc rfl (Rm rfl ?_))))))));clear H K1;intro a H;refine s_split H 10 rfl ?_ ?_
 ·intro h10
  try have p10:=dT h10
  refine kH H (YM h10 rfl (YM h10 rfl ?_));clear H;intro a H;refine s_lens un9cp H (wg H rfl rfl h10) rfl rfl ?_;clear H;intro a H;refine s_strTo p.size un9cp H (wg H rfl rfl h10) rfl rfl rfl (by omega) rfl ?_;clear H;intro a H;refine kH H (YM h10 rfl ?_);clear H;intro a H;refine s_eqstr H (wg H rfl rfl h10) rfl rfl rfl ?_;clear H;intro a H;refine kH H (Pt h10 rfl (Ra rfl (Kz K2 ?_)));clear H K2;intro a H;refine lr H Tryz.results245 rfl ?_;exact H.hp.ret ⟨congrArg Value.bool (by unfold hasP;first|(simp_all;done)|(simp_all;omega)),rfl⟩
 intro h10
 try have p10:=dF h10
 refine kH H (Ks h10 rfl (Ks h10 rfl (Ks h10 rfl (Ks h10 rfl (Ks h10 rfl (Ks h10 rfl (Pf h10 rfl (Ra rfl (Kz K2 ?_)))))))));clear H K2;intro a H;refine lr H Tryz.results245 rfl ?_;exact H.hp.ret ⟨congrArg Value.bool (by unfold hasP;first|(simp_all;done)|(simp_all;omega)),rfl⟩
theorem hasPre_spec (G:GH) (w0:World) (hG:Hold G w0) (s p:ByteArray) (hs:s.size≤4611686018427387904) (hp:p.size≤4611686018427387904):Calls Tryz.prog 240 #[.string s,.string p] w0 (Ret w0 G fun u G'=>u=.bool (hasP s p)∧G=G'):=by
 refine eN [(0,_),(1,_)] Tryz.func240 rfl Tryz.ntmps240 rfl rfl hG ?_;intro a H;refine kP H (SR fun _ K1=>Ra rfl (Kz K1 (SR fun _ K2=>Rm rfl (Rm rfl ?_))));clear H K1;intro a H;refine s_call en245lpc H wn rfl (hasPre_spec0 _ _ H.hp.ro s p hs hp) rfl ?_;clear H;rintro v7 _ a w ⟨rfl,rfl⟩ - H;refine kH H (Ra rfl (Kz K2 ?_));clear H K2;intro a H;refine lr H Tryz.results240 rfl ?_;exact H.hp.ret ⟨rfl,rfl⟩
/-- Whether a digit from 1 to 9 stands at a place. -/
def digB (s:ByteArray) (k:Nat):Bool:=decide (k < s.size) && decide (49≤byteAt s k) && decide (byteAt s k≤57)
theorem digit_spec (G:GH) (L:OL) (w0:World) (b:Nat) (s:ByteArray) (i:Int) (p v q:Value) (pl e:Int) (k:Nat) (hs:s.size≤4611686018427387904) (hO:Owns G (scB b s i p v q pl e :: L) w0) :
  Calls Tryz.prog 241 #[.pointer (some ⟨b,0,none⟩),vi k] w0 (RetL w0 G (scB b s i p v q pl e :: L) fun u G' L'=>u=.bool (digB s k)∧L'=scB b s i p v q pl e :: L∧G'=G):=by
 refine enterL (N:=30) (T:=[(0,_),(1,_)]) Tryz.func241 rfl Tryz.ntmps241 rfl rfl hO ?_;intro a H;refine kP H (SR fun _ K1=>Ra rfl (Kz K1 (SR fun _ K2=>Rm rfl (Rm rfl (Rk rfl (Rf fd321_0lpc rfl (Ro ty9run 0 rfl rfl (Rv un9cp rfl (Rc rfl (Rm rfl ?_))))))))));clear H K1;intro a H;refine s_split H 12 rfl ?_ ?_
 ·intro h12
  try have p12:=dT h12
  refine kH H (YM h12 rfl ?_);clear H;intro a H;refine s_nilCheck H (wg H rfl rfl h12) rfl rfl ?_;clear H;intro a H;refine kH H (YF fd321_0lpc h12 rfl (YO ty9run 0 h12 rfl rfl (YM h12 rfl ?_)));clear H;intro a H;refine s_indexs k un9cp H (wg H rfl rfl h12) rfl rfl rfl (by omega) rfl ?_;clear H;intro a H;rw [← byteAt_lt] at H;refine kH H (YC h12 rfl (Pt h12 rfl (Rm rfl ?_)));clear H;intro a H;refine s_split H 21 rfl ?_ ?_
  ·intro h21
   try have p21:=dT h21
   refine kH H (YM h21 rfl ?_);clear H;intro a H;refine s_nilCheck H (wg H rfl rfl h21) rfl rfl ?_;clear H;intro a H;refine kH H (YF fd321_0lpc h21 rfl (YO ty9run 0 h21 rfl rfl (YM h21 rfl ?_)));clear H;intro a H;refine s_indexs k un9cp H (wg H rfl rfl h21) rfl rfl rfl (by omega) rfl ?_;clear H;intro a H;rw [← byteAt_lt] at H;refine kH H (YC h21 rfl (Pt h21 rfl (Ra rfl (Kz K2 ?_))));clear H K2;intro a H;refine lr H Tryz.results241 rfl ?_;exact H.hp.retL ⟨congrArg Value.bool (by unfold digB;first|(simp_all;done)|(simp_all;omega)),rfl,rfl⟩
  intro h21
  try have p21:=dF h21
  refine kH H (Ks h21 rfl (Ks h21 rfl (Ks h21 rfl (Ks h21 rfl (Ks h21 rfl (Ks h21 rfl (Ks h21 rfl (Pf h21 rfl (Ra rfl (Kz K2 ?_))))))))));clear H K2;intro a H;refine lr H Tryz.results241 rfl ?_;exact H.hp.retL ⟨congrArg Value.bool (by unfold digB;first|(simp_all;done)|(simp_all;omega)),rfl,rfl⟩
 intro h12
 try have p12:=dF h12
 refine kH H (Ks h12 rfl (Ks h12 rfl (Ks h12 rfl (Ks h12 rfl (Ks h12 rfl (Ks h12 rfl (Ks h12 rfl (Pf h12 rfl (Rm rfl (Ks rfl rfl (Ks rfl rfl (Ks rfl rfl (Ks rfl rfl (Ks rfl rfl (Ks rfl rfl (Ks rfl rfl ?_))))))))))))))));clear H;intro a H;refine kH H (Pf rfl rfl (Ra rfl (Kz K2 ?_)));clear H K2;intro a H;refine lr H Tryz.results241 rfl ?_;exact H.hp.retL ⟨congrArg Value.bool (by unfold digB;first|(simp_all;done)|(simp_all;omega)),rfl,rfl⟩
structure ScS where
 i:Nat
 lit:List UInt8
 parts:List LpD
 pl:Nat
 e:Int
def pctS (s:ByteArray) (x:ScS):ScS :=
 if hasP (s.extract x.i s.size) ⟨#[37,37]⟩=true then ⟨x.i+2,x.lit++[37],x.parts,x.pl,x.e⟩
 else if digB s (x.i+1)=true then ⟨x.i+2,[],flS x.lit x.parts++[⟨⟨#[]⟩,byteAt s (x.i+1) - 48,false⟩],x.pl+1,x.e⟩
 else if hasP (s.extract x.i s.size) ⟨#[37,100]⟩=true∧digB s (x.i+2)=true then ⟨x.i+3,[],flS x.lit x.parts++[⟨⟨#[]⟩,byteAt s (x.i+2) - 48,true⟩],x.pl+1,x.e⟩
 else ⟨x.i,x.lit,x.parts,x.pl,14⟩
abbrev scX (b:Nat) (s:ByteArray) (x:ScS) (p v q:Value):Nat × Obj:=scB b s x.i p v q x.pl x.e
theorem digB_lt {s:ByteArray} {k:Nat} (h:digB s k=true):k < s.size∧49≤byteAt s k∧byteAt s k≤57:=by
 simpa [digB,and_assoc] using h
set_option maxHeartbeats 1000000 in
theorem percent_spec (G:GH) (Lp Lo:OL) (w0:World) (b:Nat) (s:ByteArray) (x:ScS) (p v q:Value) (hR:ScR b x.lit x.parts p v q Lp Lo) (hO:Owns G (scX b s x p v q :: (Lp++Lo)) w0) (hs:s.size≤4294967290) (hi:x.i < s.size) (hl:x.lit.length≤4294967290) (hp:x.parts.length≤4294967290) (hpl:x.pl≤4294967290) :
    Calls Tryz.prog 234 #[.pointer (some ⟨b,0,none⟩)] w0 (RetL w0 G (scX b s x p v q :: (Lp++Lo)) fun u G' L'=>∃ p' v' q' Lp' Lo',L'=scX b s (pctS s x) p' v' q' :: (Lp'++Lo')∧ScR b (pctS s x).lit (pctS s x).parts p' v' q' Lp' Lo'):=by
  obtain ⟨i,lit,parts,pl,e⟩:=x;dsimp only [scX] at *
  have hex:(s.extract i s.size).size≤4611686018427387904:=by rw [ByteArray.size_extract];omega
  obtain ⟨A,c,rfl,hvc1,hvc2⟩:=hR.buf.shape;obtain ⟨B,d,rfl,hqc1,hqc2⟩:=hR.prt.shape;obtain ⟨Lt,hLt⟩:∃ x,x=Lp++Lo:=⟨_,rfl⟩;rw [← hLt] at hO ⊢;refine enterL (N:=93) (T:=[(0,_)]) Tryz.func234 rfl Tryz.ntmps234 rfl rfl hO ?_;intro a H;refine c_block ?_;refine c_seq (fun _ K1=>?_);refine c_drawI (hmx) [[],[0],[0,1],[0,1,2],[],[4],[4,5],[4,5,6],(List.range 8),(List.range 9),(List.range 10)] [] (by kernel_rfl) (by kernel_rfl) (fun (ix_:Nat) (v:Value) (G:GH)=>match ix_ with|0=>v=.pointer (some ⟨b,0,none⟩)|1=>v=.pointer (some ⟨b,0,none⟩)|2=>v=.pointer (some ⟨b,0,none⟩)|3=>v=.string s|4=>v=.pointer (some ⟨b,0,none⟩)|5=>v=.pointer (some ⟨b,0,none⟩)|6=>v=.pointer (some ⟨b,1,none⟩)|7=>v=vi i|8=>v=.string (s.extract i s.size)|9=>v=.bool (hasP (s.extract i s.size) ⟨#[37,37]⟩)|10=>v=.bool (hasP (s.extract i s.size) ⟨#[37,37]⟩)|_=>True) (fun _ _ _ _ _ h=>h) H ?_ ?_
  · clear H;refine al4 ?_ ?_ ?_ ?_ (al4 ?_ ?_ ?_ ?_ (allI_cons ?_ (allI_cons ?_ (allI_cons ?_ allI_nil))))
    · exact Z0 rfl rfl fun _ _ _ _ _=>Rm rfl
    · exact Z1 0 6 rfl rfl fun _ _ _ _ _=>Rk rfl
    · exact Z1 1 7 rfl rfl fun _ _ _ _ _=>Rf fd321_0lpc rfl
    · exact Z1 2 8 rfl rfl fun _ _ _ _ _=>Ro ty9run 0 rfl rfl
    · exact Z0 rfl rfl fun _ _ _ _ _=>Rm rfl
    · exact Z1 4 10 rfl rfl fun _ _ _ _ _=>Rk rfl
    · exact Z1 5 11 rfl rfl fun _ _ _ _ _=>Rf fd321_1lpc rfl
    · exact Z1 6 12 rfl rfl fun _ _ _ _ _=>Ro ty3run 0 rfl rfl
    · refine Op2 3 9 7 13 rfl rfl fun _ a w G1 hG HT H fin=>?_;refine s_strFrom i un9cp H wn rfl rfl rfl (by omega) rfl ?_;clear H;intro a H;exact fin H iJ rfl
    · refine Op1 8 14 rfl rfl fun _ a w G1 hG HT H fin=>?_;refine s_call en240lpc H wn rfl (hasPre_spec _ _ H.hp.ro _ _ hex (by decide)) rfl ?_;clear H;rintro v15 G15 a w ⟨rfl,rfl⟩ hGm15 H;exact fin H hGm15 (rfl)
    exact Op1 9 15 rfl rfl fun _ _ _ _ hG _ H fin=>kH H (Ra rfl fun _ H=>fin H iJ rfl)
  clear H;intro a w G hGm1 H hv;obtain ⟨u5,hu5,hp5⟩:=hv 10 5 (by decide) rfl;obtain rfl:u5=.bool (hasP (s.extract i s.size) ⟨#[37,37]⟩):=hp5;have H:=H.addS hu5;clear hv;refine wl_nil ⟨rfl,?_⟩;refine K1 _ _ ?_;clear K1;refine c_cond H rfl ?_ ?_
  · intro h5
    try have p5:=dT h5
    refine kP H (SR fun _ K2=>Rm rfl (Rk rfl (Rf fd321_2lfl rfl ?_)));clear H;intro a H;refine s_callL en235lpc (Li:=[]) (L:=scB b s i p (.slice A lit.length c) (.slice B parts.length d) pl e :: Lt) H wn rfl (by subst hLt;exact wbyte_spec _ Lp Lo _ b s i p _ B parts.length d pl e lit.length _ 37 hR.ptr (Hp.owns (Li:=[]) H.hp) hR.buf (by omega)) rfl ?_;clear H;rintro v19 _ L19 a w ⟨v19',Lo19,rfl,hrw19,rfl⟩ hm19 H;dsimp only [List.nil_append] at H;obtain ⟨A19,c19,rfl,-,-⟩:=hrw19.shape;refine K2 _ _ ?_;clear K2;refine kP H (SC (Rm rfl (Rk rfl (Rf fd321_1lpc rfl (Ro ty3run 0 rfl rfl (Rd rfl (Rk rfl (Rf fd321_1lpc rfl ?_))))))));clear H;intro a H;refine s_store ty3run 0 (vs:=[_]) _ H wn rfl rfl rfl rfl rfl rfl rfl rfl ?_;clear H;intro w H;dsimp only [List.set,setRow] at H;refine wl_nil ?_;refine (leave0 H Tryz.results234 ?_).2;exact H.hp.retL ⟨_,_,_,Lp,Lo19,by rw [pctS,if_pos h5];rfl,by rw [pctS,if_pos h5];exact ⟨.inr rfl,by simpa [Lib.byteCells] using hrw19,hR.prt⟩⟩
  intro h5
  try have p5:=dF h5
  refine kP H (SR fun _ K3=>Rm rfl (Rm rfl (Rk rfl (Rf fd321_1lpc rfl (Ro ty3run 0 rfl rfl (Rd rfl ?_))))));clear H;intro a H;rw [show ((i:Int)+1)=((i+1:Nat):Int) from rfl] at H;refine s_callL en241lpc (Li:=[]) (L:=scB b s i p (.slice A lit.length c) (.slice B parts.length d) pl e :: Lt) H wn rfl (digit_spec _ Lt _ b s i p _ _ pl e (i+1) (by omega) (Hp.owns (Li:=[]) H.hp)) rfl ?_;clear H;rintro v34 _ L34 a w ⟨rfl,rfl,rfl⟩ hm34 H;dsimp only [List.nil_append] at H;refine kH H (Ra rfl (Kz K3 ?_));clear H K3;intro a H;refine c_cond H rfl ?_ ?_
  · intro h27
    try have p27:=dT h27
    have hd1:=digB_lt h27;refine c_seq (fun _ K4=>?_);refine c_drawI (hmx) [[],[],[1],[1,2],[1,2,3],[],[5],[5,6],[5,6,7],[5,6,7,8],[1,2,3,4,5,6,7,8,9],(List.range 11)] [11] (by kernel_rfl) (by kernel_rfl) (fun (ix_:Nat) (v:Value) (G:GH)=>match ix_ with|0=>v=.pointer (some ⟨b,0,none⟩)|1=>v=.pointer (some ⟨b,0,none⟩)|2=>v=.pointer (some ⟨b,0,none⟩)|3=>v=.pointer (some ⟨b,0,none⟩)|4=>v=.string s|5=>v=.pointer (some ⟨b,0,none⟩)|6=>v=.pointer (some ⟨b,0,none⟩)|7=>v=.pointer (some ⟨b,1,none⟩)|8=>v=vi i|9=>v=vi ((i+1:Nat):Int)|10=>v=.int .u8 (byteAt s (i+1))|_=>True) (fun _ _ _ _ _ h=>h) H ?_ ?_
    · clear H;refine al4 ?_ ?_ ?_ ?_ (al4 ?_ ?_ ?_ ?_ (al4 ?_ ?_ ?_ ?_ allI_nil))
      · exact Z0 rfl rfl fun _ _ _ _ _=>Rm rfl
      · exact Z0 rfl rfl fun _ _ _ _ _=>Rm rfl
      · exact Z1 1 36 rfl rfl fun _ _ _ _ _=>Rk rfl
      · exact Z1 2 37 rfl rfl fun _ _ _ _ _=>Rf fd321_0lpc rfl
      · exact Z1 3 38 rfl rfl fun _ _ _ _ _=>Ro ty9run 0 rfl rfl
      · exact Z0 rfl rfl fun _ _ _ _ _=>Rm rfl
      · exact Z1 5 40 rfl rfl fun _ _ _ _ _=>Rk rfl
      · exact Z1 6 41 rfl rfl fun _ _ _ _ _=>Rf fd321_1lpc rfl
      · exact Z1 7 42 rfl rfl fun _ _ _ _ _=>Ro ty3run 0 rfl rfl
      · exact Z1 8 43 rfl rfl fun _ _ _ _ _=>Rd rfl
      · refine Op2 4 39 9 44 rfl rfl fun _ a w G1 hG HT H fin=>?_;refine s_indexs (i+1) un9cp H wn rfl rfl rfl hd1.1 rfl ?_;clear H;intro a H;rw [← byteAt_lt] at H;exact fin H iJ rfl
      exact opB rfl
    clear H;intro a w G hGm5 H hv;obtain ⟨u35,hu35,hp35⟩:=hv 0 35 (by decide) rfl;obtain rfl:u35=.pointer (some ⟨b,0,none⟩):=hp35;have H:=H.addS hu35;obtain ⟨u45,hu45,hp45⟩:=hv 10 45 (by decide) rfl;obtain rfl:u45=.int .u8 (byteAt s (i+1)):=hp45;have H:=H.addS hu45;clear hv;refine s_callL en242lpc (Li:=[]) (L:=scB b s i p (.slice A lit.length c) (.slice B parts.length d) pl e :: Lt) H wn rfl (by subst hLt;exact place_spec2 _ Lp Lo _ b s i p _ _ pl e lit parts (byteAt s (i+1)) false hR (Hp.owns (Li:=[]) H.hp) (by omega) (by omega) hd1.2 (by omega)) rfl ?_;clear H;rintro v46 G46 L46 a w ⟨p46,v46',q46,Lp46,Lo46,rfl,hR46⟩ hm46 H;dsimp only [List.nil_append] at H;obtain ⟨A46,c46,rfl,-,-⟩:=hR46.buf.shape;obtain ⟨B46,d46,rfl,-,-⟩:=hR46.prt.shape;refine wl_nil ⟨rfl,?_⟩;refine K4 _ _ ?_;clear K4;refine kP H (SC (Rm rfl (Rk rfl (Rf fd321_1lpc rfl (Ro ty3run 0 rfl rfl (Rd rfl (Rk rfl (Rf fd321_1lpc rfl ?_))))))));clear H;intro a H;refine s_store ty3run 0 (vs:=[_]) _ H wn rfl rfl rfl rfl rfl rfl rfl rfl ?_;clear H;intro w H;dsimp only [List.set,setRow] at H;refine wl_nil ?_;refine (leave0 H Tryz.results234 ?_).2;exact H.hp.retL ⟨_,_,_,Lp46,Lo46,by rw [pctS,if_neg (by simp [h5]),if_pos h27];rfl,by rw [pctS,if_neg (by simp [h5]),if_pos h27];exact hR46⟩
  intro h27
  try have p27:=dF h27
  refine c_seq (fun _ K5=>?_)
  by_cases c1:hasP (s.extract i s.size) ⟨#[37,100]⟩=true
  · skip;refine c_drawI (hmx) [[],[0],[0,1],[0,1,2],[],[4],[4,5],[4,5,6],(List.range 8),(List.range 9),(List.range 10),(List.range 11),(List.range 11),(List.range 11++[12]),(List.range 11++[12,13]),(List.range 11++[12,13,14]),(List.range 11++[12,13,14,15]),(List.range 17),(List.range 18),(List.range 19)] [] (by kernel_rfl) (by kernel_rfl) (fun (ix_:Nat) (v:Value) (G:GH)=>match ix_ with|0=>v=.pointer (some ⟨b,0,none⟩)|1=>v=.pointer (some ⟨b,0,none⟩)|2=>v=.pointer (some ⟨b,0,none⟩)|3=>v=.string s|4=>v=.pointer (some ⟨b,0,none⟩)|5=>v=.pointer (some ⟨b,0,none⟩)|6=>v=.pointer (some ⟨b,1,none⟩)|7=>v=vi i|8=>v=.string (s.extract i s.size)|9=>v=.bool (hasP (s.extract i s.size) ⟨#[37,100]⟩)|10=>v=.bool (decide (hasP (s.extract i s.size) ⟨#[37,100]⟩=true))|11=>v=.pointer (some ⟨b,0,none⟩)|12=>v=.pointer (some ⟨b,0,none⟩)|13=>v=.pointer (some ⟨b,0,none⟩)|14=>v=.pointer (some ⟨b,1,none⟩)|15=>v=vi i|16=>v=vi ((i+2:Nat):Int)|17=>v=.bool (digB s (i+2))|18=>v=.bool (digB s (i+2))|19=>v=.bool (digB s (i+2))|_=>True) (fun _ _ _ _ _ h=>h) H ?_ ?_
    · clear H;refine al4 ?_ ?_ ?_ ?_ (al4 ?_ ?_ ?_ ?_ (al4 ?_ ?_ ?_ ?_ (al4 ?_ ?_ ?_ ?_ (al4 ?_ ?_ ?_ ?_ allI_nil))))
      · exact Z0 rfl rfl fun _ _ _ _ _=>Rm rfl
      · exact Z1 0 55 rfl rfl fun _ _ _ _ _=>Rk rfl
      · exact Z1 1 56 rfl rfl fun _ _ _ _ _=>Rf fd321_0lpc rfl
      · exact Z1 2 57 rfl rfl fun _ _ _ _ _=>Ro ty9run 0 rfl rfl
      · exact Z0 rfl rfl fun _ _ _ _ _=>Rm rfl
      · exact Z1 4 59 rfl rfl fun _ _ _ _ _=>Rk rfl
      · exact Z1 5 60 rfl rfl fun _ _ _ _ _=>Rf fd321_1lpc rfl
      · exact Z1 6 61 rfl rfl fun _ _ _ _ _=>Ro ty3run 0 rfl rfl
      · refine Op2 3 58 7 62 rfl rfl fun _ a w G1 hG HT H fin=>?_;refine s_strFrom i un9cp H wn rfl rfl rfl (by omega) rfl ?_;clear H;intro a H;exact fin H iJ rfl
      · refine Op1 8 63 rfl rfl fun _ a w G1 hG HT H fin=>?_;refine s_call en240lpc H wn rfl (hasPre_spec _ _ H.hp.ro _ _ hex (by decide)) rfl ?_;clear H;rintro v64 G64 a w ⟨rfl,rfl⟩ hGm64 H;exact fin H hGm64 (rfl)
      · refine Op1 9 64 rfl rfl fun _ a w G1 hG HT H fin=>?_;refine kH H (Rm rfl ?_);clear H;intro a H;exact fin H iJ (by simp)
      · exact Op1 10 65 rfl rfl fun _ _ _ _ hG _ H fin=>kH H (YM (decide_eq_true c1) rfl fun _ H=>fin H iJ rfl)
      · exact Op1 10 65 rfl rfl fun _ _ _ _ hG _ H fin=>kH H (YM (decide_eq_true c1) rfl fun _ H=>fin H iJ rfl)
      · refine Op2 12 67 10 65 rfl rfl fun _ a w G1 hG HT H fin=>?_;refine s_nilCheck H (wg H rfl rfl (decide_eq_true c1)) rfl rfl ?_;clear H;intro a H;exact fin H iJ rfl
      · exact Op2 13 68 10 65 rfl rfl fun _ _ _ _ hG _ H fin=>kH H (YF fd321_1lpc (decide_eq_true c1) rfl fun _ H=>fin H iJ rfl)
      · exact Op2 14 69 10 65 rfl rfl fun _ _ _ _ hG _ H fin=>kH H (YO ty3run 0 (decide_eq_true c1) rfl rfl fun _ H=>fin H iJ rfl)
      · refine Op2 15 70 10 65 rfl rfl fun _ a w G1 hG HT H fin=>?_;refine s_add _ H (wg H rfl rfl (decide_eq_true c1)) rfl rfl rfl (by omega) (by omega) rfl ?_;clear H;intro a H;exact fin H iJ rfl
      · refine Op3 11 66 16 71 10 65 rfl rfl fun _ a w G1 hG HT H fin=>?_;refine s_callL en241lpc (Li:=[]) (L:=scB b s i p (.slice A lit.length c) (.slice B parts.length d) pl e :: Lt) H (wg H rfl rfl (decide_eq_true c1)) rfl (digit_spec _ Lt _ b s i p _ _ pl e (i+2) (by omega) (Hp.owns (Li:=[]) H.hp)) rfl ?_;clear H;rintro v72 G72 L72 a w ⟨rfl,rfl,rfl⟩ hGm72 H;dsimp only [List.nil_append] at H;exact fin H hGm72 (rfl)
      · exact Op2 10 65 17 72 rfl rfl fun _ _ _ _ hG _ H fin=>kH H (Pt (decide_eq_true c1) rfl fun _ H=>fin H iJ rfl)
      exact Op1 18 73 rfl rfl fun _ _ _ _ hG _ H fin=>kH H (Ra rfl fun _ H=>fin H iJ rfl)
    clear H;intro a w G hGm7 H hv;obtain ⟨u54,hu54,hp54⟩:=hv 19 54 (by decide) rfl;obtain rfl:u54=.bool (digB s (i+2)):=hp54;have H:=H.addS hu54;clear hv;refine wl_nil ⟨rfl,?_⟩;refine K5 _ _ ?_;clear K5;refine c_cond H rfl ?_ ?_
    · intro h54
      try have p54:=dT h54
      have hd2:=digB_lt h54;refine c_seq (fun _ K6=>?_);refine c_drawI (hmx) [[],[],[1],[1,2],[1,2,3],[],[5],[5,6],[5,6,7],[5,6,7,8],[1,2,3,4,5,6,7,8,9],(List.range 11)] [11] (by kernel_rfl) (by kernel_rfl) (fun (ix_:Nat) (v:Value) (G:GH)=>match ix_ with|0=>v=.pointer (some ⟨b,0,none⟩)|1=>v=.pointer (some ⟨b,0,none⟩)|2=>v=.pointer (some ⟨b,0,none⟩)|3=>v=.pointer (some ⟨b,0,none⟩)|4=>v=.string s|5=>v=.pointer (some ⟨b,0,none⟩)|6=>v=.pointer (some ⟨b,0,none⟩)|7=>v=.pointer (some ⟨b,1,none⟩)|8=>v=vi i|9=>v=vi ((i+2:Nat):Int)|10=>v=.int .u8 (byteAt s (i+2))|_=>True) (fun _ _ _ _ _ h=>h) H ?_ ?_
      · clear H;refine al4 ?_ ?_ ?_ ?_ (al4 ?_ ?_ ?_ ?_ (al4 ?_ ?_ ?_ ?_ allI_nil))
        · exact Z0 rfl rfl fun _ _ _ _ _=>Rm rfl
        · exact Z0 rfl rfl fun _ _ _ _ _=>Rm rfl
        · exact Z1 1 75 rfl rfl fun _ _ _ _ _=>Rk rfl
        · exact Z1 2 76 rfl rfl fun _ _ _ _ _=>Rf fd321_0lpc rfl
        · exact Z1 3 77 rfl rfl fun _ _ _ _ _=>Ro ty9run 0 rfl rfl
        · exact Z0 rfl rfl fun _ _ _ _ _=>Rm rfl
        · exact Z1 5 79 rfl rfl fun _ _ _ _ _=>Rk rfl
        · exact Z1 6 80 rfl rfl fun _ _ _ _ _=>Rf fd321_1lpc rfl
        · exact Z1 7 81 rfl rfl fun _ _ _ _ _=>Ro ty3run 0 rfl rfl
        · exact Z1 8 82 rfl rfl fun _ _ _ _ _=>Rd rfl
        · refine Op2 4 78 9 83 rfl rfl fun _ a w G1 hG HT H fin=>?_;refine s_indexs (i+2) un9cp H wn rfl rfl rfl hd2.1 rfl ?_;clear H;intro a H;rw [← byteAt_lt] at H;exact fin H iJ rfl
        exact opB rfl
      clear H;intro a w G hGm8 H hv;obtain ⟨u74,hu74,hp74⟩:=hv 0 74 (by decide) rfl;obtain rfl:u74=.pointer (some ⟨b,0,none⟩):=hp74;have H:=H.addS hu74;obtain ⟨u84,hu84,hp84⟩:=hv 10 84 (by decide) rfl;obtain rfl:u84=.int .u8 (byteAt s (i+2)):=hp84;have H:=H.addS hu84;clear hv;refine s_callL en242lpc (Li:=[]) (L:=scB b s i p (.slice A lit.length c) (.slice B parts.length d) pl e :: Lt) H wn rfl (by subst hLt;exact place_spec2 _ Lp Lo _ b s i p _ _ pl e lit parts (byteAt s (i+2)) true hR (Hp.owns (Li:=[]) H.hp) (by omega) (by omega) hd2.2 (by omega)) rfl ?_;clear H;rintro v85 G85 L85 a w ⟨p46,v46',q46,Lp46,Lo46,rfl,hR46⟩ hm85 H;dsimp only [List.nil_append] at H;obtain ⟨A46,c46,rfl,-,-⟩:=hR46.buf.shape;obtain ⟨B46,d46,rfl,-,-⟩:=hR46.prt.shape;refine wl_nil ⟨rfl,?_⟩;refine K6 _ _ ?_;clear K6;refine kP H (SC (Rm rfl (Rk rfl (Rf fd321_1lpc rfl (Ro ty3run 0 rfl rfl (Rd rfl (Rk rfl (Rf fd321_1lpc rfl ?_))))))));clear H;intro a H;refine s_store ty3run 0 (vs:=[_]) _ H wn rfl rfl rfl rfl rfl rfl rfl rfl ?_;clear H;intro w H;dsimp only [List.set,setRow] at H;refine wl_nil ?_;refine (leave0 H Tryz.results234 ?_).2
      have hn5:¬ hasP (s.extract i s.size) ⟨#[37,37]⟩=true:=by simp [h5]
      have hn27:¬ digB s (i+1)=true:=by simp [h27]
      first
        | exact H.hp.retL ⟨_,_,_,Lp46,Lo46,by rw [pctS,if_neg hn5,if_neg hn27,if_pos ⟨c1,h54⟩];rfl,by rw [pctS,if_neg hn5,if_neg hn27,if_pos ⟨c1,h54⟩];exact hR46⟩
        | (have hn3:¬ (hasP (s.extract i s.size) ⟨#[37,100]⟩=true∧digB s (i+2)=true):=by simp_all
           exact H.hp.retL ⟨_,_,_,Lp,Lo,by rw [pctS,if_neg hn5,if_neg hn27,if_neg hn3,hLt],by rw [pctS,if_neg hn5,if_neg hn27,if_neg hn3];exact hR⟩)
    intro h54
    try have p54:=dF h54
    refine kP H (SC (Rm rfl (Rk rfl (Rf fd321_5lpc rfl ?_))));clear H;intro a H;refine s_store ty22fst 0 (vs:=[_]) _ H wn rfl rfl rfl rfl rfl rfl rfl rfl ?_;clear H;intro w H;dsimp only [List.set,setRow] at H;refine wl_nil ?_;refine (leave0 H Tryz.results234 ?_).2
    have hn5:¬ hasP (s.extract i s.size) ⟨#[37,37]⟩=true:=by simp [h5]
    have hn27:¬ digB s (i+1)=true:=by simp [h27]
    first
      | exact H.hp.retL ⟨_,_,_,Lp46,Lo46,by rw [pctS,if_neg hn5,if_neg hn27,if_pos ⟨c1,h54⟩];rfl,by rw [pctS,if_neg hn5,if_neg hn27,if_pos ⟨c1,h54⟩];exact hR46⟩
      | (have hn3:¬ (hasP (s.extract i s.size) ⟨#[37,100]⟩=true∧digB s (i+2)=true):=by simp_all
         exact H.hp.retL ⟨_,_,_,Lp,Lo,by rw [pctS,if_neg hn5,if_neg hn27,if_neg hn3,hLt],by rw [pctS,if_neg hn5,if_neg hn27,if_neg hn3];exact hR⟩)
  skip;refine c_drawI (hmx) [[],[0],[0,1],[0,1,2],[],[4],[4,5],[4,5,6],(List.range 8),(List.range 9),(List.range 10),(List.range 11),(List.range 11),(List.range 11++[12]),(List.range 11++[12,13]),(List.range 11++[12,13,14]),(List.range 11++[12,13,14,15]),(List.range 17),(List.range 18),(List.range 19)] [] (by kernel_rfl) (by kernel_rfl) (fun (ix_:Nat) (v:Value) (G:GH)=>match ix_ with|0=>v=.pointer (some ⟨b,0,none⟩)|1=>v=.pointer (some ⟨b,0,none⟩)|2=>v=.pointer (some ⟨b,0,none⟩)|3=>v=.string s|4=>v=.pointer (some ⟨b,0,none⟩)|5=>v=.pointer (some ⟨b,0,none⟩)|6=>v=.pointer (some ⟨b,1,none⟩)|7=>v=vi i|8=>v=.string (s.extract i s.size)|9=>v=.bool (hasP (s.extract i s.size) ⟨#[37,100]⟩)|10=>v=.bool (decide (hasP (s.extract i s.size) ⟨#[37,100]⟩=true))|11=>v=undef|12=>v=undef|13=>v=undef|14=>v=undef|15=>v=undef|16=>v=undef|17=>v=undef|18=>v=.bool false|19=>v=.bool false|_=>True) (fun _ _ _ _ _ h=>h) H ?_ ?_
  · clear H;refine al4 ?_ ?_ ?_ ?_ (al4 ?_ ?_ ?_ ?_ (al4 ?_ ?_ ?_ ?_ (al4 ?_ ?_ ?_ ?_ (al4 ?_ ?_ ?_ ?_ allI_nil))))
    · exact Z0 rfl rfl fun _ _ _ _ _=>Rm rfl
    · exact Z1 0 55 rfl rfl fun _ _ _ _ _=>Rk rfl
    · exact Z1 1 56 rfl rfl fun _ _ _ _ _=>Rf fd321_0lpc rfl
    · exact Z1 2 57 rfl rfl fun _ _ _ _ _=>Ro ty9run 0 rfl rfl
    · exact Z0 rfl rfl fun _ _ _ _ _=>Rm rfl
    · exact Z1 4 59 rfl rfl fun _ _ _ _ _=>Rk rfl
    · exact Z1 5 60 rfl rfl fun _ _ _ _ _=>Rf fd321_1lpc rfl
    · exact Z1 6 61 rfl rfl fun _ _ _ _ _=>Ro ty3run 0 rfl rfl
    · refine Op2 3 58 7 62 rfl rfl fun _ a w G1 hG HT H fin=>?_;refine s_strFrom i un9cp H wn rfl rfl rfl (by omega) rfl ?_;clear H;intro a H;exact fin H iJ rfl
    · refine Op1 8 63 rfl rfl fun _ a w G1 hG HT H fin=>?_;refine s_call en240lpc H wn rfl (hasPre_spec _ _ H.hp.ro _ _ hex (by decide)) rfl ?_;clear H;rintro v64 G64 a w ⟨rfl,rfl⟩ hGm64 H;exact fin H hGm64 (rfl)
    · refine Op1 9 64 rfl rfl fun _ a w G1 hG HT H fin=>?_;refine kH H (Rm rfl ?_);clear H;intro a H;exact fin H iJ (by simp)
    · exact skI 10 (decide_eq_false c1) rfl rfl
    · exact skI 10 (decide_eq_false c1) rfl rfl
    · exact skI 10 (decide_eq_false c1) rfl rfl
    · exact skI 10 (decide_eq_false c1) rfl rfl
    · exact skI 10 (decide_eq_false c1) rfl rfl
    · exact skI 10 (decide_eq_false c1) rfl rfl
    · exact skI 10 (decide_eq_false c1) rfl rfl
    · exact Op2 10 65 17 72 rfl rfl fun _ _ _ _ hG _ H fin=>kH H (Pf (decide_eq_false c1) rfl fun _ H=>fin H iJ rfl)
    exact Op1 18 73 rfl rfl fun _ _ _ _ hG _ H fin=>kH H (Ra rfl fun _ H=>fin H iJ rfl)
  clear H;intro a w G hGm7 H hv;obtain ⟨u54,hu54,hp54⟩:=hv 19 54 (by decide) rfl;obtain rfl:u54=.bool false:=hp54;have H:=H.addS hu54;clear hv;refine wl_nil ⟨rfl,?_⟩;refine K5 _ _ ?_;clear K5;refine c_cond_f H rfl rfl ?_;refine kP H (SC (Rm rfl (Rk rfl (Rf fd321_5lpc rfl ?_))));clear H;intro a H;refine s_store ty22fst 0 (vs:=[_]) _ H wn rfl rfl rfl rfl rfl rfl rfl rfl ?_;clear H;intro w H;dsimp only [List.set,setRow] at H;refine wl_nil ?_;refine (leave0 H Tryz.results234 ?_).2
  have hn5:¬ hasP (s.extract i s.size) ⟨#[37,37]⟩=true:=by simp [h5]
  have hn27:¬ digB s (i+1)=true:=by simp [h27]
  first
    | exact H.hp.retL ⟨_,_,_,Lp46,Lo46,by rw [pctS,if_neg hn5,if_neg hn27,if_pos ⟨c1,h54⟩];rfl,by rw [pctS,if_neg hn5,if_neg hn27,if_pos ⟨c1,h54⟩];exact hR46⟩
    | (have hn3:¬ (hasP (s.extract i s.size) ⟨#[37,100]⟩=true∧digB s (i+2)=true):=by simp_all
       exact H.hp.retL ⟨_,_,_,Lp,Lo,by rw [pctS,if_neg hn5,if_neg hn27,if_neg hn3,hLt],by rw [pctS,if_neg hn5,if_neg hn27,if_neg hn3];exact hR⟩)
end
section
open Go.RowKit
theorem en234scn:∀ args w,(callFunc 234 args).run Tryz.prog w=.ok (.enter 234 args) w:=enters Tryz.func234 rfl (by kernel_rfl)
def bAt (s:ByteArray) (i:Nat):UInt8:=if h:i < s.size then s[i] else 0
theorem bAt_eq (s:ByteArray) (i:Nat):byteAt s i=((bAt s i).toNat:Int):=by
 unfold byteAt bAt;split <;> rfl
def stepS (s:ByteArray) (x:ScS):ScS:=if byteAt s x.i=37 then pctS s x else ⟨x.i+1,x.lit++[bAt s x.i],x.parts,x.pl,x.e⟩
/-- What the scanner holds behind its rounds. -/
def scnF (s:ByteArray):Nat→ScS→ScS
 | 0,x=>x
 | f+1,x=>if x.i < s.size∧x.e=0 then scnF s f (stepS s x) else x
def mS (s:ByteArray) (x:ScS):Nat:=if x.e=0 then s.size - x.i else 0
theorem scnF_end {s:ByteArray} {f:Nat} {x:ScS} (h:¬ (x.i < s.size∧x.e=0)):scnF s f x=x:=by
 cases f with
 | zero=>rfl
 | succ f=>rw [scnF,if_neg h]
theorem flS_len (lit:List UInt8) (parts:List LpD):(flS lit parts).length≤parts.length+1:=by unfold flS;split <;> simp
theorem stepS_ok (s:ByteArray) (x:ScS) (h:x.i < s.size∧x.e=0) (h1:x.lit.length≤x.i) (h2:x.parts.length≤2*x.i) (h3:x.pl≤x.i) :
  (stepS s x).i≤x.i+3∧(stepS s x).lit.length≤(stepS s x).i∧(stepS s x).parts.length≤2*(stepS s x).i∧(stepS s x).pl≤(stepS s x).i∧mS s (stepS s x) < mS s x∧mS s x≤s.size:=by
 have hf:=flS_len x.lit x.parts;have hm:mS s x=s.size - x.i:=if_pos h.2
 unfold stepS pctS
 split
 ·split
  ·refine ⟨?_,?_,?_,?_,?_,?_⟩ <;> simp only [mS,List.length_append,List.length_cons,List.length_nil] at*<;> simp only [h.2,if_true] at*<;> omega
  split
  ·refine ⟨?_,?_,?_,?_,?_,?_⟩ <;> simp only [mS,List.length_append,List.length_cons,List.length_nil] at*<;> simp only [h.2,if_true] at*<;> omega
  split
  ·refine ⟨?_,?_,?_,?_,?_,?_⟩ <;> simp only [mS,List.length_append,List.length_cons,List.length_nil] at*<;> simp only [h.2,if_true] at*<;> omega
  refine ⟨?_,?_,?_,?_,?_,?_⟩ <;> simp only [mS,List.length_append,List.length_cons,List.length_nil] at*<;> simp only [h.2,if_true] at*<;> (try omega) <;> (simp;omega)
 refine ⟨?_,?_,?_,?_,?_,?_⟩ <;> simp only [mS,List.length_append,List.length_cons,List.length_nil] at*<;> simp only [h.2,if_true] at*<;> omega
def sc0:ScS:=⟨0,[],[],0,0⟩
def scR (s:ByteArray):ScS:=scnF s s.size sc0
def scE (x:ScS):Int:=if x.e=0∧9 < (x.pl:Int) then 9 else x.e
set_option maxHeartbeats 1000000 in
theorem scan_spec (G:GH) (Lp0 Lo0:OL) (w0:World) (b:Nat) (s:ByteArray) (p0 v0 q0:Value) (hR:ScR b [] [] p0 v0 q0 Lp0 Lo0) (hO:Owns G (scX b s sc0 p0 v0 q0 :: (Lp0++Lo0)) w0) (hs:s.size≤1073741824) :
  Calls Tryz.prog 224 #[.pointer (some ⟨b,0,none⟩)] w0 (RetL w0 G (scX b s sc0 p0 v0 q0 :: (Lp0++Lo0)) fun u G' L'=>∃ p' v' q' Lp' Lo',L'=scB b s (scR s).i p' v' q' (scR s).pl (scE (scR s)) :: (Lp'++Lo')∧ScR b [] (flS (scR s).lit (scR s).parts) p' v' q' Lp' Lo'):=by
 obtain ⟨A0,c0,rfl,-,-⟩:=hR.buf.shape;obtain ⟨B0,d0,rfl,-,-⟩:=hR.prt.shape;refine enterL (N:=68) (T:=[(0,_)]) Tryz.func224 rfl Tryz.ntmps224 rfl rfl hO ?_;intro a H;refine c_seq (fun _ K1=>?_);refine c_block ?_;skip;refine c_loopS (ι:=Nat × ScS × Value × Option Addr × Nat × Option Addr × Nat × OL × OL × GH) (Tc:=[(0,_)]) (Lc:=[]) (fun (gh:Nat × ScS × Value × Option Addr × Nat × Option Addr × Nat × OL × OL × GH)=>[]) (fun (gh:Nat × ScS × Value × Option Addr × Nat × Option Addr × Nat × OL × OL × GH)=>[scX b s gh.2.1 gh.2.2.1 (.slice gh.2.2.2.1 gh.2.1.lit.length gh.2.2.2.2.1) (.slice gh.2.2.2.2.2.1 gh.2.1.parts.length gh.2.2.2.2.2.2.1)]++(gh.2.2.2.2.2.2.2.1++gh.2.2.2.2.2.2.2.2.1)) (fun (gh:Nat × ScS × Value × Option Addr × Nat × Option Addr × Nat × OL × OL × GH)=>gh.2.2.2.2.2.2.2.2.2) (fun (gh:Nat × ScS × Value × Option Addr × Nat × Option Addr × Nat × OL × OL × GH)=>ScR b gh.2.1.lit gh.2.1.parts gh.2.2.1 (.slice gh.2.2.2.1 gh.2.1.lit.length gh.2.2.2.2.1) (.slice gh.2.2.2.2.2.1 gh.2.1.parts.length gh.2.2.2.2.2.2.1) gh.2.2.2.2.2.2.2.1 gh.2.2.2.2.2.2.2.2.1∧scnF s gh.1 gh.2.1=scR s∧mS s gh.2.1≤gh.1∧gh.1≤s.size∧gh.2.1.i≤s.size+3∧gh.2.1.lit.length≤gh.2.1.i∧gh.2.1.parts.length≤2*gh.2.1.i∧gh.2.1.pl≤gh.2.1.i) (fun (gh:Nat × ScS × Value × Option Addr × Nat × Option Addr × Nat × OL × OL × GH)=>gh.1) ((s.size,sc0,p0,A0,c0,B0,d0,Lp0,Lo0,G)) (by exact (H).sub ⟨rfl,trivial⟩) ?_ ?_
 ·exact ⟨hR,rfl,by simp [mS,sc0],Nat.le_refl _,by simp [sc0],by simp [sc0],by simp [sc0],by simp [sc0]⟩
 clear H;intro gh a w hI H;obtain ⟨k,x,p,vA,vc,qA,qc,Lp,Lo,g⟩:=gh;dsimp only at hI H;obtain ⟨hR,hsc,hmk,hks,hxi,hx1,hx2,hx3⟩:=hI;dsimp only [List.cons_append,List.nil_append,List.append_nil] at H;refine c_seq (fun _ K2=>?_);refine c_seq (fun _ K3=>?_)
 by_cases c0:(x.i:Int) < (s.size:Int)
 ·skip
  by_cases c1:x.e=0
  ·skip;refine c_drawI (hmx) [[],[0],[0,1],[0,1,2],[],[4],[4,5],[4,5,6],[4,5,6,7],(List.range 9),(List.range 10),(List.range 11),(List.range 12),(List.range 13),(List.range 14),(List.range 15),(List.range 16)] [] (by kernel_rfl) (by kernel_rfl) (fun (ix_:Nat) (v:Value) (G:GH)=>match ix_ with|0=>v=.pointer (some ⟨b,0,none⟩)|1=>v=.pointer (some ⟨b,0,none⟩)|2=>v=.pointer (some ⟨b,1,none⟩)|3=>v=vi x.i|4=>v=.pointer (some ⟨b,0,none⟩)|5=>v=.pointer (some ⟨b,0,none⟩)|6=>v=.pointer (some ⟨b,0,none⟩)|7=>v=.string s|8=>v=vi s.size|9=>v=.bool (decide ((x.i:Int) < (s.size:Int)))|10=>v=.bool (decide ((x.i:Int) < (s.size:Int)))|11=>v=.pointer (some ⟨b,0,none⟩)|12=>v=.pointer (some ⟨b,0,none⟩)|13=>v=.pointer (some ⟨b,6,none⟩)|14=>v=vi x.e|15=>v=.bool (decide (x.e=0))|16=>v=.bool (decide (x.e=0))|_=>True) (fun _ _ _ _ _ h=>h) H ?_ ?_
   ·clear H;refine al4 ?_ ?_ ?_ ?_ (al4 ?_ ?_ ?_ ?_ (al4 ?_ ?_ ?_ ?_ (al4 ?_ ?_ ?_ ?_ (allI_cons ?_ allI_nil))))
    ·exact Z0 rfl rfl fun _ _ _ _ _=>Rm rfl
    ·exact Z1 0 2 rfl rfl fun _ _ _ _ _=>Rk rfl
    ·exact Z1 1 3 rfl rfl fun _ _ _ _ _=>Rf fd321_1lpc rfl
    ·exact Z1 2 4 rfl rfl fun _ _ _ _ _=>Ro ty3run 0 rfl rfl
    ·exact Z0 rfl rfl fun _ _ _ _ _=>Rm rfl
    ·exact Z1 4 6 rfl rfl fun _ _ _ _ _=>Rk rfl
    ·exact Z1 5 7 rfl rfl fun _ _ _ _ _=>Rf fd321_0lpc rfl
    ·exact Z1 6 8 rfl rfl fun _ _ _ _ _=>Ro ty9run 0 rfl rfl
    ·exact Z1 7 9 rfl rfl fun _ _ _ _ _=>Rv un9cp rfl
    ·exact Z2 3 5 8 10 rfl rfl fun _ _ _ _ _=>Rc rfl
    ·exact Z1 9 11 rfl rfl fun _ _ _ _ _=>Rm rfl
    ·exact Op1 10 12 rfl rfl fun _ _ _ _ hG _ H fin=>kH H (YM (decide_eq_true c0) rfl fun _ H=>fin H iJ rfl)
    ·refine Op2 11 13 10 12 rfl rfl fun _ a w G1 hG HT H fin=>?_;refine s_nilCheck H (wg H rfl rfl (decide_eq_true c0)) rfl rfl ?_;clear H;intro a H;exact fin H iJ rfl
    ·exact Op2 12 14 10 12 rfl rfl fun _ _ _ _ hG _ H fin=>kH H (YF fd321_5lpc (decide_eq_true c0) rfl fun _ H=>fin H iJ rfl)
    ·exact Op2 13 15 10 12 rfl rfl fun _ _ _ _ hG _ H fin=>kH H (YO ty22fst 0 (decide_eq_true c0) rfl rfl fun _ H=>fin H iJ rfl)
    ·exact Op2 14 16 10 12 rfl rfl fun _ _ _ _ hG _ H fin=>kH H (YC (decide_eq_true c0) rfl fun _ H=>fin H iJ rfl)
    exact Op2 10 12 15 17 rfl rfl fun _ _ _ _ hG _ H fin=>kH H (Pt (decide_eq_true c0) rfl fun _ H=>fin H iJ rfl)
   clear H;intro a w G hGm0 H hv;obtain ⟨u18,hu18,hp18⟩:=hv 16 18 (by decide) rfl;obtain rfl:u18=.bool (decide (x.e=0)):=hp18;have H:=H.addS hu18;clear hv;refine wl_nil ⟨rfl,?_⟩;refine K3 _ _ ?_;clear K3;refine c_cond_t H rfl (decide_eq_true c1) ?_;refine kP H (Kc K2 (SB (SQ fun _ K4=>SQ fun _ K5=>?_)));clear H K2;intro a H;refine c_drawI (hmx) [[],[0],[0,1],[0,1,2],[],[4],[4,5],[4,5,6],(List.range 8),(List.range 9)] [] (by kernel_rfl) (by kernel_rfl) (fun (ix_:Nat) (v:Value) (G:GH)=>match ix_ with|0=>v=.pointer (some ⟨b,0,none⟩)|1=>v=.pointer (some ⟨b,0,none⟩)|2=>v=.pointer (some ⟨b,0,none⟩)|3=>v=.string s|4=>v=.pointer (some ⟨b,0,none⟩)|5=>v=.pointer (some ⟨b,0,none⟩)|6=>v=.pointer (some ⟨b,1,none⟩)|7=>v=vi x.i|8=>v=.int .u8 (byteAt s x.i)|9=>v=.bool (decide (byteAt s x.i=37))|_=>True) (fun _ _ _ _ _ h=>h) H ?_ ?_
   ·clear H;refine al4 ?_ ?_ ?_ ?_ (al4 ?_ ?_ ?_ ?_ (allI_cons ?_ (allI_cons ?_ allI_nil)))
    ·exact Z0 rfl rfl fun _ _ _ _ _=>Rm rfl
    ·exact Z1 0 19 rfl rfl fun _ _ _ _ _=>Rk rfl
    ·exact Z1 1 20 rfl rfl fun _ _ _ _ _=>Rf fd321_0lpc rfl
    ·exact Z1 2 21 rfl rfl fun _ _ _ _ _=>Ro ty9run 0 rfl rfl
    ·exact Z0 rfl rfl fun _ _ _ _ _=>Rm rfl
    ·exact Z1 4 23 rfl rfl fun _ _ _ _ _=>Rk rfl
    ·exact Z1 5 24 rfl rfl fun _ _ _ _ _=>Rf fd321_1lpc rfl
    ·exact Z1 6 25 rfl rfl fun _ _ _ _ _=>Ro ty3run 0 rfl rfl
    ·refine Op2 3 22 7 26 rfl rfl fun _ a w G1 hG HT H fin=>?_;refine s_indexs x.i un9cp H wn rfl rfl rfl (by omega) rfl ?_;clear H;intro a H;rw [← byteAt_lt] at H;exact fin H iJ rfl
    exact Op1 8 27 rfl rfl fun _ _ _ _ hG _ H fin=>kH H (Rc rfl fun _ H=>fin H iJ rfl)
   clear H;intro a w G hGm1 H hv;obtain ⟨u28,hu28,hp28⟩:=hv 9 28 (by decide) rfl;obtain rfl:u28=.bool (decide (byteAt s x.i=37)):=hp28;have H:=H.addS hu28;clear hv;refine wl_nil ⟨rfl,?_⟩;refine K5 _ _ ?_;clear K5;refine c_cond H rfl ?_ ?_
   ·intro h28
    try have p28:=dT h28
    refine kP H (SR fun _ K6=>Rm rfl ?_);clear H;intro a H;refine s_callL en234scn (Li:=[]) (L:=scX b s x p (.slice vA x.lit.length vc) (.slice qA x.parts.length qc) :: (Lp++Lo)) H wn rfl (percent_spec _ Lp Lo _ b s x p _ _ hR (Hp.owns (Li:=[]) H.hp) (by omega) (by omega) (by omega) (by omega) (by omega)) rfl ?_;clear H;rintro v30 G30 L30 a w ⟨p',v',q',Lp',Lo',rfl,hR30⟩ hm30 H;dsimp only [List.nil_append] at H;have hst:stepS s x=pctS s x:=if_pos p28;have hok:=stepS_ok s x ⟨by omega,c1⟩ hx1 hx2 hx3
    have hkk:k=(k - 1)+1:=by omega
    have hscn:scnF s (k - 1) (stepS s x)=scR s:=by rw [hkk,scnF,if_pos ⟨by omega,c1⟩] at hsc;exact hsc
    rw [← hst] at H hR30;obtain ⟨A30,c30,rfl,-,-⟩:=hR30.buf.shape;obtain ⟨B30,d30,rfl,-,-⟩:=hR30.prt.shape;refine K6 _ _ ?_;clear K6;refine c_exit ?_;refine loop_end ((k - 1,stepS s x,p',A30,c30,B30,d30,Lp',Lo',G30)) (by exact (H).sub ⟨rfl,trivial⟩) ?_ ?_
    ·(try dsimp only);exact ⟨hR30,hscn,by omega,by omega,by omega,by omega,by omega,by omega⟩
    first|omega|(dsimp only;omega)
   intro h28
   try have p28:=dF h28
   refine c_skip ?_;refine K4 _ _ ?_;clear K4;refine c_seq (fun _ K7=>?_);refine c_drawI (hmx) [[],[0],[0,1],[],[3],[3,4],[3,4,5],[],[7],[7,8],[7,8,9],[3,4,5,6,7,8,9,10],(List.range 12)] [12] (by kernel_rfl) (by kernel_rfl) (fun (ix_:Nat) (v:Value) (G:GH)=>match ix_ with|0=>v=.pointer (some ⟨b,0,none⟩)|1=>v=.pointer (some ⟨b,0,none⟩)|2=>v=.pointer (some ⟨b,2,none⟩)|3=>v=.pointer (some ⟨b,0,none⟩)|4=>v=.pointer (some ⟨b,0,none⟩)|5=>v=.pointer (some ⟨b,0,none⟩)|6=>v=.string s|7=>v=.pointer (some ⟨b,0,none⟩)|8=>v=.pointer (some ⟨b,0,none⟩)|9=>v=.pointer (some ⟨b,1,none⟩)|10=>v=vi x.i|11=>v=.int .u8 (byteAt s x.i)|_=>True) (fun _ _ _ _ _ h=>h) H ?_ ?_
   ·clear H;refine al4 ?_ ?_ ?_ ?_ (al4 ?_ ?_ ?_ ?_ (al4 ?_ ?_ ?_ ?_ (allI_cons ?_ allI_nil)))
    ·exact Z0 rfl rfl fun _ _ _ _ _=>Rm rfl
    ·exact Z1 0 31 rfl rfl fun _ _ _ _ _=>Rk rfl
    ·exact Z1 1 32 rfl rfl fun _ _ _ _ _=>Rf fd321_2lfl rfl
    ·exact Z0 rfl rfl fun _ _ _ _ _=>Rm rfl
    ·exact Z1 3 34 rfl rfl fun _ _ _ _ _=>Rk rfl
    ·exact Z1 4 35 rfl rfl fun _ _ _ _ _=>Rf fd321_0lpc rfl
    ·exact Z1 5 36 rfl rfl fun _ _ _ _ _=>Ro ty9run 0 rfl rfl
    ·exact Z0 rfl rfl fun _ _ _ _ _=>Rm rfl
    ·exact Z1 7 38 rfl rfl fun _ _ _ _ _=>Rk rfl
    ·exact Z1 8 39 rfl rfl fun _ _ _ _ _=>Rf fd321_1lpc rfl
    ·exact Z1 9 40 rfl rfl fun _ _ _ _ _=>Ro ty3run 0 rfl rfl
    ·refine Op2 6 37 10 41 rfl rfl fun _ a w G1 hG HT H fin=>?_;refine s_indexs x.i un9cp H wn rfl rfl rfl (by omega) rfl ?_;clear H;intro a H;rw [← byteAt_lt] at H;exact fin H iJ rfl
    exact opB rfl
   clear H;intro a w G hGm3 H hv;obtain ⟨u33,hu33,hp33⟩:=hv 2 33 (by decide) rfl;obtain rfl:u33=.pointer (some ⟨b,2,none⟩):=hp33;have H:=H.addS hu33;obtain ⟨u42,hu42,hp42⟩:=hv 11 42 (by decide) rfl;obtain rfl:u42=.int .u8 (byteAt s x.i):=hp42;have H:=H.addS hu42;clear hv;refine s_callL en235lpc (Li:=[]) (L:=scX b s x p (.slice vA x.lit.length vc) (.slice qA x.parts.length qc) :: (Lp++Lo)) H wn rfl (wbyte_spec _ Lp Lo _ b s x.i p _ qA x.parts.length qc x.pl x.e x.lit.length _ (byteAt s x.i) hR.ptr (Hp.owns (Li:=[]) H.hp) hR.buf (by omega)) rfl ?_;clear H;rintro v43 _ L43 a w ⟨v43',Lo43,rfl,hrw43,rfl⟩ hm43 H;dsimp only [List.nil_append] at H;obtain ⟨A43,c43,rfl,-,-⟩:=hrw43.shape;have hst:stepS s x=⟨x.i+1,x.lit++[bAt s x.i],x.parts,x.pl,x.e⟩:=if_neg p28;have hok:=stepS_ok s x ⟨by omega,c1⟩ hx1 hx2 hx3
   have hkk:k=(k - 1)+1:=by omega
   have hscn:scnF s (k - 1) (stepS s x)=scR s:=by rw [hkk,scnF,if_pos ⟨by omega,c1⟩] at hsc;exact hsc
   have hR43:ScR b (stepS s x).lit (stepS s x).parts (.pointer (some ⟨b,2,none⟩)) (.slice A43 (stepS s x).lit.length c43) (.slice qA (stepS s x).parts.length qc) Lp Lo43:=by
    rw [hst];exact ⟨.inr rfl,by simpa [Lib.byteCells,bAt_eq] using hrw43,hR.prt⟩
   refine wl_nil ⟨rfl,?_⟩;refine K7 _ _ ?_;clear K7;refine kP H (SC (Rm rfl (Rk rfl (Rf fd321_1lpc rfl (Ro ty3run 0 rfl rfl (Rd rfl (Rk rfl (Rf fd321_1lpc rfl ?_))))))));clear H;intro a H;refine s_store ty3run 0 (vs:=[_]) _ H wn rfl rfl rfl rfl rfl rfl rfl rfl ?_;clear H;intro w H;dsimp only [List.set,setRow] at H;replace H:St _ _ _ _ _ _ (scX b s (stepS s x) (.pointer (some ⟨b,2,none⟩)) (.slice A43 (stepS s x).lit.length c43) (.slice qA (stepS s x).parts.length qc) :: (Lp++Lo43)) _ _ _:=H.cast (by rw [hst];simp [scX,scB]);refine wl_nil ?_;refine loop_end ((k - 1,stepS s x,.pointer (some ⟨b,2,none⟩),A43,c43,qA,qc,Lp,Lo43,_)) (by exact (H).sub ⟨rfl,trivial⟩) ?_ ?_
   ·(try dsimp only);exact ⟨hR43,hscn,by omega,by omega,by omega,by omega,by omega,by omega⟩
   first|omega|(dsimp only;omega)
  skip;refine c_drawI (hmx) [[],[0],[0,1],[0,1,2],[],[4],[4,5],[4,5,6],[4,5,6,7],(List.range 9),(List.range 10),(List.range 11),(List.range 12),(List.range 13),(List.range 14),(List.range 15),(List.range 16)] [] (by kernel_rfl) (by kernel_rfl) (fun (ix_:Nat) (v:Value) (G:GH)=>match ix_ with|0=>v=.pointer (some ⟨b,0,none⟩)|1=>v=.pointer (some ⟨b,0,none⟩)|2=>v=.pointer (some ⟨b,1,none⟩)|3=>v=vi x.i|4=>v=.pointer (some ⟨b,0,none⟩)|5=>v=.pointer (some ⟨b,0,none⟩)|6=>v=.pointer (some ⟨b,0,none⟩)|7=>v=.string s|8=>v=vi s.size|9=>v=.bool (decide ((x.i:Int) < (s.size:Int)))|10=>v=.bool (decide ((x.i:Int) < (s.size:Int)))|11=>v=.pointer (some ⟨b,0,none⟩)|12=>v=.pointer (some ⟨b,0,none⟩)|13=>v=.pointer (some ⟨b,6,none⟩)|14=>v=vi x.e|15=>v=.bool (decide (x.e=0))|16=>v=.bool (decide (x.e=0))|_=>True) (fun _ _ _ _ _ h=>h) H ?_ ?_
  ·clear H;refine al4 ?_ ?_ ?_ ?_ (al4 ?_ ?_ ?_ ?_ (al4 ?_ ?_ ?_ ?_ (al4 ?_ ?_ ?_ ?_ (allI_cons ?_ allI_nil))))
   ·exact Z0 rfl rfl fun _ _ _ _ _=>Rm rfl
   ·exact Z1 0 2 rfl rfl fun _ _ _ _ _=>Rk rfl
   ·exact Z1 1 3 rfl rfl fun _ _ _ _ _=>Rf fd321_1lpc rfl
   ·exact Z1 2 4 rfl rfl fun _ _ _ _ _=>Ro ty3run 0 rfl rfl
   ·exact Z0 rfl rfl fun _ _ _ _ _=>Rm rfl
   ·exact Z1 4 6 rfl rfl fun _ _ _ _ _=>Rk rfl
   ·exact Z1 5 7 rfl rfl fun _ _ _ _ _=>Rf fd321_0lpc rfl
   ·exact Z1 6 8 rfl rfl fun _ _ _ _ _=>Ro ty9run 0 rfl rfl
   ·exact Z1 7 9 rfl rfl fun _ _ _ _ _=>Rv un9cp rfl
   ·exact Z2 3 5 8 10 rfl rfl fun _ _ _ _ _=>Rc rfl
   ·exact Z1 9 11 rfl rfl fun _ _ _ _ _=>Rm rfl
   ·exact Op1 10 12 rfl rfl fun _ _ _ _ hG _ H fin=>kH H (YM (decide_eq_true c0) rfl fun _ H=>fin H iJ rfl)
   ·refine Op2 11 13 10 12 rfl rfl fun _ a w G1 hG HT H fin=>?_;refine s_nilCheck H (wg H rfl rfl (decide_eq_true c0)) rfl rfl ?_;clear H;intro a H;exact fin H iJ rfl
   ·exact Op2 12 14 10 12 rfl rfl fun _ _ _ _ hG _ H fin=>kH H (YF fd321_5lpc (decide_eq_true c0) rfl fun _ H=>fin H iJ rfl)
   ·exact Op2 13 15 10 12 rfl rfl fun _ _ _ _ hG _ H fin=>kH H (YO ty22fst 0 (decide_eq_true c0) rfl rfl fun _ H=>fin H iJ rfl)
   ·exact Op2 14 16 10 12 rfl rfl fun _ _ _ _ hG _ H fin=>kH H (YC (decide_eq_true c0) rfl fun _ H=>fin H iJ rfl)
   exact Op2 10 12 15 17 rfl rfl fun _ _ _ _ hG _ H fin=>kH H (Pt (decide_eq_true c0) rfl fun _ H=>fin H iJ rfl)
  clear H;intro a w G hGm0 H hv;obtain ⟨u18,hu18,hp18⟩:=hv 16 18 (by decide) rfl;obtain rfl:u18=.bool (decide (x.e=0)):=hp18;have H:=H.addS hu18;clear hv;refine wl_nil ⟨rfl,?_⟩;refine K3 _ _ ?_;clear K3;refine c_cond_f H rfl (decide_eq_false c1) ?_;refine c_exit ?_;refine K1 _ _ ?_;clear K1;refine c_seq (fun _ K8=>?_)
  have hxR:x=scR s:=by
   rw [scnF_end (by first|exact fun h=>c0 (by omega)|exact fun h=>c1 h.2)] at hsc;exact hsc
  subst hxR;refine kP H (SC (Rm rfl ?_));clear H;intro a H;refine s_callL en236lfl (Li:=[]) (L:=scX b s (scR s) p (.slice vA (scR s).lit.length vc) (.slice qA (scR s).parts.length qc) :: (Lp++Lo)) H wn rfl (flush_spec _ Lp Lo _ b s (scR s).i p _ _ (scR s).pl (scR s).e (scR s).lit (scR s).parts hR (Hp.owns (Li:=[]) H.hp) (by omega) (by omega)) rfl ?_;clear H;rintro v52 G52 L52 a w ⟨p52,v52',q52,Lp52,Lo52,rfl,hR52⟩ hm52 H;dsimp only [List.nil_append] at H;obtain ⟨A52,c52,rfl,-,-⟩:=hR52.buf.shape;obtain ⟨B52,d52,rfl,-,-⟩:=hR52.prt.shape;refine kH H (Kn K8 (SR fun _ K9=>Rm rfl (Rk rfl (Rf fd321_5lpc rfl (Ro ty22fst 0 rfl rfl (Rc rfl (Rm rfl ?_)))))));clear H K8;intro a H;refine s_split H 58 rfl ?_ ?_
  ·intro h58
   try have p58:=dT h58
   refine kH H (YM h58 rfl ?_);clear H;intro a H;refine s_nilCheck H (wg H rfl rfl h58) rfl rfl ?_;clear H;intro a H;refine kH H (YF fd321_4lfl h58 rfl (YO ty3run 0 h58 rfl rfl (YC h58 rfl (Pt h58 rfl (Kz K9 ?_)))));clear H K9;intro a H;refine c_cond H rfl ?_ ?_
   ·intro h64
    try have p64:=dT h64
    refine kP H (SC (Rm rfl (Rk rfl (Rf fd321_5lpc rfl ?_))));clear H;intro a H;refine s_store ty22fst 0 (vs:=[_]) _ H wn rfl rfl rfl rfl rfl rfl rfl rfl ?_;clear H;intro w H;dsimp only [List.set,setRow] at H;refine wl_nil ?_;refine (leave0 H Tryz.results224 ?_).2
    first
     | exact H.hp.retL ⟨_,_,_,_,_,by rw [scE,if_pos ⟨by assumption,by assumption⟩],hR52⟩
     | exact H.hp.retL ⟨_,_,_,_,_,by rw [scE,if_neg (by first|exact fun h=>p58 h.1|exact fun h=>p64 h.2)],hR52⟩
   intro h64
   try have p64:=dF h64
   refine c_skip ?_;refine (leave0 H Tryz.results224 ?_).2
   first
    | exact H.hp.retL ⟨_,_,_,_,_,by rw [scE,if_pos ⟨by assumption,by assumption⟩],hR52⟩
    | exact H.hp.retL ⟨_,_,_,_,_,by rw [scE,if_neg (by first|exact fun h=>p58 h.1|exact fun h=>p64 h.2)],hR52⟩
  intro h58
  try have p58:=dF h58
  refine kH H (Ks h58 rfl (Ks h58 rfl (Ks h58 rfl (Ks h58 rfl (Ks h58 rfl (Pf h58 rfl (Kz K9 ?_)))))));clear H K9;intro a H;refine c_cond_f H rfl rfl ?_;refine c_skip ?_;refine (leave0 H Tryz.results224 ?_).2
  first
   | exact H.hp.retL ⟨_,_,_,_,_,by rw [scE,if_pos ⟨by assumption,by assumption⟩],hR52⟩
   | exact H.hp.retL ⟨_,_,_,_,_,by rw [scE,if_neg (by first|exact fun h=>p58 h.1|exact fun h=>p64 h.2)],hR52⟩
 skip;refine c_drawI (hmx) [[],[0],[0,1],[0,1,2],[],[4],[4,5],[4,5,6],[4,5,6,7],(List.range 9),(List.range 10),(List.range 11),(List.range 12),(List.range 13),(List.range 14),(List.range 15),(List.range 16)] [] (by kernel_rfl) (by kernel_rfl) (fun (ix_:Nat) (v:Value) (G:GH)=>match ix_ with|0=>v=.pointer (some ⟨b,0,none⟩)|1=>v=.pointer (some ⟨b,0,none⟩)|2=>v=.pointer (some ⟨b,1,none⟩)|3=>v=vi x.i|4=>v=.pointer (some ⟨b,0,none⟩)|5=>v=.pointer (some ⟨b,0,none⟩)|6=>v=.pointer (some ⟨b,0,none⟩)|7=>v=.string s|8=>v=vi s.size|9=>v=.bool (decide ((x.i:Int) < (s.size:Int)))|10=>v=.bool (decide ((x.i:Int) < (s.size:Int)))|11=>v=undef|12=>v=undef|13=>v=undef|14=>v=undef|15=>v=undef|16=>v=.bool false|_=>True) (fun _ _ _ _ _ h=>h) H ?_ ?_
 ·clear H;refine al4 ?_ ?_ ?_ ?_ (al4 ?_ ?_ ?_ ?_ (al4 ?_ ?_ ?_ ?_ (al4 ?_ ?_ ?_ ?_ (allI_cons ?_ allI_nil))))
  ·exact Z0 rfl rfl fun _ _ _ _ _=>Rm rfl
  ·exact Z1 0 2 rfl rfl fun _ _ _ _ _=>Rk rfl
  ·exact Z1 1 3 rfl rfl fun _ _ _ _ _=>Rf fd321_1lpc rfl
  ·exact Z1 2 4 rfl rfl fun _ _ _ _ _=>Ro ty3run 0 rfl rfl
  ·exact Z0 rfl rfl fun _ _ _ _ _=>Rm rfl
  ·exact Z1 4 6 rfl rfl fun _ _ _ _ _=>Rk rfl
  ·exact Z1 5 7 rfl rfl fun _ _ _ _ _=>Rf fd321_0lpc rfl
  ·exact Z1 6 8 rfl rfl fun _ _ _ _ _=>Ro ty9run 0 rfl rfl
  ·exact Z1 7 9 rfl rfl fun _ _ _ _ _=>Rv un9cp rfl
  ·exact Z2 3 5 8 10 rfl rfl fun _ _ _ _ _=>Rc rfl
  ·exact Z1 9 11 rfl rfl fun _ _ _ _ _=>Rm rfl
  ·exact skI 10 (decide_eq_false c0) rfl rfl
  ·exact skI 10 (decide_eq_false c0) rfl rfl
  ·exact skI 10 (decide_eq_false c0) rfl rfl
  ·exact skI 10 (decide_eq_false c0) rfl rfl
  ·exact skI 10 (decide_eq_false c0) rfl rfl
  exact Op2 10 12 15 17 rfl rfl fun _ _ _ _ hG _ H fin=>kH H (Pf (decide_eq_false c0) rfl fun _ H=>fin H iJ rfl)
 clear H;intro a w G hGm0 H hv;obtain ⟨u18,hu18,hp18⟩:=hv 16 18 (by decide) rfl;obtain rfl:u18=.bool false:=hp18;have H:=H.addS hu18;clear hv;refine wl_nil ⟨rfl,?_⟩;refine K3 _ _ ?_;clear K3;refine c_cond_f H rfl rfl ?_;refine c_exit ?_;refine K1 _ _ ?_;clear K1;refine c_seq (fun _ K10=>?_)
 have hxR:x=scR s:=by
  rw [scnF_end (by first|exact fun h=>c0 (by omega)|exact fun h=>c1 h.2)] at hsc;exact hsc
 subst hxR;refine kP H (SC (Rm rfl ?_));clear H;intro a H;refine s_callL en236lfl (Li:=[]) (L:=scX b s (scR s) p (.slice vA (scR s).lit.length vc) (.slice qA (scR s).parts.length qc) :: (Lp++Lo)) H wn rfl (flush_spec _ Lp Lo _ b s (scR s).i p _ _ (scR s).pl (scR s).e (scR s).lit (scR s).parts hR (Hp.owns (Li:=[]) H.hp) (by omega) (by omega)) rfl ?_;clear H;rintro v52 G52 L52 a w ⟨p52,v52',q52,Lp52,Lo52,rfl,hR52⟩ hm52 H;dsimp only [List.nil_append] at H;obtain ⟨A52,c52,rfl,-,-⟩:=hR52.buf.shape;obtain ⟨B52,d52,rfl,-,-⟩:=hR52.prt.shape;refine kH H (Kn K10 (SR fun _ K11=>Rm rfl (Rk rfl (Rf fd321_5lpc rfl (Ro ty22fst 0 rfl rfl (Rc rfl (Rm rfl ?_)))))));clear H K10;intro a H;refine s_split H 58 rfl ?_ ?_
 ·intro h58
  try have p58:=dT h58
  refine kH H (YM h58 rfl ?_);clear H;intro a H;refine s_nilCheck H (wg H rfl rfl h58) rfl rfl ?_;clear H;intro a H;refine kH H (YF fd321_4lfl h58 rfl (YO ty3run 0 h58 rfl rfl (YC h58 rfl (Pt h58 rfl (Kz K11 ?_)))));clear H K11;intro a H;refine c_cond H rfl ?_ ?_
  ·intro h64
   try have p64:=dT h64
   refine kP H (SC (Rm rfl (Rk rfl (Rf fd321_5lpc rfl ?_))));clear H;intro a H;refine s_store ty22fst 0 (vs:=[_]) _ H wn rfl rfl rfl rfl rfl rfl rfl rfl ?_;clear H;intro w H;dsimp only [List.set,setRow] at H;refine wl_nil ?_;refine (leave0 H Tryz.results224 ?_).2
   first
    | exact H.hp.retL ⟨_,_,_,_,_,by rw [scE,if_pos ⟨by assumption,by assumption⟩],hR52⟩
    | exact H.hp.retL ⟨_,_,_,_,_,by rw [scE,if_neg (by first|exact fun h=>p58 h.1|exact fun h=>p64 h.2)],hR52⟩
  intro h64
  try have p64:=dF h64
  refine c_skip ?_;refine (leave0 H Tryz.results224 ?_).2
  first
   | exact H.hp.retL ⟨_,_,_,_,_,by rw [scE,if_pos ⟨by assumption,by assumption⟩],hR52⟩
   | exact H.hp.retL ⟨_,_,_,_,_,by rw [scE,if_neg (by first|exact fun h=>p58 h.1|exact fun h=>p64 h.2)],hR52⟩
 intro h58
 try have p58:=dF h58
 refine kH H (Ks h58 rfl (Ks h58 rfl (Ks h58 rfl (Ks h58 rfl (Ks h58 rfl (Pf h58 rfl (Kz K11 ?_)))))));clear H K11;intro a H;refine c_cond_f H rfl rfl ?_;refine c_skip ?_;refine (leave0 H Tryz.results224 ?_).2
 first
  | exact H.hp.retL ⟨_,_,_,_,_,by rw [scE,if_pos ⟨by assumption,by assumption⟩],hR52⟩
  | exact H.hp.retL ⟨_,_,_,_,_,by rw [scE,if_neg (by first|exact fun h=>p58 h.1|exact fun h=>p64 h.2)],hR52⟩
end
section
open Go.RowKit
def u8Dat (c:Int):List Dat:=[.lf (.int .u8 c)]
theorem u8_of {G:GH} {c:Int} {cs:List Value} (h:RepRow G (u8Dat c) cs):cs=[.int .u8 c]:=by
 simp only [u8Dat,RepRow,RepV] at h
 obtain ⟨_,_,rfl,⟨rfl,_⟩,rfl⟩:=h
 rfl
/-- The bytes of a string. -/
def bytesI (s:ByteArray):List Int:=s.data.toList.map fun b=>(b.toNat:Int)
theorem bytes_cat (G:GH) (l:List Int):RepCat G 1 (l.map u8Dat) (l.map fun c=>Value.int .u8 c):=by
 refine ⟨l.map fun c=>[.int .u8 c],by induction l with|nil=>rfl|cons x r ih=>simp [ih],by simp,fun j r cs hr hc=>?_⟩
 rw [List.getElem?_map] at hr hc
 obtain ⟨x,hx,rfl⟩:=Option.map_eq_some_iff.1 hr
 rw [hx] at hc
 cases hc
 exact ⟨by simp only [u8Dat,RepRow];exact ⟨_,_,rfl,by simp [RepV,Value.oneCell'],rfl⟩,rfl⟩
theorem rep_fz {G:GH} {sz b o n cap:Nat} {cur:Array Value} {e:TypeId} {fz:Nat × Nat} {rows:List (List Dat)} (hb:G b=some (.cells cur e fz)) (h:RepV (fun k=>if k=b then some (.cells cur e (0,0)) else G k) (.sl sz rows) (.slice (some ⟨b,o,none⟩) n cap)) (hr:∀ r∈rows,∃ c,r=u8Dat c):RepV G (.sl sz rows) (.slice (some ⟨b,o,none⟩) n cap):=by
 simp only [RepV] at h ⊢
 obtain ⟨A,c,h1,h2,h3,h4⟩:=h
 refine ⟨A,c,h1,h2,h3,fun hn=>?_⟩
 obtain ⟨b',o',e',hrr⟩:=h4 hn
 injection h1 with e1
 subst e1
 injection e' with e2
 injection e2 with e3 e4
 subst e3;subst e4
 refine ⟨_,_,rfl,RepRows.mk fun k r hk=>?_⟩
 obtain ⟨cs,g1,g2,g3⟩:=hrr.get hk
 refine ⟨cs,g1,fun j u hj=>?_,?_⟩
 ·have:=g2 j u hj
  unfold gcell at this ⊢
  simp only [if_true] at this
  rw [hb];exact this
 ·obtain ⟨c,rfl⟩:=hr r (List.mem_of_getElem? hk)
  have:=u8_of g3
  subst this
  simp only [u8Dat,RepRow];exact ⟨_,_,rfl,by simp [RepV,Value.oneCell'],rfl⟩
section
variable {N:Nat} {D:List Deferred} {w0:World} {F:Nat→Prop} {G0 G:GH} {L:OL} {T:List (Nat × Value)}
variable {r:Option Nat} {P:Program} {ops:Array Oper} {Q:Exit→Act→World→Prop} {rest:List Oper} {a:Act} {w:World}
variable {d:Nat} {ty:TypeId} {pos:String} {aft:Array Edge} {g:Option (Nat × Bool)}
theorem upd_freezeAt {w:World} {b o n:Nat} {c:Array Value} {e:TypeId} {fz:Nat × Nat} (h:w.heap[b]?=some (.cells c e fz)) (hn:n≠0):∃ fz',Upd b (.cells c e fz') w (w.freeze ⟨b,o,none⟩ n):=by
 unfold World.freeze
 rw [if_neg hn]
 refine ⟨if fz.1 == fz.2 then (o,o+n) else (min fz.1 o,max fz.2 (o+n)),rfl,rfl,rfl,by simp,?_,fun k hk=>?_⟩
 ·simp [Array.getElem?_modify,h]
 ·simp [Array.getElem?_modify,Ne.symm hk]
theorem s_bytes {t u e:TypeId} {x:Operand} {s:ByteArray} (ht:P.underlying t=some .string) (hu:P.underlying u=some (.slice e)) (he:P.underlying e=some (.int .u8)) (H:St N D w0 F G0 G L T a w) (hw:Region.wanted ⟨some d,.convert t u x,ty,pos,aft,g⟩ (yielded ops a.tmps)=true) (hx:ev T x=some (.string s)) (hz:s.size≤4294967296) (hd:Nat.blt d N=true)
  (k:∀ v G' a' w',(∀ k o,G k=some o→G' k=some o)→RepV G' (.sl 1 ((bytesI s).map u8Dat)) v→St N D w0 F G0 G' L ((d,v) :: T) a' w'→WL r P ops Q rest a' w'):WL r P ops Q (⟨some d,.convert t u x,ty,pos,aft,g⟩ :: rest) a w:=by
 have hc:=Lib.run_convert_string_bytes (P:=P) w t u e s ht hu he
 have hge:=grownCap_ge w s.size 0 e
 have hml:s.size≤maxLen:=by
  have:maxLen=9223372036854775807:=rfl
  omega
 have hgm:=grownCap_le_maxLen w s.size 0 e hml
 have H1:=H.hp.drew.alloc (.cells (Lib.bytesCells w e s) e)
 have hw1:(w.drew.alloc (.cells (Lib.bytesCells w e s) e)).heap[w.drew.heap.size]?=some (.cells (Lib.bytesCells w e s) e (0,0)):=H1.own _ List.mem_cons_self
 obtain ⟨fz,hu2⟩:=upd_freezeAt (o:=(Lib.bytesCells w e s).size) (n:=1) hw1 (by decide)
 have H2:=H1.upd (i:=0) rfl hu2
 have H3:St N D w0 F G0 G ((w.heap.size,.cells (Lib.bytesCells w e s) e fz) :: L) ((d,.slice (some ⟨w.heap.size,0,none⟩) s.size (grownCap w s.size 0 e)) :: T) (a.put (some d) (.slice (some ⟨w.heap.size,0,none⟩) s.size (grownCap w s.size 0 e))) (Lib.bytesWorld w e s):=H.put hd _ H2
 obtain ⟨G',hm,hb,H4⟩:=H3.giveBox
 have hlen:(bytesI s).length=s.size:=by rw [bytesI,List.length_map,Array.length_toList];rfl
 have hrep:RepV G' (.sl 1 ((bytesI s).map u8Dat)) (.slice (some ⟨w.heap.size,0,none⟩) s.size (grownCap w s.size 0 e)):=by
  refine rep_fz hb ?_ (fun r hr=>by obtain ⟨c,-,rfl⟩:=List.mem_map.1 hr;exact ⟨c,rfl⟩)
  refine RepV.of_row (cur:=Lib.bytesCells w e s) (e:=e) (n:=s.size) (cap:=grownCap w s.size 0 e) (by simp) (by rw [List.length_map,hlen]) hge hgm ?_ (bytes_cat _ _)
  rw [Lib.bytesCells,Array.toList_append,Nat.mul_one,List.take_left' (by rw [Array.toList_map,List.length_map,Array.length_toList];rfl)]
  simp [bytesI]
 have k2:=k _ _ _ _ hm hrep H4
 refine wl_value (v:=.slice (some ⟨w.heap.size,0,none⟩) s.size (grownCap w s.size 0 e)) (w':=Lib.bytesWorld w e s) hw rfl ?_ k2
 simp only [execOp,H.ev hx,Sem.run_bind,hc,Result.andThen_ok,Sem.run_pure]
theorem s_lssstr {t yt:TypeId} {x y:Operand} {p q:ByteArray} (H:St N D w0 F G0 G L T a w) (hw:Region.wanted ⟨some d,.binOp .lss t x y yt,ty,pos,aft,g⟩ (yielded ops a.tmps)=true) (hx:ev T x=some (.string p)) (hy:ev T y=some (.string q)) (hd:Nat.blt d N=true)
  (k:∀ a',St N D w0 F G0 G L ((d,.bool (Op.bytesLess p.toList q.toList)) :: T) a' w→WL r P ops Q rest a' w):WL r P ops Q (⟨some d,.binOp .lss t x y yt,ty,pos,aft,g⟩ :: rest) a w:=by
 refine wl_value (v:=.bool (Op.bytesLess p.toList q.toList)) (w':=w) hw rfl ?_ (k _ (H.put hd _ H.hp))
 simp [execOp,H.ev hx,H.ev hy,Sem.run_bind,eqGuard,binOp,Op.stringOp]
end
end
section
open Go.RowKit
theorem en233lps:∀ args w,(callFunc 233 args).run Tryz.prog w=.ok (.enter 233 args) w:=enters Tryz.func233 rfl (by kernel_rfl)
theorem en224lps:∀ args w,(callFunc 224 args).run Tryz.prog w=.ok (.enter 224 args) w:=enters Tryz.func224 rfl (by kernel_rfl)
theorem en222lps:∀ args w,(callFunc 222 args).run Tryz.prog w=.ok (.enter 222 args) w:=enters Tryz.func222 rfl (by kernel_rfl)
theorem sr321lps:Srt Tryz.prog 321 [(0,1),(1,1),(2,2),(4,1),(5,1),(6,1)] [.string ⟨#[]⟩,.int .i64 0,.pointer none,.slice none 0 0,.slice none 0 0,.int .i64 0,.int .i64 0]:=⟨by kernel_rfl,by kernel_rfl⟩
theorem en225lps:∀ args w,(callFunc 225 args).run Tryz.prog w=.ok (.enter 225 args) w:=enters Tryz.func225 rfl (by kernel_rfl)
theorem fd293_1lps:Fld Tryz.prog 293 1 1:=⟨by kernel_rfl⟩
theorem en192lps:∀ args w,(callFunc 192 args).run Tryz.prog w=.ok (.enter 192 args) w:=enters Tryz.func192 rfl (by kernel_rfl)
theorem en193lps:∀ args w,(callFunc 193 args).run Tryz.prog w=.ok (.enter 193 args) w:=enters Tryz.func193 rfl (by kernel_rfl)
theorem en223lps:∀ args w,(callFunc 223 args).run Tryz.prog w=.ok (.enter 223 args) w:=enters Tryz.func223 rfl (by kernel_rfl)
theorem en194lps:∀ args w,(callFunc 194 args).run Tryz.prog w=.ok (.enter 194 args) w:=enters Tryz.func194 rfl (by kernel_rfl)
/-- What a test of bytes owes. -/
def TestU (fv:Value) (G:GH) (c:Int) (b:Bool):Prop:=∀ (G1:GH) (w1:World),(∀ b o,G b=some o→G1 b=some o)→Hold G1 w1→CallV Tryz.prog fv [.int .u8 c] w1 (Ret w1 G1 fun u G'=>u=.bool b)
theorem indexU_spec (G:GH) (w0:World) (hG:Hold G w0) (l:List Int) (p:Int→Bool) (v fv:Value) (hv:RepV G (.sl 1 (l.map u8Dat)) v) (hf:∀ c∈l,TestU fv G c (p c)) :
  Calls Tryz.prog 233 #[v,fv] w0 (Ret w0 G fun u G'=>u=vi (ixI (l.findIdx? p))):=by
 obtain ⟨A,c,rfl,hc1,hc2,hg⟩:=hv.slice;have hml:maxLen=9223372036854775807:=rfl;rw [List.length_map] at *;refine eN [(0,_),(1,_)] Tryz.func233 rfl Tryz.ntmps233 rfl rfl hG ?_;intro a H;refine kP H (SR fun _ K1=>Ra rfl (Kz K1 (SQ fun _ K2=>SR fun _ K3=>Rm rfl (Rl un263bld rfl (Rm rfl (Kz K3 (SB ?_)))))));clear H K1 K3;intro a H;skip;refine c_loopS (ι:=Nat × GH) (Tc:=[(0,_),(1,_),(7,_)]) (Lc:=[]) (fun (gh:Nat × GH)=>[(8,vi gh.1)]) (fun (gh:Nat × GH)=>[]) (fun (gh:Nat × GH)=>gh.2) (fun (gh:Nat × GH)=>gh.1≤l.length∧(l.take gh.1).findIdx? p=none∧(∀ b o,G b=some o→gh.2 b=some o)) (fun (gh:Nat × GH)=>l.length - gh.1) ((0,G)) (by exact (H).sub ⟨rfl,rfl,rfl,rfl,trivial⟩) ?_ ?_
 ·exact ⟨by omega,rfl,fun _ _ h=>h⟩
 clear H;intro gh a w hI H;obtain ⟨k,g⟩:=gh;dsimp only at hI H;obtain ⟨hk,hno,hgm⟩:=hI;dsimp only [List.cons_append,List.nil_append,List.append_nil] at H;refine kP H (SR fun _ K4=>Rc rfl (Kz K4 (SQ fun _ K5=>?_)));clear H K4;intro a H;refine c_cond H rfl ?_ ?_
 ·intro h9
  try have p9:=dT h9
  have hk2:k < l.length:=by omega
  obtain ⟨b,o,cs,rfl,hcl,hrow,hr⟩:=hg k (u8Dat l[k]) (by simp [hk2]);obtain rfl:=u8_of hr
  have hcell:gcell G b (o+k*1)=some (.int .u8 l[k]):=by simpa using hrow 0 _ rfl
  refine kP H (Kc K5 (SQ fun _ K6=>SB (SR fun _ K7=>Rm rfl (Ra rfl (Kz K7 (SR fun _ K8=>Rm rfl (Rm rfl (Rm rfl (Ri un263bld ty5lsc rfl rfl (Rg ty5lsc rfl (gcell_mono hgm hcell) ?_))))))))));clear H K5 K7;intro a H;refine s_callv0 H wn rfl rfl (hf _ (List.getElem_mem hk2) _ _ hgm H.hp.ro) rfl ?_;clear H;rintro v16 G16 a w rfl hm16 H;refine K8 _ _ ?_;clear K8;refine c_cond H rfl ?_ ?_
  ·intro h16
   try have p16:=dT h16
   refine kP H (SR fun _ K9=>Rm rfl (Ra rfl (Kz K9 ?_)));clear H K9;intro a H;refine lr H Tryz.results233 rfl ?_
   first
    | exact H.hp.ret (by rw [idx_stop hk2 hno h16];rfl)
    | exact H.hp.ret (by rw [show l.take k=l from List.take_of_length_le (by omega)] at hno;rw [hno];rfl)
  intro h16
  try have p16:=dF h16
  refine kP H (Kc K6 (SC (Rd rfl (Rm rfl ?_))));clear H K6;intro a H;refine wl_nil ?_;refine loop_end ((k+1,G16)) (by exact (H).sub ⟨rfl,rfl,rfl,rfl,trivial⟩) ?_ ?_
  ·(try dsimp only);exact ⟨by omega,idx_next hk2 hno h16,fun b o h=>hm16 b o (hgm b o h)⟩
  first|omega|(dsimp only;omega)
 intro h9
 try have p9:=dF h9
 refine c_exit ?_;refine K2 _ _ ?_;clear K2;refine kP H (SR fun _ K10=>Ra rfl (Kz K10 ?_));clear H K10;intro a H;refine lr H Tryz.results233 rfl ?_
 first
  | exact H.hp.ret (by rw [idx_stop hk2 hno h16];rfl)
  | exact H.hp.ret (by rw [show l.take k=l from List.take_of_length_le (by omega)] at hno;rw [hno];rfl)
theorem ixI_some (o:Option Nat):decide (0≤ixI o)=o.isSome:=by cases o <;> simp [ixI]
theorem containsU_spec (G:GH) (w0:World) (hG:Hold G w0) (l:List Int) (p:Int→Bool) (v fv:Value) (hv:RepV G (.sl 1 (l.map u8Dat)) v) (hf:∀ c∈l,TestU fv G c (p c)) :
  Calls Tryz.prog 222 #[v,fv] w0 (Ret w0 G fun u G'=>u=.bool (l.findIdx? p).isSome):=by
 obtain ⟨A,c,rfl,hc1,hc2,-⟩:=hv.slice;rw [List.length_map] at *;refine eN [(0,_),(1,_)] Tryz.func222 rfl Tryz.ntmps222 rfl rfl hG ?_;intro a H;refine kP H (SR fun _ K1=>Ra rfl (Kz K1 (SR fun _ K2=>Rm rfl (Rm rfl ?_))));clear H K1;intro a H;refine s_call en233lps H wn rfl (indexU_spec _ _ H.hp.ro l p _ _ hv hf) rfl ?_;clear H;rintro v7 G7 a w rfl hm7 H;refine kH H (Rc rfl (Ra rfl (Kz K2 ?_)));clear H K2;intro a H;refine lr H Tryz.results222 rfl ?_;exact H.hp.ret (congrArg Value.bool (ixI_some _))
def ctlB (c:Int):Bool:=decide (c < 32) || decide (c=127)
theorem ctl_test (G:GH) (c:Int):TestU (.func (.func 223) #[] #[]) G c (ctlB c):=by
 intro G1 w0 hm hG;refine callV_func (caps:=[]) en223lps ?_;refine eN [(0,_)] Tryz.func223 rfl Tryz.ntmps223 rfl rfl hG ?_;intro a H;refine kP H (SR fun _ K1=>Ra rfl (Kz K1 (SR fun _ K2=>Rm rfl (Rc rfl (Rm rfl ?_)))));clear H K1;intro a H;refine s_split H 5 rfl ?_ ?_
 ·intro h5
  try have p5:=dT h5
  refine kH H (Ks h5 rfl (Ks h5 rfl (Pt h5 rfl (Ra rfl (Kz K2 ?_)))));clear H K2;intro a H;refine lr H Tryz.results223 rfl ?_;exact H.hp.ret (congrArg Value.bool (by unfold ctlB;first|(simp_all;done)|(simp_all;omega)))
 intro h5
 try have p5:=dF h5
 refine kH H (YM h5 rfl (YC h5 rfl (Pf h5 rfl (Ra rfl (Kz K2 ?_)))));clear H K2;intro a H;refine lr H Tryz.results223 rfl ?_;exact H.hp.ret (congrArg Value.bool (by unfold ctlB;first|(simp_all;done)|(simp_all;omega)))
/-- What Parse gives: the parts, and the error. -/
def prsE (t:ByteArray):Int:=if 64 < t.size then 10 else if validS t=false then 12 else if ((bytesI t).findIdx? ctlB).isSome=true then 5 else scE (scR t)
def prsS (t:ByteArray):List LpD:=if prsE t=0 then flS (scR t).lit (scR t).parts else []
theorem lp_cat (G:GH) (l:List LpD):RepCat G 3 (l.map LpD.dat) (lpC l):=by
 refine ⟨l.map LpD.cells,rfl,by simp,fun j r cs hr hc=>?_⟩;rw [List.getElem?_map] at hr hc;obtain ⟨x,hx,rfl⟩:=Option.map_eq_some_iff.1 hr;rw [hx] at hc
 cases hc
 exact ⟨lp_row G x,rfl⟩
theorem parse_spec (G:GH) (w0:World) (hG:Hold G w0) (t:ByteArray) (ht:t.size < 4611686018427387904) :
  Calls Tryz.prog 192 #[.string t] w0 (Ret w0 G fun u G'=>∃ x,u=.tuple #[x,vi (prsE t)]∧RepV G' (.sl 3 ((prsS t).map LpD.dat)) x):=by
 refine eN [(0,_)] Tryz.func192 rfl Tryz.ntmps192 rfl rfl hG ?_;intro a H;refine kP H (SR fun _ K1=>Ra rfl (Ra rfl (Kz K1 (SQ fun _ K2=>SB (SR fun _ K3=>Rm rfl (Rv un9cp rfl (Rc rfl (Ra rfl (Kz K3 ?_)))))))));clear H K1 K3;intro a H;refine c_cond H rfl ?_ ?_
 ·intro h5
  try have p5:=dT h5
  refine c_seq (fun _ K4=>?_)
  have he:prsE t=10:=by rw [prsE,if_pos (by omega)]
  refine kP H (SC (Ra rfl (Ra rfl (Kn K4 ?_))));clear H K4;intro a H;refine c_ret ?_;refine (leaveT H Tryz.results192 (.cons (rv_tmp H rfl) (.cons (rv_tmp H rfl) .nil)) ?_).1
  first
   | exact H.hp.ret ⟨_,by rw [he0],by rw [prsS,if_pos he0];exact hrep⟩
   | exact H.hp.ret ⟨_,by rw [he],by rw [prsS,if_neg (by rw [he];first|decide|assumption)];exact RepV.nil_ rfl (by decide)⟩
 intro h5
 try have p5:=dF h5
 refine kP H (SR fun _ K5=>Rm rfl ?_);clear H;intro a H;refine s_call en132cp H wn rfl (valid_spec _ _ H.hp.ro t ht) rfl ?_;clear H;rintro v11 _ a w ⟨rfl,rfl⟩ - H;refine kH H (Rn rfl (Ra rfl (Kz K5 ?_)));clear H K5;intro a H;refine c_cond H rfl ?_ ?_
 ·intro h9
  try have p9:=dT h9
  refine c_seq (fun _ K6=>?_)
  have he:prsE t=12:=by rw [prsE,if_neg (by omega),if_pos (by simpa using h9)]
  refine kP H (SC (Ra rfl (Ra rfl (Kn K6 ?_))));clear H K6;intro a H;refine c_ret ?_;refine (leaveT H Tryz.results192 (.cons (rv_tmp H rfl) (.cons (rv_tmp H rfl) .nil)) ?_).1
  first
   | exact H.hp.ret ⟨_,by rw [he0],by rw [prsS,if_pos he0];exact hrep⟩
   | exact H.hp.ret ⟨_,by rw [he],by rw [prsS,if_neg (by rw [he];first|decide|assumption)];exact RepV.nil_ rfl (by decide)⟩
 intro h9
 try have p9:=dF h9
 refine kP H (SR fun _ K7=>Rm rfl ?_);clear H;intro a H;refine s_bytes un9cp un263bld un5cp H wn rfl (by omega) rfl ?_;clear H;intro v15 G15 a w hm15 hv15 H;obtain ⟨A15,c15,rfl,-,-,-⟩:=hv15.slice;refine s_call en222lps H wn rfl (containsU_spec _ _ H.hp.ro _ ctlB _ _ hv15 (fun c _=>ctl_test _ c)) rfl ?_;clear H;rintro v16 G16 a w rfl hm16 H;refine kH H (Ra rfl (Kz K7 ?_));clear H K7;intro a H;refine c_cond H rfl ?_ ?_
 ·intro h13
  try have p13:=dT h13
  refine c_seq (fun _ K8=>?_)
  have he:prsE t=5:=by rw [prsE,if_neg (by omega),if_neg (by simpa using h9),if_pos h13]
  refine kP H (SC (Ra rfl (Ra rfl (Kn K8 ?_))));clear H K8;intro a H;refine c_ret ?_;refine (leaveT H Tryz.results192 (.cons (rv_tmp H rfl) (.cons (rv_tmp H rfl) .nil)) ?_).1
  first
   | exact H.hp.ret ⟨_,by rw [he0],by rw [prsS,if_pos he0];exact hrep⟩
   | exact H.hp.ret ⟨_,by rw [he],by rw [prsS,if_neg (by rw [he];first|decide|assumption)];exact RepV.nil_ rfl (by decide)⟩
 intro h13
 try have p13:=dF h13
 refine kP H (Kc K2 (SR fun _ K9=>Rm rfl ?_));clear H K2;intro a H;refine s_build sr321lps [_,_,_,_,_,_,_] H wn rfl rfl rfl rfl ?_;clear H;intro a H;refine s_box (cs:=[_,_,_,_,_,_,_]) H wn rfl rfl rfl ?_;clear H;intro b19 a w hb19 H;refine kH H (Ra rfl (Kz K9 (SQ fun _ K10=>SR fun _ K11=>Rm rfl ?_)));clear H K9;intro a H;refine s_callL en224lps (Li:=[]) (L:=[scX b19 t sc0 (.pointer none) (.slice none 0 0) (.slice none 0 0)]) H wn rfl (scan_spec _ [] [] _ b19 t _ _ _ ⟨.inl rfl,IsRow.nil,IsRow.nil⟩ (Hp.owns (Li:=[]) H.hp) (by omega)) rfl ?_;clear H;rintro v21 G21 L21 a w ⟨p',v',q',Lp',Lo',rfl,hR21⟩ hm21 H;dsimp only [List.nil_append] at H;obtain ⟨A21,c21,rfl,-,-⟩:=hR21.buf.shape;obtain ⟨B21,d21,rfl,-,-⟩:=hR21.prt.shape;refine K11 _ _ ?_;clear K11;refine c_seq (fun _ K12=>?_)
 have he:prsE t=scE (scR t):=by rw [prsE,if_neg (by omega),if_neg (by simpa using h9),if_neg (by simp [h13])]
 refine kP H (SC (Rm rfl (Rk rfl (Rf fd321_5lpc rfl (Ro ty22fst 0 rfl rfl (Rc rfl (Kn K12 ?_)))))));clear H K12;intro a H;refine c_cond H rfl ?_ ?_
 ·intro h26
  try have p26:=dT h26
  refine c_seq (fun _ K13=>?_);have H:=H.sub (T':=[(4,_)]) ⟨rfl,trivial⟩;refine c_drawI (hmx) [[],[0],[0,1],[0,1,2],[],[0,1,2,3,4]] [] (by kernel_rfl) (by kernel_rfl) (fun (ix_:Nat) (v:Value) (G:GH)=>match ix_ with|0=>v=.pointer (some ⟨b19,0,none⟩)|1=>v=.pointer (some ⟨b19,0,none⟩)|2=>v=.pointer (some ⟨b19,6,none⟩)|3=>v=vi (scE (scR t))|4=>v=.slice none 0 0|5=>v=vi (scE (scR t))|_=>True) (fun _ _ _ _ _ h=>h) H ?_ ?_
  ·clear H;refine al4 ?_ ?_ ?_ ?_ (allI_cons ?_ (allI_cons ?_ allI_nil))
   ·exact Z0 rfl rfl fun _ _ _ _ _=>Rm rfl
   ·exact Z1 0 27 rfl rfl fun _ _ _ _ _=>Rk rfl
   ·exact Z1 1 28 rfl rfl fun _ _ _ _ _=>Rf fd321_5lpc rfl
   ·exact Z1 2 29 rfl rfl fun _ _ _ _ _=>Ro ty22fst 0 rfl rfl
   ·exact Z0 rfl rfl fun _ _ _ _ _=>Ra rfl
   exact Op1 3 30 rfl rfl fun _ _ _ _ hG _ H fin=>kH H (Ra rfl fun _ H=>fin H iJ rfl)
  clear H;intro a w G hGm10 H hv;obtain ⟨u2,hu2,hp2⟩:=hv 4 2 (by decide) rfl;obtain rfl:u2=.slice none 0 0:=hp2;have H:=H.addS hu2;obtain ⟨u3,hu3,hp3⟩:=hv 5 3 (by decide) rfl;obtain rfl:u3=vi (scE (scR t)):=hp3;have H:=H.addS hu3;clear hv;refine wl_nil ⟨rfl,?_⟩;refine K13 _ _ ?_;clear K13;refine c_ret ?_;refine (leaveT H Tryz.results192 (.cons (rv_tmp H rfl) (.cons (rv_tmp H rfl) .nil)) ?_).1
  first
   | exact H.hp.ret ⟨_,by rw [he0],by rw [prsS,if_pos he0];exact hrep⟩
   | exact H.hp.ret ⟨_,by rw [he],by rw [prsS,if_neg (by rw [he];first|decide|assumption)];exact RepV.nil_ rfl (by decide)⟩
 intro h26
 try have p26:=dF h26
 refine c_skip ?_;refine K10 _ _ ?_;clear K10;refine c_seq (fun _ K14=>?_)
 have he0:prsE t=0:=by rw [he];omega
 have H:=(St.cast H (show _=[_]++(Lp'++Lo') from rfl)).perm (List.Perm.append_left _ List.perm_append_comm);have H:=St.un H;obtain ⟨Gr,hmr,hrep,H⟩:=St.giveRow (Li:=[_]++Lo') (Lo:=Lp') H hR21.prt (rows:=(flS (scR t).lit (scR t).parts).map LpD.dat) (by simp) (lp_cat _ _);dsimp only [List.cons_append,List.nil_append] at H;refine kP H (SC (Rm rfl (Rk rfl (Rf fd321_3lfl rfl (Ro ty288lfl 0 rfl rfl (Ra rfl (Ra rfl (Kn K14 ?_))))))));clear H K14;intro a H;refine c_ret ?_;refine (leaveT H Tryz.results192 (.cons (rv_tmp H rfl) (.cons (rv_tmp H rfl) .nil)) ?_).1
 first
  | exact H.hp.ret ⟨_,by rw [he0],by rw [prsS,if_pos he0];exact hrep⟩
  | exact H.hp.ret ⟨_,by rw [he],by rw [prsS,if_neg (by rw [he];first|decide|assumption)];exact RepV.nil_ rfl (by decide)⟩
structure LvD where
 fmt:Int
 start:Int
 tmpl:ByteArray
 restart:Int
def LvD.dat (x:LvD):List Dat:=[li x.fmt,li x.start,.lf (.string x.tmpl),li x.restart]
abbrev LvD.cells (x:LvD):List Value:=[vi x.fmt,vi x.start,.string x.tmpl,vi x.restart]
theorem lv_of {G:GH} {x:LvD} {cs:List Value} (h:RepRow G x.dat cs):cs=x.cells:=by
 simp only [LvD.dat,RepRow,RepV] at h
 obtain ⟨_,_,rfl,⟨rfl,_⟩,_,_,rfl,⟨rfl,_⟩,_,_,rfl,⟨rfl,_⟩,_,_,rfl,⟨rfl,_⟩,rfl⟩:=h
 rfl
theorem indexLp_spec (G:GH) (w0:World) (hG:Hold G w0) (l:List LpD) (p:LpD→Bool) (v fv:Value) (hv:RepV G (.sl 3 (l.map LpD.dat)) v) (hf:∀ x∈l,Tester fv G x.dat (p x)) :
  Calls Tryz.prog 225 #[v,fv] w0 (Ret w0 G fun u G'=>u=vi (ixI (l.findIdx? p))):=by
 obtain ⟨A,c,rfl,hc1,hc2,hg⟩:=hv.slice;have hml:maxLen=9223372036854775807:=rfl;rw [List.length_map] at *;refine eN [(0,_),(1,_)] Tryz.func225 rfl Tryz.ntmps225 rfl rfl hG ?_;intro a H;refine kP H (SR fun _ K1=>Ra rfl (Kz K1 (SQ fun _ K2=>SR fun _ K3=>Rm rfl (Rl un288lfl rfl (Rm rfl (Kz K3 (SB ?_)))))));clear H K1 K3;intro a H;skip;refine c_loopS (ι:=Nat × GH) (Tc:=[(0,_),(1,_),(7,_)]) (Lc:=[]) (fun (gh:Nat × GH)=>[(8,vi gh.1)]) (fun (gh:Nat × GH)=>[]) (fun (gh:Nat × GH)=>gh.2) (fun (gh:Nat × GH)=>gh.1≤l.length∧(l.take gh.1).findIdx? p=none∧(∀ b o,G b=some o→gh.2 b=some o)) (fun (gh:Nat × GH)=>l.length - gh.1) ((0,G)) (by exact (H).sub ⟨rfl,rfl,rfl,rfl,trivial⟩) ?_ ?_
 ·exact ⟨by omega,rfl,fun _ _ h=>h⟩
 clear H;intro gh a w hI H;obtain ⟨k,g⟩:=gh;dsimp only at hI H;obtain ⟨hk,hno,hgm⟩:=hI;dsimp only [List.cons_append,List.nil_append,List.append_nil] at H;refine kP H (SR fun _ K4=>Rc rfl (Kz K4 (SQ fun _ K5=>?_)));clear H K4;intro a H;refine c_cond H rfl ?_ ?_
 ·intro h9
  try have p9:=dT h9
  have hk2:k < l.length:=by omega
  obtain ⟨b,o,cs,rfl,hcl,hrow,hr⟩:=hg k l[k].dat (by simp [hk2]);obtain rfl:=lp_of hr;refine kP H (Kc K5 (SQ fun _ K6=>SB (SR fun _ K7=>Rm rfl (Ra rfl (Kz K7 (SR fun _ K8=>Rm rfl (Rm rfl (Rm rfl (Ri un288lfl ty293lfl rfl rfl ?_)))))))));clear H K5 K7;intro a H;refine s_loada ty293lfl (cs:=l[k].cells) H wn rfl rfl (fun j v hj=>H.hp.gcell (gcell_mono hgm (hrow j v hj))) rfl ?_;clear H;intro a H;refine s_callv0 H wn rfl rfl (hf _ (List.getElem_mem hk2) _ _ _ hgm H.hp.ro (lp_row _ l[k])) rfl ?_;clear H;rintro v16 G16 a w rfl hm16 H;refine K8 _ _ ?_;clear K8;refine c_cond H rfl ?_ ?_
  ·intro h16
   try have p16:=dT h16
   refine kP H (SR fun _ K9=>Rm rfl (Ra rfl (Kz K9 ?_)));clear H K9;intro a H;refine lr H Tryz.results225 rfl ?_
   first
    | exact H.hp.ret (by rw [idx_stop hk2 hno h16];rfl)
    | exact H.hp.ret (by rw [show l.take k=l from List.take_of_length_le (by omega)] at hno;rw [hno];rfl)
  intro h16
  try have p16:=dF h16
  refine kP H (Kc K6 (SC (Rd rfl (Rm rfl ?_))));clear H K6;intro a H;refine wl_nil ?_;refine loop_end ((k+1,G16)) (by exact (H).sub ⟨rfl,rfl,rfl,rfl,trivial⟩) ?_ ?_
  ·(try dsimp only);exact ⟨by omega,idx_next hk2 hno h16,fun b o h=>hm16 b o (hgm b o h)⟩
  first|omega|(dsimp only;omega)
 intro h9
 try have p9:=dF h9
 refine c_exit ?_;refine K2 _ _ ?_;clear K2;refine kP H (SR fun _ K10=>Ra rfl (Kz K10 ?_));clear H K10;intro a H;refine lr H Tryz.results225 rfl ?_
 first
  | exact H.hp.ret (by rw [idx_stop hk2 hno h16];rfl)
  | exact H.hp.ret (by rw [show l.take k=l from List.take_of_length_le (by omega)] at hno;rw [hno];rfl)
theorem containsLp_spec (G:GH) (w0:World) (hG:Hold G w0) (l:List LpD) (p:LpD→Bool) (v fv:Value) (hv:RepV G (.sl 3 (l.map LpD.dat)) v) (hf:∀ x∈l,Tester fv G x.dat (p x)) :
  Calls Tryz.prog 193 #[v,fv] w0 (Ret w0 G fun u G'=>u=.bool (l.findIdx? p).isSome):=by
 obtain ⟨A,c,rfl,hc1,hc2,-⟩:=hv.slice;rw [List.length_map] at *;refine eN [(0,_),(1,_)] Tryz.func193 rfl Tryz.ntmps193 rfl rfl hG ?_;intro a H;refine kP H (SR fun _ K1=>Ra rfl (Kz K1 (SR fun _ K2=>Rm rfl (Rm rfl ?_))));clear H K1;intro a H;refine s_call en225lps H wn rfl (indexLp_spec _ _ H.hp.ro l p _ _ hv hf) rfl ?_;clear H;rintro v7 G7 a w rfl hm7 H;refine kH H (Rc rfl (Ra rfl (Kz K2 ?_)));clear H K2;intro a H;refine lr H Tryz.results193 rfl ?_;exact H.hp.ret (congrArg Value.bool (ixI_some _))
theorem lvl_test {G:GH} {bl:Nat} {k:Int} (hb:gcell G bl 0=some (vi k)) (x:LpD):Tester (.func (.func 194) #[] #[.pointer (some ⟨bl,0,none⟩)]) G x.dat (decide (k < x.level)):=by
 intro G1 w0 cs hm hG hr;refine callV_func (caps:=[.pointer (some ⟨bl,0,none⟩)]) en194lps ?_;obtain rfl:=lp_of hr;replace hb:=gcell_mono hm hb;refine eN [(0,_),(1,_)] Tryz.func194 rfl Tryz.ntmps194 rfl rfl hG ?_;intro a H;refine c_seqR (fun _ K1=>?_);refine s_box (cs:=[_,_,_]) H wn rfl rfl rfl ?_;clear H;intro b2 a w hb2 H;refine kH H (Ra rfl (Kz K1 (SR fun _ K2=>Rf fd293_1lps rfl (Ro ty3run 0 rfl rfl (Rg ty3run rfl (by assumption) ?_)))));clear H K1;intro a H;refine kH H (Rc rfl (Ra rfl (Kz K2 ?_)));clear H K2;intro a H;refine lr H Tryz.results194 rfl ?_;exact H.hp.ret rfl
/-- The error of a template for a level. -/
def ltE (t:ByteArray) (k:Int):Int:=if k < 1∨9 < k then 2 else if prsE t=0∧((prsS t).findIdx? fun x=>decide (k < x.level)).isSome=true then 6 else prsE t
theorem ltCheck_spec (G:GH) (w0:World) (hG:Hold G w0) (t:ByteArray) (k:Int) (ht:t.size < 4611686018427387904) :
  Calls Tryz.prog 131 #[.string t,vi k] w0 (Ret w0 G fun u G'=>u=vi (ltE t k)):=by
 refine eN [(0,_),(1,_)] Tryz.func131 rfl Tryz.ntmps131 rfl rfl hG ?_;intro a H;refine c_seqR (fun _ K1=>?_);refine s_box (cs:=[_]) H wn rfl rfl rfl ?_;clear H;intro b3 a w hb3 H;refine kH H (Ra rfl (Kz K1 (SQ fun _ K2=>SR fun _ K3=>Ro ty3run 0 rfl rfl (Rc rfl (Rm rfl ?_)))));clear H K1;intro a H;refine s_split H 9 rfl ?_ ?_
 ·intro h9
  try have p9:=dT h9
  refine kH H (Ks h9 rfl (Ks h9 rfl (Pt h9 rfl (Kz K3 ?_))));clear H K3;intro a H;refine c_cond_t H rfl rfl ?_;refine kP H (SR fun _ K4=>Ra rfl (Kz K4 ?_));clear H K4;intro a H;refine lr H Tryz.results131 rfl ?_
  exact H.hp.ret (congrArg vi (by unfold ltE;(repeat' split) <;> first|rfl|(exfalso;simp_all;done)|(exfalso;simp_all;omega)|(simp_all;done)))
 intro h9
 try have p9:=dF h9
 refine kH H (YO ty3run 0 h9 rfl rfl (YC h9 rfl (Pf h9 rfl (Kz K3 ?_))));clear H K3;intro a H;refine c_cond H rfl ?_ ?_
 ·intro h12
  try have p12:=dT h12
  refine kP H (SR fun _ K5=>Ra rfl (Kz K5 ?_));clear H K5;intro a H;refine lr H Tryz.results131 rfl ?_
  exact H.hp.ret (congrArg vi (by unfold ltE;(repeat' split) <;> first|rfl|(exfalso;simp_all;done)|(exfalso;simp_all;omega)|(simp_all;done)))
 intro h12
 try have p12:=dF h12
 refine c_skip ?_;refine K2 _ _ ?_;clear K2;refine c_seq (fun _ K6=>?_);obtain ⟨Ga,hma,hb3',H⟩:=H.giveBox
 have hbk:gcell Ga b3 0=some (vi k):=by unfold gcell;rw [hb3'];rfl
 refine kP H (SC (Rm rfl ?_));clear H;intro a H;refine s_call en192lps H wn rfl (parse_spec _ _ H.hp.ro t ht) rfl ?_;clear H;rintro v15 G15 a w ⟨x15,rfl,hx15⟩ hm15 H;obtain ⟨A15,c15,rfl,-,-,-⟩:=hx15.slice;replace hbk:=gcell_mono hm15 hbk;refine kH H (Rm rfl ?_);clear H;intro a H;(iterate 2 refine s_extract H wn rfl rfl rfl ?_;clear H;intro a H);refine kH H (Ra rfl (Ra rfl (Kn K6 (SQ fun _ K7=>SR fun _ K8=>Rm rfl (Rc rfl (Rm rfl ?_))))));clear H K6;intro a H;refine s_split H 20 rfl ?_ ?_
 ·intro h20
  try have p20:=dT h20
  refine kH H (YM h20 rfl ?_);clear H;intro a H;refine s_makeFunc H (wg H rfl rfl h20) rfl rfl ?_;clear H;intro a H;refine s_call en193lps H (wg H rfl rfl h20) rfl (containsLp_spec _ _ H.hp.ro _ (fun x=>decide (k < x.level)) _ _ hx15 (fun x _=>lvl_test hbk x)) rfl ?_;clear H;rintro v23 G23 a w rfl hm23 H;refine kH H (Pt h20 rfl (Kz K8 ?_));clear H K8;intro a H;refine c_cond H rfl ?_ ?_
  ·intro h24
   try have p24:=dT h24
   refine kP H (SC (Ra rfl (Kn K7 (SR fun _ K9=>Rm rfl (Ra rfl (Kz K9 ?_))))));clear H K7 K9;intro a H;refine lr H Tryz.results131 rfl ?_
   exact H.hp.ret (congrArg vi (by unfold ltE;(repeat' split) <;> first|rfl|(exfalso;simp_all;done)|(exfalso;simp_all;omega)|(simp_all;done)))
  intro h24
  try have p24:=dF h24
  refine kP H (Kc K7 (SR fun _ K10=>Rm rfl (Ra rfl (Kz K10 ?_))));clear H K7 K10;intro a H;refine lr H Tryz.results131 rfl ?_
  exact H.hp.ret (congrArg vi (by unfold ltE;(repeat' split) <;> first|rfl|(exfalso;simp_all;done)|(exfalso;simp_all;omega)|(simp_all;done)))
 intro h20
 try have p20:=dF h20
 refine kH H (Ks h20 rfl (Ks h20 rfl (Ks h20 rfl (Pf h20 rfl (Kz K8 ?_)))));clear H K8;intro a H;refine c_cond_f H rfl rfl ?_;refine kP H (Kc K7 (SR fun _ K11=>Rm rfl (Ra rfl (Kz K11 ?_))));clear H K7 K11;intro a H;refine lr H Tryz.results131 rfl ?_
 exact H.hp.ret (congrArg vi (by unfold ltE;(repeat' split) <;> first|rfl|(exfalso;simp_all;done)|(exfalso;simp_all;omega)|(simp_all;done)))
end
section
open Go.RowKit
theorem ty102lcl:Ty Tryz.prog 102 4 40 [.int .i64 0,.int .i64 0,.string ⟨#[]⟩,.int .i64 0] true:=⟨by kernel_rfl,by kernel_rfl⟩
theorem un103lcl:Tryz.prog.underlying 103=some (.slice 102):=by kernel_rfl
theorem fd102_0lcl:Fld Tryz.prog 102 0 0:=⟨by kernel_rfl⟩
theorem fd102_1lcl:Fld Tryz.prog 102 1 1:=⟨by kernel_rfl⟩
theorem fd102_2lcl:Fld Tryz.prog 102 2 2:=⟨by kernel_rfl⟩
theorem en131lcl:∀ args w,(callFunc 131 args).run Tryz.prog w=.ok (.enter 131 args) w:=enters Tryz.func131 rfl (by kernel_rfl)
theorem fd102_3lcl:Fld Tryz.prog 102 3 3:=⟨by kernel_rfl⟩
def clvF:Nat→List LvD→Int
 | _,[]=>0
 | i,x :: r=>if x.fmt < 1∨7 < x.fmt then 3 else if x.start < 0∨32767 < x.start then 2 else if ltE x.tmpl ((i+1:Nat):Int)≠0 then ltE x.tmpl ((i+1:Nat):Int) else if x.restart < 0∨(i:Int) < x.restart then 5 else clvF (i+1) r
/-- The error of the levels of a list. -/
def clvE (l:List LvD):Int:=if l.length=0 then 11 else if 9 < l.length then 9 else clvF 0 l
theorem clvF_at {l:List LvD} {k:Nat} (h:k < l.length):clvF k (l.drop k)=if l[k].fmt < 1∨7 < l[k].fmt then 3 else if l[k].start < 0∨32767 < l[k].start then 2 else if ltE l[k].tmpl ((k+1:Nat):Int)≠0 then ltE l[k].tmpl ((k+1:Nat):Int) else if l[k].restart < 0∨(k:Int) < l[k].restart then 5 else clvF (k+1) (l.drop (k+1)):=by
 rw [List.drop_eq_getElem_cons h,clvF]
theorem checkLevels_spec (G:GH) (w0:World) (hG:Hold G w0) (l:List LvD) (v:Value) (hv:RepV G (.sl 4 (l.map LvD.dat)) v) (ht:∀ x∈l,x.tmpl.size < 4611686018427387904) :
  Calls Tryz.prog 57 #[v] w0 (Ret w0 G fun u G'=>u=vi (clvE l)):=by
 obtain ⟨A,c,rfl,hc1,hc2,hg⟩:=hv.slice;have hml:maxLen=9223372036854775807:=rfl;rw [List.length_map] at *;refine eN [(0,_)] Tryz.func57 rfl Tryz.ntmps57 rfl rfl hG ?_;intro a H;refine kP H (SR fun _ K1=>Ra rfl (Kz K1 (SQ fun _ K2=>SB (SR fun _ K3=>Rm rfl (Rl un103lcl rfl (Rc rfl (Ra rfl (Kz K3 ?_))))))));clear H K1 K3;intro a H;refine c_cond H rfl ?_ ?_
 ·intro h6
  try have p6:=dT h6
  refine kP H (SR fun _ K4=>Ra rfl (Kz K4 ?_));clear H K4;intro a H;refine lr H Tryz.results57 rfl ?_
  first
   | exact H.hp.ret (congrArg vi (by rw [clvE,if_pos (by omega)]))
   | exact H.hp.ret (congrArg vi (by rw [clvE,if_neg (by omega),if_pos (by omega)]))
   | exact H.hp.ret (congrArg vi (by rw [clvE,if_neg (by omega),if_neg (by omega),← he,clvF_at hk2,if_pos (by omega)]))
   | exact H.hp.ret (congrArg vi (by rw [clvE,if_neg (by omega),if_neg (by omega),← he,clvF_at hk2,if_neg (by omega),if_pos (by omega)]))
   | exact H.hp.ret (congrArg vi (by rw [clvE,if_neg (by omega),if_neg (by omega),← he,clvF_at hk2,if_neg (by omega),if_neg (by omega),if_pos p45]))
   | exact H.hp.ret (congrArg vi (by rw [clvE,if_neg (by omega),if_neg (by omega),← he,clvF_at hk2,if_neg (by omega),if_neg (by omega),if_neg p45,if_pos (by omega)]))
   | exact H.hp.ret (congrArg vi (by rw [clvE,if_neg (by omega),if_neg (by omega),← he,List.drop_of_length_le (by omega)];rfl))
 intro h6
 try have p6:=dF h6
 refine kP H (SR fun _ K5=>Rm rfl (Rl un103lcl rfl (Rc rfl (Ra rfl (Kz K5 ?_)))));clear H K5;intro a H;refine c_cond H rfl ?_ ?_
 ·intro h10
  try have p10:=dT h10
  refine kP H (SR fun _ K6=>Ra rfl (Kz K6 ?_));clear H K6;intro a H;refine lr H Tryz.results57 rfl ?_
  first
   | exact H.hp.ret (congrArg vi (by rw [clvE,if_pos (by omega)]))
   | exact H.hp.ret (congrArg vi (by rw [clvE,if_neg (by omega),if_pos (by omega)]))
   | exact H.hp.ret (congrArg vi (by rw [clvE,if_neg (by omega),if_neg (by omega),← he,clvF_at hk2,if_pos (by omega)]))
   | exact H.hp.ret (congrArg vi (by rw [clvE,if_neg (by omega),if_neg (by omega),← he,clvF_at hk2,if_neg (by omega),if_pos (by omega)]))
   | exact H.hp.ret (congrArg vi (by rw [clvE,if_neg (by omega),if_neg (by omega),← he,clvF_at hk2,if_neg (by omega),if_neg (by omega),if_pos p45]))
   | exact H.hp.ret (congrArg vi (by rw [clvE,if_neg (by omega),if_neg (by omega),← he,clvF_at hk2,if_neg (by omega),if_neg (by omega),if_neg p45,if_pos (by omega)]))
   | exact H.hp.ret (congrArg vi (by rw [clvE,if_neg (by omega),if_neg (by omega),← he,List.drop_of_length_le (by omega)];rfl))
 intro h10
 try have p10:=dF h10
 refine kP H (Kc K2 (SQ fun _ K7=>SR fun _ K8=>Rm rfl (Rl un103lcl rfl (Rm rfl (Kz K8 (SB ?_))))));clear H K2 K8;intro a H;skip;refine c_loopS (ι:=Nat × GH) (Tc:=[(14,_),(15,_)]) (Lc:=[]) (fun (gh:Nat × GH)=>[(16,vi gh.1)]) (fun (gh:Nat × GH)=>[]) (fun (gh:Nat × GH)=>gh.2) (fun (gh:Nat × GH)=>gh.1≤l.length∧clvF gh.1 (l.drop gh.1)=clvF 0 l∧(∀ b o,G b=some o→gh.2 b=some o)) (fun (gh:Nat × GH)=>l.length - gh.1) ((0,G)) (by exact (H).sub ⟨rfl,rfl,rfl,trivial⟩) ?_ ?_
 ·exact ⟨Nat.zero_le _,rfl,fun _ _ h=>h⟩
 clear H;intro gh a w hI H;obtain ⟨k,g⟩:=gh;dsimp only at hI H;obtain ⟨hk,he,hgm⟩:=hI;dsimp only [List.cons_append,List.nil_append,List.append_nil] at H;refine kP H (SR fun _ K9=>Rc rfl (Kz K9 (SQ fun _ K10=>?_)));clear H K9;intro a H;refine c_cond H rfl ?_ ?_
 ·intro h17
  try have p17:=dT h17
  have hk2:k < l.length:=by omega
  obtain ⟨b,o,cs,rfl,hcl,hrow,hr⟩:=hg k l[k].dat (by simp [hk2]);obtain rfl:=lv_of hr;refine kP H (Kc K10 (SQ fun _ K11=>SB (SR fun _ K12=>Rm rfl (Ri un103lcl ty102lcl rfl rfl ?_))));clear H K10;intro a H;refine s_loada ty102lcl (cs:=l[k].cells) H wn rfl rfl (fun j v hj=>H.hp.gcell (gcell_mono hgm (hrow j v hj))) rfl ?_;clear H;intro a H;refine s_alloc ty102lcl H wn rfl ?_;clear H;intro b4 a w hb4 H;refine kH H (Ra rfl ?_);clear H;intro a H;refine s_store ty102lcl 0 (vs:=[_,_,_,_]) _ H wn rfl rfl rfl rfl rfl rfl rfl rfl ?_;clear H;intro w H;dsimp only [List.set,setRow] at H;refine K12 _ _ ?_;clear K12;refine kP H (SQ fun _ K13=>SB (SR fun _ K14=>Rf fd102_0lcl rfl (Ro ty3run 0 rfl rfl (Rc rfl (Rm rfl ?_)))));clear H;intro a H;refine s_split H 25 rfl ?_ ?_
  ·intro h25
   try have p25:=dT h25
   refine kH H (Ks h25 rfl (Ks h25 rfl (Ks h25 rfl (Pt h25 rfl (Ra rfl (Kz K14 ?_))))));clear H K14;intro a H;refine c_cond_t H rfl rfl ?_;refine kP H (SR fun _ K15=>Ra rfl (Kz K15 ?_));clear H K15;intro a H;refine lr H Tryz.results57 rfl ?_
   first
    | exact H.hp.ret (congrArg vi (by rw [clvE,if_pos (by omega)]))
    | exact H.hp.ret (congrArg vi (by rw [clvE,if_neg (by omega),if_pos (by omega)]))
    | exact H.hp.ret (congrArg vi (by rw [clvE,if_neg (by omega),if_neg (by omega),← he,clvF_at hk2,if_pos (by omega)]))
    | exact H.hp.ret (congrArg vi (by rw [clvE,if_neg (by omega),if_neg (by omega),← he,clvF_at hk2,if_neg (by omega),if_pos (by omega)]))
    | exact H.hp.ret (congrArg vi (by rw [clvE,if_neg (by omega),if_neg (by omega),← he,clvF_at hk2,if_neg (by omega),if_neg (by omega),if_pos p45]))
    | exact H.hp.ret (congrArg vi (by rw [clvE,if_neg (by omega),if_neg (by omega),← he,clvF_at hk2,if_neg (by omega),if_neg (by omega),if_neg p45,if_pos (by omega)]))
    | exact H.hp.ret (congrArg vi (by rw [clvE,if_neg (by omega),if_neg (by omega),← he,List.drop_of_length_le (by omega)];rfl))
  intro h25
  try have p25:=dF h25
  refine kH H (YF fd102_0lcl h25 rfl (YO ty3run 0 h25 rfl rfl (YC h25 rfl (Pf h25 rfl (Ra rfl (Kz K14 ?_))))));clear H K14;intro a H;refine c_cond H rfl ?_ ?_
  ·intro h21
   try have p21:=dT h21
   refine kP H (SR fun _ K16=>Ra rfl (Kz K16 ?_));clear H K16;intro a H;refine lr H Tryz.results57 rfl ?_
   first
    | exact H.hp.ret (congrArg vi (by rw [clvE,if_pos (by omega)]))
    | exact H.hp.ret (congrArg vi (by rw [clvE,if_neg (by omega),if_pos (by omega)]))
    | exact H.hp.ret (congrArg vi (by rw [clvE,if_neg (by omega),if_neg (by omega),← he,clvF_at hk2,if_pos (by omega)]))
    | exact H.hp.ret (congrArg vi (by rw [clvE,if_neg (by omega),if_neg (by omega),← he,clvF_at hk2,if_neg (by omega),if_pos (by omega)]))
    | exact H.hp.ret (congrArg vi (by rw [clvE,if_neg (by omega),if_neg (by omega),← he,clvF_at hk2,if_neg (by omega),if_neg (by omega),if_pos p45]))
    | exact H.hp.ret (congrArg vi (by rw [clvE,if_neg (by omega),if_neg (by omega),← he,clvF_at hk2,if_neg (by omega),if_neg (by omega),if_neg p45,if_pos (by omega)]))
    | exact H.hp.ret (congrArg vi (by rw [clvE,if_neg (by omega),if_neg (by omega),← he,List.drop_of_length_le (by omega)];rfl))
  intro h21
  try have p21:=dF h21
  refine kP H (SR fun _ K17=>Rf fd102_1lcl rfl (Ro ty3run 0 rfl rfl (Rc rfl (Rm rfl ?_))));clear H;intro a H;refine s_split H 34 rfl ?_ ?_
  ·intro h34
   try have p34:=dT h34
   refine kH H (Ks h34 rfl (Ks h34 rfl (Ks h34 rfl (Pt h34 rfl (Ra rfl (Kz K17 ?_))))));clear H K17;intro a H;refine c_cond_t H rfl rfl ?_;refine kP H (SR fun _ K18=>Ra rfl (Kz K18 ?_));clear H K18;intro a H;refine lr H Tryz.results57 rfl ?_
   first
    | exact H.hp.ret (congrArg vi (by rw [clvE,if_pos (by omega)]))
    | exact H.hp.ret (congrArg vi (by rw [clvE,if_neg (by omega),if_pos (by omega)]))
    | exact H.hp.ret (congrArg vi (by rw [clvE,if_neg (by omega),if_neg (by omega),← he,clvF_at hk2,if_pos (by omega)]))
    | exact H.hp.ret (congrArg vi (by rw [clvE,if_neg (by omega),if_neg (by omega),← he,clvF_at hk2,if_neg (by omega),if_pos (by omega)]))
    | exact H.hp.ret (congrArg vi (by rw [clvE,if_neg (by omega),if_neg (by omega),← he,clvF_at hk2,if_neg (by omega),if_neg (by omega),if_pos p45]))
    | exact H.hp.ret (congrArg vi (by rw [clvE,if_neg (by omega),if_neg (by omega),← he,clvF_at hk2,if_neg (by omega),if_neg (by omega),if_neg p45,if_pos (by omega)]))
    | exact H.hp.ret (congrArg vi (by rw [clvE,if_neg (by omega),if_neg (by omega),← he,List.drop_of_length_le (by omega)];rfl))
  intro h34
  try have p34:=dF h34
  refine kH H (YF fd102_1lcl h34 rfl (YO ty3run 0 h34 rfl rfl (YC h34 rfl (Pf h34 rfl (Ra rfl (Kz K17 ?_))))));clear H K17;intro a H;refine c_cond H rfl ?_ ?_
  ·intro h30
   try have p30:=dT h30
   refine kP H (SR fun _ K19=>Ra rfl (Kz K19 ?_));clear H K19;intro a H;refine lr H Tryz.results57 rfl ?_
   first
    | exact H.hp.ret (congrArg vi (by rw [clvE,if_pos (by omega)]))
    | exact H.hp.ret (congrArg vi (by rw [clvE,if_neg (by omega),if_pos (by omega)]))
    | exact H.hp.ret (congrArg vi (by rw [clvE,if_neg (by omega),if_neg (by omega),← he,clvF_at hk2,if_pos (by omega)]))
    | exact H.hp.ret (congrArg vi (by rw [clvE,if_neg (by omega),if_neg (by omega),← he,clvF_at hk2,if_neg (by omega),if_pos (by omega)]))
    | exact H.hp.ret (congrArg vi (by rw [clvE,if_neg (by omega),if_neg (by omega),← he,clvF_at hk2,if_neg (by omega),if_neg (by omega),if_pos p45]))
    | exact H.hp.ret (congrArg vi (by rw [clvE,if_neg (by omega),if_neg (by omega),← he,clvF_at hk2,if_neg (by omega),if_neg (by omega),if_neg p45,if_pos (by omega)]))
    | exact H.hp.ret (congrArg vi (by rw [clvE,if_neg (by omega),if_neg (by omega),← he,List.drop_of_length_le (by omega)];rfl))
  intro h30
  try have p30:=dF h30
  refine kP H (Kc K13 (SQ fun _ K20=>SR fun _ K21=>Rf fd102_2lcl rfl (Ro ty9run 0 rfl rfl (Rm rfl (Rd rfl ?_)))));clear H K13;intro a H;rw [show ((k:Int)+1)=((k+1:Nat):Int) from rfl] at H;refine s_call en131lcl H wn rfl (ltCheck_spec _ _ H.hp.ro l[k].tmpl ((k+1:Nat):Int) (ht _ (List.getElem_mem hk2))) rfl ?_;clear H;rintro v43 G43 a w rfl hm43 H;refine kH H (Ra rfl (Kz K21 (SR fun _ K22=>Rm rfl (Rc rfl (Kz K22 ?_)))));clear H K21 K22;intro a H;refine c_cond H rfl ?_ ?_
  ·intro h45
   try have p45:=dT h45
   refine kP H (SR fun _ K23=>Rm rfl (Ra rfl (Kz K23 ?_)));clear H K23;intro a H;refine lr H Tryz.results57 rfl ?_
   first
    | exact H.hp.ret (congrArg vi (by rw [clvE,if_pos (by omega)]))
    | exact H.hp.ret (congrArg vi (by rw [clvE,if_neg (by omega),if_pos (by omega)]))
    | exact H.hp.ret (congrArg vi (by rw [clvE,if_neg (by omega),if_neg (by omega),← he,clvF_at hk2,if_pos (by omega)]))
    | exact H.hp.ret (congrArg vi (by rw [clvE,if_neg (by omega),if_neg (by omega),← he,clvF_at hk2,if_neg (by omega),if_pos (by omega)]))
    | exact H.hp.ret (congrArg vi (by rw [clvE,if_neg (by omega),if_neg (by omega),← he,clvF_at hk2,if_neg (by omega),if_neg (by omega),if_pos p45]))
    | exact H.hp.ret (congrArg vi (by rw [clvE,if_neg (by omega),if_neg (by omega),← he,clvF_at hk2,if_neg (by omega),if_neg (by omega),if_neg p45,if_pos (by omega)]))
    | exact H.hp.ret (congrArg vi (by rw [clvE,if_neg (by omega),if_neg (by omega),← he,List.drop_of_length_le (by omega)];rfl))
  intro h45
  try have p45:=dF h45
  refine kP H (Kc K20 (SR fun _ K24=>Rf fd102_3lcl rfl (Ro ty3run 0 rfl rfl (Rc rfl (Rm rfl ?_)))));clear H K20;intro a H;refine s_split H 50 rfl ?_ ?_
  ·intro h50
   try have p50:=dT h50
   refine kH H (Ks h50 rfl (Ks h50 rfl (Ks h50 rfl (Ks h50 rfl (Pt h50 rfl (Kz K24 ?_))))));clear H K24;intro a H;refine c_cond_t H rfl rfl ?_;refine kP H (SR fun _ K25=>Ra rfl (Kz K25 ?_));clear H K25;intro a H;refine lr H Tryz.results57 rfl ?_
   first
    | exact H.hp.ret (congrArg vi (by rw [clvE,if_pos (by omega)]))
    | exact H.hp.ret (congrArg vi (by rw [clvE,if_neg (by omega),if_pos (by omega)]))
    | exact H.hp.ret (congrArg vi (by rw [clvE,if_neg (by omega),if_neg (by omega),← he,clvF_at hk2,if_pos (by omega)]))
    | exact H.hp.ret (congrArg vi (by rw [clvE,if_neg (by omega),if_neg (by omega),← he,clvF_at hk2,if_neg (by omega),if_pos (by omega)]))
    | exact H.hp.ret (congrArg vi (by rw [clvE,if_neg (by omega),if_neg (by omega),← he,clvF_at hk2,if_neg (by omega),if_neg (by omega),if_pos p45]))
    | exact H.hp.ret (congrArg vi (by rw [clvE,if_neg (by omega),if_neg (by omega),← he,clvF_at hk2,if_neg (by omega),if_neg (by omega),if_neg p45,if_pos (by omega)]))
    | exact H.hp.ret (congrArg vi (by rw [clvE,if_neg (by omega),if_neg (by omega),← he,List.drop_of_length_le (by omega)];rfl))
  intro h50
  try have p50:=dF h50
  refine kH H (YF fd102_3lcl h50 rfl (YO ty3run 0 h50 rfl rfl (YM h50 rfl (YC h50 rfl (Pf h50 rfl (Kz K24 ?_))))));clear H K24;intro a H;refine c_cond H rfl ?_ ?_
  ·intro h55
   try have p55:=dT h55
   refine kP H (SR fun _ K26=>Ra rfl (Kz K26 ?_));clear H K26;intro a H;refine lr H Tryz.results57 rfl ?_
   first
    | exact H.hp.ret (congrArg vi (by rw [clvE,if_pos (by omega)]))
    | exact H.hp.ret (congrArg vi (by rw [clvE,if_neg (by omega),if_pos (by omega)]))
    | exact H.hp.ret (congrArg vi (by rw [clvE,if_neg (by omega),if_neg (by omega),← he,clvF_at hk2,if_pos (by omega)]))
    | exact H.hp.ret (congrArg vi (by rw [clvE,if_neg (by omega),if_neg (by omega),← he,clvF_at hk2,if_neg (by omega),if_pos (by omega)]))
    | exact H.hp.ret (congrArg vi (by rw [clvE,if_neg (by omega),if_neg (by omega),← he,clvF_at hk2,if_neg (by omega),if_neg (by omega),if_pos p45]))
    | exact H.hp.ret (congrArg vi (by rw [clvE,if_neg (by omega),if_neg (by omega),← he,clvF_at hk2,if_neg (by omega),if_neg (by omega),if_neg p45,if_pos (by omega)]))
    | exact H.hp.ret (congrArg vi (by rw [clvE,if_neg (by omega),if_neg (by omega),← he,List.drop_of_length_le (by omega)];rfl))
  intro h55
  try have p55:=dF h55
  refine kP H (Kc K11 (SC (Rd rfl (Rm rfl ?_))));clear H K11;intro a H;refine wl_nil ?_;refine loop_end ((k+1,G43)) (by exact (H.pickT (Pl:=[_]) (Pl':=[]) [] (by decide) rfl).sub ⟨rfl,rfl,rfl,trivial⟩) ?_ ?_
  ·(try dsimp only);exact ⟨by omega,by rw [clvF_at hk2,if_neg (by omega),if_neg (by omega),if_neg p45,if_neg (by omega)] at he;exact he,fun b o h=>hm43 b o (hgm b o h)⟩
  first|omega|(dsimp only;omega)
 intro h17
 try have p17:=dF h17
 refine c_exit ?_;refine K7 _ _ ?_;clear K7;refine kP H (SR fun _ K27=>Ra rfl (Kz K27 ?_));clear H K27;intro a H;refine lr H Tryz.results57 rfl ?_
 first
  | exact H.hp.ret (congrArg vi (by rw [clvE,if_pos (by omega)]))
  | exact H.hp.ret (congrArg vi (by rw [clvE,if_neg (by omega),if_pos (by omega)]))
  | exact H.hp.ret (congrArg vi (by rw [clvE,if_neg (by omega),if_neg (by omega),← he,clvF_at hk2,if_pos (by omega)]))
  | exact H.hp.ret (congrArg vi (by rw [clvE,if_neg (by omega),if_neg (by omega),← he,clvF_at hk2,if_neg (by omega),if_pos (by omega)]))
  | exact H.hp.ret (congrArg vi (by rw [clvE,if_neg (by omega),if_neg (by omega),← he,clvF_at hk2,if_neg (by omega),if_neg (by omega),if_pos p45]))
  | exact H.hp.ret (congrArg vi (by rw [clvE,if_neg (by omega),if_neg (by omega),← he,clvF_at hk2,if_neg (by omega),if_neg (by omega),if_neg p45,if_pos (by omega)]))
  | exact H.hp.ret (congrArg vi (by rw [clvE,if_neg (by omega),if_neg (by omega),← he,List.drop_of_length_le (by omega)];rfl))
end
section
open Go.RowKit
theorem ty42dst:Ty Tryz.prog 42 1 24 [.slice none 0 0] false:=⟨by kernel_rfl,by kernel_rfl⟩
theorem un42dst:Tryz.prog.underlying 42=some (.slice 105):=by kernel_rfl
theorem ty105dst:Ty Tryz.prog 105 2 32 [.int .i64 0,.slice none 0 0] true:=⟨by kernel_rfl,by kernel_rfl⟩
theorem fd105_0dst:Fld Tryz.prog 105 0 0:=⟨by kernel_rfl⟩
theorem ty103dst:Ty Tryz.prog 103 1 24 [.slice none 0 0] false:=⟨by kernel_rfl,by kernel_rfl⟩
theorem en121dst:∀ args w,(callFunc 121 args).run Tryz.prog w=.ok (.enter 121 args) w:=enters Tryz.func121 rfl (by kernel_rfl)
theorem fd105_1dst:Fld Tryz.prog 105 1 1:=⟨by kernel_rfl⟩
theorem en57dst:∀ args w,(callFunc 57 args).run Tryz.prog w=.ok (.enter 57 args) w:=enters Tryz.func57 rfl (by kernel_rfl)
theorem en119dst:∀ args w,(callFunc 119 args).run Tryz.prog w=.ok (.enter 119 args) w:=enters Tryz.func119 rfl (by kernel_rfl)
theorem en122dst:∀ args w,(callFunc 122 args).run Tryz.prog w=.ok (.enter 122 args) w:=enters Tryz.func122 rfl (by kernel_rfl)
theorem en120dst:∀ args w,(callFunc 120 args).run Tryz.prog w=.ok (.enter 120 args) w:=enters Tryz.func120 rfl (by kernel_rfl)
structure LiD where
 id:Int
 levels:List LvD
def LiD.dat (x:LiD):List Dat:=[li x.id,.sl 4 (x.levels.map LvD.dat)]
structure CmD where
 id:Int
 parent:Int
 author:ByteArray
 time:Int
 text:ByteArray
 done:Bool
def CmD.dat (x:CmD):List Dat:=[li x.id,li x.parent,.lf (.string x.author),li x.time,.lf (.string x.text),.lf (.bool x.done)]
abbrev CmD.cells (x:CmD):List Value:=[vi x.id,vi x.parent,.string x.author,vi x.time,.string x.text,.bool x.done]
structure VaD where
 name:ByteArray
 value:ByteArray
def VaD.dat (x:VaD):List Dat:=[.lf (.string x.name),.lf (.string x.value)]
abbrev VaD.cells (x:VaD):List Value:=[.string x.name,.string x.value]
theorem cm_of {G:GH} {x:CmD} {cs:List Value} (h:RepRow G x.dat cs):cs=x.cells:=by
 simp only [CmD.dat,RepRow,RepV] at h
 obtain ⟨_,_,rfl,⟨rfl,_⟩,_,_,rfl,⟨rfl,_⟩,_,_,rfl,⟨rfl,_⟩,_,_,rfl,⟨rfl,_⟩,_,_,rfl,⟨rfl,_⟩,_,_,rfl,⟨rfl,_⟩,rfl⟩:=h
 rfl
theorem va_of {G:GH} {x:VaD} {cs:List Value} (h:RepRow G x.dat cs):cs=x.cells:=by
 simp only [VaD.dat,RepRow,RepV] at h
 obtain ⟨_,_,rfl,⟨rfl,_⟩,_,_,rfl,⟨rfl,_⟩,rfl⟩:=h
 rfl
theorem li_at {G:GH} {l:List LiD} {A:Option Addr} {n c k:Nat} (hv:RepV G (.sl 2 (l.map LiD.dat)) (.slice A n c)) (hk:k < l.length):∃ b o B d,A=some ⟨b,o,none⟩∧(∀ j u,[vi l[k].id,.slice B l[k].levels.length d][j]?=some u→gcell G b (o+k*2+j)=some u)∧RepV G (.sl 4 (l[k].levels.map LvD.dat)) (.slice B l[k].levels.length d):=by
 obtain ⟨A',c',he,_,_,hg⟩:=hv.slice
 injection he with e1 e2 e3
 subst e1;obtain ⟨b,o,cs,h1,h2,h3,h4⟩:=hg k l[k].dat (by simp [hk])
 simp only [LiD.dat,RepRow] at h4
 obtain ⟨v1,_,rfl,⟨rfl,-⟩,v2,_,rfl,hl,rfl⟩:∃ v vs,cs=v :: vs∧RepV G (li l[k].id) v∧∃ v2 vs2,vs=v2 :: vs2∧RepV G (.sl 4 (l[k].levels.map LvD.dat)) v2∧vs2=[]:=h4;obtain ⟨B,d,rfl,-,-,-⟩:=hl.slice;rw [List.length_map] at *;exact ⟨b,o,B,d,h1,h3,hl⟩
theorem lid_cb {G:GH} {bl:Nat} {l:List LiD} {A:Option Addr} {n c:Nat} (hb:gcell G bl 0=some (.slice A n c)) (hv:RepV G (.sl 2 (l.map LiD.dat)) (.slice A n c)):IxCb (.func (.func 122) #[] #[.pointer (some ⟨bl,0,none⟩)]) G l.length fun k=>(l[k]?.map LiD.id).getD 0:=by
 intro k hk G1 w0 hm hG;refine callV_func (caps:=[.pointer (some ⟨bl,0,none⟩)]) en122dst ?_;replace hb:=gcell_mono hm hb
 obtain rfl:n=l.length:=by have:=hv.len;simpa using this
 obtain ⟨b,o,B,d,rfl,hrow,-⟩:=li_at (hv.mono hm) hk;have hq:=hrow 0 _ rfl;refine eN [(0,_),(1,_)] Tryz.func122 rfl Tryz.ntmps122 rfl rfl hG ?_;intro a H;refine kP H (SR fun _ K1=>Ra rfl (Kz K1 (SR fun _ K2=>Rg ty42dst rfl (by assumption) ?_)));clear H K1;intro a H;refine kH H (Rm rfl (Ri un42dst ty105dst rfl rfl (Rf fd105_0dst rfl (Rg ty3run rfl (by assumption) ?_))));clear H;intro a H;refine kH H (Ra rfl (Kz K2 ?_));clear H K2;intro a H;refine lr H Tryz.results122 rfl ?_;exact H.hp.ret (by dsimp only;rw [List.getElem?_eq_getElem hk];rfl)
def lisE (l:List LiD) (i:Nat):Int:=firstE [incE (fun k=>(l[k]?.map LiD.id).getD 0) i,clvE ((l[i]?.map LiD.levels).getD [])]
theorem lis_cb {G:GH} {bl:Nat} {l:List LiD} {A:Option Addr} {n c:Nat} (hb:gcell G bl 0=some (.slice A n c)) (hv:RepV G (.sl 2 (l.map LiD.dat)) (.slice A n c)) (hl:l.length≤4294967296) (ht:∀ x∈l,∀ y∈x.levels,y.tmpl.size < 4611686018427387904):IxCb (.func (.func 120) #[] #[.pointer (some ⟨bl,0,none⟩)]) G l.length (lisE l):=by
 intro k hk G1 w0 hm hG;refine callV_func (caps:=[.pointer (some ⟨bl,0,none⟩)]) en120dst ?_;replace hb:=gcell_mono hm hb;replace hv:=hv.mono hm;have hcb:=lid_cb hb hv
 obtain rfl:n=l.length:=by have:=hv.len;simpa using this
 obtain ⟨b,o,B,d,rfl,hrow,hlv⟩:=li_at hv hk;have hq:=hrow 1 _ rfl
 have he:lisE l k=firstE [incE (fun k=>(l[k]?.map LiD.id).getD 0) k,clvE l[k].levels]:=by unfold lisE;rw [List.getElem?_eq_getElem hk];rfl
 refine eN [(0,_),(1,_)] Tryz.func120 rfl Tryz.ntmps120 rfl rfl hG ?_;intro a H;refine kP H (SR fun _ K1=>Ra rfl (Kz K1 (SQ fun _ K2=>?_)));clear H K1;intro a H;have H:=H.sub (T':=[(0,_),(1,_)]) ⟨rfl,rfl,trivial⟩;refine c_drawI (hmx) [[],[],[0,1],[],[],[3,4],[3,4,5],[3,4,5,6],(List.range 8),(List.range 9),(List.range 10),(List.range 11)] [9,10,11] (by kernel_rfl) (by kernel_rfl) (fun (ix_:Nat) (v:Value) (G:GH)=>match ix_ with|0=>v=vi k|1=>v=.func (.func 122) #[] #[.pointer (some ⟨bl,0,none⟩)]|2=>v=vi (incE (fun k=>(l[k]?.map LiD.id).getD 0) k)|3=>v=.slice (some ⟨b,o,none⟩) l.length c|4=>v=vi k|5=>v=.pointer (some ⟨b,o+k*2,none⟩)|6=>v=.pointer (some ⟨b,o+k*2+1,none⟩)|7=>v=.slice B l[k].levels.length d|8=>v=vi (clvE l[k].levels)|_=>True) (fun _ _ _ _ _ h=>h) H ?_ ?_
 ·clear H;refine al4 ?_ ?_ ?_ ?_ (al4 ?_ ?_ ?_ ?_ (al4 ?_ ?_ ?_ ?_ allI_nil))
  ·exact Z0 rfl rfl fun _ _ _ _ _=>Rm rfl
  ·refine Op0 rfl fun _ a w G1 hG HT H fin=>?_;refine s_makeFunc H wn rfl rfl ?_;clear H;intro a H;exact fin H iJ rfl
  ·refine Op2 0 4 1 5 rfl rfl fun _ a w G1 hG HT H fin=>?_;refine s_call en121dst H wn rfl (increasing_spec _ _ H.hp.ro k _ _ (by omega) (fun i hi=>(hcb.mono hG) i (by omega))) rfl ?_;clear H;rintro v6 G6 a w rfl hGm6 H;exact fin H hGm6 (rfl)
  ·exact Op0 rfl fun _ _ _ _ hG _ H fin=>kH H (Rg ty42dst rfl (gcell_mono hG hb) fun _ H=>fin H iJ rfl)
  ·exact Z0 rfl rfl fun _ _ _ _ _=>Rm rfl
  ·exact Z2 3 7 4 8 rfl rfl fun _ _ _ _ _=>Ri un42dst ty105dst rfl rfl
  ·exact Z1 5 9 rfl rfl fun _ _ _ _ _=>Rf fd105_1dst rfl
  ·exact Op1 6 10 rfl rfl fun _ _ _ _ hG _ H fin=>kH H (Rg ty103dst rfl (gcell_mono hG hq) fun _ H=>fin H iJ rfl)
  ·refine Op1 7 11 rfl rfl fun _ a w G1 hG HT H fin=>?_;refine s_call en57dst H wn rfl (checkLevels_spec _ _ H.hp.ro _ _ (hlv.mono hG) (ht _ (List.getElem_mem hk))) rfl ?_;clear H;rintro v12 G12 a w rfl hGm12 H;exact fin H hGm12 (rfl)
  ·exact opB rfl
  ·exact opB rfl
  exact opB rfl
 clear H;intro a w G hGm1 H hv;obtain ⟨u6,hu6,hp6⟩:=hv 2 6 (by decide) rfl;obtain rfl:u6=vi (incE (fun k=>(l[k]?.map LiD.id).getD 0) k):=hp6;have H:=H.addS hu6;obtain ⟨u12,hu12,hp12⟩:=hv 8 12 (by decide) rfl;obtain rfl:u12=vi (clvE l[k].levels):=hp12;have H:=H.addS hu12;clear hv;refine s_buildSlice un221fst ty22fst [_,_] [_,_] H wn rfl rfl rfl rfl rfl (by intro i q h;match i,h with|0,h=>exact h|1,h=>exact h|n+2,h=>simp at h) rfl rfl ?_;clear H;intro b13 a w hb13 H;obtain ⟨G13,hm13,hb13',H⟩:=H.giveBox;refine s_call en52nam H wn rfl (first_spec1 _ _ H.hp.ro _ _ (two_rep hb13')) rfl ?_;clear H;rintro v14 _ a w ⟨rfl,rfl⟩ - H;refine kH H (Ra rfl ?_);clear H;intro a H;refine wl_nil ⟨rfl,?_⟩;refine K2 _ _ ?_;clear K2;refine lr H Tryz.results120 rfl ?_;exact H.hp.ret (by rw [he])
def chkLis (l:List LiD):Int:=firstE [whenE (decide (64 < (l.length:Int))) 9,allE (lisE l) (min l.length 64)]
theorem IxCb.le {fv:Value} {G:GH} {n m:Nat} {E:Nat→Int} (h:IxCb fv G n E) (hm:m≤n):IxCb fv G m E:=fun i hi=>h i (by omega)
theorem checkLists_spec (G:GH) (w0:World) (hG:Hold G w0) (l:List LiD) (v:Value) (hv:RepV G (.sl 2 (l.map LiD.dat)) v) (hl:l.length≤4294967296) (ht:∀ x∈l,∀ y∈x.levels,y.tmpl.size < 4611686018427387904) :
  Calls Tryz.prog 53 #[v] w0 (Ret w0 G fun u G'=>u=vi (chkLis l)):=by
 obtain ⟨A,c,rfl,hc1,hc2,-⟩:=hv.slice;rw [List.length_map] at *;refine eN [(0,_)] Tryz.func53 rfl Tryz.ntmps53 rfl rfl hG ?_;intro a H;refine c_seqR (fun _ K1=>?_);refine s_box (cs:=[_]) H wn rfl rfl rfl ?_;clear H;intro b1 a w hb1 H;refine kH H (Ra rfl (Kz K1 (SQ fun _ K2=>?_)));clear H K1;intro a H;have H:=H.sub (T':=[(1,_)]) ⟨rfl,trivial⟩;obtain ⟨Ga,hma,hb1',H⟩:=H.giveBox
 have hbl:gcell Ga b1 0=some (.slice A l.length c):=by unfold gcell;rw [hb1'];rfl
 have hcb:=lis_cb hbl (hv.mono hma) hl ht;refine c_drawI (hmx) [[],[0],[0,1],[0,1,2],[],[4],[4,5],[],(List.range 8),(List.range 9),(List.range 10),(List.range 11)] [9,10,11] (by kernel_rfl) (by kernel_rfl) (fun (ix_:Nat) (v:Value) (G:GH)=>match ix_ with|0=>v=.slice A l.length c|1=>v=vi l.length|2=>v=.bool (decide (64 < (l.length:Int)))|3=>v=vi (whenE (decide (64 < (l.length:Int))) 9)|4=>v=.slice A l.length c|5=>v=vi l.length|6=>v=vi ((min l.length 64:Nat):Int)|7=>v=.func (.func 120) #[] #[.pointer (some ⟨b1,0,none⟩)]|8=>v=vi (allE (lisE l) (min l.length 64))|_=>True) (fun _ _ _ _ _ h=>h) H ?_ ?_
 ·clear H;refine al4 ?_ ?_ ?_ ?_ (al4 ?_ ?_ ?_ ?_ (al4 ?_ ?_ ?_ ?_ allI_nil))
  ·exact Op0 rfl fun _ _ _ _ hG _ H fin=>kH H (Rg ty42dst rfl (gcell_mono hG hbl) fun _ H=>fin H iJ rfl)
  ·exact Z1 0 3 rfl rfl fun _ _ _ _ _=>Rl un42dst rfl
  ·exact Z1 1 4 rfl rfl fun _ _ _ _ _=>Rc rfl
  ·refine Op1 2 5 rfl rfl fun _ a w G1 hG HT H fin=>?_;refine s_call en65nam H wn rfl (when_spec _ _ H.hp.ro _ 9) rfl ?_;clear H;rintro v6 G6 a w ⟨rfl,-⟩ hGm6 H;exact fin H hGm6 (rfl)
  ·exact Op0 rfl fun _ _ _ _ hG _ H fin=>kH H (Rg ty42dst rfl (gcell_mono hG hbl) fun _ H=>fin H iJ rfl)
  ·exact Z1 4 7 rfl rfl fun _ _ _ _ _=>Rl un42dst rfl
  ·refine Op1 5 8 rfl rfl fun _ a w G1 hG HT H fin=>?_;refine s_min H wn rfl rfl rfl ?_;clear H;intro a H;exact fin H iJ (congrArg vi (by omega))
  ·refine Op0 rfl fun _ a w G1 hG HT H fin=>?_;refine s_makeFunc H wn rfl rfl ?_;clear H;intro a H;exact fin H iJ rfl
  ·refine Op2 6 9 7 10 rfl rfl fun _ a w G1 hG HT H fin=>?_;refine s_call en119dst H wn rfl (all_spec _ _ H.hp.ro (min l.length 64) (lisE l) _ (by omega) ((hcb.mono hG).le (Nat.min_le_left _ _))) rfl ?_;clear H;rintro v11 G11 a w rfl hGm11 H;exact fin H hGm11 (rfl)
  ·exact opB rfl
  ·exact opB rfl
  exact opB rfl
 clear H;intro a w G hGm1 H hv;obtain ⟨u6,hu6,hp6⟩:=hv 3 6 (by decide) rfl;obtain rfl:u6=vi (whenE (decide (64 < (l.length:Int))) 9):=hp6;have H:=H.addS hu6;obtain ⟨u11,hu11,hp11⟩:=hv 8 11 (by decide) rfl;obtain rfl:u11=vi (allE (lisE l) (min l.length 64)):=hp11;have H:=H.addS hu11;clear hv;refine s_buildSlice un221fst ty22fst [_,_] [_,_] H wn rfl rfl rfl rfl rfl (by intro i q h;match i,h with|0,h=>exact h|1,h=>exact h|n+2,h=>simp at h) rfl rfl ?_;clear H;intro b12 a w hb12 H;obtain ⟨G12,hm12,hb12',H⟩:=H.giveBox;refine s_call en52nam H wn rfl (first_spec1 _ _ H.hp.ro _ _ (two_rep hb12')) rfl ?_;clear H;rintro v13 _ a w ⟨rfl,rfl⟩ - H;refine kH H (Ra rfl ?_);clear H;intro a H;refine wl_nil ⟨rfl,?_⟩;refine K2 _ _ ?_;clear K2;refine lr H Tryz.results53 rfl ?_;exact H.hp.ret rfl
end
section
open Go.RowKit
theorem un41sty:Tryz.prog.underlying 41=some (.slice 100):=by kernel_rfl
theorem ty100sty:Ty Tryz.prog 100 6 72 [.int .i64 0,.int .i64 0,.string ⟨#[]⟩,.int .i64 0,.int .i64 0,.slice none 0 0] true:=⟨by kernel_rfl,by kernel_rfl⟩
theorem fd100_1sty:Fld Tryz.prog 100 1 1:=⟨by kernel_rfl⟩
theorem fd100_2sty:Fld Tryz.prog 100 2 2:=⟨by kernel_rfl⟩
theorem fd100_0sty:Fld Tryz.prog 100 0 0:=⟨by kernel_rfl⟩
theorem en212sty:∀ args w,(callFunc 212 args).run Tryz.prog w=.ok (.enter 212 args) w:=enters Tryz.func212 rfl (by kernel_rfl)
theorem en180sty:∀ args w,(callFunc 180 args).run Tryz.prog w=.ok (.enter 180 args) w:=enters Tryz.func180 rfl (by kernel_rfl)
theorem en213sty:∀ args w,(callFunc 213 args).run Tryz.prog w=.ok (.enter 213 args) w:=enters Tryz.func213 rfl (by kernel_rfl)
theorem en214sty:∀ args w,(callFunc 214 args).run Tryz.prog w=.ok (.enter 214 args) w:=enters Tryz.func214 rfl (by kernel_rfl)
structure StyleD where
 id:Int
 kind:Int
 name:ByteArray
 base:Int
 next:Int
 props:List PropD
def StyleD.dat (x:StyleD):List Dat:=[li x.id,li x.kind,.lf (.string x.name),li x.base,li x.next,.sl 2 (x.props.map PropD.dat)]
theorem style_of {G:GH} {x:StyleD} {cs:List Value} (h:RepRow G x.dat cs):∃ A c,cs=[vi x.id,vi x.kind,.string x.name,vi x.base,vi x.next,.slice A x.props.length c]∧RepV G (.sl 2 (x.props.map PropD.dat)) (.slice A x.props.length c):=by
 simp only [StyleD.dat,RepRow] at h
 obtain ⟨v1,_,rfl,h1,v2,_,rfl,h2,v3,_,rfl,h3,v4,_,rfl,h4,v5,_,rfl,h5,v6,_,rfl,h6,rfl⟩:=h
 simp only [RepV] at h1 h2 h3 h4 h5
 obtain ⟨rfl,-⟩:=h1;obtain ⟨rfl,-⟩:=h2;obtain ⟨rfl,-⟩:=h3;obtain ⟨rfl,-⟩:=h4;obtain ⟨rfl,-⟩:=h5;obtain ⟨A,c,rfl,-,-,-⟩:=h6.slice;rw [List.length_map] at *;exact ⟨A,c,rfl,h6⟩
theorem style_at {G:GH} {l:List StyleD} {A:Option Addr} {n c k:Nat} (hv:RepV G (.sl 6 (l.map StyleD.dat)) (.slice A n c)) (hk:k < l.length):∃ b o pA pc,A=some ⟨b,o,none⟩∧(∀ j u,[vi l[k].id,vi l[k].kind,.string l[k].name,vi l[k].base,vi l[k].next,.slice pA l[k].props.length pc][j]?=some u→gcell G b (o+k*6+j)=some u)∧RepV G (.sl 2 (l[k].props.map PropD.dat)) (.slice pA l[k].props.length pc) ∧
  RepRow G l[k].dat [vi l[k].id,vi l[k].kind,.string l[k].name,vi l[k].base,vi l[k].next,.slice pA l[k].props.length pc]:=by
 obtain ⟨A',c',he,_,_,hg⟩:=hv.slice
 injection he with e1 e2 e3
 subst e1;obtain ⟨b,o,cs,h1,h2,h3,h4⟩:=hg k l[k].dat (by simp [hk]);obtain ⟨pA,pc,rfl,hp⟩:=style_of h4;exact ⟨b,o,pA,pc,h1,h3,hp,h4⟩
def okB (x:Int):Bool:=decide (32≤x∧x≤126)
/-- Whether a string is the name of a style. -/
def nameF (s:ByteArray) (k:Nat):Bool:=(List.range k).all fun i=>okB (byteAt s i)
def isNameS (s:ByteArray):Bool:=decide (s.size≠0∧s.size≤40∧byteAt s 0≠32∧byteAt s (s.size - 1)≠32) && nameF s s.size
theorem nameF_succ (s:ByteArray) (k:Nat):nameF s (k+1)=(nameF s k && okB (byteAt s k)):=by simp [nameF,List.range_succ]
theorem nameF_no {s:ByteArray} {k:Nat} (hk:k < s.size) (h:okB (byteAt s k)=false):nameF s s.size=false:=by
 rw [nameF,List.all_eq_false];exact ⟨k,by simpa using hk,by simp [h]⟩
theorem isName_spec (G:GH) (w0:World) (hG:Hold G w0) (s:ByteArray) (hs:s.size≤4611686018427387904):Calls Tryz.prog 177 #[.string s] w0 (Ret w0 G fun u G'=>u=.bool (isNameS s)):=by
 refine eN [(0,_)] Tryz.func177 rfl Tryz.ntmps177 rfl rfl hG ?_;intro a H;refine kP H (SR fun _ K1=>Ra rfl (Kz K1 (SQ fun _ K2=>SR fun _ K3=>Rm rfl (Rv un9cp rfl (Rc rfl (Rm rfl ?_))))));clear H K1;intro a H;refine s_split H 7 rfl ?_ ?_
 ·intro h7
  try have p7:=dT h7
  refine kH H (Ks h7 rfl (Ks h7 rfl (Ks h7 rfl (Pt h7 rfl (Rm rfl (Ks rfl rfl (Ks rfl rfl (Ks rfl rfl (Pt rfl rfl (Rm rfl (Ks rfl rfl (Ks rfl rfl (Ks rfl rfl (Ks rfl rfl (Ks rfl rfl (Ks rfl rfl ?_))))))))))))))));clear H;intro a H;refine kH H (Pt rfl rfl (Kz K3 ?_));clear H K3;intro a H;refine c_cond_t H rfl rfl ?_;refine kP H (SR fun _ K4=>Ra rfl (Kz K4 ?_));clear H K4;intro a H;refine lr H Tryz.results177 rfl ?_
  first
   | exact H.hp.ret (congrArg Value.bool (by rw [isNameS,decide_eq_false (by omega),Bool.false_and]))
   | exact H.hp.ret (congrArg Value.bool (by rw [isNameS,decide_eq_true (by omega),show s.size=k by omega,hno];rfl))
   | exact H.hp.ret (congrArg Value.bool (by rw [isNameS,nameF_no (k:=k) (by omega) (decide_eq_false (by omega)),Bool.and_false]))
 intro h7
 try have p7:=dF h7
 refine kH H (YM h7 rfl ?_);clear H;intro a H;refine s_lens un9cp H (wg H rfl rfl h7) rfl rfl ?_;clear H;intro a H;refine kH H (YC h7 rfl (Pf h7 rfl (Rm rfl ?_)));clear H;intro a H;refine s_split H 12 rfl ?_ ?_
 ·intro h12
  try have p12:=dT h12
  refine kH H (Ks h12 rfl (Ks h12 rfl (Ks h12 rfl (Pt h12 rfl (Rm rfl (Ks rfl rfl (Ks rfl rfl (Ks rfl rfl (Ks rfl rfl (Ks rfl rfl (Ks rfl rfl (Pt rfl rfl (Kz K3 ?_)))))))))))));clear H K3;intro a H;refine c_cond_t H rfl rfl ?_;refine kP H (SR fun _ K5=>Ra rfl (Kz K5 ?_));clear H K5;intro a H;refine lr H Tryz.results177 rfl ?_
  first
   | exact H.hp.ret (congrArg Value.bool (by rw [isNameS,decide_eq_false (by omega),Bool.false_and]))
   | exact H.hp.ret (congrArg Value.bool (by rw [isNameS,decide_eq_true (by omega),show s.size=k by omega,hno];rfl))
   | exact H.hp.ret (congrArg Value.bool (by rw [isNameS,nameF_no (k:=k) (by omega) (decide_eq_false (by omega)),Bool.and_false]))
 intro h12
 try have p12:=dF h12
 refine kH H (YM h12 rfl ?_);clear H;intro a H;refine s_indexs 0 un9cp H (wg H rfl rfl h12) rfl rfl rfl (by omega) rfl ?_;clear H;intro a H;rw [← byteAt_lt] at H;refine kH H (YC h12 rfl (Pf h12 rfl (Rm rfl ?_)));clear H;intro a H;refine s_split H 17 rfl ?_ ?_
 ·intro h17
  try have p17:=dT h17
  refine kH H (Ks h17 rfl (Ks h17 rfl (Ks h17 rfl (Ks h17 rfl (Ks h17 rfl (Ks h17 rfl (Pt h17 rfl (Kz K3 ?_))))))));clear H K3;intro a H;refine c_cond_t H rfl rfl ?_;refine kP H (SR fun _ K6=>Ra rfl (Kz K6 ?_));clear H K6;intro a H;refine lr H Tryz.results177 rfl ?_
  first
   | exact H.hp.ret (congrArg Value.bool (by rw [isNameS,decide_eq_false (by omega),Bool.false_and]))
   | exact H.hp.ret (congrArg Value.bool (by rw [isNameS,decide_eq_true (by omega),show s.size=k by omega,hno];rfl))
   | exact H.hp.ret (congrArg Value.bool (by rw [isNameS,nameF_no (k:=k) (by omega) (decide_eq_false (by omega)),Bool.and_false]))
 intro h17
 try have p17:=dF h17
 refine kH H (YM h17 rfl (YM h17 rfl ?_));clear H;intro a H;refine s_lens un9cp H (wg H rfl rfl h17) rfl rfl ?_;clear H;intro a H;refine s_sub _ H (wg H rfl rfl h17) rfl rfl rfl (by omega) (by omega) rfl ?_;clear H;intro a H;refine s_indexs (s.size - 1) un9cp H (wg H rfl rfl h17) rfl rfl (by omega) (by omega) rfl ?_;clear H;intro a H;rw [← byteAt_lt] at H;refine kH H (YC h17 rfl (Pf h17 rfl (Kz K3 ?_)));clear H K3;intro a H;refine c_cond H rfl ?_ ?_
 ·intro h24
  try have p24:=dT h24
  refine kP H (SR fun _ K7=>Ra rfl (Kz K7 ?_));clear H K7;intro a H;refine lr H Tryz.results177 rfl ?_
  first
   | exact H.hp.ret (congrArg Value.bool (by rw [isNameS,decide_eq_false (by omega),Bool.false_and]))
   | exact H.hp.ret (congrArg Value.bool (by rw [isNameS,decide_eq_true (by omega),show s.size=k by omega,hno];rfl))
   | exact H.hp.ret (congrArg Value.bool (by rw [isNameS,nameF_no (k:=k) (by omega) (decide_eq_false (by omega)),Bool.and_false]))
 intro h24
 try have p24:=dF h24
 refine kP H (Kc K2 (SQ fun _ K8=>SR fun _ K9=>Rm rfl (Rv un9cp rfl (Rm rfl (Kz K9 (SB ?_))))));clear H K2 K9;intro a H;skip;refine c_loopS (ι:=Nat) (Tc:=[(0,_),(26,_)]) (Lc:=[]) (fun (gh:Nat)=>[(27,vi gh)]) (fun (gh:Nat)=>[]) (fun (gh:Nat)=>G) (fun (gh:Nat)=>gh≤s.size∧nameF s gh=true) (fun (gh:Nat)=>s.size - gh) (0) (by exact (H).sub ⟨rfl,rfl,rfl,trivial⟩) ?_ ?_
 ·exact ⟨Nat.zero_le _,rfl⟩
 clear H;intro gh a w hI H;obtain ⟨k,hgh⟩:∃ x,x=gh:=⟨_,rfl⟩;subst hgh;obtain ⟨hk,hno⟩:=hI;dsimp only [List.cons_append,List.nil_append,List.append_nil] at H;refine kP H (SR fun _ K10=>Rc rfl (Kz K10 (SQ fun _ K11=>?_)));clear H K10;intro a H;refine c_cond H rfl ?_ ?_
 ·intro h28
  try have p28:=dT h28
  refine kP H (Kc K11 (SQ fun _ K12=>SB (SR fun _ K13=>Rm rfl (Ra rfl (Kz K13 (SR fun _ K14=>Rm rfl (Rm rfl ?_)))))));clear H K11 K13;intro a H;refine s_indexs k un9cp H wn rfl rfl rfl (by omega) rfl ?_;clear H;intro a H;rw [← byteAt_lt] at H;refine kH H (Rc rfl (Rm rfl ?_));clear H;intro a H;refine s_split H 34 rfl ?_ ?_
  ·intro h34
   try have p34:=dT h34
   refine kH H (Ks h34 rfl (Ks h34 rfl (Ks h34 rfl (Ks h34 rfl (Pt h34 rfl (Kz K14 ?_))))));clear H K14;intro a H;refine c_cond_t H rfl rfl ?_;refine kP H (SR fun _ K15=>Ra rfl (Kz K15 ?_));clear H K15;intro a H;refine lr H Tryz.results177 rfl ?_
   first
    | exact H.hp.ret (congrArg Value.bool (by rw [isNameS,decide_eq_false (by omega),Bool.false_and]))
    | exact H.hp.ret (congrArg Value.bool (by rw [isNameS,decide_eq_true (by omega),show s.size=k by omega,hno];rfl))
    | exact H.hp.ret (congrArg Value.bool (by rw [isNameS,nameF_no (k:=k) (by omega) (decide_eq_false (by omega)),Bool.and_false]))
  intro h34
  try have p34:=dF h34
  refine kH H (YM h34 rfl (YM h34 rfl ?_));clear H;intro a H;refine s_indexs k un9cp H (wg H rfl rfl h34) rfl rfl rfl (by omega) rfl ?_;clear H;intro a H;rw [← byteAt_lt] at H;refine kH H (YC h34 rfl (Pf h34 rfl (Kz K14 ?_)));clear H K14;intro a H;refine c_cond H rfl ?_ ?_
  ·intro h39
   try have p39:=dT h39
   refine kP H (SR fun _ K16=>Ra rfl (Kz K16 ?_));clear H K16;intro a H;refine lr H Tryz.results177 rfl ?_
   first
    | exact H.hp.ret (congrArg Value.bool (by rw [isNameS,decide_eq_false (by omega),Bool.false_and]))
    | exact H.hp.ret (congrArg Value.bool (by rw [isNameS,decide_eq_true (by omega),show s.size=k by omega,hno];rfl))
    | exact H.hp.ret (congrArg Value.bool (by rw [isNameS,nameF_no (k:=k) (by omega) (decide_eq_false (by omega)),Bool.and_false]))
  intro h39
  try have p39:=dF h39
  refine kP H (Kc K12 (SC (Rd rfl (Rm rfl ?_))));clear H K12;intro a H;refine wl_nil ?_;refine loop_end ((k+1)) (by exact (H).sub ⟨rfl,rfl,rfl,trivial⟩) ?_ ?_
  ·exact ⟨by omega,by rw [nameF_succ,hno];simp [okB];omega⟩
  first|omega|(dsimp only;omega)
 intro h28
 try have p28:=dF h28
 refine c_exit ?_;refine K8 _ _ ?_;clear K8;refine kP H (SR fun _ K17=>Ra rfl (Kz K17 ?_));clear H K17;intro a H;refine lr H Tryz.results177 rfl ?_
 first
  | exact H.hp.ret (congrArg Value.bool (by rw [isNameS,decide_eq_false (by omega),Bool.false_and]))
  | exact H.hp.ret (congrArg Value.bool (by rw [isNameS,decide_eq_true (by omega),show s.size=k by omega,hno];rfl))
  | exact H.hp.ret (congrArg Value.bool (by rw [isNameS,nameF_no (k:=k) (by omega) (decide_eq_false (by omega)),Bool.and_false]))
theorem indexStyle_spec (G:GH) (w0:World) (hG:Hold G w0) (l:List StyleD) (p:StyleD→Bool) (v fv:Value) (hv:RepV G (.sl 6 (l.map StyleD.dat)) v) (hf:∀ x∈l,Tester fv G x.dat (p x)) :
  Calls Tryz.prog 212 #[v,fv] w0 (Ret w0 G fun u G'=>u=vi (ixI (l.findIdx? p))):=by
 obtain ⟨A,c,rfl,hc1,hc2,-⟩:=hv.slice;have hml:maxLen=9223372036854775807:=rfl;rw [List.length_map] at *;refine eN [(0,_),(1,_)] Tryz.func212 rfl Tryz.ntmps212 rfl rfl hG ?_;intro a H;refine kP H (SR fun _ K1=>Ra rfl (Kz K1 (SQ fun _ K2=>SR fun _ K3=>Rm rfl (Rl un41sty rfl (Rm rfl (Kz K3 (SB ?_)))))));clear H K1 K3;intro a H;skip;refine c_loopS (ι:=Nat × GH) (Tc:=[(0,_),(1,_),(7,_)]) (Lc:=[]) (fun (gh:Nat × GH)=>[(8,vi gh.1)]) (fun (gh:Nat × GH)=>[]) (fun (gh:Nat × GH)=>gh.2) (fun (gh:Nat × GH)=>gh.1≤l.length∧(l.take gh.1).findIdx? p=none∧(∀ b o,G b=some o→gh.2 b=some o)) (fun (gh:Nat × GH)=>l.length - gh.1) ((0,G)) (by exact (H).sub ⟨rfl,rfl,rfl,rfl,trivial⟩) ?_ ?_
 ·exact ⟨by omega,rfl,fun _ _ h=>h⟩
 clear H;intro gh a w hI H;obtain ⟨k,g⟩:=gh;dsimp only at hI H;obtain ⟨hk,hno,hgm⟩:=hI;dsimp only [List.cons_append,List.nil_append,List.append_nil] at H;refine kP H (SR fun _ K4=>Rc rfl (Kz K4 (SQ fun _ K5=>?_)));clear H K4;intro a H;refine c_cond H rfl ?_ ?_
 ·intro h9
  try have p9:=dT h9
  have hk2:k < l.length:=by omega
  obtain ⟨b,o,pA,pc,rfl,hrow,hp,hrep⟩:=style_at (hv.mono hgm) hk2;refine kP H (Kc K5 (SQ fun _ K6=>SB (SR fun _ K7=>Rm rfl (Ra rfl (Kz K7 (SR fun _ K8=>Rm rfl (Rm rfl (Rm rfl (Ri un41sty ty100sty rfl rfl ?_)))))))));clear H K5 K7;intro a H;refine s_loada ty100sty (cs:=[_,_,_,_,_,_]) H wn rfl rfl (fun j v hj=>H.hp.gcell (hrow j v hj)) rfl ?_;clear H;intro a H;refine s_callv0 H wn rfl rfl (hf _ (List.getElem_mem hk2) _ _ _ hgm H.hp.ro hrep) rfl ?_;clear H;rintro v16 G16 a w rfl hm16 H;refine K8 _ _ ?_;clear K8;refine c_cond H rfl ?_ ?_
  ·intro h16
   try have p16:=dT h16
   refine kP H (SR fun _ K9=>Rm rfl (Ra rfl (Kz K9 ?_)));clear H K9;intro a H;refine lr H Tryz.results212 rfl ?_
   first
    | exact H.hp.ret (by rw [idx_stop hk2 hno h16];rfl)
    | exact H.hp.ret (by rw [show l.take k=l from List.take_of_length_le (by omega)] at hno;rw [hno];rfl)
  intro h16
  try have p16:=dF h16
  refine kP H (Kc K6 (SC (Rd rfl (Rm rfl ?_))));clear H K6;intro a H;refine wl_nil ?_;refine loop_end ((k+1,G16)) (by exact (H).sub ⟨rfl,rfl,rfl,rfl,trivial⟩) ?_ ?_
  ·(try dsimp only);exact ⟨by omega,idx_next hk2 hno h16,fun b o h=>hm16 b o (hgm b o h)⟩
  first|omega|(dsimp only;omega)
 intro h9
 try have p9:=dF h9
 refine c_exit ?_;refine K2 _ _ ?_;clear K2;refine kP H (SR fun _ K10=>Ra rfl (Kz K10 ?_));clear H K10;intro a H;refine lr H Tryz.results212 rfl ?_
 first
  | exact H.hp.ret (by rw [idx_stop hk2 hno h16];rfl)
  | exact H.hp.ret (by rw [show l.take k=l from List.take_of_length_le (by omega)] at hno;rw [hno];rfl)
def nmEq (p q:ByteArray):Bool:=p.toList == q.toList
theorem findName1 {G:GH} {bk bn:Nat} {kind:Int} {name:ByteArray} (hk:gcell G bk 0=some (vi kind)) (hn:gcell G bn 0=some (.string name)) (x:StyleD):Tester (.func (.func 213) #[] #[.pointer (some ⟨bk,0,none⟩),.pointer (some ⟨bn,0,none⟩)]) G x.dat (decide (x.kind=kind) && nmEq x.name name):=by
 intro G1 w0 cs hm hG hr;refine callV_func (caps:=[.pointer (some ⟨bk,0,none⟩),.pointer (some ⟨bn,0,none⟩)]) en213sty ?_;obtain ⟨pA,pc,rfl,-⟩:=style_of hr;replace hk:=gcell_mono hm hk;replace hn:=gcell_mono hm hn;refine eN [(0,_),(1,_),(2,_)] Tryz.func213 rfl Tryz.ntmps213 rfl rfl hG ?_;intro a H;refine c_seqR (fun _ K1=>?_);refine s_box (cs:=[_,_,_,_,_,_]) H wn rfl rfl rfl ?_;clear H;intro b3 a w hb3 H;refine kH H (Ra rfl (Kz K1 (SR fun _ K2=>Rf fd100_1sty rfl (Ro ty3run 0 rfl rfl (Rg ty3run rfl (by assumption) ?_)))));clear H K1;intro a H;refine kH H (Rc rfl (Rm rfl ?_));clear H;intro a H;refine s_split H 9 rfl ?_ ?_
 ·intro h9
  try have p9:=dT h9
  refine kH H (YF fd100_2sty h9 rfl (YO ty9run 0 h9 rfl rfl (YR ty9run h9 rfl (by assumption) ?_)));clear H;intro a H;refine s_eqstr H (wg H rfl rfl h9) rfl rfl rfl ?_;clear H;intro a H;refine kH H (Pt h9 rfl (Ra rfl (Kz K2 ?_)));clear H K2;intro a H;refine lr H Tryz.results213 rfl ?_;exact H.hp.ret (by unfold nmEq;simp_all)
 intro h9
 try have p9:=dF h9
 refine kH H (Ks h9 rfl (Ks h9 rfl (Ks h9 rfl (Ks h9 rfl (Pf h9 rfl (Ra rfl (Kz K2 ?_)))))));clear H K2;intro a H;refine lr H Tryz.results213 rfl ?_;exact H.hp.ret (by unfold nmEq;simp_all)
theorem find1 {G:GH} {bi:Nat} {id:Int} (hb:gcell G bi 0=some (vi id)) (x:StyleD):Tester (.func (.func 214) #[] #[.pointer (some ⟨bi,0,none⟩)]) G x.dat (decide (x.id=id)):=by
 intro G1 w0 cs hm hG hr;refine callV_func (caps:=[.pointer (some ⟨bi,0,none⟩)]) en214sty ?_;obtain ⟨pA,pc,rfl,-⟩:=style_of hr;replace hb:=gcell_mono hm hb;refine eN [(0,_),(1,_)] Tryz.func214 rfl Tryz.ntmps214 rfl rfl hG ?_;intro a H;refine c_seqR (fun _ K1=>?_);refine s_box (cs:=[_,_,_,_,_,_]) H wn rfl rfl rfl ?_;clear H;intro b2 a w hb2 H;refine kH H (Ra rfl (Kz K1 (SR fun _ K2=>Rf fd100_0sty rfl (Ro ty3run 0 rfl rfl (Rg ty3run rfl (by assumption) ?_)))));clear H K1;intro a H;refine kH H (Rc rfl (Ra rfl (Kz K2 ?_)));clear H K2;intro a H;refine lr H Tryz.results214 rfl ?_;exact H.hp.ret rfl
def findName (l:List StyleD) (kind:Int) (name:ByteArray):Option Nat:=l.findIdx? fun x=>decide (x.kind=kind) && nmEq x.name name
def findId (l:List StyleD) (id:Int):Option Nat:=l.findIdx? fun x=>decide (x.id=id)
theorem ixI_ge (o:Option Nat):decide (0≤ixI o)=o.isSome:=by cases o <;> simp [ixI]
theorem findName_spec (G:GH) (w0:World) (hG:Hold G w0) (l:List StyleD) (kind:Int) (name:ByteArray) (v:Value) (hv:RepV G (.sl 6 (l.map StyleD.dat)) v) :
  Calls Tryz.prog 178 #[v,vi kind,.string name] w0 (Ret w0 G fun u G'=>u=.tuple #[vi (max (ixI (findName l kind name)) 0),.bool (findName l kind name).isSome]):=by
 obtain ⟨A,c,rfl,hc1,hc2,-⟩:=hv.slice;rw [List.length_map] at *;refine eN [(0,_),(1,_),(2,_)] Tryz.func178 rfl Tryz.ntmps178 rfl rfl hG ?_;intro a H;refine c_seqR (fun _ K1=>?_);refine s_box (cs:=[_]) H wn rfl rfl rfl ?_;clear H;intro b4 a w hb4 H;refine s_box (cs:=[_]) H wn rfl rfl rfl ?_;clear H;intro b5 a w hb5 H;refine kH H (Ra rfl (Ra rfl (Kz K1 (SQ fun _ K2=>?_))));clear H K1;intro a H;obtain ⟨Ga,hma,hb5',H⟩:=H.giveBox;obtain ⟨Gb,hmb,hb4',H⟩:=H.giveBox
 have q4:gcell Gb b4 0=some (vi kind):=by unfold gcell;rw [hb4'];rfl
 have q5:gcell Gb b5 0=some (.string name):=by unfold gcell;rw [hmb _ _ hb5'];rfl
 refine kP H (SC (Rm rfl ?_));clear H;intro a H;refine s_makeFunc H wn rfl rfl ?_;clear H;intro a H;refine s_call en212sty H wn rfl (indexStyle_spec _ _ H.hp.ro l (fun x=>decide (x.kind=kind) && nmEq x.name name) _ _ ((hv.mono hma).mono hmb) (fun x _=>findName1 q4 q5 x)) rfl ?_;clear H;rintro v11 G11 a w rfl hm11 H;refine kH H (Ra rfl (Kn K2 (SR fun _ K3=>Rm rfl ?_)));clear H K2;intro a H;refine s_max H wn rfl rfl rfl ?_;clear H;intro a H;refine kH H (Rm rfl (Rc rfl (Ra rfl (Ra rfl (Kz K3 ?_)))));clear H K3;intro a H;refine c_ret ?_;refine (leaveT H Tryz.results178 (.cons (rv_tmp H rfl) (.cons (rv_tmp H rfl) .nil)) ?_).1;exact H.hp.ret (by rw [← ixI_ge];rfl)
theorem find_id_spec (G:GH) (w0:World) (hG:Hold G w0) (l:List StyleD) (id:Int) (v:Value) (hv:RepV G (.sl 6 (l.map StyleD.dat)) v) :
  Calls Tryz.prog 180 #[v,vi id] w0 (Ret w0 G fun u G'=>u=.tuple #[vi (max (ixI (findId l id)) 0),.bool (findId l id).isSome]):=by
 obtain ⟨A,c,rfl,hc1,hc2,-⟩:=hv.slice;rw [List.length_map] at *;refine eN [(0,_),(1,_)] Tryz.func180 rfl Tryz.ntmps180 rfl rfl hG ?_;intro a H;refine c_seqR (fun _ K1=>?_);refine s_box (cs:=[_]) H wn rfl rfl rfl ?_;clear H;intro b3 a w hb3 H;refine kH H (Ra rfl (Ra rfl (Kz K1 (SQ fun _ K2=>?_))));clear H K1;intro a H;obtain ⟨Ga,hma,hb3',H⟩:=H.giveBox
 have q3:gcell Ga b3 0=some (vi id):=by unfold gcell;rw [hb3'];rfl
 refine kP H (SC (Rm rfl ?_));clear H;intro a H;refine s_makeFunc H wn rfl rfl ?_;clear H;intro a H;refine s_call en212sty H wn rfl (indexStyle_spec _ _ H.hp.ro l (fun x=>decide (x.id=id)) _ _ (hv.mono hma) (fun x _=>find1 q3 x)) rfl ?_;clear H;rintro v9 G9 a w rfl hm9 H;refine kH H (Ra rfl (Kn K2 (SR fun _ K3=>Rm rfl ?_)));clear H K2;intro a H;refine s_max H wn rfl rfl rfl ?_;clear H;intro a H;refine kH H (Rm rfl (Rc rfl (Ra rfl (Ra rfl (Kz K3 ?_)))));clear H K3;intro a H;refine c_ret ?_;refine (leaveT H Tryz.results180 (.cons (rv_tmp H rfl) (.cons (rv_tmp H rfl) .nil)) ?_).1;exact H.hp.ret (by rw [← ixI_ge];rfl)
/-- Whether there is a style of a kind with an id. -/
def isS (l:List StyleD) (kind id:Int):Bool:=match findId l id with|some i=>decide ((l[i]?.map StyleD.kind)=some kind)|none=>false
theorem is_spec (G:GH) (w0:World) (hG:Hold G w0) (l:List StyleD) (kind id:Int) (v:Value) (hv:RepV G (.sl 6 (l.map StyleD.dat)) v) :
  Calls Tryz.prog 104 #[v,vi kind,vi id] w0 (Ret w0 G fun u G'=>u=.bool (isS l kind id)):=by
 obtain ⟨A,c,rfl,hc1,hc2,-⟩:=hv.slice;rw [List.length_map] at *;refine eN [(0,_),(1,_),(2,_)] Tryz.func104 rfl Tryz.ntmps104 rfl rfl hG ?_;intro a H;refine kP H (SR fun _ K1=>Ra rfl (Kz K1 (SR fun _ K2=>Rm rfl (Rm rfl ?_))));clear H K1;intro a H;refine s_call en180sty H wn rfl (find_id_spec _ _ H.hp.ro l id _ hv) rfl ?_;clear H;rintro v12 G12 a w rfl hm12 H;obtain ⟨o,ho⟩:∃ o,o=findId l id:=⟨_,rfl⟩;rw [← ho] at H;refine kH H (Rm rfl ?_);clear H;intro a H;(iterate 2 refine s_extract H wn rfl rfl rfl ?_;clear H;intro a H);refine kH H (Ra rfl (Ra rfl (Kz K2 (SR fun _ K3=>Rm rfl (Rm rfl ?_)))));clear H K2;intro a H;refine s_split H 16 rfl ?_ ?_
 ·intro h16
  try have p16:=dT h16
  obtain ⟨i,rfl⟩:=Option.isSome_iff_exists.1 h16
  have hil:i < l.length:=by
   obtain ⟨hi,-⟩:=List.findIdx?_eq_some_iff_getElem.1 ho.symm;exact hi
  rw [show max (ixI (some i)) 0=(i:Int) by simp [ixI]] at H;obtain ⟨b,o',pA,pc,rfl,hrow,hp,hrep⟩:=style_at (hv.mono hm12) hil;have r1:gcell G12 b (o'+i*6+1)=some (vi l[i].kind):=hrow 1 _ rfl;refine kH H (YM h16 rfl (YM h16 rfl (YI un41sty ty100sty h16 rfl rfl (YF fd100_1sty h16 rfl (YR ty3run h16 rfl (by assumption) ?_)))));clear H;intro a H;refine kH H (YM h16 rfl (YC h16 rfl (Pt h16 rfl (Ra rfl (Kz K3 ?_)))));clear H K3;intro a H;refine lr H Tryz.results104 rfl ?_
  first
   | exact H.hp.ret (congrArg Value.bool (by rw [isS,← ho];dsimp only;rw [List.getElem?_eq_getElem hil];simp))
   | exact H.hp.ret (congrArg Value.bool (by rw [isS,← ho];cases o <;> simp_all))
 intro h16
 try have p16:=dF h16
 refine kH H (Ks h16 rfl (Ks h16 rfl (Ks h16 rfl (Ks h16 rfl (Ks h16 rfl (Ks h16 rfl (Ks h16 rfl (Pf h16 rfl (Ra rfl (Kz K3 ?_))))))))));clear H K3;intro a H;refine lr H Tryz.results104 rfl ?_
 first
  | exact H.hp.ret (congrArg Value.bool (by rw [isS,← ho];dsimp only;rw [List.getElem?_eq_getElem hil];simp))
  | exact H.hp.ret (congrArg Value.bool (by rw [isS,← ho];cases o <;> simp_all))
end
section
open Go.RowKit
theorem en177stz:∀ args w,(callFunc 177 args).run Tryz.prog w=.ok (.enter 177 args) w:=enters Tryz.func177 rfl (by kernel_rfl)
theorem en178stz:∀ args w,(callFunc 178 args).run Tryz.prog w=.ok (.enter 178 args) w:=enters Tryz.func178 rfl (by kernel_rfl)
theorem fd100_5stz:Fld Tryz.prog 100 5 5:=⟨by kernel_rfl⟩
theorem en179stz:∀ args w,(callFunc 179 args).run Tryz.prog w=.ok (.enter 179 args) w:=enters Tryz.func179 rfl (by kernel_rfl)
theorem en44stz:∀ args w,(callFunc 44 args).run Tryz.prog w=.ok (.enter 44 args) w:=enters Tryz.func44 rfl (by kernel_rfl)
theorem RepV.pre {G:GH} {sz:Nat} {rows:List (List Dat)} {A:Option Addr} {n c:Nat} (h:RepV G (.sl sz rows) (.slice A n c)) (k:Nat) (hk:k≤rows.length):RepV G (.sl sz (rows.take k)) (.slice A k c):=by
 have h:=h.part 0 k (Nat.zero_le _) hk
 have e:(if c=0 then A else A.map (·.add (0*sz)))=A:=by
  split
  ·rfl
  cases A <;> simp [Addr.add]
 rw [e] at h
 simpa using h
theorem element_spec (G:GH) (w0:World) (hG:Hold G w0) (kind:Int):Calls Tryz.prog 179 #[vi kind] w0 (Ret w0 G fun u G'=>u=vi (if kind=1 then 2 else 1)):=by
 refine eN [(0,_)] Tryz.func179 rfl Tryz.ntmps179 rfl rfl hG ?_;intro a H;refine kP H (SR fun _ K1=>Ra rfl (Kz K1 (SQ fun _ K2=>SR fun _ K3=>Rm rfl (Rc rfl (Kz K3 ?_)))));clear H K1 K3;intro a H;refine c_cond H rfl ?_ ?_
 ·intro h4
  try have p4:=dT h4
  refine kP H (SR fun _ K4=>Ra rfl (Kz K4 ?_));clear H K4;intro a H;refine lr H Tryz.results179 rfl ?_;exact H.hp.ret (by first|(rw [if_pos (by omega)];done)|rw [if_neg (by omega)])
 intro h4
 try have p4:=dF h4
 refine kP H (Kc K2 (SR fun _ K5=>Ra rfl (Kz K5 ?_)));clear H K2 K5;intro a H;refine lr H Tryz.results179 rfl ?_;exact H.hp.ret (by first|(rw [if_pos (by omega)];done)|rw [if_neg (by omega)])
def prevS (l:List StyleD) (k:Nat):Option Int:=if k=0 then none else l[k - 1]?.map StyleD.id
theorem prevS_0 {l:List StyleD} {k:Nat} (h:k=0):prevS l k=none:=if_pos h
def badK (k:Int):Bool:=decide (k=20) || decide (k=1)
/-- The error of a style itself, behind others. -/
def ownE (q:Option Int) (dup:Bool) (s:StyleD):Int :=
 if s.id < 1∨1073741824 < s.id then 18 else if q=some s.id then 7 else if ltB q s.id=true then 6 else if s.kind≠1∧s.kind≠2 then 3 else if isNameS s.name=false then 13 else if dup=true then 7
 else if s.props.any (fun p=>badK p.key)=true then 4 else chkPS (if s.kind=1 then 2 else 1) s.props
def ownS (l:List StyleD) (k:Nat) (s:StyleD):Int:=ownE (prevS l k) (findName (l.take k) s.kind s.name).isSome s
set_option maxHeartbeats 1000000 in
theorem own_spec (G:GH) (w0:World) (hG:Hold G w0) (l:List StyleD) (k:Nat) (v:Value) (hv:RepV G (.sl 6 (l.map StyleD.dat)) v) (hk:k < l.length) (hs:l[k].name.size≤4611686018427387904) :
  Calls Tryz.prog 103 #[v,vi k] w0 (Ret w0 G fun u G'=>u=vi (ownS l k l[k])):=by
 obtain ⟨A,c,rfl,hc1,hc2,-⟩:=hv.slice;have hml:maxLen=9223372036854775807:=rfl;rw [List.length_map] at *;obtain ⟨b,o,pA,pc,rfl,hrow,hp,hrep⟩:=style_at hv hk;obtain ⟨x,hx⟩:∃ x,x=l[k]:=⟨_,rfl⟩;rw [← hx] at hs hrow hp hrep ⊢;have hdp:∀ j v,[vi x.id,vi x.kind,.string x.name,vi x.base,vi x.next,.slice pA x.props.length pc][j]?=some v→gcell G b (o+k*6+j)=some v:=hrow;obtain ⟨_,_,he0,hpc1,hpc2,-⟩:=hp.slice
 injection he0 with _ he1 he2
 rw [List.length_map] at *;subst he2
 obtain ⟨pk,hpk⟩:∃ pk,0 < k→gcell G b (o+(k - 1)*6+0)=some (vi pk)∧prevS l k=some pk:=by
  by_cases h0:0 < k
  ·obtain ⟨b',o',_,_,he,hr',-,-⟩:=style_at hv (show k - 1 < l.length by omega)
   injection he with he
   injection he with e1 e2 e3
   subst e1;subst e2;exact ⟨_,fun _=>⟨hr' 0 _ rfl,by rw [prevS,if_neg (by omega),List.getElem?_eq_getElem (by omega)];rfl⟩⟩
  exact ⟨0,fun h=>absurd h h0⟩
 refine eN [(0,_),(1,_)] Tryz.func103 rfl Tryz.ntmps103 rfl rfl hG ?_;intro a H;refine kP H (SR fun _ K1=>Ra rfl (Kz K1 (SR fun _ K2=>Rm rfl (Rm rfl (Ri un41sty ty100sty rfl rfl ?_)))));clear H K1;intro a H;refine s_loada ty100sty (cs:=[_,_,_,_,_,_]) H wn rfl rfl (fun j v hj=>H.hp.gcell (hrow j v hj)) rfl ?_;clear H;intro a H;refine s_alloc ty100sty H wn rfl ?_;clear H;intro b5 a w hb5 H;refine s_store ty100sty 0 (vs:=[_,_,_,_,_,_]) _ H wn rfl rfl rfl rfl rfl rfl rfl rfl ?_;clear H;intro w H;dsimp only [List.set,setRow] at H;refine K2 _ _ ?_;clear K2;refine c_seqJ (ι:=GH) (Tc:=[(0,_),(1,_),(5,_)]) (Lc:=[(_,_)]) (fun (gh:GH)=>[]) (fun (gh:GH)=>[]) (fun (gh:GH)=>gh) (fun (gh:GH)=>¬ (x.id < 1∨1073741824 < x.id)∧¬ prevS l k=some x.id∧¬ ltB (prevS l k) x.id=true∧¬ (x.kind≠1∧x.kind≠2)∧¬ isNameS x.name=false∧(∀ b o,G b=some o→gh b=some o)) (by exact (H).sub ⟨rfl,rfl,rfl,trivial⟩) ?_ ?_
 ·skip;refine kP H (SB (SR fun _ K3=>Rf fd100_0sty rfl (Ro ty3run 0 rfl rfl (Rc rfl (Rm rfl ?_)))));clear H;intro a H;refine s_split H 18 rfl ?_ ?_
  ·intro h18
   try have p18:=dT h18
   refine kH H (Ks h18 rfl (Ks h18 rfl (Ks h18 rfl (Pt h18 rfl (Ra rfl (Kz K3 ?_))))));clear H K3;intro a H;refine c_cond_t H rfl rfl ?_;refine kP H (SR fun _ K4=>Ra rfl (Kz K4 ?_));clear H K4;intro a H;refine lr H Tryz.results103 rfl ?_
   first
    | exact H.hp.ret (congrArg vi e0.symm)
    | exact H.hp.ret (congrArg vi e4.symm)
    | exact H.hp.ret (congrArg vi e7.symm)
    | exact H.hp.ret (congrArg vi e13.symm)
    | exact H.hp.ret (congrArg vi e3.symm)
    | exact H.hp.ret (congrArg vi e6.symm)
    | exact H.hp.ret (congrArg vi (by rw [ownS,ownE,if_pos (by omega)]))
  intro h18
  try have p18:=dF h18
  refine kH H (YF fd100_0sty h18 rfl (YO ty3run 0 h18 rfl rfl (YC h18 rfl (Pf h18 rfl (Ra rfl (Kz K3 ?_))))));clear H K3;intro a H;refine c_cond H rfl ?_ ?_
  ·intro h14
   try have p14:=dT h14
   refine kP H (SR fun _ K5=>Ra rfl (Kz K5 ?_));clear H K5;intro a H;refine lr H Tryz.results103 rfl ?_
   first
    | exact H.hp.ret (congrArg vi e0.symm)
    | exact H.hp.ret (congrArg vi e4.symm)
    | exact H.hp.ret (congrArg vi e7.symm)
    | exact H.hp.ret (congrArg vi e13.symm)
    | exact H.hp.ret (congrArg vi e3.symm)
    | exact H.hp.ret (congrArg vi e6.symm)
    | exact H.hp.ret (congrArg vi (by rw [ownS,ownE,if_pos (by omega)]))
  intro h14
  try have p14:=dF h14
  refine c_seq (fun _ K6=>?_)
  by_cases c0:0 < (k:Int)
  ·skip
   by_cases c1:x.id=pk
   ·skip;refine c_drawI (hmx) [[],[0],[0,1],[0,1,2],[0,1,2,3],[0,1,2],[0,1,2],[0,1,2,6],[0,1,2,5,6,7],[0,1,2,5,6,7,8],[0,1,2,5,6,7,8,9],(List.range 11),(List.range 12),(List.range 13)] [13] (by kernel_rfl) (by kernel_rfl) (fun (ix_:Nat) (v:Value) (G:GH)=>match ix_ with|0=>v=vi k|1=>v=.bool (decide (0 < (k:Int)))|2=>v=.bool (decide (0 < (k:Int)))|3=>v=.pointer (some ⟨b5,0,none⟩)|4=>v=vi x.id|5=>v=.slice (some ⟨b,o,none⟩) l.length c|6=>v=vi k|7=>v=vi ((k - 1:Nat):Int)|8=>v=.pointer (some ⟨b,o+(k - 1)*6,none⟩)|9=>v=.pointer (some ⟨b,o+(k - 1)*6+0,none⟩)|10=>v=vi pk|11=>v=.bool (decide (x.id=pk))|12=>v=.bool (decide (x.id=pk))|_=>True) (fun _ _ _ _ _ h=>h) H ?_ ?_
    ·clear H;refine al4 ?_ ?_ ?_ ?_ (al4 ?_ ?_ ?_ ?_ (al4 ?_ ?_ ?_ ?_ (allI_cons ?_ (allI_cons ?_ allI_nil))))
     ·exact Z0 rfl rfl fun _ _ _ _ _=>Rm rfl
     ·exact Z1 0 24 rfl rfl fun _ _ _ _ _=>Rc rfl
     ·exact Z1 1 25 rfl rfl fun _ _ _ _ _=>Rm rfl
     ·exact Op1 2 26 rfl rfl fun _ _ _ _ hG _ H fin=>kH H (YF fd100_0sty (decide_eq_true c0) rfl fun _ H=>fin H iJ rfl)
     ·exact Op2 3 27 2 26 rfl rfl fun _ _ _ _ hG _ H fin=>kH H (YO ty3run 0 (decide_eq_true c0) rfl rfl fun _ H=>fin H iJ rfl)
     ·exact Op1 2 26 rfl rfl fun _ _ _ _ hG _ H fin=>kH H (YM (decide_eq_true c0) rfl fun _ H=>fin H iJ rfl)
     ·exact Op1 2 26 rfl rfl fun _ _ _ _ hG _ H fin=>kH H (YM (decide_eq_true c0) rfl fun _ H=>fin H iJ rfl)
     ·refine Op2 6 30 2 26 rfl rfl fun _ a w G1 hG HT H fin=>?_;refine s_sub _ H (wg H rfl rfl (decide_eq_true c0)) rfl rfl rfl (by omega) (by omega) rfl ?_;clear H;intro a H;exact fin H iJ (by first|rfl|exact congrArg vi (by omega))
     ·exact Op3 5 29 7 31 2 26 rfl rfl fun _ _ _ _ hG _ H fin=>kH H (YI un41sty ty100sty (decide_eq_true c0) rfl rfl fun _ H=>fin H iJ rfl)
     ·exact Op2 8 32 2 26 rfl rfl fun _ _ _ _ hG _ H fin=>kH H (YF fd100_0sty (decide_eq_true c0) rfl fun _ H=>fin H iJ rfl)
     ·exact Op2 9 33 2 26 rfl rfl fun _ _ _ _ hG _ H fin=>kH H (YR ty3run (decide_eq_true c0) rfl (gcell_mono hG (hpk (by omega)).1) fun _ H=>fin H iJ rfl)
     ·exact Op3 4 28 10 34 2 26 rfl rfl fun _ _ _ _ hG _ H fin=>kH H (YC (decide_eq_true c0) rfl fun _ H=>fin H iJ rfl)
     ·exact Op2 2 26 11 35 rfl rfl fun _ _ _ _ hG _ H fin=>kH H (Pt (decide_eq_true c0) rfl fun _ H=>fin H iJ rfl)
     exact opB rfl
    clear H;intro a w G hGm4 H hv;obtain ⟨u36,hu36,hp36⟩:=hv 12 36 (by decide) rfl;obtain rfl:u36=.bool (decide (x.id=pk)):=hp36;have H:=H.addS hu36;clear hv;refine kH H (Ra rfl ?_);clear H;intro a H;refine wl_nil ⟨rfl,?_⟩;refine K6 _ _ ?_;clear K6;refine c_cond_t H rfl (decide_eq_true c1) ?_;refine c_seq (fun _ K7=>?_)
    have e7:ownS l k x=7:=by rw [ownS,ownE,if_neg (by omega),if_pos (by rw [(hpk (by omega)).2,c1])]
    refine kP H (SC (Ra rfl (Kn K7 ?_)));clear H K7;intro a H;refine lr H Tryz.results103 rfl ?_
    first
     | exact H.hp.ret (congrArg vi e0.symm)
     | exact H.hp.ret (congrArg vi e4.symm)
     | exact H.hp.ret (congrArg vi e7.symm)
     | exact H.hp.ret (congrArg vi e13.symm)
     | exact H.hp.ret (congrArg vi e3.symm)
     | exact H.hp.ret (congrArg vi e6.symm)
     | exact H.hp.ret (congrArg vi (by rw [ownS,ownE,if_pos (by omega)]))
   skip;refine c_drawI (hmx) [[],[0],[0,1],[0,1,2],[0,1,2,3],[0,1,2],[0,1,2],[0,1,2,6],[0,1,2,5,6,7],[0,1,2,5,6,7,8],[0,1,2,5,6,7,8,9],(List.range 11),(List.range 12),(List.range 13)] [13] (by kernel_rfl) (by kernel_rfl) (fun (ix_:Nat) (v:Value) (G:GH)=>match ix_ with|0=>v=vi k|1=>v=.bool (decide (0 < (k:Int)))|2=>v=.bool (decide (0 < (k:Int)))|3=>v=.pointer (some ⟨b5,0,none⟩)|4=>v=vi x.id|5=>v=.slice (some ⟨b,o,none⟩) l.length c|6=>v=vi k|7=>v=vi ((k - 1:Nat):Int)|8=>v=.pointer (some ⟨b,o+(k - 1)*6,none⟩)|9=>v=.pointer (some ⟨b,o+(k - 1)*6+0,none⟩)|10=>v=vi pk|11=>v=.bool (decide (x.id=pk))|12=>v=.bool (decide (x.id=pk))|_=>True) (fun _ _ _ _ _ h=>h) H ?_ ?_
   ·clear H;refine al4 ?_ ?_ ?_ ?_ (al4 ?_ ?_ ?_ ?_ (al4 ?_ ?_ ?_ ?_ (allI_cons ?_ (allI_cons ?_ allI_nil))))
    ·exact Z0 rfl rfl fun _ _ _ _ _=>Rm rfl
    ·exact Z1 0 24 rfl rfl fun _ _ _ _ _=>Rc rfl
    ·exact Z1 1 25 rfl rfl fun _ _ _ _ _=>Rm rfl
    ·exact Op1 2 26 rfl rfl fun _ _ _ _ hG _ H fin=>kH H (YF fd100_0sty (decide_eq_true c0) rfl fun _ H=>fin H iJ rfl)
    ·exact Op2 3 27 2 26 rfl rfl fun _ _ _ _ hG _ H fin=>kH H (YO ty3run 0 (decide_eq_true c0) rfl rfl fun _ H=>fin H iJ rfl)
    ·exact Op1 2 26 rfl rfl fun _ _ _ _ hG _ H fin=>kH H (YM (decide_eq_true c0) rfl fun _ H=>fin H iJ rfl)
    ·exact Op1 2 26 rfl rfl fun _ _ _ _ hG _ H fin=>kH H (YM (decide_eq_true c0) rfl fun _ H=>fin H iJ rfl)
    ·refine Op2 6 30 2 26 rfl rfl fun _ a w G1 hG HT H fin=>?_;refine s_sub _ H (wg H rfl rfl (decide_eq_true c0)) rfl rfl rfl (by omega) (by omega) rfl ?_;clear H;intro a H;exact fin H iJ (by first|rfl|exact congrArg vi (by omega))
    ·exact Op3 5 29 7 31 2 26 rfl rfl fun _ _ _ _ hG _ H fin=>kH H (YI un41sty ty100sty (decide_eq_true c0) rfl rfl fun _ H=>fin H iJ rfl)
    ·exact Op2 8 32 2 26 rfl rfl fun _ _ _ _ hG _ H fin=>kH H (YF fd100_0sty (decide_eq_true c0) rfl fun _ H=>fin H iJ rfl)
    ·exact Op2 9 33 2 26 rfl rfl fun _ _ _ _ hG _ H fin=>kH H (YR ty3run (decide_eq_true c0) rfl (gcell_mono hG (hpk (by omega)).1) fun _ H=>fin H iJ rfl)
    ·exact Op3 4 28 10 34 2 26 rfl rfl fun _ _ _ _ hG _ H fin=>kH H (YC (decide_eq_true c0) rfl fun _ H=>fin H iJ rfl)
    ·exact Op2 2 26 11 35 rfl rfl fun _ _ _ _ hG _ H fin=>kH H (Pt (decide_eq_true c0) rfl fun _ H=>fin H iJ rfl)
    exact opB rfl
   clear H;intro a w G hGm4 H hv;obtain ⟨u36,hu36,hp36⟩:=hv 12 36 (by decide) rfl;obtain rfl:u36=.bool (decide (x.id=pk)):=hp36;have H:=H.addS hu36;clear hv;refine kH H (Ra rfl ?_);clear H;intro a H;refine wl_nil ⟨rfl,?_⟩;refine K6 _ _ ?_;clear K6;refine c_cond_f H rfl (decide_eq_false c1) ?_;refine c_seq (fun _ K8=>?_)
   have q1:¬ (0 < (k:Int)∧x.id=pk):=by first|exact fun h=>c1 h.2|exact fun h=>c0 h.1
   have q1':¬ prevS l k=some x.id:=fun h=>q1 (by
    by_cases h0:0 < k
    ·rw [(hpk h0).2] at h
     injection h with h
     exact ⟨by omega,h.symm⟩
    rw [prevS_0 (by omega)] at h
    cases h)
   by_cases c3:x.id < pk
   ·skip;refine c_drawI (hmx) [[],[0],[0,1],[0,1,2],[0,1,2,3],[0,1,2],[0,1,2],[0,1,2,6],[0,1,2,5,6,7],[0,1,2,5,6,7,8],[0,1,2,5,6,7,8,9],(List.range 11),(List.range 12),(List.range 13)] [13] (by kernel_rfl) (by kernel_rfl) (fun (ix_:Nat) (v:Value) (G:GH)=>match ix_ with|0=>v=vi k|1=>v=.bool (decide (0 < (k:Int)))|2=>v=.bool (decide (0 < (k:Int)))|3=>v=.pointer (some ⟨b5,0,none⟩)|4=>v=vi x.id|5=>v=.slice (some ⟨b,o,none⟩) l.length c|6=>v=vi k|7=>v=vi ((k - 1:Nat):Int)|8=>v=.pointer (some ⟨b,o+(k - 1)*6,none⟩)|9=>v=.pointer (some ⟨b,o+(k - 1)*6+0,none⟩)|10=>v=vi pk|11=>v=.bool (decide (x.id < pk))|12=>v=.bool (decide (x.id < pk))|_=>True) (fun _ _ _ _ _ h=>h) H ?_ ?_
    ·clear H;refine al4 ?_ ?_ ?_ ?_ (al4 ?_ ?_ ?_ ?_ (al4 ?_ ?_ ?_ ?_ (allI_cons ?_ (allI_cons ?_ allI_nil))))
     ·exact Z0 rfl rfl fun _ _ _ _ _=>Rm rfl
     ·exact Z1 0 38 rfl rfl fun _ _ _ _ _=>Rc rfl
     ·exact Z1 1 39 rfl rfl fun _ _ _ _ _=>Rm rfl
     ·exact Op1 2 40 rfl rfl fun _ _ _ _ hG _ H fin=>kH H (YF fd100_0sty (decide_eq_true c0) rfl fun _ H=>fin H iJ rfl)
     ·exact Op2 3 41 2 40 rfl rfl fun _ _ _ _ hG _ H fin=>kH H (YO ty3run 0 (decide_eq_true c0) rfl rfl fun _ H=>fin H iJ rfl)
     ·exact Op1 2 40 rfl rfl fun _ _ _ _ hG _ H fin=>kH H (YM (decide_eq_true c0) rfl fun _ H=>fin H iJ rfl)
     ·exact Op1 2 40 rfl rfl fun _ _ _ _ hG _ H fin=>kH H (YM (decide_eq_true c0) rfl fun _ H=>fin H iJ rfl)
     ·refine Op2 6 44 2 40 rfl rfl fun _ a w G1 hG HT H fin=>?_;refine s_sub _ H (wg H rfl rfl (decide_eq_true c0)) rfl rfl rfl (by omega) (by omega) rfl ?_;clear H;intro a H;exact fin H iJ (by first|rfl|exact congrArg vi (by omega))
     ·exact Op3 5 43 7 45 2 40 rfl rfl fun _ _ _ _ hG _ H fin=>kH H (YI un41sty ty100sty (decide_eq_true c0) rfl rfl fun _ H=>fin H iJ rfl)
     ·exact Op2 8 46 2 40 rfl rfl fun _ _ _ _ hG _ H fin=>kH H (YF fd100_0sty (decide_eq_true c0) rfl fun _ H=>fin H iJ rfl)
     ·exact Op2 9 47 2 40 rfl rfl fun _ _ _ _ hG _ H fin=>kH H (YR ty3run (decide_eq_true c0) rfl (gcell_mono hG (gcell_mono hGm4 (hpk (by omega)).1)) fun _ H=>fin H iJ rfl)
     ·exact Op3 4 42 10 48 2 40 rfl rfl fun _ _ _ _ hG _ H fin=>kH H (YC (decide_eq_true c0) rfl fun _ H=>fin H iJ rfl)
     ·exact Op2 2 40 11 49 rfl rfl fun _ _ _ _ hG _ H fin=>kH H (Pt (decide_eq_true c0) rfl fun _ H=>fin H iJ rfl)
     exact opB rfl
    clear H;intro a w G hGm6 H hv;obtain ⟨u50,hu50,hp50⟩:=hv 12 50 (by decide) rfl;obtain rfl:u50=.bool (decide (x.id < pk)):=hp50;have H:=H.addS hu50;clear hv;refine kH H (Ra rfl ?_);clear H;intro a H;refine wl_nil ⟨rfl,?_⟩;refine K8 _ _ ?_;clear K8;refine c_cond_t H rfl (decide_eq_true c3) ?_;refine c_seq (fun _ K9=>?_)
    have e6:ownS l k x=6:=by rw [ownS,ownE,if_neg (by omega),if_neg q1',if_pos (by rw [(hpk (by omega)).2];exact decide_eq_true c3)]
    refine kP H (SC (Ra rfl (Kn K9 ?_)));clear H K9;intro a H;refine lr H Tryz.results103 rfl ?_
    first
     | exact H.hp.ret (congrArg vi e0.symm)
     | exact H.hp.ret (congrArg vi e4.symm)
     | exact H.hp.ret (congrArg vi e7.symm)
     | exact H.hp.ret (congrArg vi e13.symm)
     | exact H.hp.ret (congrArg vi e3.symm)
     | exact H.hp.ret (congrArg vi e6.symm)
     | exact H.hp.ret (congrArg vi (by rw [ownS,ownE,if_pos (by omega)]))
   skip;refine c_drawI (hmx) [[],[0],[0,1],[0,1,2],[0,1,2,3],[0,1,2],[0,1,2],[0,1,2,6],[0,1,2,5,6,7],[0,1,2,5,6,7,8],[0,1,2,5,6,7,8,9],(List.range 11),(List.range 12),(List.range 13)] [13] (by kernel_rfl) (by kernel_rfl) (fun (ix_:Nat) (v:Value) (G:GH)=>match ix_ with|0=>v=vi k|1=>v=.bool (decide (0 < (k:Int)))|2=>v=.bool (decide (0 < (k:Int)))|3=>v=.pointer (some ⟨b5,0,none⟩)|4=>v=vi x.id|5=>v=.slice (some ⟨b,o,none⟩) l.length c|6=>v=vi k|7=>v=vi ((k - 1:Nat):Int)|8=>v=.pointer (some ⟨b,o+(k - 1)*6,none⟩)|9=>v=.pointer (some ⟨b,o+(k - 1)*6+0,none⟩)|10=>v=vi pk|11=>v=.bool (decide (x.id < pk))|12=>v=.bool (decide (x.id < pk))|_=>True) (fun _ _ _ _ _ h=>h) H ?_ ?_
   ·clear H;refine al4 ?_ ?_ ?_ ?_ (al4 ?_ ?_ ?_ ?_ (al4 ?_ ?_ ?_ ?_ (allI_cons ?_ (allI_cons ?_ allI_nil))))
    ·exact Z0 rfl rfl fun _ _ _ _ _=>Rm rfl
    ·exact Z1 0 38 rfl rfl fun _ _ _ _ _=>Rc rfl
    ·exact Z1 1 39 rfl rfl fun _ _ _ _ _=>Rm rfl
    ·exact Op1 2 40 rfl rfl fun _ _ _ _ hG _ H fin=>kH H (YF fd100_0sty (decide_eq_true c0) rfl fun _ H=>fin H iJ rfl)
    ·exact Op2 3 41 2 40 rfl rfl fun _ _ _ _ hG _ H fin=>kH H (YO ty3run 0 (decide_eq_true c0) rfl rfl fun _ H=>fin H iJ rfl)
    ·exact Op1 2 40 rfl rfl fun _ _ _ _ hG _ H fin=>kH H (YM (decide_eq_true c0) rfl fun _ H=>fin H iJ rfl)
    ·exact Op1 2 40 rfl rfl fun _ _ _ _ hG _ H fin=>kH H (YM (decide_eq_true c0) rfl fun _ H=>fin H iJ rfl)
    ·refine Op2 6 44 2 40 rfl rfl fun _ a w G1 hG HT H fin=>?_;refine s_sub _ H (wg H rfl rfl (decide_eq_true c0)) rfl rfl rfl (by omega) (by omega) rfl ?_;clear H;intro a H;exact fin H iJ (by first|rfl|exact congrArg vi (by omega))
    ·exact Op3 5 43 7 45 2 40 rfl rfl fun _ _ _ _ hG _ H fin=>kH H (YI un41sty ty100sty (decide_eq_true c0) rfl rfl fun _ H=>fin H iJ rfl)
    ·exact Op2 8 46 2 40 rfl rfl fun _ _ _ _ hG _ H fin=>kH H (YF fd100_0sty (decide_eq_true c0) rfl fun _ H=>fin H iJ rfl)
    ·exact Op2 9 47 2 40 rfl rfl fun _ _ _ _ hG _ H fin=>kH H (YR ty3run (decide_eq_true c0) rfl (gcell_mono hG (gcell_mono hGm4 (hpk (by omega)).1)) fun _ H=>fin H iJ rfl)
    ·exact Op3 4 42 10 48 2 40 rfl rfl fun _ _ _ _ hG _ H fin=>kH H (YC (decide_eq_true c0) rfl fun _ H=>fin H iJ rfl)
    ·exact Op2 2 40 11 49 rfl rfl fun _ _ _ _ hG _ H fin=>kH H (Pt (decide_eq_true c0) rfl fun _ H=>fin H iJ rfl)
    exact opB rfl
   clear H;intro a w G hGm6 H hv;obtain ⟨u50,hu50,hp50⟩:=hv 12 50 (by decide) rfl;obtain rfl:u50=.bool (decide (x.id < pk)):=hp50;have H:=H.addS hu50;clear hv;refine kH H (Ra rfl ?_);clear H;intro a H;refine wl_nil ⟨rfl,?_⟩;refine K8 _ _ ?_;clear K8;refine c_cond_f H rfl (decide_eq_false c3) ?_;refine c_seq (fun _ K10=>?_)
   have q2:¬ (0 < (k:Int)∧x.id < pk):=by first|exact fun h=>c3 h.2|exact fun h=>c0 h.1
   have q2':¬ ltB (prevS l k) x.id=true:=fun h=>q2 (by
    by_cases h0:0 < k
    ·rw [(hpk h0).2] at h;exact ⟨by omega,of_decide_eq_true h⟩
    rw [prevS_0 (by omega)] at h
    cases h)
   refine kP H (SC (Rf fd100_1sty rfl (Ro ty3run 0 rfl rfl (Rc rfl (Rm rfl ?_)))));clear H;intro a H;refine s_split H 55 rfl ?_ ?_
   ·intro h55
    try have p55:=dT h55
    refine kH H (YF fd100_1sty h55 rfl (YO ty3run 0 h55 rfl rfl (YC h55 rfl (Pt h55 rfl (Ra rfl (Kn K10 ?_))))));clear H K10;intro a H;refine c_cond H rfl ?_ ?_
    ·intro h51
     try have p51:=dT h51
     refine c_seq (fun _ K11=>?_)
     have e3:ownS l k x=3:=by rw [ownS,ownE,if_neg (by omega),if_neg q1',if_neg q2',if_pos (by omega)]
     refine kP H (SC (Ra rfl (Kn K11 ?_)));clear H K11;intro a H;refine lr H Tryz.results103 rfl ?_
     first
      | exact H.hp.ret (congrArg vi e0.symm)
      | exact H.hp.ret (congrArg vi e4.symm)
      | exact H.hp.ret (congrArg vi e7.symm)
      | exact H.hp.ret (congrArg vi e13.symm)
      | exact H.hp.ret (congrArg vi e3.symm)
      | exact H.hp.ret (congrArg vi e6.symm)
      | exact H.hp.ret (congrArg vi (by rw [ownS,ownE,if_pos (by omega)]))
    intro h51
    try have p51:=dF h51
    refine kP H (SR fun _ K12=>Rf fd100_2sty rfl (Ro ty9run 0 rfl rfl ?_));clear H;intro a H;refine s_call en177stz H wn rfl (isName_spec _ _ H.hp.ro x.name hs) rfl ?_;clear H;rintro v63 G63 a w rfl hm63 H;refine kH H (Rn rfl (Ra rfl (Kz K12 ?_)));clear H K12;intro a H;refine c_cond H rfl ?_ ?_
    ·intro h60
     try have p60:=dT h60
     refine c_seq (fun _ K13=>?_)
     have e13:ownS l k x=13:=by rw [ownS,ownE,if_neg (by omega),if_neg q1',if_neg q2',if_neg (by omega),if_pos (by simpa using h60)]
     refine kP H (SC (Ra rfl (Kn K13 ?_)));clear H K13;intro a H;refine lr H Tryz.results103 rfl ?_
     first
      | exact H.hp.ret (congrArg vi e0.symm)
      | exact H.hp.ret (congrArg vi e4.symm)
      | exact H.hp.ret (congrArg vi e7.symm)
      | exact H.hp.ret (congrArg vi e13.symm)
      | exact H.hp.ret (congrArg vi e3.symm)
      | exact H.hp.ret (congrArg vi e6.symm)
      | exact H.hp.ret (congrArg vi (by rw [ownS,ownE,if_pos (by omega)]))
    intro h60
    try have p60:=dF h60
    refine c_skip ?_;refine ⟨G63,by exact (H).sub ⟨rfl,rfl,rfl,trivial⟩,?_⟩;exact ⟨by omega,q1',q2',by omega,by simpa using h60,fun b o h=>hm63 b o (hGm6 b o (hGm4 b o h))⟩
   intro h55
   try have p55:=dF h55
   refine kH H (Ks h55 rfl (Ks h55 rfl (Ks h55 rfl (Pf h55 rfl (Ra rfl (Kn K10 ?_))))));clear H K10;intro a H;refine c_cond_f H rfl rfl ?_;refine kP H (SR fun _ K14=>Rf fd100_2sty rfl (Ro ty9run 0 rfl rfl ?_));clear H;intro a H;refine s_call en177stz H wn rfl (isName_spec _ _ H.hp.ro x.name hs) rfl ?_;clear H;rintro v63 G63 a w rfl hm63 H;refine kH H (Rn rfl (Ra rfl (Kz K14 ?_)));clear H K14;intro a H;refine c_cond H rfl ?_ ?_
   ·intro h60
    try have p60:=dT h60
    refine c_seq (fun _ K15=>?_)
    have e13:ownS l k x=13:=by rw [ownS,ownE,if_neg (by omega),if_neg q1',if_neg q2',if_neg (by omega),if_pos (by simpa using h60)]
    refine kP H (SC (Ra rfl (Kn K15 ?_)));clear H K15;intro a H;refine lr H Tryz.results103 rfl ?_
    first
     | exact H.hp.ret (congrArg vi e0.symm)
     | exact H.hp.ret (congrArg vi e4.symm)
     | exact H.hp.ret (congrArg vi e7.symm)
     | exact H.hp.ret (congrArg vi e13.symm)
     | exact H.hp.ret (congrArg vi e3.symm)
     | exact H.hp.ret (congrArg vi e6.symm)
     | exact H.hp.ret (congrArg vi (by rw [ownS,ownE,if_pos (by omega)]))
   intro h60
   try have p60:=dF h60
   refine c_skip ?_;refine ⟨G63,by exact (H).sub ⟨rfl,rfl,rfl,trivial⟩,?_⟩;exact ⟨by omega,q1',q2',by omega,by simpa using h60,fun b o h=>hm63 b o (hGm6 b o (hGm4 b o h))⟩
  skip;refine c_drawI (hmx) [[],[0],[0,1],[0,1,2],[0,1,2,3],[0,1,2],[0,1,2],[0,1,2,6],[0,1,2,5,6,7],[0,1,2,5,6,7,8],[0,1,2,5,6,7,8,9],(List.range 11),(List.range 12),(List.range 13)] [13] (by kernel_rfl) (by kernel_rfl) (fun (ix_:Nat) (v:Value) (G:GH)=>match ix_ with|0=>v=vi k|1=>v=.bool (decide (0 < (k:Int)))|2=>v=.bool (decide (0 < (k:Int)))|3=>v=undef|4=>v=undef|5=>v=undef|6=>v=undef|7=>v=undef|8=>v=undef|9=>v=undef|10=>v=undef|11=>v=undef|12=>v=.bool false|_=>True) (fun _ _ _ _ _ h=>h) H ?_ ?_
  ·clear H;refine al4 ?_ ?_ ?_ ?_ (al4 ?_ ?_ ?_ ?_ (al4 ?_ ?_ ?_ ?_ (allI_cons ?_ (allI_cons ?_ allI_nil))))
   ·exact Z0 rfl rfl fun _ _ _ _ _=>Rm rfl
   ·exact Z1 0 24 rfl rfl fun _ _ _ _ _=>Rc rfl
   ·exact Z1 1 25 rfl rfl fun _ _ _ _ _=>Rm rfl
   ·exact skI 2 (decide_eq_false c0) rfl rfl
   ·exact skI 2 (decide_eq_false c0) rfl rfl
   ·exact skI 2 (decide_eq_false c0) rfl rfl
   ·exact skI 2 (decide_eq_false c0) rfl rfl
   ·exact skI 2 (decide_eq_false c0) rfl rfl
   ·exact skI 2 (decide_eq_false c0) rfl rfl
   ·exact skI 2 (decide_eq_false c0) rfl rfl
   ·exact skI 2 (decide_eq_false c0) rfl rfl
   ·exact skI 2 (decide_eq_false c0) rfl rfl
   ·exact Op2 2 26 11 35 rfl rfl fun _ _ _ _ hG _ H fin=>kH H (Pf (decide_eq_false c0) rfl fun _ H=>fin H iJ rfl)
   exact opB rfl
  clear H;intro a w G hGm4 H hv;obtain ⟨u36,hu36,hp36⟩:=hv 12 36 (by decide) rfl;obtain rfl:u36=.bool false:=hp36;have H:=H.addS hu36;clear hv;refine kH H (Ra rfl ?_);clear H;intro a H;refine wl_nil ⟨rfl,?_⟩;refine K6 _ _ ?_;clear K6;refine c_cond_f H rfl rfl ?_;refine c_seq (fun _ K16=>?_)
  have q1:¬ (0 < (k:Int)∧x.id=pk):=by first|exact fun h=>c1 h.2|exact fun h=>c0 h.1
  have q1':¬ prevS l k=some x.id:=fun h=>q1 (by
   by_cases h0:0 < k
   ·rw [(hpk h0).2] at h
    injection h with h
    exact ⟨by omega,h.symm⟩
   rw [prevS_0 (by omega)] at h
   cases h)
  refine c_drawI (hmx) [[],[0],[0,1],[0,1,2],[0,1,2,3],[0,1,2],[0,1,2],[0,1,2,6],[0,1,2,5,6,7],[0,1,2,5,6,7,8],[0,1,2,5,6,7,8,9],(List.range 11),(List.range 12),(List.range 13)] [13] (by kernel_rfl) (by kernel_rfl) (fun (ix_:Nat) (v:Value) (G:GH)=>match ix_ with|0=>v=vi k|1=>v=.bool (decide (0 < (k:Int)))|2=>v=.bool (decide (0 < (k:Int)))|3=>v=undef|4=>v=undef|5=>v=undef|6=>v=undef|7=>v=undef|8=>v=undef|9=>v=undef|10=>v=undef|11=>v=undef|12=>v=.bool false|_=>True) (fun _ _ _ _ _ h=>h) H ?_ ?_
  ·clear H;refine al4 ?_ ?_ ?_ ?_ (al4 ?_ ?_ ?_ ?_ (al4 ?_ ?_ ?_ ?_ (allI_cons ?_ (allI_cons ?_ allI_nil))))
   ·exact Z0 rfl rfl fun _ _ _ _ _=>Rm rfl
   ·exact Z1 0 38 rfl rfl fun _ _ _ _ _=>Rc rfl
   ·exact Z1 1 39 rfl rfl fun _ _ _ _ _=>Rm rfl
   ·exact skI 2 (decide_eq_false c0) rfl rfl
   ·exact skI 2 (decide_eq_false c0) rfl rfl
   ·exact skI 2 (decide_eq_false c0) rfl rfl
   ·exact skI 2 (decide_eq_false c0) rfl rfl
   ·exact skI 2 (decide_eq_false c0) rfl rfl
   ·exact skI 2 (decide_eq_false c0) rfl rfl
   ·exact skI 2 (decide_eq_false c0) rfl rfl
   ·exact skI 2 (decide_eq_false c0) rfl rfl
   ·exact skI 2 (decide_eq_false c0) rfl rfl
   ·exact Op2 2 40 11 49 rfl rfl fun _ _ _ _ hG _ H fin=>kH H (Pf (decide_eq_false c0) rfl fun _ H=>fin H iJ rfl)
   exact opB rfl
  clear H;intro a w G hGm6 H hv;obtain ⟨u50,hu50,hp50⟩:=hv 12 50 (by decide) rfl;obtain rfl:u50=.bool false:=hp50;have H:=H.addS hu50;clear hv;refine kH H (Ra rfl ?_);clear H;intro a H;refine wl_nil ⟨rfl,?_⟩;refine K16 _ _ ?_;clear K16;refine c_cond_f H rfl rfl ?_;refine c_seq (fun _ K17=>?_)
  have q2:¬ (0 < (k:Int)∧x.id < pk):=by first|exact fun h=>c3 h.2|exact fun h=>c0 h.1
  have q2':¬ ltB (prevS l k) x.id=true:=fun h=>q2 (by
   by_cases h0:0 < k
   ·rw [(hpk h0).2] at h;exact ⟨by omega,of_decide_eq_true h⟩
   rw [prevS_0 (by omega)] at h
   cases h)
  refine kP H (SC (Rf fd100_1sty rfl (Ro ty3run 0 rfl rfl (Rc rfl (Rm rfl ?_)))));clear H;intro a H;refine s_split H 55 rfl ?_ ?_
  ·intro h55
   try have p55:=dT h55
   refine kH H (YF fd100_1sty h55 rfl (YO ty3run 0 h55 rfl rfl (YC h55 rfl (Pt h55 rfl (Ra rfl (Kn K17 ?_))))));clear H K17;intro a H;refine c_cond H rfl ?_ ?_
   ·intro h51
    try have p51:=dT h51
    refine c_seq (fun _ K18=>?_)
    have e3:ownS l k x=3:=by rw [ownS,ownE,if_neg (by omega),if_neg q1',if_neg q2',if_pos (by omega)]
    refine kP H (SC (Ra rfl (Kn K18 ?_)));clear H K18;intro a H;refine lr H Tryz.results103 rfl ?_
    first
     | exact H.hp.ret (congrArg vi e0.symm)
     | exact H.hp.ret (congrArg vi e4.symm)
     | exact H.hp.ret (congrArg vi e7.symm)
     | exact H.hp.ret (congrArg vi e13.symm)
     | exact H.hp.ret (congrArg vi e3.symm)
     | exact H.hp.ret (congrArg vi e6.symm)
     | exact H.hp.ret (congrArg vi (by rw [ownS,ownE,if_pos (by omega)]))
   intro h51
   try have p51:=dF h51
   refine kP H (SR fun _ K19=>Rf fd100_2sty rfl (Ro ty9run 0 rfl rfl ?_));clear H;intro a H;refine s_call en177stz H wn rfl (isName_spec _ _ H.hp.ro x.name hs) rfl ?_;clear H;rintro v63 G63 a w rfl hm63 H;refine kH H (Rn rfl (Ra rfl (Kz K19 ?_)));clear H K19;intro a H;refine c_cond H rfl ?_ ?_
   ·intro h60
    try have p60:=dT h60
    refine c_seq (fun _ K20=>?_)
    have e13:ownS l k x=13:=by rw [ownS,ownE,if_neg (by omega),if_neg q1',if_neg q2',if_neg (by omega),if_pos (by simpa using h60)]
    refine kP H (SC (Ra rfl (Kn K20 ?_)));clear H K20;intro a H;refine lr H Tryz.results103 rfl ?_
    first
     | exact H.hp.ret (congrArg vi e0.symm)
     | exact H.hp.ret (congrArg vi e4.symm)
     | exact H.hp.ret (congrArg vi e7.symm)
     | exact H.hp.ret (congrArg vi e13.symm)
     | exact H.hp.ret (congrArg vi e3.symm)
     | exact H.hp.ret (congrArg vi e6.symm)
     | exact H.hp.ret (congrArg vi (by rw [ownS,ownE,if_pos (by omega)]))
   intro h60
   try have p60:=dF h60
   refine c_skip ?_;refine ⟨G63,by exact (H).sub ⟨rfl,rfl,rfl,trivial⟩,?_⟩;exact ⟨by omega,q1',q2',by omega,by simpa using h60,fun b o h=>hm63 b o (hGm6 b o (hGm4 b o h))⟩
  intro h55
  try have p55:=dF h55
  refine kH H (Ks h55 rfl (Ks h55 rfl (Ks h55 rfl (Pf h55 rfl (Ra rfl (Kn K17 ?_))))));clear H K17;intro a H;refine c_cond_f H rfl rfl ?_;refine kP H (SR fun _ K21=>Rf fd100_2sty rfl (Ro ty9run 0 rfl rfl ?_));clear H;intro a H;refine s_call en177stz H wn rfl (isName_spec _ _ H.hp.ro x.name hs) rfl ?_;clear H;rintro v63 G63 a w rfl hm63 H;refine kH H (Rn rfl (Ra rfl (Kz K21 ?_)));clear H K21;intro a H;refine c_cond H rfl ?_ ?_
  ·intro h60
   try have p60:=dT h60
   refine c_seq (fun _ K22=>?_)
   have e13:ownS l k x=13:=by rw [ownS,ownE,if_neg (by omega),if_neg q1',if_neg q2',if_neg (by omega),if_pos (by simpa using h60)]
   refine kP H (SC (Ra rfl (Kn K22 ?_)));clear H K22;intro a H;refine lr H Tryz.results103 rfl ?_
   first
    | exact H.hp.ret (congrArg vi e0.symm)
    | exact H.hp.ret (congrArg vi e4.symm)
    | exact H.hp.ret (congrArg vi e7.symm)
    | exact H.hp.ret (congrArg vi e13.symm)
    | exact H.hp.ret (congrArg vi e3.symm)
    | exact H.hp.ret (congrArg vi e6.symm)
    | exact H.hp.ret (congrArg vi (by rw [ownS,ownE,if_pos (by omega)]))
  intro h60
  try have p60:=dF h60
  refine c_skip ?_;refine ⟨G63,by exact (H).sub ⟨rfl,rfl,rfl,trivial⟩,?_⟩;exact ⟨by omega,q1',q2',by omega,by simpa using h60,fun b o h=>hm63 b o (hGm6 b o (hGm4 b o h))⟩
 clear H;intro gh a w hI H;obtain ⟨g,hgh⟩:∃ x,x=gh:=⟨_,rfl⟩;subst hgh;obtain ⟨q0,q1',q2',q3,q4,hgm⟩:=hI;dsimp only [List.cons_append,List.nil_append,List.append_nil] at H;refine c_seq (fun _ K23=>?_);refine c_seq (fun _ K24=>?_);have hv12:=(hv.mono hgm).pre k (by rw [List.length_map];omega);rw [← List.map_take] at hv12;have hp12:=hp.mono hgm;refine c_drawI (hmx) [[],[],[0,1],[],[3],[],[5],(List.range 7),(List.range 8),(List.range 9),(List.range 9),(List.range 10),(List.range 12)] [12] (by kernel_rfl) (by kernel_rfl) (fun (ix_:Nat) (v:Value) (G:GH)=>match ix_ with|0=>v=.slice (some ⟨b,o,none⟩) l.length c|1=>v=vi k|2=>v=.slice (some ⟨b,o,none⟩) k c|3=>v=.pointer (some ⟨b5,1,none⟩)|4=>v=vi x.kind|5=>v=.pointer (some ⟨b5,2,none⟩)|6=>v=.string x.name|7=>v=.tuple #[vi (max (ixI (findName (l.take k) x.kind x.name)) 0),.bool (findName (l.take k) x.kind x.name).isSome]|8=>v=.tuple #[vi (max (ixI (findName (l.take k) x.kind x.name)) 0),.bool (findName (l.take k) x.kind x.name).isSome]|9=>v=vi (max (ixI (findName (l.take k) x.kind x.name)) 0)|10=>v=.bool (findName (l.take k) x.kind x.name).isSome|11=>v=vi (max (ixI (findName (l.take k) x.kind x.name)) 0)|_=>True) (fun _ _ _ _ _ h=>h) H ?_ ?_
 ·clear H;refine al4 ?_ ?_ ?_ ?_ (al4 ?_ ?_ ?_ ?_ (al4 ?_ ?_ ?_ ?_ (allI_cons ?_ allI_nil)))
  ·exact Z0 rfl rfl fun _ _ _ _ _=>Rm rfl
  ·exact Z0 rfl rfl fun _ _ _ _ _=>Rm rfl
  ·refine Op2 0 66 1 67 rfl rfl fun _ a w G1 hG HT H fin=>?_;refine s_sliceTo un41sty ty100sty k H wn rfl rfl rfl (by omega) rfl ?_;clear H;intro a H;exact fin H iJ rfl
  ·exact Z0 rfl rfl fun _ _ _ _ _=>Rf fd100_1sty rfl
  ·exact Z1 3 69 rfl rfl fun _ _ _ _ _=>Ro ty3run 0 rfl rfl
  ·exact Z0 rfl rfl fun _ _ _ _ _=>Rf fd100_2sty rfl
  ·exact Z1 5 71 rfl rfl fun _ _ _ _ _=>Ro ty9run 0 rfl rfl
  ·refine Op3 2 68 4 70 6 72 rfl rfl fun _ a w G1 hG HT H fin=>?_;refine s_call en178stz H wn rfl (findName_spec _ _ H.hp.ro (l.take k) x.kind x.name _ (hv12.mono hG)) rfl ?_;clear H;rintro v73 G73 a w rfl hGm73 H;exact fin H hGm73 (rfl)
  ·exact Z1 7 73 rfl rfl fun _ _ _ _ _=>Rm rfl
  ·refine Op1 8 65 rfl rfl fun _ a w G1 hG HT H fin=>?_;refine s_extract H wn rfl rfl rfl ?_;clear H;intro a H;exact fin H iJ rfl
  ·refine Op1 8 65 rfl rfl fun _ a w G1 hG HT H fin=>?_;refine s_extract H wn rfl rfl rfl ?_;clear H;intro a H;exact fin H iJ rfl
  ·exact Z1 9 74 rfl rfl fun _ _ _ _ _=>Ra rfl
  exact opB rfl
 clear H;intro a w G hGm12 H hv;obtain ⟨u75,hu75,hp75⟩:=hv 10 75 (by decide) rfl;obtain rfl:u75=.bool (findName (l.take k) x.kind x.name).isSome:=hp75;have H:=H.addS hu75;clear hv;refine kH H (Ra rfl ?_);clear H;intro a H;refine wl_nil ⟨rfl,?_⟩;refine K24 _ _ ?_;clear K24;refine kP H (SR fun _ K25=>Rm rfl (Kz K25 ?_));clear H K25;intro a H;refine c_cond H rfl ?_ ?_
 ·intro h76
  try have p76:=dT h76
  refine c_seq (fun _ K26=>?_)
  have e7:ownS l k x=7:=by rw [ownS,ownE,if_neg (by omega),if_neg q1',if_neg q2',if_neg q3,if_neg q4,if_pos h76]
  refine kP H (SC (Ra rfl (Kn K26 ?_)));clear H K26;intro a H;refine lr H Tryz.results103 rfl ?_
  first
   | exact H.hp.ret (congrArg vi e0.symm)
   | exact H.hp.ret (congrArg vi e4.symm)
   | exact H.hp.ret (congrArg vi e7.symm)
   | exact H.hp.ret (congrArg vi e13.symm)
   | exact H.hp.ret (congrArg vi e3.symm)
   | exact H.hp.ret (congrArg vi e6.symm)
   | exact H.hp.ret (congrArg vi (by rw [ownS,ownE,if_pos (by omega)]))
 intro h76
 try have p76:=dF h76
 refine kP H (Kc K23 (SQ fun _ K27=>SQ fun _ K28=>?_));clear H K23;intro a H
 have q5:¬ (findName (l.take k) x.kind x.name).isSome=true:=by simpa using h76
 have hp15:=hp12.mono hGm12;refine kP H (SC (Rf fd100_5stz rfl (Ro ty25run 0 rfl rfl (Rl un25run rfl (Rm rfl (Kn K28 (SB ?_)))))));clear H K28;intro a H;skip;refine c_loopS (ι:=Nat) (Tc:=[(5,_),(78,_),(79,_)]) (Lc:=[(_,_)]) (fun (gh:Nat)=>[(80,vi gh)]) (fun (gh:Nat)=>[]) (fun (gh:Nat)=>G) (fun (gh:Nat)=>gh≤x.props.length∧(x.props.take gh).any (fun p=>badK p.key)=false) (fun (gh:Nat)=>x.props.length - gh) (0) (by exact (H).sub ⟨rfl,rfl,rfl,rfl,trivial⟩) ?_ ?_
 ·exact ⟨Nat.zero_le _,rfl⟩
 clear H;intro gh a w hI H;obtain ⟨n,hgh⟩:∃ x,x=gh:=⟨_,rfl⟩;subst hgh;obtain ⟨hn,hno⟩:=hI;dsimp only [List.cons_append,List.nil_append,List.append_nil] at H;refine kP H (SR fun _ K29=>Rc rfl (Kz K29 (SQ fun _ K30=>?_)));clear H K29;intro a H;refine c_cond H rfl ?_ ?_
 ·intro h81
  try have p81:=dT h81
  have hn2:n < x.props.length:=by omega
  obtain ⟨pb,po,rfl,hrow2⟩:=prop_at hp15 hn2;have hrow:=hrow2;refine kP H (Kc K30 (SQ fun _ K31=>SB (SR fun _ K32=>Ri un25run ty40run rfl rfl ?_)));clear H K30;intro a H;refine s_loada ty40run (cs:=[_,_]) H wn rfl rfl (fun j v hj=>H.hp.gcell (hrow j v hj)) rfl ?_;clear H;intro a H;refine s_alloc ty40run H wn rfl ?_;clear H;intro b9 a w hb9 H;refine s_store ty40run 0 (vs:=[_,_]) _ H wn rfl rfl rfl rfl rfl rfl rfl rfl ?_;clear H;intro w H;dsimp only [List.set,setRow] at H;refine K32 _ _ ?_;clear K32;refine kP H (SR fun _ K33=>Rf fd40_0prp rfl (Ro ty3run 0 rfl rfl (Rc rfl (Rm rfl ?_))));clear H;intro a H;refine s_split H 87 rfl ?_ ?_
  ·intro h87
   try have p87:=dT h87
   refine kH H (Ks h87 rfl (Ks h87 rfl (Ks h87 rfl (Pt h87 rfl (Kz K33 ?_)))));clear H K33;intro a H;refine c_cond_t H rfl rfl ?_;refine c_seq (fun _ K34=>?_)
   have e4:ownS l k x=4:=by
    rw [ownS,ownE,if_neg (by omega),if_neg q1',if_neg q2',if_neg q3,if_neg q4,if_neg q5,if_pos];rw [List.any_eq_true];exact ⟨x.props[n],List.getElem_mem hn2,by simp [badK];omega⟩
   refine kP H (SC (Ra rfl (Kn K34 ?_)));clear H K34;intro a H;refine lr H Tryz.results103 rfl ?_
   first
    | exact H.hp.ret (congrArg vi e0.symm)
    | exact H.hp.ret (congrArg vi e4.symm)
    | exact H.hp.ret (congrArg vi e7.symm)
    | exact H.hp.ret (congrArg vi e13.symm)
    | exact H.hp.ret (congrArg vi e3.symm)
    | exact H.hp.ret (congrArg vi e6.symm)
    | exact H.hp.ret (congrArg vi (by rw [ownS,ownE,if_pos (by omega)]))
  intro h87
  try have p87:=dF h87
  refine kH H (YF fd40_0prp h87 rfl (YO ty3run 0 h87 rfl rfl (YC h87 rfl (Pf h87 rfl (Kz K33 ?_)))));clear H K33;intro a H;refine c_cond H rfl ?_ ?_
  ·intro h91
   try have p91:=dT h91
   refine c_seq (fun _ K35=>?_)
   have e4:ownS l k x=4:=by
    rw [ownS,ownE,if_neg (by omega),if_neg q1',if_neg q2',if_neg q3,if_neg q4,if_neg q5,if_pos];rw [List.any_eq_true];exact ⟨x.props[n],List.getElem_mem hn2,by simp [badK];omega⟩
   refine kP H (SC (Ra rfl (Kn K35 ?_)));clear H K35;intro a H;refine lr H Tryz.results103 rfl ?_
   first
    | exact H.hp.ret (congrArg vi e0.symm)
    | exact H.hp.ret (congrArg vi e4.symm)
    | exact H.hp.ret (congrArg vi e7.symm)
    | exact H.hp.ret (congrArg vi e13.symm)
    | exact H.hp.ret (congrArg vi e3.symm)
    | exact H.hp.ret (congrArg vi e6.symm)
    | exact H.hp.ret (congrArg vi (by rw [ownS,ownE,if_pos (by omega)]))
  intro h91
  try have p91:=dF h91
  refine kP H (Kc K31 (SC (Rd rfl (Rm rfl ?_))));clear H K31;intro a H;refine wl_nil ?_;refine loop_end ((n+1)) (by exact (H.pickT (Pl:=[_,_]) (Pl':=[_]) [1] (by decide) rfl).sub ⟨rfl,rfl,rfl,rfl,trivial⟩) ?_ ?_
  ·exact ⟨by omega,by rw [List.take_succ_eq_append_getElem hn2,List.any_append,hno];simp [badK];omega⟩
  first|omega|(dsimp only;omega)
 intro h81
 try have p81:=dF h81
 refine c_exit ?_;refine K27 _ _ ?_;clear K27;refine c_seq (fun _ K36=>?_)
 have q6:¬ x.props.any (fun p=>badK p.key)=true:=by
  rw [show x.props.take n=x.props from List.take_of_length_le (by omega)] at hno;rw [hno];decide
 have e0:ownS l k x=chkPS (if x.kind=1 then 2 else 1) x.props:=by rw [ownS,ownE,if_neg (by omega),if_neg q1',if_neg q2',if_neg q3,if_neg q4,if_neg q5,if_neg q6]
 refine c_drawI (hmx) [[],[0],[0,1],[],[3],[0,1,2,3,4],[0,1,2,3,4,5]] [5,6] (by kernel_rfl) (by kernel_rfl) (fun (ix_:Nat) (v:Value) (G:GH)=>match ix_ with|0=>v=.pointer (some ⟨b5,1,none⟩)|1=>v=vi x.kind|2=>v=vi (if x.kind=1 then 2 else 1)|3=>v=.pointer (some ⟨b5,5,none⟩)|4=>v=.slice pA x.props.length pc|_=>True) (fun _ _ _ _ _ h=>h) H ?_ ?_
 ·clear H;refine al4 ?_ ?_ ?_ ?_ (allI_cons ?_ (allI_cons ?_ (allI_cons ?_ allI_nil)))
  ·exact Z0 rfl rfl fun _ _ _ _ _=>Rf fd100_1sty rfl
  ·exact Z1 0 93 rfl rfl fun _ _ _ _ _=>Ro ty3run 0 rfl rfl
  ·refine Op1 1 94 rfl rfl fun _ a w G1 hG HT H fin=>?_;refine s_call en179stz H wn rfl (element_spec _ _ H.hp.ro x.kind) rfl ?_;clear H;rintro v95 G95 a w rfl hGm95 H;exact fin H hGm95 (rfl)
  ·exact Z0 rfl rfl fun _ _ _ _ _=>Rf fd100_5stz rfl
  ·exact Z1 3 96 rfl rfl fun _ _ _ _ _=>Ro ty25run 0 rfl rfl
  ·exact opB rfl
  exact opB rfl
 clear H;intro a w G hGm21 H hv;obtain ⟨u95,hu95,hp95⟩:=hv 2 95 (by decide) rfl;obtain rfl:u95=vi (if x.kind=1 then 2 else 1):=hp95;have H:=H.addS hu95;obtain ⟨u97,hu97,hp97⟩:=hv 4 97 (by decide) rfl;obtain rfl:u97=.slice pA x.props.length pc:=hp97;have H:=H.addS hu97;clear hv;refine s_call en44stz H wn rfl (propCheck_spec _ _ H.hp.ro _ x.props _ (hp15.mono hGm21)) rfl ?_;clear H;rintro v98 G98 a w rfl hm98 H;refine kH H (Ra rfl ?_);clear H;intro a H;refine wl_nil ⟨rfl,?_⟩;refine K36 _ _ ?_;clear K36;refine lr H Tryz.results103 rfl ?_
 first
  | exact H.hp.ret (congrArg vi e0.symm)
  | exact H.hp.ret (congrArg vi e4.symm)
  | exact H.hp.ret (congrArg vi e7.symm)
  | exact H.hp.ret (congrArg vi e13.symm)
  | exact H.hp.ret (congrArg vi e3.symm)
  | exact H.hp.ret (congrArg vi e6.symm)
  | exact H.hp.ret (congrArg vi (by rw [ownS,ownE,if_pos (by omega)]))
end
section
open Go.RowKit
theorem ty43dsc:Ty Tryz.prog 43 1 24 [.slice none 0 0] false:=⟨by kernel_rfl,by kernel_rfl⟩
theorem un43dsc:Tryz.prog.underlying 43=some (.slice 107):=by kernel_rfl
theorem ty107dsc:Ty Tryz.prog 107 6 64 [.int .i64 0,.int .i64 0,.string ⟨#[]⟩,.int .i64 0,.string ⟨#[]⟩,.bool false] true:=⟨by kernel_rfl,by kernel_rfl⟩
theorem fd107_0dsc:Fld Tryz.prog 107 0 0:=⟨by kernel_rfl⟩
theorem fd107_1dsc:Fld Tryz.prog 107 1 1:=⟨by kernel_rfl⟩
theorem en191dsc:∀ args w,(callFunc 191 args).run Tryz.prog w=.ok (.enter 191 args) w:=enters Tryz.func191 rfl (by kernel_rfl)
theorem en124dsc:∀ args w,(callFunc 124 args).run Tryz.prog w=.ok (.enter 124 args) w:=enters Tryz.func124 rfl (by kernel_rfl)
theorem fd107_2dsc:Fld Tryz.prog 107 2 2:=⟨by kernel_rfl⟩
theorem en127dsc:∀ args w,(callFunc 127 args).run Tryz.prog w=.ok (.enter 127 args) w:=enters Tryz.func127 rfl (by kernel_rfl)
theorem fd107_3dsc:Fld Tryz.prog 107 3 3:=⟨by kernel_rfl⟩
theorem fd107_4dsc:Fld Tryz.prog 107 4 4:=⟨by kernel_rfl⟩
theorem en129dsc:∀ args w,(callFunc 129 args).run Tryz.prog w=.ok (.enter 129 args) w:=enters Tryz.func129 rfl (by kernel_rfl)
theorem en126dsc:∀ args w,(callFunc 126 args).run Tryz.prog w=.ok (.enter 126 args) w:=enters Tryz.func126 rfl (by kernel_rfl)
theorem en125dsc:∀ args w,(callFunc 125 args).run Tryz.prog w=.ok (.enter 125 args) w:=enters Tryz.func125 rfl (by kernel_rfl)
theorem en123dsc:∀ args w,(callFunc 123 args).run Tryz.prog w=.ok (.enter 123 args) w:=enters Tryz.func123 rfl (by kernel_rfl)
theorem ints_rep {G:GH} {b:Nat} (l:List Int) (h:G b=some (.cells (l.map vi).toArray 22 (0,0))) (hl:l.length≤maxLen):RepV G (.sl 1 (l.map fun k=>[li k])) (.slice (some ⟨b,0,none⟩) l.length l.length) :=
 RepV.of_row h (by simp) (Nat.le_refl _) hl (List.take_of_length_le (by simp)) (ints_cat G l)
theorem cm_at {G:GH} {l:List CmD} {A:Option Addr} {n c k:Nat} (hv:RepV G (.sl 6 (l.map CmD.dat)) (.slice A n c)) (hk:k < l.length):∃ b o,A=some ⟨b,o,none⟩∧(∀ j u,l[k].cells[j]?=some u→gcell G b (o+k*6+j)=some u)∧RepRow G l[k].dat l[k].cells:=by
 obtain ⟨A',c',he,_,_,hg⟩:=hv.slice
 injection he with e1 e2 e3
 subst e1;obtain ⟨b,o,cs,h1,h2,h3,h4⟩:=hg k l[k].dat (by simp [hk]);have:=cm_of h4;subst this;exact ⟨b,o,h1,h3,h4⟩
theorem cmid_cb {G:GH} {bl:Nat} {l:List CmD} {A:Option Addr} {n c:Nat} (hb:gcell G bl 0=some (.slice A n c)) (hv:RepV G (.sl 6 (l.map CmD.dat)) (.slice A n c)):IxCb (.func (.func 126) #[] #[.pointer (some ⟨bl,0,none⟩)]) G l.length fun k=>(l[k]?.map CmD.id).getD 0:=by
 intro k hk G1 w0 hm hG;refine callV_func (caps:=[.pointer (some ⟨bl,0,none⟩)]) en126dsc ?_;replace hb:=gcell_mono hm hb
 obtain rfl:n=l.length:=by have:=hv.len;simpa using this
 obtain ⟨b,o,rfl,hrow,-⟩:=cm_at (hv.mono hm) hk;have hq:=hrow 0 _ rfl;refine eN [(0,_),(1,_)] Tryz.func126 rfl Tryz.ntmps126 rfl rfl hG ?_;intro a H;refine kP H (SR fun _ K1=>Ra rfl (Kz K1 (SR fun _ K2=>Rg ty43dsc rfl (by assumption) ?_)));clear H K1;intro a H;refine kH H (Rm rfl (Ri un43dsc ty107dsc rfl rfl (Rf fd107_0dsc rfl (Rg ty3run rfl (by assumption) ?_))));clear H;intro a H;refine kH H (Ra rfl (Kz K2 ?_));clear H K2;intro a H;refine lr H Tryz.results126 rfl ?_;exact H.hp.ret (by dsimp only;rw [List.getElem?_eq_getElem hk];rfl)
theorem cmp_test {G:GH} {bc:Nat} {x:CmD} (hb:gcell G bc 1=some (vi x.parent)) (y:CmD):Tester (.func (.func 125) #[] #[.pointer (some ⟨bc,0,none⟩)]) G y.dat (decide (y.id=x.parent)):=by
 intro G1 w0 cs hm hG hr;refine callV_func (caps:=[.pointer (some ⟨bc,0,none⟩)]) en125dsc ?_;obtain rfl:=cm_of hr;replace hb:=gcell_mono hm hb;refine eN [(0,_),(1,_)] Tryz.func125 rfl Tryz.ntmps125 rfl rfl hG ?_;intro a H;refine c_seqR (fun _ K1=>?_);refine s_box (cs:=[_,_,_,_,_,_]) H wn rfl rfl rfl ?_;clear H;intro b2 a w hb2 H;refine kH H (Ra rfl (Kz K1 (SR fun _ K2=>Rf fd107_0dsc rfl (Ro ty3run 0 rfl rfl (Rf fd107_1dsc rfl (Rg ty3run rfl (by assumption) ?_))))));clear H K1;intro a H;refine kH H (Rc rfl (Ra rfl (Kz K2 ?_)));clear H K2;intro a H;refine lr H Tryz.results125 rfl ?_;exact H.hp.ret rfl
theorem indexCm_spec (G:GH) (w0:World) (hG:Hold G w0) (l:List CmD) (p:CmD→Bool) (v fv:Value) (hv:RepV G (.sl 6 (l.map CmD.dat)) v) (hf:∀ x∈l,Tester fv G x.dat (p x)) :
  Calls Tryz.prog 191 #[v,fv] w0 (Ret w0 G fun u G'=>u=vi (ixI (l.findIdx? p))):=by
 obtain ⟨A,c,rfl,hc1,hc2,hg⟩:=hv.slice;have hml:maxLen=9223372036854775807:=rfl;rw [List.length_map] at *;refine eN [(0,_),(1,_)] Tryz.func191 rfl Tryz.ntmps191 rfl rfl hG ?_;intro a H;refine kP H (SR fun _ K1=>Ra rfl (Kz K1 (SQ fun _ K2=>SR fun _ K3=>Rm rfl (Rl un43dsc rfl (Rm rfl (Kz K3 (SB ?_)))))));clear H K1 K3;intro a H;skip;refine c_loopS (ι:=Nat × GH) (Tc:=[(0,_),(1,_),(7,_)]) (Lc:=[]) (fun (gh:Nat × GH)=>[(8,vi gh.1)]) (fun (gh:Nat × GH)=>[]) (fun (gh:Nat × GH)=>gh.2) (fun (gh:Nat × GH)=>gh.1≤l.length∧(l.take gh.1).findIdx? p=none∧(∀ b o,G b=some o→gh.2 b=some o)) (fun (gh:Nat × GH)=>l.length - gh.1) ((0,G)) (by exact (H).sub ⟨rfl,rfl,rfl,rfl,trivial⟩) ?_ ?_
 ·exact ⟨by omega,rfl,fun _ _ h=>h⟩
 clear H;intro gh a w hI H;obtain ⟨k,g⟩:=gh;dsimp only at hI H;obtain ⟨hk,hno,hgm⟩:=hI;dsimp only [List.cons_append,List.nil_append,List.append_nil] at H;refine kP H (SR fun _ K4=>Rc rfl (Kz K4 (SQ fun _ K5=>?_)));clear H K4;intro a H;refine c_cond H rfl ?_ ?_
 ·intro h9
  try have p9:=dT h9
  have hk2:k < l.length:=by omega
  obtain ⟨b,o,rfl,hrow,hrep⟩:=cm_at hv hk2;refine kP H (Kc K5 (SQ fun _ K6=>SB (SR fun _ K7=>Rm rfl (Ra rfl (Kz K7 (SR fun _ K8=>Rm rfl (Rm rfl (Rm rfl (Ri un43dsc ty107dsc rfl rfl ?_)))))))));clear H K5 K7;intro a H;refine s_loada ty107dsc (cs:=l[k].cells) H wn rfl rfl (fun j v hj=>H.hp.gcell (gcell_mono hgm (hrow j v hj))) rfl ?_;clear H;intro a H;refine s_callv0 H wn rfl rfl (hf _ (List.getElem_mem hk2) _ _ _ hgm H.hp.ro (hrep.mono hgm)) rfl ?_;clear H;rintro v16 G16 a w rfl hm16 H;refine K8 _ _ ?_;clear K8;refine c_cond H rfl ?_ ?_
  ·intro h16
   try have p16:=dT h16
   refine kP H (SR fun _ K9=>Rm rfl (Ra rfl (Kz K9 ?_)));clear H K9;intro a H;refine lr H Tryz.results191 rfl ?_
   first
    | exact H.hp.ret (by rw [idx_stop hk2 hno h16];rfl)
    | exact H.hp.ret (by rw [show l.take k=l from List.take_of_length_le (by omega)] at hno;rw [hno];rfl)
  intro h16
  try have p16:=dF h16
  refine kP H (Kc K6 (SC (Rd rfl (Rm rfl ?_))));clear H K6;intro a H;refine wl_nil ?_;refine loop_end ((k+1,G16)) (by exact (H).sub ⟨rfl,rfl,rfl,rfl,trivial⟩) ?_ ?_
  ·(try dsimp only);exact ⟨by omega,idx_next hk2 hno h16,fun b o h=>hm16 b o (hgm b o h)⟩
  first|omega|(dsimp only;omega)
 intro h9
 try have p9:=dF h9
 refine c_exit ?_;refine K2 _ _ ?_;clear K2;refine kP H (SR fun _ K10=>Ra rfl (Kz K10 ?_));clear H K10;intro a H;refine lr H Tryz.results191 rfl ?_
 first
  | exact H.hp.ret (by rw [idx_stop hk2 hno h16];rfl)
  | exact H.hp.ret (by rw [show l.take k=l from List.take_of_length_le (by omega)] at hno;rw [hno];rfl)
theorem containsCm_spec (G:GH) (w0:World) (hG:Hold G w0) (l:List CmD) (p:CmD→Bool) (v fv:Value) (hv:RepV G (.sl 6 (l.map CmD.dat)) v) (hf:∀ x∈l,Tester fv G x.dat (p x)) :
  Calls Tryz.prog 124 #[v,fv] w0 (Ret w0 G fun u G'=>u=.bool (l.findIdx? p).isSome):=by
 obtain ⟨A,c,rfl,hc1,hc2,-⟩:=hv.slice;rw [List.length_map] at *;refine eN [(0,_),(1,_)] Tryz.func124 rfl Tryz.ntmps124 rfl rfl hG ?_;intro a H;refine kP H (SR fun _ K1=>Ra rfl (Kz K1 (SR fun _ K2=>Rm rfl (Rm rfl ?_))));clear H K1;intro a H;refine s_call en191dsc H wn rfl (indexCm_spec _ _ H.hp.ro l p _ _ hv hf) rfl ?_;clear H;rintro v7 G7 a w rfl hm7 H;refine kH H (Rc rfl (Ra rfl (Kz K2 ?_)));clear H K2;intro a H;refine lr H Tryz.results124 rfl ?_;exact H.hp.ret (congrArg Value.bool (ixI_some _))
/-- Whether what a comment answers stands before it. -/
def befB (l:List CmD) (i:Nat) (x:CmD):Bool:=decide (x.parent=0) || ((l.take i).findIdx? fun y=>decide (y.id=x.parent)).isSome
def cmE0 (l:List CmD) (i:Nat) (x:CmD):Int:=firstE [incE (fun k=>(l[k]?.map CmD.id).getD 0) i,whenE (!befB l i x) 8,whenE (!autS x.author) 39,whenE (!decide (0≤x.time∧x.time≤1099511627776)) 40,txE x.text]
def cmE (l:List CmD) (i:Nat):Int:=match l[i]? with|some x=>cmE0 l i x|none=>0
theorem cm_cb {G:GH} {bl:Nat} {l:List CmD} {A:Option Addr} {n c:Nat} (hb:gcell G bl 0=some (.slice A n c)) (hv:RepV G (.sl 6 (l.map CmD.dat)) (.slice A n c)) (hl:l.length≤4294967296) (ht:∀ x∈l,x.author.size < 4611686018427387904∧x.text.size < 4611686018427387904):IxCb (.func (.func 123) #[] #[.pointer (some ⟨bl,0,none⟩)]) G l.length (cmE l):=by
 intro k hk G1 w0 hm hG;refine callV_func (caps:=[.pointer (some ⟨bl,0,none⟩)]) en123dsc ?_;replace hb:=gcell_mono hm hb;replace hv:=hv.mono hm;have hcb:=cmid_cb hb hv;obtain ⟨_,_,hee,hvc,-,-⟩:=hv.slice
 injection hee with _ _ hcc
 subst hcc;rw [List.length_map] at hvc
 obtain rfl:n=l.length:=by have:=hv.len;simpa using this
 obtain ⟨b,o,rfl,hrow,hrep⟩:=cm_at hv hk;have hte:=ht _ (List.getElem_mem hk);obtain ⟨x,hx⟩:∃ x,x=l[k]:=⟨_,rfl⟩;rw [← hx] at hrow hte
 have he:cmE l k=cmE0 l k x:=by unfold cmE;rw [List.getElem?_eq_getElem hk,hx]
 refine eN [(0,_),(1,_)] Tryz.func123 rfl Tryz.ntmps123 rfl rfl hG ?_;intro a H;refine kP H (SR fun _ K1=>Ra rfl (Kz K1 (SR fun _ K2=>Rg ty43dsc rfl (by assumption) ?_)));clear H K1;intro a H;refine kH H (Rm rfl (Ri un43dsc ty107dsc rfl rfl ?_));clear H;intro a H;refine s_loada ty107dsc (cs:=x.cells) H wn rfl rfl (fun j v hj=>H.hp.gcell (hrow j v hj)) rfl ?_;clear H;intro a H;refine s_alloc ty107dsc H wn rfl ?_;clear H;intro b4 a w hb4 H;refine s_store ty107dsc 0 (vs:=[_,_,_,_,_,_]) _ H wn rfl rfl rfl rfl rfl rfl rfl rfl ?_;clear H;intro w H;dsimp only [List.set,setRow] at H;obtain ⟨Ga,hma,hb4',H⟩:=H.giveBox
 have hcell:∀ (j:Nat) (u:Value),x.cells[j]?=some u→gcell Ga b4 j=some u:=fun j u hj=>by unfold gcell;rw [hb4'];simpa using hj
 have q1:=hcell 1 _ rfl;have hbA:=gcell_mono hma hb;have hv18:=(hv.mono hma).pre k (by rw [List.length_map];omega);rw [← List.map_take] at hv18;refine K2 _ _ ?_;clear K2;refine c_seqJ (ι:=Bool × GH) (Tc:=[(0,_),(1,_),(4,_)]) (Lc:=[]) (fun (gh:Bool × GH)=>[(5,.bool gh.1)]) (fun (gh:Bool × GH)=>[]) (fun (gh:Bool × GH)=>gh.2) (fun (gh:Bool × GH)=>gh.1=befB l k x∧(∀ b o,Ga b=some o→gh.2 b=some o)) (by exact (H).sub ⟨rfl,rfl,rfl,trivial⟩) ?_ ?_
 ·skip;refine kP H (SC (Rf fd107_1dsc rfl (Rg ty3run rfl (by assumption) ?_)));clear H;intro a H;refine kH H (Rc rfl (Rm rfl ?_));clear H;intro a H;refine s_split H 13 rfl ?_ ?_
  ·intro h13
   try have p13:=dT h13
   refine kH H (Ks h13 rfl (Ks h13 rfl (Ks h13 rfl (Ks h13 rfl (Ks h13 rfl (Pt h13 rfl (Ra rfl ?_)))))));clear H;intro a H;refine wl_nil ?_;refine ⟨(_,_),by exact (H).sub ⟨rfl,rfl,rfl,rfl,trivial⟩,?_⟩;(try dsimp only)
   first
   | exact ⟨by unfold befB;rw [decide_eq_true (by assumption)];rfl,fun _ _ h=>h⟩
   | exact ⟨by unfold befB;rw [decide_eq_false (by assumption)];rfl,hm18⟩
  intro h13
  try have p13:=dF h13
  refine kH H (YR ty43dsc h13 rfl (by assumption) ?_);clear H;intro a H;refine kH H (YM h13 rfl ?_);clear H;intro a H;refine s_sliceTo un43dsc ty107dsc k H (wg H rfl rfl h13) rfl rfl rfl (by omega) rfl ?_;clear H;intro a H;refine s_makeFunc H (wg H rfl rfl h13) rfl rfl ?_;clear H;intro a H;refine s_call en124dsc H (wg H rfl rfl h13) rfl (containsCm_spec _ _ H.hp.ro (l.take k) (fun y=>decide (y.id=x.parent)) _ _ hv18 (fun y _=>cmp_test q1 y)) rfl ?_;clear H;rintro v18 G18 a w rfl hm18 H;refine kH H (Pf h13 rfl (Ra rfl ?_));clear H;intro a H;refine wl_nil ?_;refine ⟨(_,_),by exact (H).sub ⟨rfl,rfl,rfl,rfl,trivial⟩,?_⟩;(try dsimp only)
  first
  | exact ⟨by unfold befB;rw [decide_eq_true (by assumption)];rfl,fun _ _ h=>h⟩
  | exact ⟨by unfold befB;rw [decide_eq_false (by assumption)];rfl,hm18⟩
 clear H;intro gh a w hI H;obtain ⟨bf,g⟩:=gh;dsimp only at hI H;obtain ⟨hbf,hgm⟩:=hI;replace hcell:=fun j u hj=>gcell_mono hgm (hcell j u hj);replace hcb:=(hcb.mono hma).mono hgm;dsimp only [List.cons_append,List.nil_append,List.append_nil] at H;refine c_seq (fun _ K3=>?_);have H:=H.sub (T':=[(0,_),(1,_),(4,_),(5,_)]) ⟨rfl,rfl,rfl,rfl,trivial⟩;refine c_drawI (hmx) [[],[],[0,1],[],[3],[0,1,2,3,4],[],[6],(List.range 8),(List.range 9),(List.range 10),[],[11],(List.range 13),(List.range 14),(List.range 15),[],[16],(List.range 18),(List.range 19),(List.range 20),(List.range 21)] [19,20,21] (by kernel_rfl) (by kernel_rfl) (fun (ix_:Nat) (v:Value) (G:GH)=>match ix_ with|0=>v=vi k|1=>v=.func (.func 126) #[] #[.pointer (some ⟨bl,0,none⟩)]|2=>v=vi (incE (fun k=>(l[k]?.map CmD.id).getD 0) k)|3=>v=.bool bf|4=>v=.bool (!bf)|5=>v=vi (whenE (!bf) 8)|6=>v=.pointer (some ⟨b4,2,none⟩)|7=>v=.string x.author|8=>v=.bool (autS x.author)|9=>v=.bool (!autS x.author)|10=>v=vi (whenE (!autS x.author) 39)|11=>v=.pointer (some ⟨b4,3,none⟩)|12=>v=vi x.time|13=>v=.bool (decide (0≤x.time∧x.time≤1099511627776))|14=>v=.bool (!decide (0≤x.time∧x.time≤1099511627776))|15=>v=vi (whenE (!decide (0≤x.time∧x.time≤1099511627776)) 40)|16=>v=.pointer (some ⟨b4,4,none⟩)|17=>v=.string x.text|18=>v=vi (txE x.text)|_=>True) (fun _ _ _ _ _ h=>h) H ?_ ?_
 ·clear H;refine al4 ?_ ?_ ?_ ?_ (al4 ?_ ?_ ?_ ?_ (al4 ?_ ?_ ?_ ?_ (al4 ?_ ?_ ?_ ?_ (al4 ?_ ?_ ?_ ?_ (allI_cons ?_ (allI_cons ?_ allI_nil))))))
  ·exact Z0 rfl rfl fun _ _ _ _ _=>Rm rfl
  ·refine Op0 rfl fun _ a w G1 hG HT H fin=>?_;refine s_makeFunc H wn rfl rfl ?_;clear H;intro a H;exact fin H iJ rfl
  ·refine Op2 0 20 1 21 rfl rfl fun _ a w G1 hG HT H fin=>?_;refine s_call en121dst H wn rfl (increasing_spec _ _ H.hp.ro k _ _ (by omega) (fun i hi=>(hcb.mono hG) i (by omega))) rfl ?_;clear H;rintro v22 G22 a w rfl hGm22 H;exact fin H hGm22 (rfl)
  ·exact Z0 rfl rfl fun _ _ _ _ _=>Rm rfl
  ·exact Z1 3 23 rfl rfl fun _ _ _ _ _=>Rn rfl
  ·refine Op1 4 24 rfl rfl fun _ a w G1 hG HT H fin=>?_;refine s_call en65nam H wn rfl (when_spec _ _ H.hp.ro _ 8) rfl ?_;clear H;rintro v25 G25 a w ⟨rfl,-⟩ hGm25 H;exact fin H hGm25 (rfl)
  ·exact Z0 rfl rfl fun _ _ _ _ _=>Rf fd107_2dsc rfl
  ·exact Op1 6 26 rfl rfl fun _ _ _ _ hG _ H fin=>kH H (Rg ty9run rfl (gcell_mono hG (hcell 2 _ rfl)) fun _ H=>fin H iJ rfl)
  ·refine Op1 7 27 rfl rfl fun _ a w G1 hG HT H fin=>?_;refine s_call en127dsc H wn rfl (author_spec _ _ H.hp.ro x.author hte.1) rfl ?_;clear H;rintro v28 G28 a w ⟨rfl,-⟩ hGm28 H;exact fin H hGm28 (rfl)
  ·exact Z1 8 28 rfl rfl fun _ _ _ _ _=>Rn rfl
  ·refine Op1 9 29 rfl rfl fun _ a w G1 hG HT H fin=>?_;refine s_call en65nam H wn rfl (when_spec _ _ H.hp.ro _ 39) rfl ?_;clear H;rintro v30 G30 a w ⟨rfl,-⟩ hGm30 H;exact fin H hGm30 (rfl)
  ·exact Z0 rfl rfl fun _ _ _ _ _=>Rf fd107_3dsc rfl
  ·exact Op1 11 31 rfl rfl fun _ _ _ _ hG _ H fin=>kH H (Rg ty3run rfl (gcell_mono hG (hcell 3 _ rfl)) fun _ H=>fin H iJ rfl)
  ·refine Op1 12 32 rfl rfl fun _ a w G1 hG HT H fin=>?_;refine s_call en128fst H wn rfl (in_spec _ _ H.hp.ro x.time 0 1099511627776) rfl ?_;clear H;rintro v33 G33 a w ⟨rfl,-⟩ hGm33 H;exact fin H hGm33 (rfl)
  ·exact Z1 13 33 rfl rfl fun _ _ _ _ _=>Rn rfl
  ·refine Op1 14 34 rfl rfl fun _ a w G1 hG HT H fin=>?_;refine s_call en65nam H wn rfl (when_spec _ _ H.hp.ro _ 40) rfl ?_;clear H;rintro v35 G35 a w ⟨rfl,-⟩ hGm35 H;exact fin H hGm35 (rfl)
  ·exact Z0 rfl rfl fun _ _ _ _ _=>Rf fd107_4dsc rfl
  ·exact Op1 16 36 rfl rfl fun _ _ _ _ hG _ H fin=>kH H (Rg ty9run rfl (gcell_mono hG (hcell 4 _ rfl)) fun _ H=>fin H iJ rfl)
  ·refine Op1 17 37 rfl rfl fun _ a w G1 hG HT H fin=>?_;refine s_call en129dsc H wn rfl (text_spec1 _ _ H.hp.ro x.text hte.2) rfl ?_;clear H;rintro v38 G38 a w rfl hGm38 H;exact fin H hGm38 (rfl)
  ·exact opB rfl
  ·exact opB rfl
  exact opB rfl
 clear H;intro a w G hGm3 H hv;obtain ⟨u22,hu22,hp22⟩:=hv 2 22 (by decide) rfl;obtain rfl:u22=vi (incE (fun k=>(l[k]?.map CmD.id).getD 0) k):=hp22;have H:=H.addS hu22;obtain ⟨u25,hu25,hp25⟩:=hv 5 25 (by decide) rfl;obtain rfl:u25=vi (whenE (!bf) 8):=hp25;have H:=H.addS hu25;obtain ⟨u30,hu30,hp30⟩:=hv 10 30 (by decide) rfl;obtain rfl:u30=vi (whenE (!autS x.author) 39):=hp30;have H:=H.addS hu30;obtain ⟨u35,hu35,hp35⟩:=hv 15 35 (by decide) rfl;obtain rfl:u35=vi (whenE (!decide (0≤x.time∧x.time≤1099511627776)) 40):=hp35;have H:=H.addS hu35;obtain ⟨u38,hu38,hp38⟩:=hv 18 38 (by decide) rfl;obtain rfl:u38=vi (txE x.text):=hp38;have H:=H.addS hu38;clear hv;refine s_buildSlice un221fst ty22fst [_,_,_,_,_] [_,_,_,_,_] H wn rfl rfl rfl rfl rfl (by intro i q h;match i,h with|0,h=>exact h|1,h=>exact h|2,h=>exact h|3,h=>exact h|4,h=>exact h|n+5,h=>simp at h) rfl rfl ?_;clear H;intro b39 a w hb39 H;obtain ⟨G39,hm39,hb39',H⟩:=H.giveBox;refine s_call en52nam H wn rfl (first_spec1 _ _ H.hp.ro _ _ (ints_rep [incE (fun k=>(l[k]?.map CmD.id).getD 0) k,whenE (!bf) 8,whenE (!autS x.author) 39,whenE (!decide (0≤x.time∧x.time≤1099511627776)) 40,txE x.text] hb39' (show 5≤maxLen by decide))) rfl ?_;clear H;rintro v40 _ a w ⟨rfl,rfl⟩ - H;refine kH H (Ra rfl ?_);clear H;intro a H;refine wl_nil ⟨rfl,?_⟩;refine K3 _ _ ?_;clear K3;refine lr H Tryz.results123 rfl ?_;exact H.hp.ret (by rw [he,cmE0,← hbf])
def chkCms (l:List CmD):Int:=firstE [whenE (decide (1024 < (l.length:Int))) 9,allE (cmE l) (min l.length 1024)]
theorem checkComments_spec (G:GH) (w0:World) (hG:Hold G w0) (l:List CmD) (v:Value) (hv:RepV G (.sl 6 (l.map CmD.dat)) v) (hl:l.length≤4294967296) (ht:∀ x∈l,x.author.size < 4611686018427387904∧x.text.size < 4611686018427387904) :
  Calls Tryz.prog 54 #[v] w0 (Ret w0 G fun u G'=>u=vi (chkCms l)):=by
 obtain ⟨A,c,rfl,hc1,hc2,-⟩:=hv.slice;rw [List.length_map] at *;refine eN [(0,_)] Tryz.func54 rfl Tryz.ntmps54 rfl rfl hG ?_;intro a H;refine c_seqR (fun _ K1=>?_);refine s_box (cs:=[_]) H wn rfl rfl rfl ?_;clear H;intro b1 a w hb1 H;refine kH H (Ra rfl (Kz K1 (SQ fun _ K2=>?_)));clear H K1;intro a H;have H:=H.sub (T':=[(1,_)]) ⟨rfl,trivial⟩;obtain ⟨Ga,hma,hb1',H⟩:=H.giveBox
 have hbl:gcell Ga b1 0=some (.slice A l.length c):=by unfold gcell;rw [hb1'];rfl
 have hcb:=cm_cb hbl (hv.mono hma) hl ht;refine c_drawI (hmx) [[],[0],[0,1],[0,1,2],[],[4],[4,5],[],(List.range 8),(List.range 9),(List.range 10),(List.range 11)] [9,10,11] (by kernel_rfl) (by kernel_rfl) (fun (ix_:Nat) (v:Value) (G:GH)=>match ix_ with|0=>v=.slice A l.length c|1=>v=vi l.length|2=>v=.bool (decide (1024 < (l.length:Int)))|3=>v=vi (whenE (decide (1024 < (l.length:Int))) 9)|4=>v=.slice A l.length c|5=>v=vi l.length|6=>v=vi ((min l.length 1024:Nat):Int)|7=>v=.func (.func 123) #[] #[.pointer (some ⟨b1,0,none⟩)]|8=>v=vi (allE (cmE l) (min l.length 1024))|_=>True) (fun _ _ _ _ _ h=>h) H ?_ ?_
 ·clear H;refine al4 ?_ ?_ ?_ ?_ (al4 ?_ ?_ ?_ ?_ (al4 ?_ ?_ ?_ ?_ allI_nil))
  ·exact Op0 rfl fun _ _ _ _ hG _ H fin=>kH H (Rg ty43dsc rfl (gcell_mono hG hbl) fun _ H=>fin H iJ rfl)
  ·exact Z1 0 3 rfl rfl fun _ _ _ _ _=>Rl un43dsc rfl
  ·exact Z1 1 4 rfl rfl fun _ _ _ _ _=>Rc rfl
  ·refine Op1 2 5 rfl rfl fun _ a w G1 hG HT H fin=>?_;refine s_call en65nam H wn rfl (when_spec _ _ H.hp.ro _ 9) rfl ?_;clear H;rintro v6 G6 a w ⟨rfl,-⟩ hGm6 H;exact fin H hGm6 (rfl)
  ·exact Op0 rfl fun _ _ _ _ hG _ H fin=>kH H (Rg ty43dsc rfl (gcell_mono hG hbl) fun _ H=>fin H iJ rfl)
  ·exact Z1 4 7 rfl rfl fun _ _ _ _ _=>Rl un43dsc rfl
  ·refine Op1 5 8 rfl rfl fun _ a w G1 hG HT H fin=>?_;refine s_min H wn rfl rfl rfl ?_;clear H;intro a H;exact fin H iJ (congrArg vi (by omega))
  ·refine Op0 rfl fun _ a w G1 hG HT H fin=>?_;refine s_makeFunc H wn rfl rfl ?_;clear H;intro a H;exact fin H iJ rfl
  ·refine Op2 6 9 7 10 rfl rfl fun _ a w G1 hG HT H fin=>?_;refine s_call en119dst H wn rfl (all_spec _ _ H.hp.ro (min l.length 1024) (cmE l) _ (by omega) ((hcb.mono hG).le (Nat.min_le_left _ _))) rfl ?_;clear H;rintro v11 G11 a w rfl hGm11 H;exact fin H hGm11 (rfl)
  ·exact opB rfl
  ·exact opB rfl
  exact opB rfl
 clear H;intro a w G hGm1 H hv;obtain ⟨u6,hu6,hp6⟩:=hv 3 6 (by decide) rfl;obtain rfl:u6=vi (whenE (decide (1024 < (l.length:Int))) 9):=hp6;have H:=H.addS hu6;obtain ⟨u11,hu11,hp11⟩:=hv 8 11 (by decide) rfl;obtain rfl:u11=vi (allE (cmE l) (min l.length 1024)):=hp11;have H:=H.addS hu11;clear hv;refine s_buildSlice un221fst ty22fst [_,_] [_,_] H wn rfl rfl rfl rfl rfl (by intro i q h;match i,h with|0,h=>exact h|1,h=>exact h|n+2,h=>simp at h) rfl rfl ?_;clear H;intro b12 a w hb12 H;obtain ⟨G12,hm12,hb12',H⟩:=H.giveBox;refine s_call en52nam H wn rfl (first_spec1 _ _ H.hp.ro _ _ (two_rep hb12')) rfl ?_;clear H;rintro v13 _ a w ⟨rfl,rfl⟩ - H;refine kH H (Ra rfl ?_);clear H;intro a H;refine wl_nil ⟨rfl,?_⟩;refine K2 _ _ ?_;clear K2;refine lr H Tryz.results54 rfl ?_;exact H.hp.ret rfl
end
section
open Go.RowKit
/-- The map that tells the place of each number of a list. -/
def mapI:Nat→List Int→List MapEntry
 | _,[]=>[]
 | i,k :: r=>⟨.int .i64 k,.int .i64 (i:Int),i⟩ :: mapI (i+1) r
theorem mapI_snoc (x:Int):∀ (i:Nat) (l:List Int),mapI i (l++[x])=mapI i l++[⟨.int .i64 x,.int .i64 ((i+l.length:Nat):Int),i+l.length⟩]
 | _,[]=>rfl
 | i,k :: r=>by
  rw [List.cons_append,mapI,mapI_snoc x (i+1) r,mapI,List.cons_append,List.length_cons,show i+1+r.length=i+(r.length+1) by omega]
def idxI (x:Int):Nat→List Int→Option Nat
 | _,[]=>none
 | i,k :: r=>if k=x then some i else idxI x (i+1) r
theorem idxI_ge {x:Int}:∀ {l:List Int} {i n:Nat},idxI x i l=some n→i≤n
 | [],_,_,h=>by cases h
 | k :: r,i,n,h=>by
  rw [idxI] at h;split at h
  ·cases h;exact Nat.le_refl _
  ·have:=idxI_ge h;omega
theorem idxI_none {x:Int}:∀ {l:List Int} {i:Nat},x∉l→idxI x i l=none
 | [],_,_=>rfl
 | k :: r,i,h=>by
  rw [idxI,if_neg (fun e=>h (by simp [e])),idxI_none (fun hm=>h (List.mem_cons_of_mem _ hm))]
theorem findNow_mapI (x:Int):∀ (i j:Nat) (l:List Int),Instr.findNow (.int .i64) (.int .i64 x) (mapI i l) j=some ((idxI x i l).map fun n=>(j+(n - i),.int .i64 (n:Int)))
 | _,_,[]=>rfl
 | i,j,k :: r=>by
  have ih:=findNow_mapI x (i+1) (j+1) r
  by_cases e:k=x
  ·subst e
   simp only [mapI,Instr.findNow,Instr.sameNow,if_pos,idxI,beq_self_eq_true]
   simp
  ·have hb:(x == k)=false:=by simp;exact fun h=>e h.symm
   simp only [mapI,Instr.findNow,Instr.sameNow,if_pos,hb,idxI,if_neg e,ih]
   cases h:idxI x (i+1) r with
   | none=>rfl
   | some n =>
    have:=idxI_ge h
    simp only [Option.map_some,Option.some.injEq,Prod.mk.injEq,and_true]
    omega
abbrev bMapI (b:Nat) (l:List Int):Nat × Obj:=(b,.map (mapI 0 l).toArray l.length)
theorem mapI_push (l:List Int) (x:Int):(mapI 0 l).toArray.push ⟨.int .i64 x,.int .i64 (l.length:Int),l.length⟩=(mapI 0 (l++[x])).toArray:=by
 rw [mapI_snoc,List.push_toArray,Nat.zero_add]
end
section
open Go.RowKit
section
variable {P:Program} {N:Nat} {D:List Deferred} {w0 w w':World} {F:Nat→Prop} {G0 G G':GH} {L L' Li Lo:OL} {T:List (Nat × Value)} {a a':Act} {Q:Exit→Act→World→Prop}
variable {r:Option Nat} {ops:Array Oper} {rest:List Oper}
/-- gv, that owns the blocks B, calls what it is handed at each of xs in turn, till it says no. -/
def IterO (P:Program) (Gi:GH) (B:OL) (gv:Value) (xs:List AP):Prop :=
 ∀ (J:Nat→GH→OL→Prop) (Jx:GH→OL→Prop) (fv:Value) (G:GH) (L:OL) (w:World),fv.cells=#[fv]→(∀ b o,Gi b=some o→G b=some o)→JMono J→XMono Jx→J 0 G L→Owns G (B++L) w→Cback P fv G xs J Jx →
  CallV P gv [fv] w (RetL w G (B++L) fun _ G' L'=>J xs.length G' L'∨Jx G' L')
theorem IterO.mono {Gi Gi':GH} {B:OL} {gv:Value} {xs:List AP} (h:IterO P Gi B gv xs) (hm:∀ b o,Gi b=some o→Gi' b=some o):IterO P Gi' B gv xs :=
 fun J Jx fv G L w h0 h1=>h J Jx fv G L w h0 fun b o hb=>h1 b o (hm b o hb)
end
end
section
open Go.RowKit
section
variable {P:Program} {N:Nat} {D:List Deferred} {w0 w w':World} {F:Nat→Prop} {G0 G G':GH} {L L' Li Lo:OL} {T:List (Nat × Value)} {a a':Act} {Q:Exit→Act→World→Prop}
variable {r:Option Nat} {ops:Array Oper} {rest:List Oper}
/-- gv, that owns the blocks B, calls what it is handed at each of xs in turn, till it says no; where fin is false, it is only said what it does where it is stopped by then. -/
def IterI (P:Program) (Gi:GH) (B:OL) (gv:Value) (xs:List AP) (fin:Bool):Prop :=
 ∀ (J:Nat→GH→OL→Prop) (Jx:GH→OL→Prop) (fv:Value) (G:GH) (L:OL) (w:World),fv.cells=#[fv]→(∀ b o,Gi b=some o→G b=some o)→JMono J→XMono Jx→J 0 G L→Owns G (B++L) w→Cback P fv G xs J Jx→(fin=false→∀ g l,¬ J xs.length g l) →
  CallV P gv [fv] w (RetL w G (B++L) fun _ G' L'=>J xs.length G' L'∨Jx G' L')
theorem IterI.mono {Gi Gi':GH} {B:OL} {gv:Value} {xs:List AP} {fin:Bool} (h:IterI P Gi B gv xs fin) (hm:∀ b o,Gi b=some o→Gi' b=some o):IterI P Gi' B gv xs fin :=
 fun J Jx fv G L w h0 h1=>h J Jx fv G L w h0 fun b o hb=>h1 b o (hm b o hb)
theorem c_rangeI {fin:Bool} {B:OL} {gop:Operand} {ps:List Nat} {assign body:Code} {gf:FuncId} {caps:List Value} {xs:List AP} {Gi:GH}
  (H:St N D w0 F G0 G (B++L) T a w) (hg:ev T gop=some (.func (.func gf) #[] caps.toArray)) (en:∀ args w,(callFunc gf args).run P w=.ok (.enter gf args) w) (hit:IterI P Gi B (.func (.func gf) #[] caps.toArray) xs fin) (hGi:∀ b o,Gi b=some o→G b=some o)
  (hps:ps.all (Nat.blt · N)=true) (hlen:∀ k args g,AtAP xs k args g→args.length=ps.length)
  (J:Nat→GH→OL→Prop) (Jx:Code→GH→OL→Prop) (hno:fin=false→∀ g l,¬ J xs.length g l) (hJm:JMono J) (hJx:∀ c,XMono (Jx c)) (h0:J 0 G L) (hround:RoundOk P N ps assign body T G J Jx xs)
  (hdone:∀ Dk G1 L1 a1 w1,(∀ b o,G b=some o→G1 b=some o)→J xs.length G1 L1→St N ({ target:=.collected Dk,args:=#[] } :: D) w0 F G0 G1 ((Dk,.deferred (some [])) :: L1) T a1 w1→Q .normal a1 w1)
  (hstop:∀ Dk c G1 L1 a1 w1,(∀ b o,G b=some o→G1 b=some o)→Jx c G1 L1→St N ({ target:=.collected Dk,args:=#[] } :: D) w0 F G0 G1 ((Dk,.deferred (some [])) :: L1) T a1 w1→WP none P c Q a1 w1) :
  WP none P (.rangeFunc gop ps.toArray assign body) Q a w:=by
 refine wpIn_rangeFunc ?_
 intro fn _
 have hev:=H.ev hg
 let q:Rec:=⟨fn,a.tmps,ps.toArray,assign,body,w.heap.size⟩
 obtain ⟨W1,hW1⟩:∃ W1,W1=(w.alloc (.deferred (some []))).alloc (q.at .ready none):=⟨_,rfl⟩
 have H1:Hp w0 F G0 G (B++((w.heap.size+1,q.at .ready none) :: (w.heap.size,.deferred (some [])) :: L)) W1:=by
  have:=(H.hp.alloc (.deferred (some []))).alloc (q.at .ready none)
  rw [World.size_alloc] at this
  rw [hW1]
  refine this.perm ?_
  have e:=List.perm_append_comm (l₁:=[(w.heap.size+1,q.at .ready none),(w.heap.size,Obj.deferred (some []))]) (l₂:=B)
  have e2:=List.Perm.append_right L e
  rw [List.append_assoc,List.append_assoc] at e2
  exact e2
 refine ⟨w.heap.size+1,[{ target:=.collected w.heap.size,args:=#[] }],W1,{ target:=.fn (.func gf) caps.toArray,args:=#[.func (.yield (w.heap.size+1)) #[] #[]] },W1,gf,
  #[.func (.yield (w.heap.size+1)) #[] #[]]++caps.toArray,W1,by rw [hW1];exact run_enterLoop_outer fn a.tmps ps.toArray assign body,?_,fun _ _=>trivial,?_,FW_depth none,?_⟩
 ·simp only [resolve,rangeCall,hev]
  simp [Deferred.ofValue,Act.eval]
 ·simp [invoke,en]
 ·have hcv:=hit (fun k=>Jr (w.heap.size+1) q [(w.heap.size,.deferred (some []))] (J k)) (Jrx (w.heap.size+1) q [(w.heap.size,.deferred (some []))] Jx) (.func (.yield (w.heap.size+1)) #[] #[]) G
   ((w.heap.size+1,q.at .ready none) :: (w.heap.size,.deferred (some [])) :: L) W1 rfl hGi (fun k G G' L hm ⟨Lu,e,h⟩=>⟨Lu,e,hJm k G G' Lu hm h⟩) (fun G G' L hm ⟨c,Lu,e,h⟩=>⟨c,Lu,e,hJx c G G' Lu hm h⟩) ⟨L,rfl,h0⟩ (Hp.owns (Li:=[]) H1) (cback_yield H.asz H.get hps hlen hround) (fun e g l ⟨Lu,_,h⟩=>hno e g Lu h)
  replace hcv:=hcv.go
  have e:(do let d ← Deferred.ofValue (.func (.func gf) #[] caps.toArray) [Value.func (.yield (w.heap.size+1)) #[] #[]].toArray;invoke d.target d.args:Sem Next).run P W1=.ok (.enter gf (#[.func (.yield (w.heap.size+1)) #[] #[]]++caps.toArray)) W1:=by
   simp [Deferred.ofValue,invoke,en]
  rw [e] at hcv
  refine (callsIn_of_calls hcv).mono ?_
  rintro e w2 ⟨v,G2,L2,rfl,hch,hJ⟩
  have H2:=Hp.change (Li:=[]) H1 hch
  rcases hJ with ⟨Lu,rfl,hJ⟩|⟨c,Lu,rfl,hJ⟩
  ·have hl:=H2.own _ (List.mem_cons_self)
   have H3:=(H2.upd (i:=0) rfl (upd_putObj (q.at .exhausted none) hl)).drop (List.sublist_cons_self _ _)
   exact ⟨none,_,run_endLoop hl (by simp),hdone _ G2 Lu _ _ hch.gm hJ ⟨H.asz,H.get,by simp [H.dfr],H3⟩⟩
  ·have hl:=H2.own _ (List.mem_cons_self)
   have H3:=(H2.upd (i:=0) rfl (upd_putObj (q.at .exhausted (some c)) hl)).drop (List.sublist_cons_self _ _)
   exact ⟨some c,_,run_endLoop hl (by simp),hstop _ c G2 Lu _ _ hch.gm hJ ⟨H.asz,H.get,by simp [H.dfr],H3⟩⟩
/-- A range over a function whose state is told by ghosts. -/
theorem c_rangeJI {fin:Bool} {B:OL} {ι κ:Type} {Lc:OL} {gop:Operand} {ps:List Nat} {assign body:Code} {gf:FuncId} {caps:List Value} {xs:List AP} {Gi:GH}
  (Lv:Nat→ι→OL) (Lt:Nat→ι→OL) (inv:Nat→ι→GH→Prop) (cx:κ→Code) (Lx Lxt:κ→OL) (invx:κ→GH→Prop) (i0:ι)
  (H:St N D w0 F G0 G (B++(Lc++Lv 0 i0++Lt 0 i0)) T a w) (hg:ev T gop=some (.func (.func gf) #[] caps.toArray)) (en:∀ args w,(callFunc gf args).run P w=.ok (.enter gf args) w) (hit:IterI P Gi B (.func (.func gf) #[] caps.toArray) xs fin) (hGi:∀ b o,Gi b=some o→G b=some o)
  (hno:fin=false→∀ i g,¬ inv xs.length i g) (hps:ps.all (Nat.blt · N)=true) (hlen:∀ k args g,AtAP xs k args g→args.length=ps.length) (hinv:∀ k i (G G':GH),(∀ b o,G b=some o→G' b=some o)→inv k i G→inv k i G') (hinvx:∀ x (G G':GH),(∀ b o,G b=some o→G' b=some o)→invx x G→invx x G') (h0:inv 0 i0 G)
  (round:∀ (l:Nat) (rdy bsy:Obj) (bk:OL) (k:Nat) (args:List Value) (i:ι) (G1:GH) (w1:World) (F1:Nat→Prop) (B1:Code→Exit→Act→World→Prop) (a1:Act),AtAP xs k args G1→(∀ b o,G b=some o→G1 b=some o)→inv k i G1 →
   (∀ T' G2 L2 a2 w2 c,St N [] w1 F1 G1 G2 ((l,rdy) :: L2) T' a2 w2→(∀ w3,St N [] w1 F1 G1 G2 ((l,bsy) :: L2) T' a2 w3→WP (some l) P c (B1 c) a2 w3)→Exit.then (fun a2 w2=>∃ w3,(Instr.beginRound l).run P w2=.ok () w3∧c.wpIn (FW (some l)) 0 P (B1 c) a2 w3) (fun _ _ _=>False) .normal a2 w2) →
   (∀ i' T' G2 a2 w2 c,St N [] w1 F1 G1 G2 ((l,bsy) :: (Lc++Lv (k+1) i'++(bk++Lt (k+1) i'))) T' a2 w2→inv (k+1) i' G2→B1 c .normal a2 w2) →
   (∀ x T' G2 a2 w2 c,St N [] w1 F1 G1 G2 ((l,bsy) :: (Lc++Lx x++(bk++Lxt x))) T' a2 w2→invx x G2→(cx x=.ret→B1 c .ret a2 w2)∧∀ n,cx x=.exit n→B1 c (.exit n) a2 w2) →
   St N [] w1 F1 G1 G1 ((l,rdy) :: (Lc++Lv k i++(bk++Lt k i))) (asg ps args T) a1 w1 →
   WP (some l) P assign (Exit.then (fun a2 w2=>∃ w3,(Instr.beginRound l).run P w2=.ok () w3∧body.wpIn (FW (some l)) 0 P (B1 body) a2 w3) (fun _ _ _=>False)) a1 w1)
  (hdone:∀ Dk i G1 a1 w1,(∀ b o,G b=some o→G1 b=some o)→inv xs.length i G1→St N ({ target:=.collected Dk,args:=#[] } :: D) w0 F G0 G1 ((Dk,.deferred (some [])) :: (Lc++Lv xs.length i++Lt xs.length i)) T a1 w1→Q .normal a1 w1)
  (hstop:∀ Dk x G1 a1 w1,(∀ b o,G b=some o→G1 b=some o)→invx x G1→St N ({ target:=.collected Dk,args:=#[] } :: D) w0 F G0 G1 ((Dk,.deferred (some [])) :: (Lc++Lx x++Lxt x)) T a1 w1→WP none P (cx x) Q a1 w1) :
  WP none P (.rangeFunc gop ps.toArray assign body) Q a w:=by
 refine c_rangeI (J:=fun k g L=>∃ i,L=Lc++Lv k i++Lt k i∧inv k i g) (Jx:=fun c g L=>∃ x,c=cx x∧L=Lc++Lx x++Lxt x∧invx x g) H hg en hit hGi hps hlen (hno:=fun e g l ⟨i,_,h⟩=>hno e i g h) (fun k G G' L hm ⟨i,e,h⟩=>⟨i,e,hinv k i G G' hm h⟩) (fun c G G' L hm ⟨x,e1,e2,h⟩=>⟨x,e1,e2,hinvx x G G' hm h⟩) ⟨i0,rfl,h0⟩ ?_ ?_ ?_
 ·rintro l q bk k args G1 L1 w1 a1 hk hm ⟨i,rfl,hi⟩ H1
  have pm:∀ A B:OL,(bk++(A++B)).Perm (A++(bk++B)):=fun A B=>by
   rw [← List.append_assoc,← List.append_assoc]
   exact List.Perm.append_right B List.perm_append_comm
  refine round l (q.at .ready none) (q.at .busy none) bk k args i G1 w1 _ (fun _=>roundPost P l _) a1 hk hm hi ?_ ?_ ?_ (H1.perm (List.Perm.cons _ (pm _ _)))
  ·intro T' G2 L2 a2 w2 c H2 h
   exact c_begin H2 h
  ·intro i' T' G2 a2 w2 c H2 h2
   exact round_end none (H2.perm (List.Perm.cons _ (pm _ _).symm)) ⟨_,rfl,i',rfl,h2⟩
  ·intro x T' G2 a2 w2 c H2 h2
   have H3:=H2.perm (List.Perm.cons _ (pm _ _).symm)
   refine ⟨fun e=>?_,fun n e=>?_⟩
   ·exact round_end (some .ret) H3 ⟨_,_,rfl,x,e.symm,rfl,h2⟩
   ·exact round_end (some (.exit n)) H3 ⟨_,_,rfl,x,e.symm,rfl,h2⟩
 ·rintro Dk G1 L1 a1 w1 hm ⟨i,rfl,hi⟩ H1
  exact hdone Dk i G1 a1 w1 hm hi H1
 ·rintro Dk c G1 L1 a1 w1 hm ⟨x,rfl,rfl,hx⟩ H1
  exact hstop Dk x G1 a1 w1 hm hx H1
end
end
section
open Go.RowKit
theorem un137chn:Tryz.prog.underlying 137=some (.map 3 3):=by kernel_rfl
theorem ty41chn:Ty Tryz.prog 41 1 24 [.slice none 0 0] false:=⟨by kernel_rfl,by kernel_rfl⟩
theorem fd100_3chn:Fld Tryz.prog 100 3 3:=⟨by kernel_rfl⟩
theorem en181chn:∀ args w,(callFunc 181 args).run Tryz.prog w=.ok (.enter 181 args) w:=enters Tryz.func181 rfl (by kernel_rfl)
theorem idxI_lt {x:Int}:∀ {l:List Int} {i n:Nat},idxI x i l=some n→n < i+l.length
 | [],_,_,h=>by cases h
 | k :: r,i,n,h=>by
  rw [idxI] at h;split at h
  ·cases h;simp
  have:=idxI_lt h;simp only [List.length_cons];omega
/-- The chain of a style: at most so many of its styles. -/
def chF (l:List StyleD):Nat→Int→List StyleD
 | 0,_=>[]
 | f+1,id=>if id=0 then [] else match idxI id 0 (l.map StyleD.id) with|none=>[]|some i=>match l[i]? with|none=>[]|some s=>s :: chF l f s.base
def chL (l:List StyleD) (id:Int):List StyleD:=chF l (l.length+1) id
theorem chF_zero {l:List StyleD} {f:Nat} {id:Int} (h:id=0):chF l f id=[]:=by
 cases f with
 | zero=>rfl
 | succ f=>rw [chF,if_pos h]
theorem chF_none {l:List StyleD} {f:Nat} {id:Int} (h0:¬ id=0) (h:idxI id 0 (l.map StyleD.id)=none):chF l f id=[]:=by
 cases f with
 | zero=>rfl
 | succ f=>rw [chF,if_neg h0,h]
theorem chF_some {l:List StyleD} {f i:Nat} {id:Int} (h0:¬ id=0) (h:idxI id 0 (l.map StyleD.id)=some i) (hi:i < l.length):chF l (f+1) id=l[i] :: chF l f l[i].base:=by
 rw [chF,if_neg h0,h];dsimp only;rw [List.getElem?_eq_getElem hi]
def stP (x:StyleD):AP:=fun args g=>∃ cs,args=[.agg cs.toArray]∧RepRow g x.dat cs
theorem st_at {A:List StyleD} {k:Nat} {args:List Value} {g:GH} (h:AtAP (A.map stP) k args g):∃ (hk:k < A.length) (cs:List Value),args=[.agg cs.toArray]∧RepRow g A[k].dat cs:=by
 obtain ⟨p,hp,hargs⟩:=h;rw [List.getElem?_map] at hp;obtain ⟨q,hq,rfl⟩:=Option.map_eq_some_iff.1 hp;obtain ⟨hk,rfl⟩:=List.getElem?_eq_some_iff.1 hq;obtain ⟨cs,h1,h2⟩:=hargs;exact ⟨hk,cs,h1,h2⟩
abbrev bI (b:Nat) (n:Int):Nat × Obj:=(b,.cells #[vi n] 3 (0,0))
set_option maxHeartbeats 1000000 in
theorem chain1_iter {G:GH} {bl bi:Nat} {l:List StyleD} {id:Int} {v:Value} (hb:gcell G bl 0=some v) (hv:RepV G (.sl 6 (l.map StyleD.dat)) v) (hnd:∀ (k:Nat) (h:k < l.length),l[k].id∉(l.take k).map StyleD.id) :
  IterI Tryz.prog G [bI bi id] (.func (.func 181) #[] #[.pointer (some ⟨bl,0,none⟩),.pointer (some ⟨bi,0,none⟩)]) ((chL l id).map stP) (decide ((chL l id).length≤l.length)):=by
 intro J Jx fv G1 L w0 hfv hGi hJm hJx hJ hO hcb hfin;refine callV_func (caps:=[.pointer (some ⟨bl,0,none⟩),.pointer (some ⟨bi,0,none⟩)]) en181chn ?_;obtain ⟨A,c,rfl,hc1,hc2,-⟩:=hv.slice;have hml:maxLen=9223372036854775807:=rfl;rw [List.length_map] at *;replace hb:=gcell_mono hGi hb;replace hv:=hv.mono hGi;refine enterL (N:=46) (T:=[(0,_),(1,_),(2,_)]) Tryz.func181 rfl Tryz.ntmps181 rfl rfl hO ?_;intro a H;refine c_seqR (fun _ K1=>?_);refine s_makeMap H wn rfl ?_;clear H;intro bm a w hbm H;refine kH H (Ra rfl (Kz K1 (SQ fun _ K2=>SR fun _ K3=>Rg ty41chn rfl (by assumption) ?_)));clear H K1;intro a H;refine kH H (Rl un41sty rfl (Rm rfl (Kz K3 (SB ?_))));clear H K3;intro a H;skip;refine c_loopS (ι:=Nat) (Tc:=[(0,_),(1,_),(2,_),(4,_),(10,_),(11,_)]) (Lc:=[(_,_)]) (fun (gh:Nat)=>[(12,vi gh)]) (fun (gh:Nat)=>[bMapI bm ((l.take gh).map StyleD.id)]++L) (fun (gh:Nat)=>G1) (fun (gh:Nat)=>gh≤l.length) (fun (gh:Nat)=>l.length - gh) (0) (by exact (H.pickT (Pl:=[_,_]) (Pl':=[_,_]) [1,0] (by decide) rfl).sub ⟨rfl,rfl,rfl,rfl,rfl,rfl,rfl,trivial⟩) ?_ ?_
 ·exact Nat.zero_le _
 clear H;intro gh a w hI H;obtain ⟨k,hgh⟩:∃ x,x=gh:=⟨_,rfl⟩;subst hgh;have hk:=hI;dsimp only [List.cons_append,List.nil_append,List.append_nil] at H;refine kP H (SR fun _ K4=>Rc rfl (Kz K4 (SQ fun _ K5=>?_)));clear H K4;intro a H;refine c_cond H rfl ?_ ?_
 ·intro h13
  try have p13:=dT h13
  have hk2:k < l.length:=by omega
  obtain ⟨b,o,pA,pc,rfl,hrow,hp,hrep⟩:=style_at hv hk2;have hnin:=hnd k hk2
  have hlk:((l.take k).map StyleD.id).length=k:=by rw [List.length_map,List.length_take];omega
  have hnx:(l.take k).map StyleD.id++[l[k].id]=(l.take (k+1)).map StyleD.id:=by rw [List.take_succ_eq_append_getElem hk2,List.map_append];rfl
  refine kP H (Kc K5 (SQ fun _ K6=>SB (SR fun _ K7=>Rm rfl (Ri un41sty ty100sty rfl rfl ?_))));clear H K5;intro a H;refine s_loada ty100sty (cs:=[_,_,_,_,_,_]) H wn rfl rfl (fun j v hj=>H.hp.gcell (hrow j v hj)) rfl ?_;clear H;intro a H;refine s_alloc ty100sty H wn rfl ?_;clear H;intro b6 a w hb6 H;refine kH H (Ra rfl ?_);clear H;intro a H;refine s_store ty100sty 0 (vs:=[_,_,_,_,_,_]) _ H wn rfl rfl rfl rfl rfl rfl rfl rfl ?_;clear H;intro w H;dsimp only [List.set,setRow] at H;refine K7 _ _ ?_;clear K7;refine kP H (SC (Rm rfl (Rf fd100_0sty rfl (Ro ty3run 0 rfl rfl (Rm rfl ?_)))));clear H;intro a H;refine s_mapNew (i:=2) (ky:=vi l[k].id) (v:=vi k) un137chn un3cp H wn rfl rfl rfl rfl (by trivial) (by rw [List.toList_toArray,findNow_mapI,idxI_none hnin];rfl) ?_;clear H;intro w H
  have hpush:((mapI 0 ((l.take k).map StyleD.id)).toArray.push ⟨vi l[k].id,vi k,((l.take k).map StyleD.id).length⟩)=(mapI 0 ((l.take (k+1)).map StyleD.id)).toArray:=by rw [← hnx,← mapI_push,hlk]
  rw [hpush,show ((l.take k).map StyleD.id).length+1=((l.take (k+1)).map StyleD.id).length by rw [← hnx];simp] at H;refine kH H (Kn K6 (SC (Rd rfl (Rm rfl ?_))));clear H K6;intro a H;refine wl_nil ?_;refine loop_end ((k+1)) (by exact (H.pickT (Pl:=[_,_,_]) (Pl':=[_,_]) [1,2] (by decide) rfl).sub ⟨rfl,rfl,rfl,rfl,rfl,rfl,rfl,trivial⟩) ?_ ?_
  ·exact by omega
  first|omega|(dsimp only;omega)
 intro h13
 try have p13:=dF h13
 obtain rfl:k=l.length:=by omega
 rw [List.take_length] at H;refine c_exit ?_;refine K2 _ _ ?_;clear K2;refine c_block ?_;skip;refine c_loopS (ι:=Int × Nat × Nat × OL × GH) (Tc:=[(0,_),(1,_),(2,_),(4,_)]) (Lc:=[(_,_)]) (fun (gh:Int × Nat × Nat × OL × GH)=>[]) (fun (gh:Int × Nat × Nat × OL × GH)=>[bI bi gh.1]++gh.2.2.2.1) (fun (gh:Int × Nat × Nat × OL × GH)=>gh.2.2.2.2) (fun (gh:Int × Nat × Nat × OL × GH)=>(∀ b o,G1 b=some o→gh.2.2.2.2 b=some o)∧Now ((chL l id).map stP) stP J (chL l id).length gh.2.2.1 (chF l gh.2.1 gh.1) gh.2.2.2.2 gh.2.2.2.1∧gh.2.2.1+gh.2.1=l.length+1) (fun (gh:Int × Nat × Nat × OL × GH)=>gh.2.1) ((id,l.length+1,0,L,G1)) (by exact (H.pickT (Pl:=[_,_]) (Pl':=[_,_]) [1,0] (by decide) rfl).sub ⟨rfl,rfl,rfl,rfl,trivial⟩) ?_ ?_
 ·exact ⟨fun _ _ h=>h,⟨hJ,fun i a h=>by rw [Nat.zero_add,List.getElem?_map];rw [show chF l (l.length+1) id=chL l id from rfl] at h;rw [h];rfl,Nat.zero_add _⟩,Nat.zero_add _⟩
 clear H;intro gh a w hI H;obtain ⟨i,f,j1,Lt,g⟩:=gh;dsimp only at hI H;obtain ⟨hgm,hnow,hjf⟩:=hI;have hbg:=gcell_mono hgm hb;dsimp only [List.cons_append,List.nil_append,List.append_nil] at H;refine kP H (SQ fun _ K8=>SR fun _ K9=>Ro ty3run 1 rfl rfl (Rc rfl (Kz K9 ?_)));clear H K9;intro a H;refine c_cond H rfl ?_ ?_
 ·intro h23
  try have p23:=dT h23
  have h0:¬ i=0:=by simpa using h23
  obtain ⟨an,han⟩:∃ an,an=idxI i 0 (l.map StyleD.id):=⟨_,rfl⟩;have hfn:=findNow_mapI i 0 0 (l.map StyleD.id);rw [← han] at hfn;refine kP H (Kc K8 (SB (SR fun _ K10=>Rm rfl (Ro ty3run 1 rfl rfl ?_))));clear H K8;intro a H;refine s_lookup (i:=0) (zv:=vi 0) _ un137chn un3cp (by kernel_rfl) H wn rfl rfl rfl (by trivial) (by simpa using hfn) rfl ?_;clear H;intro a H;refine kH H (Rm rfl ?_);clear H;intro a H;(iterate 2 refine s_extract H wn rfl rfl rfl ?_;clear H;intro a H);refine kH H (Ra rfl (Ra rfl (Kz K10 (SQ fun _ K11=>SR fun _ K12=>Rm rfl (Rn rfl (Rm rfl ?_))))));clear H K10;intro a H;refine s_split H 32 rfl ?_ ?_
  ·intro h32
   try have p32:=dT h32
   obtain rfl:an=none:=by
    cases an with
    | none=>rfl
    | some n=>simp [mapV] at h32
   rw [chF_none h0 han.symm] at hnow;refine kH H (Ks h32 rfl (Ks h32 rfl (Ks h32 rfl (Ks h32 rfl (Ks h32 rfl (Ks h32 rfl (Ks h32 rfl (Pt h32 rfl (Kz K12 ?_)))))))));clear H K12;intro a H;refine c_cond_t H rfl rfl ?_;refine c_ret ?_;refine (leave0 H Tryz.results181 ?_).1;refine H.hp.retD (L':=Lt) (by repeat (first|exact List.Sublist.refl _|apply List.Sublist.cons)) (.inl ?_);have h:=hnow.len
   simp only [List.length_nil,Nat.add_zero] at h
   rw [← h];exact hnow.now
  intro h32
  try have p32:=dF h32
  obtain ⟨n,rfl⟩:∃ n,an=some n:=by
   cases an with
   | none=>simp [mapV] at h32
   | some n=>exact ⟨n,rfl⟩
  have hnl:n < l.length:=by have:=idxI_lt han.symm;simpa using this
  obtain ⟨f',rfl⟩:∃ f',f=f'+1:=by
   cases f with
   | succ f'=>exact ⟨f',rfl⟩
   | zero =>
    exfalso
    have hl:=hnow.len
    simp only [chF,List.length_nil,Nat.add_zero] at hl
    refine hfin (decide_eq_false (by omega)) g Lt ?_;rw [← hl];exact hnow.now
  rw [chF_some h0 han.symm hnl] at hnow;dsimp only [mapV,Option.map_some] at H;obtain ⟨b,o,pA,pc,rfl,hrow,hp,hrep⟩:=style_at (hv.mono hgm) hnl;refine kH H (YM h32 rfl (YR ty41chn h32 rfl (by assumption) ?_));clear H;intro a H;refine kH H (YM h32 rfl (YI un41sty ty100sty h32 rfl rfl ?_));clear H;intro a H;refine s_loada ty100sty (cs:=[_,_,_,_,_,_]) H (wg H rfl rfl h32) rfl rfl (fun j v hj=>H.hp.gcell (hrow j v hj)) rfl ?_;clear H;intro a H;refine s_callv (Li:=[_,_]) (L:=Lt) H (wg H rfl rfl h32) rfl rfl (hcb j1 _ _ _ _ ⟨_,hnow.head,_,rfl,hrep⟩ hgm hnow.now (Hp.owns (Li:=[_,_]) H.hp)) rfl ?_;clear H;rintro v38 G38 Lt38 a w ⟨b38,rfl,hb1,hb2⟩ hm38 H;have hbg:=gcell_mono hm38 hbg;have r3:=gcell_mono hm38 (hrow 3 _ rfl);refine kH H (YN h32 rfl (Pf h32 rfl (Kz K12 ?_)));clear H K12;intro a H;refine c_cond H rfl ?_ ?_
  ·intro h40
   try have p40:=dT h40
   refine c_ret ?_;refine (leave0 H Tryz.results181 ?_).1;exact H.hp.retD (L':=Lt38) (by repeat (first|exact List.Sublist.refl _|apply List.Sublist.cons)) (.inr (hb2 (by simpa using h40)))
  intro h40
  try have p40:=dF h40
  refine kP H (Kc K11 (SC (Rg ty41chn rfl (by assumption) ?_)));clear H K11;intro a H;refine kH H (Rm rfl (Ri un41sty ty100sty rfl rfl (Rf fd100_3chn rfl (Rg ty3run rfl (by assumption) ?_))));clear H;intro a H;refine s_store ty3run 1 (vs:=[_]) _ H wn rfl rfl rfl rfl rfl rfl rfl rfl ?_;clear H;intro w H;dsimp only [List.set,setRow] at H;refine wl_nil ?_;refine loop_end ((l[n].base,f',j1+1,Lt38,G38)) (by exact (H).sub ⟨rfl,rfl,rfl,rfl,trivial⟩) ?_ ?_
  ·(try dsimp only);exact ⟨fun b o h=>hm38 b o (hgm b o h),hnow.step (hb1 (by simpa using h40)),by omega⟩
  first|omega|(dsimp only;omega)
 intro h23
 try have p23:=dF h23
 refine c_exit ?_;refine (leave0 H Tryz.results181 ?_).2;rw [chF_zero (by simpa using h23)] at hnow;refine H.hp.retD (L':=Lt) (by repeat (first|exact List.Sublist.refl _|apply List.Sublist.cons)) (.inl ?_);have h:=hnow.len
 simp only [List.length_nil,Nat.add_zero] at h
 rw [← h];exact hnow.now
end
end Go.Proofs.YtlnhhlighgaapaaGreat
