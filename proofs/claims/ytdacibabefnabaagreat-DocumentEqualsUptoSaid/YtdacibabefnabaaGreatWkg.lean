/-
  What the claim stands on, part 7: Ln De13 Brd Brs.
-/
import Derived.Test.YtdacibabefnabaaGreatWkf
import Derived.ProofKit
import Derived.Deep.Slices
import Derived.Laws.StructEq
namespace Go.Proofs.YtdacibabefnabaaGreat
open Go.Proofs.Tryz
section
open Go.RowKit
def over (G:GH) (L:OL):GH:=fun b=>match L.find? (fun p=>p.1 == b) with|some p=>some p.2|none=>G b
theorem aaq {G:GH}:∀ {L:OL},L.Pairwise (fun p q=>p.1≠q.1)→∀ p∈L,over G L p.1=some p.2
 | [],_,p,h=>by cases h
 | q :: L,hnd,p,h=>by
  obtain ⟨h1,h2⟩:=Ae.1 hnd
  unfold over
  rcases uo.1 h with rfl|h
  ·simp
  ·rw [List.find?_cons_of_neg (by simpa using h1 p h)]
   exact aaq h2 p h
section
variable {N:Nat} {D:List Deferred} {w0:World} {F:Nat→Prop} {G0 G:GH} {L Lo:OL} {T:List (Nat × ak)}
variable {r:Option Nat} {P:Program} {ops:Array Oper} {Q:Exit→Act→World→Prop} {rest:List Oper} {a:Act} {w:World}
variable {d:Nat} {ty:TypeId} {pos:String} {aU:Array Edge} {g:Option (Nat × Bool)}
theorem Hp.over (h:Hp w0 F G0 G L w):Hold (over G L) w:=by
 intro k o hk
 unfold Proofs.YtdacibabefnabaaGreat.over at hk
 cases hf:L.find? (fun p=>p.1 == k) with
 | none=>rw [hf] at hk;exact h.ro k o hk
 | some p =>
  rw [hf] at hk
  have h1:=List.find?_some hf
  have h2:=List.mem_of_find?_eq_some hf
  simp only [nM] at hk
  rw [← hk,← h.own p h2,eq_of_beq h1]
theorem Hp.Fw (h:Hp w0 F G0 G L w):∀ b o,G b=some o→Proofs.YtdacibabefnabaaGreat.over G L b=some o:=by
 intro b o hb
 unfold Proofs.YtdacibabefnabaaGreat.over
 cases hf:L.find? (fun p=>p.1 == b) with
 | none=>exact hb
 | some p =>
  have h1:=h.tY p (List.mem_of_find?_eq_some hf)
  have h2:p.1=b:=by simpa using List.find?_some hf
  rw [h2,hb] at h1
  cases h1
theorem Hp.Fx (h:Hp w0 F G0 G L w) (hs:∀ p∈Lo,p∈L):∀ p∈Lo,Proofs.YtdacibabefnabaaGreat.over G L p.1=some p.2:=fun p hp=>aaq h.nd p (hs p hp)
theorem PX {f:FuncId} {xs:List Operand} {vs:List ak} {ts:Array TypeId} {Gp:GH} {R:ak→GH→Prop} (en:∀ args w,(callFunc f args).run P w=.ok (.enter f args) w) (H:St N D w0 F G0 G L T a w) (hw:Region.wanted ⟨some d,.call { callee:=.value (.func f),args:=xs.toArray,argTypes:=ts },ty,pos,aU,g⟩ (yielded ops a.tmps)=true)
  (hx:evs T xs=some vs) (hc:Calls P f vs.toArray w (bJ w Gp R)) (hd:Nat.blt d N=true)
  (k:∀ v G' a' w',R v G'→St N D w0 F G0 G L ((d,v) :: T) a' w'→WL r P ops Q rest a' w'):WL r P ops Q (⟨some d,.call { callee:=.value (.func f),args:=xs.toArray,argTypes:=ts },ty,pos,aU,g⟩ :: rest) a w:=by
 refine Qk (nx:=.ok (.enter f vs.toArray) w) (R:=bJ w Gp R) hw rfl ?_ hc ?_
 ·have h1:=H.evs hx
  simp [execOp,resolve,Act.eval,Deferred.ofValue,invoke,eT,h1,en]
 ·rintro e w' ⟨v,G',rfl,hb,hX,hR⟩
  exact ⟨v,rfl,k v G' _ w' hR (H.put hd v (H.hp.below hb))⟩
theorem amn {x y:Operand} {t yt:TypeId} {p q:Int} (H:St N D w0 F G0 G L T a w) (hw:Region.wanted ⟨some d,.binOp .add t x y yt,ty,pos,aU,g⟩ (yielded ops a.tmps)=true) (hx:ev T x=some (.int .i64 p)) (hy:ev T y=some (.int .i64 q)) (hd:Nat.blt d N=true)
  (k:∀ a',St N D w0 F G0 G L ((d,.int .i64 (IntKind.i64.wrap (p+q))) :: T) a' w→WL r P ops Q rest a' w):WL r P ops Q (⟨some d,.binOp .add t x y yt,ty,pos,aU,g⟩ :: rest) a w :=
 gZ (v:=.int .i64 (IntKind.i64.wrap (p+q))) (w':=w) hw rfl (by simp [execOp,eqGuard,binOp,Op.intArith,H.ev hx,H.ev hy,eT]) (k _ (H.put hd _ H.hp))
end
theorem dO.rep {G Gp:GH} {e sz n:Nat} {v:ak} {xs:List ak} {Lo:OL} {rows:List (List Dat)} (h:dO e sz v n xs Lo) (hl:rows.length=n) (hc:dG G sz rows xs) (hm:∀ b o,G b=some o→Gp b=some o) (ho:∀ p∈Lo,Gp p.1=some p.2):au Gp (.sl sz rows) v:=by
 rcases h.2 with ⟨rfl,h2,rfl⟩|⟨b,cap,cur,rfl,rfl,h3,h4,h5,h6⟩
 ·have:rows=[]:=List.eq_nil_of_length_eq_zero (by omega)
  subst this
  simp only [au]
  exact ⟨none,0,by simp,by simp,by simp [maxLen],fun h=>absurd rfl h⟩
 ·exact au.fF (ho _ (xI.2 rfl)) hl h3 h4 h6 (hc.mono hm)
theorem bH.put {G:GH}:∀ {r:List Dat} {cs:List ak} {k:Nat} {d:Dat} {v:ak},bH G r cs→k < r.length→au G d v→bH G (r.set k d) (cs.set k v)
 | [],_,_,_,_,_,hk,_=>by simp at hk
 | x :: r,cs,k,d,v,h,hk,hv=>by
  simp only [bH] at h
  obtain ⟨u,us,rfl,h1,h2⟩:=h
  cases k with
  | zero=>exact ⟨v,us,rfl,hv,h2⟩
  | succ k=>exact ⟨u,us.set k v,rfl,h1,bH.put h2 (by simpa using hk) hv⟩
theorem dG.aaC {G:GH} {sz k:Nat} {rows:List (List Dat)} {r:List Dat} {xs:List ak} {d:Dat} {v:ak} (h:dG G sz (r :: rows) xs) (hk:k < sz) (hr:k < r.length) (hv:au G d v):dG G sz (r.set k d :: rows) (xs.set k v):=by
 obtain ⟨css,rfl,h2,h3⟩:=h
 cases css with
 | nil=>simp at h2
 | cons c css =>
  obtain ⟨h4,h5⟩:=h3 0 r c rfl rfl
  have h6:dG G sz rows css.flatten:=⟨css,rfl,by simpa using h2,fun j r' cs hr' hc=>h3 (j+1) r' cs (by simpa using hr') (by simpa using hc)⟩
  rw [List.flatten_cons,List.set_append_left _ _ (by omega)]
  have h8:=((dG.nil (G:=G) (sz:=sz)).snoc (h4.put hr hv) (by rw [List.length_set];exact h5)).append h6
  simpa using h8
theorem aoi (p:Int):¬ IntKind.i64.wrap (p+1)=p:=by
 unfold IntKind.wrap
 have e:(2:Int) ^ 64=18446744073709551616:=by decide
 have e':(2:Int) ^ (64 - 1)=9223372036854775808:=by decide
 simp only [IntKind.bits,IntKind.signed,vg,e,e',qI]
 split <;> omega
theorem aoo (p:Int):¬ qK .xor .i64 p 1=p:=by
 intro h
 have hb:(BitVec.ofInt 64 p ^^^ BitVec.ofInt 64 1)=BitVec.ofInt 64 p:=by
  apply BitVec.eq_of_toNat_eq
  rw [BitVec.toNat_ofInt (i:=p)]
  have h3:=(BitVec.ofInt 64 p ^^^ BitVec.ofInt 64 1).isLt
  change IntKind.i64.wrap ((BitVec.ofInt 64 p ^^^ BitVec.ofInt 64 1).toNat:Int)=p at h
  generalize (BitVec.ofInt 64 p ^^^ BitVec.ofInt 64 1).toNat=n at h h3 ⊢
  unfold IntKind.wrap at h
  have e:(2:Int) ^ 64=18446744073709551616:=by decide
  have e2:((2 ^ 64:Nat):Int)=18446744073709551616:=by decide
  have e':(2:Int) ^ (64 - 1)=9223372036854775808:=by decide
  have e3:(2:Nat) ^ 64=18446744073709551616:=by decide
  rw [e3] at h3
  rw [e2]
  simp only [IntKind.bits,IntKind.signed,vg,e,e',qI] at h
  split at h <;> omega
 have h2:BitVec.ofInt 64 p ^^^ (BitVec.ofInt 64 p ^^^ BitVec.ofInt 64 1)=BitVec.ofInt 64 p ^^^ BitVec.ofInt 64 p:=by rw [hb]
 rw [← BitVec.xor_assoc,BitVec.xor_self,BitVec.zero_xor] at h2
 exact absurd h2 (by decide)
end
section
open Go.RowKit
theorem agx:∀ args w,(callFunc 8 args).run prog w=.ok (.enter 8 args) w:=enters func8 rfl (by kernel_rfl)
theorem QX:∀ args w,(callFunc 10 args).run prog w=.ok (.enter 10 args) w:=enters func10 rfl (by kernel_rfl)
theorem KV:∀ args w,(callFunc 9 args).run prog w=.ok (.enter 9 args) w:=enters func9 rfl (by kernel_rfl)
theorem NW:∀ args w,(callFunc 5 args).run prog w=.ok (.enter 5 args) w:=enters func5 rfl (by kernel_rfl)
theorem XG:∀ args w,(callFunc 6 args).run prog w=.ok (.enter 6 args) w:=enters func6 rfl (by kernel_rfl)
theorem XK:∀ args w,(callFunc 7 args).run prog w=.ok (.enter 7 args) w:=enters func7 rfl (by kernel_rfl)
theorem abF:prog.underlying 4=some .bool:=by kernel_rfl
def aJ.setKind (k:Int):aJ→aJ
 | .mk _ c i t h f r=>.mk k c i t h f r
theorem aJ.amK (k:Int) (x:aJ):(x.setKind k).dat=x.dat.set 0 (li k):=by cases x;rfl
theorem aJ.amL (k:Int) (x:aJ):(x.setKind k).kind=k:=by cases x;rfl
theorem aJ.amM (k:Int) (x:aJ):dQ (x.setKind k).dat=dQ x.dat:=by cases x;rfl
theorem Z4 (G:GH) (k:Int):au G (li k) (vi k):=by simp [au,li,Value.oneCell']
theorem qF.Ph {G Gp:GH} {D':jS} {x:oC} {xf xr:List ak} {Lf Lr:OL} (h1:dO 47 11 (aK D'.f) x.flow.length xf Lf) (h2:dG G 11 (x.flow.map aJ.dat) xf) (h3:dO 49 3 (aK D'.r) x.revs.length xr Lr) (h4:dG G 3 (x.revs.map dh.dat) xr)
  (h5:ku G x.fin (aK D'.p) (aK D'.d) (aK D'.y)) (h6:D'.ins=x.fin.marks.ins) (h7:D'.move=x.fin.marks.move) (h8:tq G x.gq (aK D'.s1) (aK D'.s2) (aK D'.s3) (aK D'.s4)) (hm:∀ b o,G b=some o→Gp b=some o) (hf:∀ p∈Lf,Gp p.1=some p.2) (hr:∀ p∈Lr,Gp p.1=some p.2):qF Gp D' x :=
 ⟨h1.rep (by simp) h2 hm hf,h5.mono hm,h6,h7,h3.rep (by simp) h4 hm hr,h8.mono hm⟩
theorem akF {x:oC} (hn:0 < x.flow.length) {y:oC} (hy:y.flow=x.flow.set 0 (x.flow[0].setKind (IntKind.i64.wrap (x.flow[0].kind+1)))):¬ y=x:=by
 rintro rfl;have h1:=aB (fun l=>l[0]?) hy
 simp only [List.getElem?_set_self hn,fT hn,nM] at h1
 have h2:=aB aJ.kind h1;rw [aJ.amL] at h2;exact aoi _ h2.symm
theorem anB {x:oC} (hn:0 < x.revs.length) {y:oC} (hy:y.revs=x.revs.set 0 ⟨x.revs[0].id,x.revs[0].author,qK .xor .i64 x.revs[0].time 1⟩):¬ y=x:=by
 rintro rfl;have h1:=aB (fun l=>l[0]?) hy
 simp only [List.getElem?_set_self hn,fT hn,nM] at h1
 have h2:=aB dh.time h1;exact aoo _ h2.symm
theorem akE {G:GH} {l:List aJ} {xs:List ak} (hn:0 < l.length) (k:Int) (h:dG G 11 (l.map aJ.dat) xs):dG G 11 ((l.set 0 (l[0].setKind k)).map aJ.dat) (xs.set 0 (vi k)):=by
 cases l with
 | nil=>simp at hn
 | cons x l =>
  have h1:=dG.aaC (k:=0) (r:=x.dat) (rows:=l.map aJ.dat) h (by decide) (by rw [aJ.yY];simp) (Z4 G k);rw [← aJ.amK] at h1;exact h1
theorem akG {l:List aJ} (hn:0 < l.length) (k:Int):bU (l.set 0 (l[0].setKind k))=bU l:=by
 cases l with
 | nil=>simp at hn
 | cons x l=>show fE ((x.setKind k).dat :: l.map aJ.dat)=fE (x.dat :: l.map aJ.dat);simp only [fE,aJ.amM]
theorem anA {G:GH} {l:List dh} {xs:List ak} (hn:0 < l.length) (t:Int) (h:dG G 3 (l.map dh.dat) xs):dG G 3 ((l.set 0 ⟨l[0].id,l[0].author,t⟩).map dh.dat) (xs.set 2 (vi t)):=by
 cases l with
 | nil=>simp at hn
 | cons x l=>exact dG.aaC (k:=2) (r:=x.dat) (rows:=l.map dh.dat) h (by decide) (by simp [dh.dat]) (Z4 G t)
set_option maxHeartbeats 4000000 in
theorem ahf (G:GH) (w0:World) (hG:Hold G w0) (D:jS) (d:oC) (hR:qF G D d) (hz:Ey d) (E:jS) (e:oC) (hS:qF G E e) (hy:Ey e) :
  Calls prog 3 #[D.val,E.val] w0 (bJ w0 G fun u G'=>u=.bool true):=by
 have hzd:=hz.fl;have hze:=hy.fl
 haveI hdec:Decidable (d=e):=Classical.propDecidable _
 refine eN [(0,_),(1,_)] func3 rfl ntmps3 rfl rfl hG ?_;intro a H;refine dw (fun _ K1=>?_);refine eD (cs:=[_,_,_,_,_,_,_,_,_,_,_]) H wn rfl rfl rfl ?_;clear H;intro b2 a w hb2 H;refine eD (cs:=[_,_,_,_,_,_,_,_,_,_,_]) H wn rfl rfl rfl ?_;clear H;intro b3 a w hb3 H;refine kH H (aj K1 rfl (SQ fun _ K2=>SQ fun _ K3=>?_));clear H K1;intro a H;obtain ⟨Qv,mZ,sM,HQ⟩:=H.eG;clear H;obtain ⟨Ga,kN,hb2',H⟩:=HQ.eG;clear HQ;have hga:=fun j v hj=>oq hb2' 0 D.cells rfl j v hj;have hge:∀ j v,E.cells[j]?=some v→aF Ga b3 (0+j)=some v:=fun j v hj=>ay kN (oq sM 0 E.cells rfl j v hj);replace hR:=(hR.mono mZ).mono kN;replace hS:=(hS.mono mZ).mono kN;refine nG ?_;refine s_call NW H wn rfl (Pb _ _ H.ro) rfl ?_;clear H;rintro v8 G8 a w rfl tT H;refine kH H (Rn rfl (Rm rfl (Sp 10 rfl ?_ ?_))) <;> clear H
 ·intro h10 a H
  refine kH H (aQ h10 rfl (Pt h10 rfl (Rm rfl (aQ rfl rfl (Pt rfl rfl (Kn K3 (Ct rfl rfl (SR fun _ K4=>?_))))))));clear H K3;intro a H;refine s_call NW H wn rfl (Pb _ _ H.ro) rfl ?_;clear H;rintro v20 EA a w rfl Eb H;exact kH H (aj K4 rfl (LR results3 rfl fun H=>H.rt rfl))
 intro h10 a H
 try have jw:=dF h10
 refine aW jQ (cs:=D.cells) H (wg H rfl rfl h10) rfl rfl (fun j v hj=>H.hp.aF (ay tT (hga j v hj))) rfl ?_;clear H;intro a H;refine s_call XG H (wg H rfl rfl h10) rfl (abd _ _ H.ro D d (hR.mono tT) hz) rfl ?_;clear H;rintro v12 Dp a w ⟨b12,rfl⟩ BA H;refine kH H (YN h10 rfl (Pf h10 rfl (Rm rfl (Sp 15 rfl ?_ ?_)))) <;> clear H
 ·intro fM a H
  refine kH H (aQ fM rfl (Pt fM rfl (Kn K3 (Ct rfl rfl (SR fun _ K5=>?_)))));clear H K3;intro a H;refine s_call NW H wn rfl (Pb _ _ H.ro) rfl ?_;clear H;rintro v20 EA a w rfl Eb H;exact kH H (aj K5 rfl (LR results3 rfl fun H=>H.rt rfl))
 intro fM a H
 try have oL:=dF fM
 refine aW jQ (cs:=E.cells) H (wg H rfl rfl fM) rfl rfl (fun j v hj=>H.hp.aF (ay BA (ay tT (hge j v hj)))) rfl ?_;clear H;intro a H;refine s_call XG H (wg H rfl rfl fM) rfl (abd _ _ H.ro E e ((hS.mono tT).mono BA) hy) rfl ?_;clear H;rintro v17 Cg a w ⟨b17,rfl⟩ ou H;refine kH H (YN fM rfl (Pf fM rfl (Kn K3 (Cd rfl ?_ ?_)))) <;> clear H K3
 ·intro h19 a H
  refine dw (fun _ K6=>?_);refine s_call NW H wn rfl (Pb _ _ H.ro) rfl ?_;clear H;rintro v20 EA a w rfl Eb H;exact kH H (aj K6 rfl (LR results3 rfl fun H=>H.rt rfl))
 intro h19 a H
 try have yD:=dF h19
 refine kP H (Kc K2 (SQ fun _ K7=>SQ fun _ K8=>?_));clear H K2;intro a H;have hmm:=fun b o h=>ou b o (BA b o (tT b o h));replace hga:=fun j v hj=>ay hmm (hga j v hj);replace hge:=fun j v hj=>ay hmm (hge j v hj);replace hR:=hR.mono hmm;replace hS:=hS.mono hmm;refine nG ?_;refine aW jQ (cs:=D.cells) H wn rfl rfl (fun j v hj=>H.hp.aF (hga j v hj)) rfl ?_;clear H;intro a H;refine s_call XK H wn rfl (aad _ _ H.ro D d hR hz) rfl ?_;clear H;rintro v22 Qq a w rfl CQ H;refine kH H (Rc rfl (Rm rfl (Sp 24 rfl ?_ ?_))) <;> clear H
 ·intro bE a H
  exact kH H (aQ bE rfl (Pt bE rfl (Kn K8 (Ct rfl rfl (SR fun _ K9=>aj K9 rfl (LR results3 rfl fun H=>H.rt rfl))))))
 intro bE a H
 try have jP:=dF bE
 refine aW jQ (cs:=E.cells) H (wg H rfl rfl bE) rfl rfl (fun j v hj=>H.hp.aF (ay CQ (hge j v hj))) rfl ?_;clear H;intro a H;refine s_call XK H (wg H rfl rfl bE) rfl (aad _ _ H.ro E e (hS.mono CQ) hy) rfl ?_;clear H;rintro v26 G26 a w rfl ajs H;refine kH H (YC bE rfl (Pf bE rfl (Kn K8 (Cd rfl ?_ ?_)))) <;> clear H K8
 ·intro gQ a H
  exact kP H (SR fun _ aT=>aj aT rfl (LR results3 rfl fun H=>H.rt rfl))
 intro gQ a H
 try have p28:=dF gQ
 refine fu ?_;refine K7 _ _ ?_;clear K7;refine aS (fun _ bB=>?_);have OH:=fun b o h=>ajs b o (CQ b o h);replace hga:=fun j v hj=>ay OH (hga j v hj);replace hge:=fun j v hj=>ay OH (hge j v hj);replace hR:=hR.mono OH;replace hS:=hS.mono OH;refine nG ?_;refine aW jQ (cs:=D.cells) H wn rfl rfl (fun j v hj=>H.hp.aF (hga j v hj)) rfl ?_;clear H;intro a H;refine gB agx (Li:=[]) (L:=[]) H wn rfl (aei _ _ (Az H.ro) D d hR hz) rfl ?_;clear H;rintro v30 Dq L30 a w ⟨⟨⟨fA,fn,fc⟩,cp,cd,cy,⟨rA,rn,rc⟩,c1,c2,c3,c4,aoC,cmv⟩,rfl,xf,Lf,xr,Lr,rfl,hrf,hcf,hrr,hcr,hch,hci,hcm,hcs⟩ zF H;dsimp only [List.nil_append,jS.val,jS.cells,aK] at H hrf hrr hch hci hcm hcs
 obtain rfl:fn=d.flow.length:=by obtain ⟨A,c,e,-⟩:=hrf.shape;cases e;rfl
 obtain rfl:rn=d.revs.length:=by obtain ⟨A,c,e,-⟩:=hrr.shape;cases e;rfl
 subst hci hcm;replace hga:=fun j v hj=>ay zF (hga j v hj);replace hge:=fun j v hj=>ay zF (hge j v hj);replace hR:=hR.mono zF;replace hS:=hS.mono zF;have Yo:∀ p∈Lf,p∈Lf++Lr:=fun p h=>List.mem_append_left _ h;have Yp:∀ p∈Lr,p∈Lf++Lr:=fun p h=>List.mem_append_right _ h;refine dU jQ H wn rfl ?_;clear H;intro b5 a w hb5 H;refine bN jQ 0 (vs:=[_,_,_,_,_,_,_,_,_,_,_]) _ H wn rfl rfl rfl rfl rfl rfl rfl rfl ?_;clear H;intro w H;dsimp only [List.set,setRow] at H;refine kH H (Kn bB (SQ fun _ bC=>SQ fun _ bK=>?_));clear H bB;intro a H;refine dI hmx [[],[],[0,1],[],[],(ra 0 5),(ra 0 6),(ra 0 7),(ra 0 8),(ra 0 8),(ra 0 10),(ra 0 8),(ra 0 8),(ra 0 13),(ra 0 14),(ra 0 15),(ra 0 16),(ra 0 17),(ra 0 17),(ra 0 19),(ra 0 20),(ra 0 21),(ra 0 22),(ra 0 23),(ra 0 23),(ra 0 25),(ra 0 26),(ra 0 27)] [] (by kernel_rfl) [.agg D.cells.toArray,.agg E.cells.toArray,.bool (decide (d=e)),.agg D.cells.toArray,.agg E.cells.toArray,.bool (decide (d=e)),.bool false,_,.agg E.cells.toArray,.agg D.cells.toArray,.bool (decide (d=e)),.agg D.cells.toArray,.agg E.cells.toArray,.bool (decide (d=e)),.bool false,_,_,.agg #[.slice fA d.flow.length fc,aK cp,vi d.fin.marks.ins,vi d.fin.marks.move,aK cd,aK cy,.slice rA d.revs.length rc,aK c1,aK c2,aK c3,aK c4],.agg D.cells.toArray,.bool true,.bool false,_,_,.agg #[.slice fA d.flow.length fc,aK cp,vi d.fin.marks.ins,vi d.fin.marks.move,aK cd,aK cy,.slice rA d.revs.length rc,aK c1,aK c2,aK c3,aK c4],.agg D.cells.toArray,.bool true,.bool false,_] H (aG ?_ ?_ ?_ ?_ (aG ?_ ?_ ?_ (Z1 6 37 rfl (Rm rfl)) (aG ?_ ?_ ?_ ?_ (aG ?_ ?_ ?_ (Z2 7 38 14 45 rfl (Pf rfl rfl)) (aG (Z1 15 46 rfl (Rm rfl)) ?_ ?_ ?_ (aG ?_ (Z2 16 47 20 51 rfl (Pf rfl rfl)) (Z1 21 52 rfl (Rm rfl)) ?_ (aG ?_ ?_ ?_ (Z2 22 53 26 57 rfl (Pf rfl rfl)) dD))))))) ?_
 ·refine yR rfl fun _ a w G1 hG HT H fin=>?_;refine aW jQ (cs:=D.cells) H wn rfl rfl (fun j v hj=>H.hp.aF (ay hG (hga j v hj))) rfl ?_;clear H;intro a H;exact fin H iJ rfl
 ·refine yR rfl fun _ a w G1 hG HT H fin=>?_;refine aW jQ (cs:=E.cells) H wn rfl rfl (fun j v hj=>H.hp.aF (ay hG (hge j v hj))) rfl ?_;clear H;intro a H;exact fin H iJ rfl
 ·refine eu 0 31 1 32 rfl rfl fun _ a w G1 hG HT H fin=>?_;refine s_call KV H wn rfl (KP _ _ H.ro D E d e (hR.mono hG) (hS.mono hG) (by omega)) rfl ?_;clear H;rintro v33 G33 a w ⟨b33,rfl,YA⟩ Sm H;exact fin H Sm (aL (by rw [mE,YA,decide_eq_true_iff]))
 ·refine yR rfl fun _ a w G1 hG HT H fin=>?_;refine aW jQ (cs:=D.cells) H wn rfl rfl (fun j v hj=>H.hp.aF (ay hG (hga j v hj))) rfl ?_;clear H;intro a H;exact fin H iJ rfl
 ·refine yR rfl fun _ a w G1 hG HT H fin=>?_;refine aW jQ (cs:=E.cells) H wn rfl rfl (fun j v hj=>H.hp.aF (ay hG (hge j v hj))) rfl ?_;clear H;intro a H;exact fin H iJ rfl
 ·refine eu 3 34 4 35 rfl rfl fun _ a w G1 hG HT H fin=>?_;refine s_call QX H wn rfl (Uv _ _ H.ro D E d e (hR.mono hG) (hS.mono hG) (by omega)) rfl ?_;clear H;rintro v36 G36 a w ⟨b36,rfl,YB⟩ Ao H;exact fin H Ao (aL (by rw [mE,YB,decide_eq_true_iff]))
 ·refine eu 2 33 5 36 rfl rfl fun _ a w G1 hG HT H fin=>?_;refine aaQ abF H wn rfl rfl rfl ?_;clear H;intro a H;exact fin H iJ (by show _=_;first|exact aL (by simp)|rfl)
 ·refine dN 7 38 rfl rfl fun _ a w G1 hG HT H fin=>?_;refine aW jQ (cs:=E.cells) H (wg H rfl rfl rfl) rfl rfl (fun j v hj=>H.hp.aF (ay hG (hge j v hj))) rfl ?_;clear H;intro a H;exact fin H iJ rfl
 ·refine dN 7 38 rfl rfl fun _ a w G1 hG HT H fin=>?_;refine aW jQ (cs:=D.cells) H (wg H rfl rfl rfl) rfl rfl (fun j v hj=>H.hp.aF (ay hG (hga j v hj))) rfl ?_;clear H;intro a H;exact fin H iJ rfl
 ·refine rC 8 39 9 40 7 38 rfl rfl fun _ a w G1 hG HT H fin=>?_;refine s_call KV H (wg H rfl rfl rfl) rfl (KP _ _ H.ro E D e d (hS.mono hG) (hR.mono hG) (by omega)) rfl ?_;clear H;rintro v41 IV a w ⟨b41,rfl,YD⟩ ahW H;exact fin H ahW (aL (by rw [mE,YD,decide_eq_true_iff,eq_comm]))
 ·refine dN 7 38 rfl rfl fun _ a w G1 hG HT H fin=>?_;refine aW jQ (cs:=D.cells) H (wg H rfl rfl rfl) rfl rfl (fun j v hj=>H.hp.aF (ay hG (hga j v hj))) rfl ?_;clear H;intro a H;exact fin H iJ rfl
 ·refine dN 7 38 rfl rfl fun _ a w G1 hG HT H fin=>?_;refine aW jQ (cs:=E.cells) H (wg H rfl rfl rfl) rfl rfl (fun j v hj=>H.hp.aF (ay hG (hge j v hj))) rfl ?_;clear H;intro a H;exact fin H iJ rfl
 ·refine rC 11 42 12 43 7 38 rfl rfl fun _ a w G1 hG HT H fin=>?_;refine s_call QX H (wg H rfl rfl rfl) rfl (Uv _ _ H.ro D E d e (hR.mono hG) (hS.mono hG) (by omega)) rfl ?_;clear H;rintro v44 VX a w ⟨b44,rfl,YG⟩ ahY H;exact fin H ahY (aL (by rw [mE,YG,decide_eq_true_iff]))
 ·refine rC 10 41 13 44 7 38 rfl rfl fun _ a w G1 hG HT H fin=>?_;refine aaQ abF H (wg H rfl rfl rfl) rfl rfl rfl ?_;clear H;intro a H;exact fin H iJ (by show _=_;first|exact aL (by simp)|rfl)
 ·refine dN 16 47 rfl rfl fun _ a w G1 hG HT H fin=>?_;refine aW jQ (cs:=[.slice fA d.flow.length fc,aK cp,vi d.fin.marks.ins,vi d.fin.marks.move,aK cd,aK cy,.slice rA d.revs.length rc,aK c1,aK c2,aK c3,aK c4]) H (wg H rfl rfl rfl) rfl rfl (H.hp.dX 0 rfl rfl) rfl ?_;clear H;intro a H;exact fin H iJ rfl
 ·refine dN 16 47 rfl rfl fun _ a w G1 hG HT H fin=>?_;refine aW jQ (cs:=D.cells) H (wg H rfl rfl rfl) rfl rfl (fun j v hj=>H.hp.aF (ay hG (hga j v hj))) rfl ?_;clear H;intro a H;exact fin H iJ rfl
 ·refine rC 17 48 18 49 16 47 rfl rfl fun _ a w G1 hG HT H fin=>?_;refine PX QX H (wg H rfl rfl rfl) rfl (Uv _ _ H.hp.over ⟨(fA,d.flow.length,fc),cp,cd,cy,(rA,d.revs.length,rc),c1,c2,c3,c4,d.fin.marks.ins,d.fin.marks.move⟩ D d d (qF.Ph hrf hcf hrr hcr hch rfl rfl hcs (fun b o h=>H.hp.Fw b o (hG b o h)) (H.hp.Fx fun p hp=>nE _ (Yo p hp)) (H.hp.Fx fun p hp=>nE _ (Yp p hp))) ((hR.mono hG).mono H.hp.Fw) (by omega)) rfl ?_;clear H;rintro v50 G50 a w ⟨b50,rfl,aiB⟩ H;have aia:=fun (b:Nat) (o:Obj) (h:G1 b=some o)=>h;exact fin H aia (aL (aiB.2 rfl))
 ·refine eu 19 50 16 47 rfl rfl fun _ a w G1 hG HT H fin=>?_;refine MS H (wg H rfl rfl rfl) rfl rfl ?_;clear H;intro a H;exact fin H iJ rfl
 ·refine dN 22 53 rfl rfl fun _ a w G1 hG HT H fin=>?_;refine aW jQ (cs:=[.slice fA d.flow.length fc,aK cp,vi d.fin.marks.ins,vi d.fin.marks.move,aK cd,aK cy,.slice rA d.revs.length rc,aK c1,aK c2,aK c3,aK c4]) H (wg H rfl rfl rfl) rfl rfl (H.hp.dX 0 rfl rfl) rfl ?_;clear H;intro a H;exact fin H iJ rfl
 ·refine dN 22 53 rfl rfl fun _ a w G1 hG HT H fin=>?_;refine aW jQ (cs:=D.cells) H (wg H rfl rfl rfl) rfl rfl (fun j v hj=>H.hp.aF (ay hG (hga j v hj))) rfl ?_;clear H;intro a H;exact fin H iJ rfl
 ·refine rC 23 54 24 55 22 53 rfl rfl fun _ a w G1 hG HT H fin=>?_;refine PX KV H (wg H rfl rfl rfl) rfl (KP _ _ H.hp.over ⟨(fA,d.flow.length,fc),cp,cd,cy,(rA,d.revs.length,rc),c1,c2,c3,c4,d.fin.marks.ins,d.fin.marks.move⟩ D d d (qF.Ph hrf hcf hrr hcr hch rfl rfl hcs (fun b o h=>H.hp.Fw b o (hG b o h)) (H.hp.Fx fun p hp=>nE _ (Yo p hp)) (H.hp.Fx fun p hp=>nE _ (Yp p hp))) ((hR.mono hG).mono H.hp.Fw) (by omega)) rfl ?_;clear H;rintro v56 G56 a w ⟨b56,rfl,aiE⟩ H;have aic:=fun (b:Nat) (o:Obj) (h:G1 b=some o)=>h;exact fin H aic (aL (aiE.2 rfl))
 ·refine eu 25 56 22 53 rfl rfl fun _ a w G1 hG HT H fin=>?_;refine MS H (wg H rfl rfl rfl) rfl rfl ?_;clear H;intro a H;exact fin H iJ rfl
 clear H;intro a w G fH H hv;have H:=H.aZ (hv 27 58 rfl rfl) rfl;clear hv;refine aH ⟨rfl,?_⟩;refine bK _ _ ?_;clear bK;refine om H rfl rfl ?_;refine fu ?_;refine bC _ _ ?_;clear bC;refine qL (ι:=List aJ × List ak × OL × GH) (Tc:=[(2,_),(5,_)]) (Lc:=[(_,_)]) (fun gh=>[]) (fun gh=>[]++(gh.2.2.1++Lr)) (fun gh=>gh.2.2.2) (fun gh=>dO 47 11 (.slice fA d.flow.length fc) gh.1.length gh.2.1 gh.2.2.1∧dG gh.2.2.2 11 (gh.1.map aJ.dat) gh.2.1∧bU gh.1≤4294967296∧(∀ b o,G b=some o→gh.2.2.2 b=some o)) (by exact (H).sub ⟨rfl,rfl,aC⟩) ?_ ?_
 ·skip;refine kP H (SR fun _ bP=>bg uM jy 0 rfl rfl (Rl lu rfl (Rc rfl (Kz bP (Cd rfl ?_ ?_))))) <;> clear H bP
  ·intro Si a H
   try have p62:=dT Si
   have hn:0 < d.flow.length:=by omega
   obtain ⟨bf,rfl⟩:=hrf.ptr hn;obtain ⟨cur,-,rfl,hcur,hset⟩:=hrf.set1;have hv0:=(hR.mono fH).fl;obtain ⟨⟨gA,gn,gc⟩,hDf⟩:∃ q,D.f=q:=⟨_,rfl⟩;have hg0:=ay fH (hga 0 _ rfl);rw [hDf] at hv0 hg0;dsimp only [aK] at hv0 hg0;have hgn:=hv0.len;rw [bV] at hgn;subst hgn;obtain ⟨q1,o1,cs1,rfl,-,hw1,hr1⟩:=hv0.at_ 0 d.flow[0].dat (by simp [hn])
   have hk1:aF G q1 (o1+0*11+0)=some (vi d.flow[0].kind):=by
    rw [aJ.yY] at hr1
    simp only [bH,au] at hr1
    obtain ⟨_,_,rfl,⟨rfl,_⟩,-⟩:=hr1;exact hw1 0 _ rfl
   dsimp only [lca,aV] at H;refine kP H (SR fun _ dx=>Rf uM rfl (Rg jy rfl hg0 (Ri lu eZ rfl rfl (Rf gJ rfl (Rg aD rfl hk1 (aj dx rfl (SR fun _ dP=>bg uM jy 0 rfl rfl (Rm rfl ?_))))))));clear H dx;intro a H;refine amn H wn rfl rfl rfl ?_;clear H;intro a H;refine kH H (Ri lu eZ rfl rfl (Rf gJ rfl ?_));clear H;intro a H;refine bN aD 1 (c:=cur) (vs:=[vi (IntKind.i64.wrap (d.flow[0].kind+1))]) (cur.set 0 (vi (IntKind.i64.wrap (d.flow[0].kind+1)))) H wn rfl rfl rfl rfl rfl rfl (by simp;omega) rfl ?_;clear H;intro w H;dsimp only [List.set,List.cons_append,List.nil_append] at H;have Zl:=hset 0 (vi (IntKind.i64.wrap (d.flow[0].kind+1)));have YQ:=akE hn (IntKind.i64.wrap (d.flow[0].kind+1)) (hcf.mono fH);have hzn:=akG hn (IntKind.i64.wrap (d.flow[0].kind+1));refine dP _ _ ?_;clear dP;refine kP H (SR fun _ dB=>Rf uM rfl (Rg jy rfl hg0 (Ri lu eZ rfl rfl (Rf gJ rfl (Rg aD rfl hk1 (Rm rfl (Rc rfl (Rm rfl (Sp 81 rfl ?_ ?_))))))))) <;> clear H
   ·intro nQ a H
    exact absurd nQ (by simp)
   intro nQ a H
   try have zP:=dF nQ
   refine aW jQ (cs:=[.slice (some ⟨bf,0,none⟩) d.flow.length fc,aK cp,vi d.fin.marks.ins,vi d.fin.marks.move,aK cd,aK cy,.slice rA d.revs.length rc,aK c1,aK c2,aK c3,aK c4]) H (wg H rfl rfl nQ) rfl rfl (H.hp.dX 0 rfl rfl) rfl ?_;clear H;intro a H;refine aW jQ (cs:=D.cells) H (wg H rfl rfl nQ) rfl rfl (fun j v hj=>H.hp.aF (ay fH (hga j v hj))) rfl ?_;clear H;intro a H;refine PX KV H (wg H rfl rfl nQ) rfl (KP _ _ H.hp.over ⟨(some ⟨bf,0,none⟩,d.flow.length,fc),cp,cd,cy,(rA,d.revs.length,rc),c1,c2,c3,c4,d.fin.marks.ins,d.fin.marks.move⟩ D ⟨d.flow.set 0 (d.flow[0].setKind (IntKind.i64.wrap (d.flow[0].kind+1))),d.fin,d.revs,d.gq⟩ d (qF.Ph (by rw [List.length_set];exact Zl) YQ hrr (hcr.mono fH) (hch.mono fH) rfl rfl (hcs.mono fH) H.hp.Fw (H.hp.Fx fun p hp=>nE _ (uo.2 (Or.inl (xI.1 hp)))) (H.hp.Fx fun p hp=>nE _ (nE _ hp))) ((hR.mono fH).mono H.hp.Fw) (by show bU (d.flow.set 0 _)≤_;omega)) rfl ?_;clear H;rintro v84 G84 a w ⟨b84,rfl,aiG⟩ H
   obtain rfl:b84=false:=by
    rw [Bool.eq_false_iff];exact fun h=>akF hn rfl (aiG.1 h)
   refine kH H (Pf nQ rfl (Kz dB (Cd rfl ?_ ?_))) <;> clear H dB
   ·intro lU a H
    exact absurd lU (by decide)
   intro lU a H
   try have PE:=dF lU
   refine fu ?_;refine ⟨(d.flow.set 0 (d.flow[0].setKind (IntKind.i64.wrap (d.flow[0].kind+1))),xf.set 0 (vi (IntKind.i64.wrap (d.flow[0].kind+1))),[(bf,.cells (cur.set 0 (vi (IntKind.i64.wrap (d.flow[0].kind+1)))).toArray 47 (0,0))],_),by exact (H).sub ⟨rfl,rfl,aC⟩,?_⟩;(try dsimp only);exact ⟨by rw [List.length_set];exact Zl,YQ,by omega,fun _ _ h=>h⟩
  intro Si a H
  try have p62:=dF Si
  refine fu ?_;refine ⟨(d.flow,xf,Lf,_),by exact (H).sub ⟨rfl,rfl,aC⟩,?_⟩;(try dsimp only);exact ⟨hrf,hcf.mono fH,by omega,fun _ _ h=>h⟩
 clear H;intro gh a w hI H;obtain ⟨Fl,xs,Lo,g13⟩:=gh;dsimp only at hI H;obtain ⟨hrF,hcF,hzF,ajg⟩:=hI;have Aq:=fun b o h=>ajg b o (fH b o h);dsimp only [lca,aV] at H;refine kP H (SQ fun _ dY=>SR fun _ eP=>bg qM ow 0 rfl rfl (Rl mH rfl (Rc rfl (Kz eP (Cd rfl ?_ ?_))))) <;> clear H eP
 ·intro Jt a H
  try have p89:=dT Jt
  have hn:0 < d.revs.length:=by omega
  obtain ⟨br,rfl⟩:=hrr.ptr hn;obtain ⟨Jg,-,rfl,ajb,TV⟩:=hrr.set1;have hv0:=(hR.mono Aq).rv;obtain ⟨⟨gA,gn,gc⟩,hDr⟩:∃ q,D.r=q:=⟨_,rfl⟩;have hg0:=ay Aq (hga 6 _ rfl);rw [hDr] at hv0 hg0;dsimp only [aK] at hv0 hg0;have hgn:=hv0.len;rw [bV] at hgn;subst hgn;obtain ⟨q1,o1,rfl,hw1⟩:=U8 hv0 hn;have H:=H.perm (List.Perm.cons _ vv);dsimp only [lca,aV] at H;refine kP H (SR fun _ dZ=>Rf qM rfl (Rg ow rfl hg0 (Ri mH nV rfl rfl (Rf Jq rfl (Rg aD rfl (hw1 2 _ rfl) (aj dZ rfl (SR fun _ eU=>bg qM ow 0 rfl rfl (Rm rfl ?_))))))));clear H dZ;intro a H;refine MQ rfl H wn rfl rfl rfl ?_;clear H;intro a H;refine kH H (Ri mH nV rfl rfl (Rf Jq rfl ?_));clear H;intro a H;refine bN aD 1 (c:=Jg) (vs:=[vi (qK .xor .i64 d.revs[0].time 1)]) (Jg.set 2 (vi (qK .xor .i64 d.revs[0].time 1))) H wn rfl rfl rfl rfl rfl rfl (by simp;omega) rfl ?_;clear H;intro w H;dsimp only [List.set,List.cons_append,List.nil_append] at H;have ajM:=TV 2 (vi (qK .xor .i64 d.revs[0].time 1));have aiY:=anA hn (qK .xor .i64 d.revs[0].time 1) (hcr.mono Aq);refine eU _ _ ?_;clear eU;refine kP H (SR fun _ fK=>Rf qM rfl (Rg ow rfl hg0 (Ri mH nV rfl rfl (Rf Jq rfl (Rg aD rfl (hw1 2 _ rfl) (Rm rfl (Rc rfl (Rm rfl (Sp 108 rfl ?_ ?_))))))))) <;> clear H
  ·intro qw a H
   refine aW jQ (cs:=[.slice fA d.flow.length fc,aK cp,vi d.fin.marks.ins,vi d.fin.marks.move,aK cd,aK cy,.slice (some ⟨br,0,none⟩) d.revs.length rc,aK c1,aK c2,aK c3,aK c4]) H (wg H rfl rfl qw) rfl rfl (H.hp.dX 0 rfl rfl) rfl ?_;clear H;intro a H;refine aW jQ (cs:=D.cells) H (wg H rfl rfl qw) rfl rfl (fun j v hj=>H.hp.aF (ay Aq (hga j v hj))) rfl ?_;clear H;intro a H;refine PX KV H (wg H rfl rfl qw) rfl (KP _ _ H.hp.over ⟨(fA,d.flow.length,fc),cp,cd,cy,(some ⟨br,0,none⟩,d.revs.length,rc),c1,c2,c3,c4,d.fin.marks.ins,d.fin.marks.move⟩ D ⟨Fl,d.fin,d.revs.set 0 ⟨d.revs[0].id,d.revs[0].author,qK .xor .i64 d.revs[0].time 1⟩,d.gq⟩ d (qF.Ph hrF hcF (by rw [List.length_set];exact ajM) aiY (hch.mono Aq) rfl rfl (hcs.mono Aq) H.hp.Fw (H.hp.Fx fun p hp=>nE _ (nE _ hp)) (H.hp.Fx fun p hp=>nE _ (uo.2 (Or.inl (xI.1 hp))))) ((hR.mono Aq).mono H.hp.Fw) hzF) rfl ?_;clear H;rintro anU aox a w ⟨acI,rfl,ais⟩ H
   obtain rfl:acI=false:=by
    rw [Bool.eq_false_iff];exact fun h=>anB hn rfl (ais.1 h)
   exact kH H (YN qw rfl (Pt qw rfl (aj fK rfl (LR results3 rfl fun H=>H.rt rfl))))
  intro qw a H
  exact absurd qw (by simp)
 intro Jt a H
 exact kP H (Kc dY (SR fun _ gM=>aj gM rfl (LR results3 rfl fun H=>H.rt rfl)))
end
section
open Go.ChangeShapes Go.RowKit Go.Deep
abbrev rM (W:World):GH:=fun k=>W.heap[k]?
theorem ahJ {W:World} {b o:Nat} {v:ak} (h:W.cell? ⟨b,o,none⟩=some v):aF (rM W) b o=some v:=by
 unfold World.cell? at h
 unfold aF rM
 split at h
 ·rename_i c e f hh
  simp only at hh
  rw [hh];simpa using h
 cases h
theorem Z5 {α:Type} {p:Nat→α→Prop}:∀ n:Nat,(∀ i,i < n→∃ x,p i x)→∃ l:List α,l.length=n∧∀ i x,l[i]?=some x→p i x
 | 0,_=>⟨[],rfl,fun i x h=>by simp at h⟩
 | n+1,h=>by
  obtain ⟨l,hl,hp⟩:=Z5 n (fun i hi=>h i (by omega));obtain ⟨x,hx⟩:=h n (by omega);refine ⟨l++[x],by simp [hl],fun i y hy=>?_⟩
  by_cases hi:i < l.length
  ·exact hp i y (by rwa [Dy hi] at hy)
  rw [Ag (by omega)] at hy
  have hin:i - l.length=0:=by
   have:=(mq.1 hy).1
   simp at this;omega
  rw [hin] at hy
  simp only [Cn,nM] at hy
  subst hy;rw [show i=n by omega];exact hx
theorem acO {H:Type} (d:DataW H):1≤Rows.uptoBulk d:=by
 cases d <;> (try simp only [Rows.uptoBulk]) <;> (try omega)
 rename_i x;cases x <;> simp only [Rows.uptoBulk] <;> omega
theorem WR {H ρ:Type} {dat:ρ→List Dat}:∀ (rs:List ρ) (D:Nat→DataW H),(∀ i r,rs[i]?=some r→dQ (dat r)+1≤8*Rows.uptoBulk (D i))→fE (rs.map dat)≤8*Rows.uptoBulkAll ((List.range rs.length).map D)
 | [],D,_=>iF _
 | r :: rs,D,h=>by
  have h0:=h 0 r rfl;have hp:=acO (D 0);have ih:=WR rs (fun i=>D (i+1)) (fun i r hr=>h (i+1) r (by simpa using hr));rw [qH,List.range_succ_eq_map]
  simp only [iq,List.map_map,fE,Rows.uptoBulkAll]
  have e:(List.map (D ∘ Nat.succ) (List.range rs.length))=(List.map (fun i=>D (i+1)) (List.range rs.length)):=rfl;rw [e];omega
theorem WQ {H:Type} {D:Nat→DataW H}:∀ {n i:Nat},i < n→Rows.uptoBulk (D i)≤Rows.uptoBulkAll ((List.range n).map D)
 | 0,i,h=>absurd h (by omega)
 | n+1,i,h=>by
  have key:∀ (l m:List (DataW H)),Rows.uptoBulkAll (l++m)=Rows.uptoBulkAll l+Rows.uptoBulkAll m:=by
   intro l m
   induction l with
   | nil=>simp [Rows.uptoBulkAll]
   | cons x l ih=>simp only [oG,Rows.uptoBulkAll,ih];omega
  rw [List.range_succ,List.map_append,key]
  by_cases hi:i < n
  ·have:=WQ (D:=D) hi;omega
  have:i=n:=by omega
  subst this
  simp only [iq,yT,Rows.uptoBulkAll];omega
section
variable {H:Type} {enc:TypeId × ak→H} {P:Program} {W:World} {base:Nat} {spare:Nat→Bool} {held:Bool}
theorem xk {ρ:Type} {dat:ρ→List Dat} {t e:TypeId} {sz:Nat} (hsz:0 < sz) {fuel:Nat} {cs:List ak} {x:DataW H × List MemPlace} (ht:P.underlying t=some (.slice e)) (hc:P.cellsOf e=sz) (h:DataW.trod enc P W base spare held fuel t cs=some x)
  (row:∀ n cs' D Pl,DataW.trod enc P W base spare held n e cs'=some (D,Pl)→Rows.uptoBulk D < Rows.uptoBulk x.1→∃ r:ρ,bH (rM W) (dat r) cs'∧dQ (dat r)+1≤8*Rows.uptoBulk D) :
  ∃ (rs:List ρ) (v:ak),cs=[v]∧au (rM W) (.sl sz (rs.map dat)) v∧fE (rs.map dat)+8≤8*Rows.uptoBulk x.1:=by
 rcases open_slice ht h with ⟨rfl,rfl⟩|⟨a,len,cap,m,n,D,Pl,rfl,hb,hl,hm,hmm,rfl,hx⟩
 ·exact ⟨[],_,rfl,au.kg rfl (by decide),by simp [fE,Rows.uptoBulk]⟩
 obtain ⟨rs,hrl,hrs⟩:=Z5 (p:=fun i (r:ρ)=>∃ cs',W.cells? base (a.add (i*sz)) sz=some cs'∧bH (rM W) (dat r) cs'∧dQ (dat r)+1≤8*Rows.uptoBulk (D i)) len (fun i hi=>by
  have him:i < m:=by rw [hmm];split <;> omega
  obtain ⟨cs',h1,h2⟩:=hx i him;rw [hc] at h1;have hb1:=WQ (D:=D) hi;obtain ⟨r,hr1,hr2⟩:=row n cs' (D i) (Pl i) h2 (by simp only [Rows.uptoBulk];omega)
  exact ⟨r,cs',h1,hr1,hr2⟩)
 refine ⟨rs,_,rfl,?_,?_⟩
 ·simp only [au,bV]
  refine ⟨some a,cap,by rw [hrl],by omega,hm,fun hne=>?_⟩;obtain ⟨b,off,spot⟩:=a
  have hlen:0 < rs.length:=by cases rs with|nil=>simp at hne|cons _ _=>simp
  obtain ⟨cs0,h1,-,-⟩:=hrs 0 rs[0] (fT hlen);obtain ⟨-,hl0,hg0⟩:=World.cells?_some h1
  have hspot:spot=none:=by
   have h3:=hg0 0 hsz;rw [fT (by omega)] at h3
   simpa [Addr.add] using World.cell?_spot h3
  subst hspot;refine ⟨b,off,rfl,nL.mk fun k r hk=>?_⟩;rw [tu] at hk;obtain ⟨y,hy,rfl⟩:=ql.1 hk;obtain ⟨cs',h2,h3,-⟩:=hrs k y hy;obtain ⟨-,hl1,hg1⟩:=World.cells?_some h2;refine ⟨cs',hl1,fun j u hj=>ahJ ?_,h3⟩
  have hj2:j < sz:=by rw [← hl1];exact (mq.1 hj).1
  have:=hg1 j hj2;rw [add_add,Go.WideShapes.add_plain] at this;rw [show off+k*sz+j=off+(k*sz+j) by omega,this];exact hj
 have:=WR rs D (fun i r hr=>(hrs i r hr).choose_spec.2.2);rw [hrl] at this
 simp only [Rows.uptoBulk];omega
end
structure um (P:Program) (t:TypeId) (sz:Nat) (fs:List (TypeId × Nat × Nat)):Prop where
 und:P.underlying t=some (.struct (P.fieldsOf t))
 cells:P.cellsOf t=sz
 Bj:(P.fieldsOf t).toList.map (fun f=>(f.type,f.offset,P.cellsOf f.type))=fs
theorem vU {P:Program} {H:Type} {enc:TypeId × ak→H} {W:World} {base:Nat} {spare:Nat→Bool} {held:Bool} {t:TypeId} {sz fuel:Nat} {fs:List (TypeId × Nat × Nat)} {cs:List ak} {x:DataW H × List MemPlace} (hs:um P t sz fs) (h:DataW.trod enc P W base spare held fuel t cs=some x) :
  ∃ (xs:List (DataW H × List MemPlace)) (n:Nat),x.1=.agg (xs.map (·.1))∧cs.length=sz∧xs.length=fs.length∧∀ (i:Nat) (ti:TypeId) (off k:Nat),fs[i]?=some (ti,off,k)→DataW.trod enc P W base spare held n ti ((cs.drop off).take k)=xs[i]?:=by
 obtain ⟨xs,n,-,rfl,hl,hxl,hf⟩:=DataW.trod_struct hs.und h;refine ⟨xs,n,rfl,by rw [hl,hs.cells],by rw [hxl,← hs.Bj];simp,fun i ti off k hi=>?_⟩;rw [← hs.Bj,tu] at hi;obtain ⟨f,hf1,hf2⟩:=ql.1 hi
 simp only [jh] at hf2
 obtain ⟨rfl,rfl,rfl⟩:=hf2;exact hf i f (by simpa using hf1)
section
variable {H:Type} {enc:TypeId × ak→H} {W:World} {base:Nat} {spare:Nat→Bool} {held:Bool}
theorem amX:um prog 166 2 [(3,0,1),(3,1,1)]:=⟨by kernel_rfl,by kernel_rfl,by kernel_rfl⟩
theorem aaF {n:Nat} {cs:List ak} {D:DataW H} {Pl:List MemPlace} (h:DataW.trod enc prog W base spare held n 166 cs=some (D,Pl)):∃ r:gV,bH (rM W) r.dat cs∧dQ r.dat+1≤8*Rows.uptoBulk D:=by
 obtain ⟨xs,m,hx,hl,hxl,hf⟩:=vU amX h
 match cs,hl,xs,hxl with
 | [c0,c1],_,[y0,y1],_ =>
  have h0:=hf 0 _ _ _ rfl;have h1:=hf 1 _ _ _ rfl;obtain ⟨k0,e0,d0,-⟩:=DataW.trod_int underlying3 h0;obtain ⟨k1,e1,d1,-⟩:=DataW.trod_int underlying3 h1
  simp at e0 e1
  subst e0 e1
  simp only at hx
  refine ⟨⟨k0,k1⟩,?_,?_⟩
  ·simp [bH,gV.dat,au,Value.oneCell']
  rw [hx];simp [d0,d1,gV.dat,dQ,qD,Rows.uptoBulk,Rows.uptoBulkAll]
theorem amQ:um prog 169 2 [(3,0,1),(3,1,1)]:=⟨by kernel_rfl,by kernel_rfl,by kernel_rfl⟩
theorem alQ {n:Nat} {cs:List ak} {D:DataW H} {Pl:List MemPlace} (h:DataW.trod enc prog W base spare held n 169 cs=some (D,Pl)):∃ r:jV,bH (rM W) r.dat cs∧dQ r.dat+1≤8*Rows.uptoBulk D:=by
 obtain ⟨xs,m,hx,hl,hxl,hf⟩:=vU amQ h
 match cs,hl,xs,hxl with
 | [c0,c1],_,[y0,y1],_ =>
  have h0:=hf 0 _ _ _ rfl;have h1:=hf 1 _ _ _ rfl;obtain ⟨k0,e0,d0,-⟩:=DataW.trod_int underlying3 h0;obtain ⟨k1,e1,d1,-⟩:=DataW.trod_int underlying3 h1
  simp at e0 e1
  subst e0 e1
  simp only at hx
  refine ⟨⟨k0,k1⟩,?_,?_⟩
  ·simp [bH,jV.dat,au,Value.oneCell']
  rw [hx];simp [d0,d1,jV.dat,dQ,qD,Rows.uptoBulk,Rows.uptoBulkAll]
theorem amT:um prog 171 4 [(3,0,1),(3,1,1),(3,2,1),(4,3,1)]:=⟨by kernel_rfl,by kernel_rfl,by kernel_rfl⟩
theorem alS {n:Nat} {cs:List ak} {D:DataW H} {Pl:List MemPlace} (h:DataW.trod enc prog W base spare held n 171 cs=some (D,Pl)):∃ r:jK,bH (rM W) r.dat cs∧dQ r.dat+1≤8*Rows.uptoBulk D:=by
 obtain ⟨xs,m,hx,hl,hxl,hf⟩:=vU amT h
 match cs,hl,xs,hxl with
 | [c0,c1,c2,c3],_,[y0,y1,y2,y3],_ =>
  have h0:=hf 0 _ _ _ rfl;have h1:=hf 1 _ _ _ rfl;have h2:=hf 2 _ _ _ rfl;have h3:=hf 3 _ _ _ rfl;obtain ⟨k0,e0,d0,-⟩:=DataW.trod_int underlying3 h0;obtain ⟨k1,e1,d1,-⟩:=DataW.trod_int underlying3 h1;obtain ⟨k2,e2,d2,-⟩:=DataW.trod_int underlying3 h2;obtain ⟨k3,e3,d3⟩:=DataW.trod_bool underlying4 h3
  simp at e0 e1 e2 e3
  subst e0 e1 e2 e3
  simp only at hx
  refine ⟨⟨k0,k1,k2,k3⟩,?_,?_⟩
  ·simp [bH,jK.dat,au,Value.oneCell']
  rw [hx];simp [d0,d1,d2,d3,jK.dat,dQ,qD,Rows.uptoBulk,Rows.uptoBulkAll]
theorem amW:um prog 27 4 [(3,0,1),(3,1,1),(24,2,1),(25,3,1)]:=⟨by kernel_rfl,by kernel_rfl,by kernel_rfl⟩
theorem amR:um prog 29 5 [(23,0,1),(27,1,4)]:=⟨by kernel_rfl,by kernel_rfl,by kernel_rfl⟩
theorem WY:prog.cellsOf 166=2:=by kernel_rfl
theorem ada:prog.cellsOf 169=2:=by kernel_rfl
theorem adb:prog.cellsOf 171=4:=by kernel_rfl
theorem PO {n:Nat} {cs:List ak} {x:DataW H × List MemPlace} (h:DataW.trod enc prog W base spare held n 29 cs=some x):∃ (r:jm) (p d l:ak),cs=[p,vi r.marks.ins,vi r.marks.move,d,l]∧ku (rM W) r p d l∧pJ r+15≤8*Rows.uptoBulk x.1:=by
 obtain ⟨xs,m,hx,hl,hxl,hf⟩:=vU amR h
 match cs,hl,xs,hxl with
 | [c0,c1,c2,c3,c4],_,[y0,y1],_ =>
  have h0:=hf 0 _ _ _ rfl;have h1:=hf 1 _ _ _ rfl;obtain ⟨ps,pv,e0,rp,sp⟩:=xk (dat:=gV.dat) (sz:=2) (by omega) underlying23 WY h0 (fun n cs' D Pl hh _=>aaF hh);obtain ⟨zs,m2,hz,hzl,hzx,OY⟩:=vU amW h1
  match zs,hzx with
  | [z0,z1,z2,z3],_ =>
   have g0:=OY 0 _ _ _ rfl;have g1:=OY 1 _ _ _ rfl;have g2:=OY 2 _ _ _ rfl;have g3:=OY 3 _ _ _ rfl;obtain ⟨k0,e1,d0,-⟩:=DataW.trod_int underlying3 g0;obtain ⟨k1,e2,d1,-⟩:=DataW.trod_int underlying3 g1;obtain ⟨ds,dv,e3,rd,sd⟩:=xk (dat:=jV.dat) (sz:=2) (by omega) underlying24 ada g2 (fun n cs' D Pl hh _=>alQ hh);obtain ⟨ls,lv,e4,rl,sl⟩:=xk (dat:=jK.dat) (sz:=4) (by omega) underlying25 adb g3 (fun n cs' D Pl hh _=>alS hh)
   simp at e0 e1 e2 e3 e4
   subst e0 e1 e2 e3 e4;refine ⟨⟨ps,⟨k0,k1,ds,ls⟩⟩,_,_,_,rfl,⟨rp,rd,rl⟩,?_⟩;have Ug:=Cc ⟨ps,⟨k0,k1,ds,ls⟩⟩
   simp only at Ug
   rw [hx]
   simp only [iq,yT,Rows.uptoBulk,Rows.uptoBulkAll,hz,d0,d1]
   omega
theorem amS:um prog 47 11 [(3,0,1),(3,1,1),(3,2,1),(9,3,1),(29,4,5),(22,9,1),(45,10,1)]:=⟨by kernel_rfl,by kernel_rfl,by kernel_rfl⟩
theorem amY:um prog 135 6 [(29,0,5),(133,5,1)]:=⟨by kernel_rfl,by kernel_rfl,by kernel_rfl⟩
theorem amO:um prog 132 7 [(3,0,1),(29,1,5),(22,6,1)]:=⟨by kernel_rfl,by kernel_rfl,by kernel_rfl⟩
theorem QL:prog.cellsOf 47=11:=by kernel_rfl
theorem adg:prog.cellsOf 135=6:=by kernel_rfl
theorem acY:prog.cellsOf 132=7:=by kernel_rfl
theorem aaE:∀ (N:Nat) (n:Nat) (cs:List ak) (D:DataW H) (Pl:List MemPlace),DataW.trod enc prog W base spare held n 47 cs=some (D,Pl)→Rows.uptoBulk D < N→∃ r:aJ,bH (rM W) r.dat cs∧dQ r.dat+1≤8*Rows.uptoBulk D
 | 0,_,_,_,_,_,hN=>absurd hN (by omega)
 | N+1,n,cs,D,Pl,h,hN=>by
  have ih:=aaE N;obtain ⟨xs,m,hx,hl,hxl,hf⟩:=vU amS h
  match cs,hl,xs,hxl with
  | [c0,c1,c2,c3,c4,c5,c6,c7,c8,c9,c10],_,[y0,y1,y2,y3,y4,y5,y6],_ =>
   have h0:=hf 0 _ _ _ rfl;have h1:=hf 1 _ _ _ rfl;have h2:=hf 2 _ _ _ rfl;have h3:=hf 3 _ _ _ rfl;have h4:=hf 4 _ _ _ rfl;have h5:=hf 5 _ _ _ rfl;have h6:=hf 6 _ _ _ rfl
   simp only at hx
   have hD:Rows.uptoBulk D=Rows.uptoBulk y0.1+(Rows.uptoBulk y1.1+(Rows.uptoBulk y2.1+(Rows.uptoBulk y3.1+(Rows.uptoBulk y4.1+(Rows.uptoBulk y5.1+(Rows.uptoBulk y6.1+0))))))+1:=by
    rw [hx];simp only [iq,yT,Rows.uptoBulk,Rows.uptoBulkAll]
   obtain ⟨k0,e0,d0,-⟩:=DataW.trod_int underlying3 h0;obtain ⟨k1,e1,d1,-⟩:=DataW.trod_int underlying3 h1;obtain ⟨k2,e2,d2,-⟩:=DataW.trod_int underlying3 h2;obtain ⟨s,e3,d3,-⟩:=DataW.trod_string underlying9 h3;obtain ⟨hd,p,d,l,e4,rh,sh⟩:=PO h4;obtain ⟨fl,fv,e5,rf,sf⟩:=xk (dat:=aJ.dat) (sz:=11) (by omega) underlying22 QL h5 (fun n cs' D' dL hh hlt=>ih n cs' D' dL hh (by omega))
   obtain ⟨rs,rv,e6,rr,sr⟩:=xk (dat:=bS.dat) (sz:=6) (by omega) underlying45 adg h6 (fun n cs' D' dL hh hlt=>by
    obtain ⟨xs,m,hx,hl,hxl,hf⟩:=vU amY hh
    match cs',hl,xs,hxl with
    | [a0,a1,a2,a3,a4,a5],_,[w0,w1],_ =>
     have g0:=hf 0 _ _ _ rfl;have g1:=hf 1 _ _ _ rfl
     simp only at hx
     have hD':Rows.uptoBulk D'=Rows.uptoBulk w0.1+(Rows.uptoBulk w1.1+0)+1:=by
      rw [hx];simp only [iq,yT,Rows.uptoBulk,Rows.uptoBulkAll]
     obtain ⟨hd2,p2,d2',l2,q0,rh2,sh2⟩:=PO g0
     obtain ⟨cl,cv,q1,rc,sc⟩:=xk (dat:=bO.dat) (sz:=7) (by omega) underlying133 acY g1 (fun n cs'' D'' aoA HV hlt2=>by
      obtain ⟨xs,m,hx2,hl2,akg,hf2⟩:=vU amO HV
      match cs'',hl2,xs,akg with
      | [b0,b1,b2,b3,b4,b5,b6],_,[v0,v1,v2],_ =>
       have u0:=hf2 0 _ _ _ rfl;have u1:=hf2 1 _ _ _ rfl;have u2:=hf2 2 _ _ _ rfl
       simp only at hx2
       have aoF:Rows.uptoBulk D''=Rows.uptoBulk v0.1+(Rows.uptoBulk v1.1+(Rows.uptoBulk v2.1+0))+1:=by
        rw [hx2];simp only [iq,yT,Rows.uptoBulk,Rows.uptoBulkAll]
       obtain ⟨j0,t0,z0,-⟩:=DataW.trod_int underlying3 u0;obtain ⟨hd3,p3,d3',l3,t1,rh3,sh3⟩:=PO u1;obtain ⟨RN,fv3,t2,rf3,sf3⟩:=xk (dat:=aJ.dat) (sz:=11) (by omega) underlying22 QL u2 (fun n cs3 D3 Pl3 hh3 hlt3=>ih n cs3 D3 Pl3 hh3 (by omega))
       simp at t0 t1 t2
       obtain ⟨rfl,rfl,rfl,rfl,rfl⟩:=t1;subst t0 t2;have hz:=zZ (bO.mk j0 hd3 RN)
       simp only [bO.head,bO.flow] at hz
       have bz:Rows.uptoBulk v0.1=1:=by rw [z0];rfl
       exact ⟨bO.mk j0 hd3 RN,bH.Mv (x:=bO.mk j0 hd3 RN) rh3 rf3,by simp only [bU] at hz;omega⟩)
     simp at q0 q1
     obtain ⟨rfl,rfl,rfl,rfl,rfl⟩:=q0;subst q1;have hz:=Aa (bS.mk hd2 cl)
     simp only [bS.head,bS.cells] at hz
     exact ⟨bS.mk hd2 cl,bH.Uz (x:=bS.mk hd2 cl) rh2 rc,by simp only [jr] at hz;omega⟩)
   simp at e0 e1 e2 e3 e4 e5 e6
   obtain ⟨rfl,rfl,rfl,rfl,rfl⟩:=e4;subst e0 e1 e2 e3 e5 e6;have hz:=uX (aJ.mk k0 k1 k2 s hd fl rs)
   simp only [aJ.text,aJ.head,aJ.flow,aJ.rows] at hz
   have b0:Rows.uptoBulk y0.1=1:=by rw [d0];rfl
   have b1:Rows.uptoBulk y1.1=1:=by rw [d1];rfl
   have b2:Rows.uptoBulk y2.1=1:=by rw [d2];rfl
   have b3:Rows.uptoBulk y3.1=s.size+1:=by rw [d3];show s.data.toList.length+1=s.data.size+1;rw [yS]
   exact ⟨aJ.mk k0 k1 k2 s hd fl rs,bH.mkItem (x:=aJ.mk k0 k1 k2 s hd fl rs) rh rf rr,by simp only [bU,fQ] at hz;omega⟩
theorem alR {n:Nat} {cs:List ak} {x:DataW H × List MemPlace} (h:DataW.trod enc prog W base spare held n 22 cs=some x):∃ (l:List aJ) (v:ak),cs=[v]∧au (rM W) (.sl 11 (l.map aJ.dat)) v∧bU l+8≤8*Rows.uptoBulk x.1 :=
 xk (dat:=aJ.dat) (sz:=11) (by omega) underlying22 QL h (fun n cs' D' dL hh _=>aaE _ n cs' D' dL hh (Nat.lt_succ_self _))
end
end
section
open Go.ChangeShapes Go.RowKit Go.Deep
theorem Eu {ρ:Type} {dat:ρ→List Dat}:∀ {l:List ρ} {x:ρ},x∈l→dQ (dat x)+1≤fE (l.map dat)
 | y :: l,x,h=>by
  rw [iq,fE]
  rcases uo.1 h with rfl|h
  ·omega
  have:=Eu (dat:=dat) h;omega
section
variable {H:Type} {enc:TypeId × ak→H} {W:World} {base:Nat} {spare:Nat→Bool} {held:Bool}
theorem anb:um prog 159 6 [(3,0,1),(3,1,1),(9,2,1),(3,3,1),(3,4,1),(23,5,1)]:=⟨by kernel_rfl,by kernel_rfl,by kernel_rfl⟩
theorem adi:prog.cellsOf 159=6:=by kernel_rfl
theorem alX {n:Nat} {cs:List ak} {D:DataW H} {Pl:List MemPlace} (h:DataW.trod enc prog W base spare held n 159 cs=some (D,Pl)):∃ r:bL,bH (rM W) r.dat cs∧dQ r.dat+1≤8*Rows.uptoBulk D:=by
 obtain ⟨xs,m,hx,hl,hxl,hf⟩:=vU anb h
 match cs,hl,xs,hxl with
 | [c0,c1,c2,c3,c4,c5],_,[y0,y1,y2,y3,y4,y5],_ =>
  have h0:=hf 0 _ _ _ rfl;have h1:=hf 1 _ _ _ rfl;have h2:=hf 2 _ _ _ rfl;have h3:=hf 3 _ _ _ rfl;have h4:=hf 4 _ _ _ rfl;have h5:=hf 5 _ _ _ rfl
  simp only at hx
  have hD:Rows.uptoBulk D=Rows.uptoBulk y0.1+(Rows.uptoBulk y1.1+(Rows.uptoBulk y2.1+(Rows.uptoBulk y3.1+(Rows.uptoBulk y4.1+(Rows.uptoBulk y5.1+0)))))+1:=by rw [hx];simp only [iq,yT,Rows.uptoBulk,Rows.uptoBulkAll]
  obtain ⟨k0,e0,d0,-⟩:=DataW.trod_int underlying3 h0;obtain ⟨k1,e1,d1,-⟩:=DataW.trod_int underlying3 h1;obtain ⟨k2,e2,d2,-⟩:=DataW.trod_string underlying9 h2;obtain ⟨k3,e3,d3,-⟩:=DataW.trod_int underlying3 h3;obtain ⟨k4,e4,d4,-⟩:=DataW.trod_int underlying3 h4;obtain ⟨k5,q5,e5,r5,d5⟩:=xk (dat:=gV.dat) (sz:=2) (by omega) underlying23 WY h5 (fun n cs' D Pl hh _=>aaF hh)
  simp at e0 e1 e2 e3 e4 e5
  subst e0 e1 e2 e3 e4 e5
  have b0:Rows.uptoBulk y0.1=1:=by rw [d0];rfl
  have b1:Rows.uptoBulk y1.1=1:=by rw [d1];rfl
  have b2:Rows.uptoBulk y2.1=k2.size+1:=by rw [d2];show k2.data.toList.length+1=k2.data.size+1;rw [yS]
  have b3:Rows.uptoBulk y3.1=1:=by rw [d3];rfl
  have b4:Rows.uptoBulk y4.1=1:=by rw [d4];rfl
  refine ⟨⟨k0,k1,k2,k3,k4,k5⟩,?_,?_⟩
  ·exact ⟨_,_,rfl,(by simp [au,Value.oneCell']),⟨_,_,rfl,(by simp [au,Value.oneCell']),⟨_,_,rfl,(by simp [au,Value.oneCell']),⟨_,_,rfl,(by simp [au,Value.oneCell']),⟨_,_,rfl,(by simp [au,Value.oneCell']),⟨_,_,rfl,r5,rfl⟩⟩⟩⟩⟩⟩
  simp only [bL.dat,dQ,qD];omega
theorem amV:um prog 87 4 [(3,0,1),(3,1,1),(9,2,1),(3,3,1)]:=⟨by kernel_rfl,by kernel_rfl,by kernel_rfl⟩
theorem adf:prog.cellsOf 87=4:=by kernel_rfl
theorem alT {n:Nat} {cs:List ak} {D:DataW H} {Pl:List MemPlace} (h:DataW.trod enc prog W base spare held n 87 cs=some (D,Pl)):∃ r:iY,bH (rM W) r.dat cs∧dQ r.dat+1≤8*Rows.uptoBulk D:=by
 obtain ⟨xs,m,hx,hl,hxl,hf⟩:=vU amV h
 match cs,hl,xs,hxl with
 | [c0,c1,c2,c3],_,[y0,y1,y2,y3],_ =>
  have h0:=hf 0 _ _ _ rfl;have h1:=hf 1 _ _ _ rfl;have h2:=hf 2 _ _ _ rfl;have h3:=hf 3 _ _ _ rfl
  simp only at hx
  have hD:Rows.uptoBulk D=Rows.uptoBulk y0.1+(Rows.uptoBulk y1.1+(Rows.uptoBulk y2.1+(Rows.uptoBulk y3.1+0)))+1:=by rw [hx];simp only [iq,yT,Rows.uptoBulk,Rows.uptoBulkAll]
  obtain ⟨k0,e0,d0,-⟩:=DataW.trod_int underlying3 h0;obtain ⟨k1,e1,d1,-⟩:=DataW.trod_int underlying3 h1;obtain ⟨k2,e2,d2,-⟩:=DataW.trod_string underlying9 h2;obtain ⟨k3,e3,d3,-⟩:=DataW.trod_int underlying3 h3
  simp at e0 e1 e2 e3
  subst e0 e1 e2 e3
  have b0:Rows.uptoBulk y0.1=1:=by rw [d0];rfl
  have b1:Rows.uptoBulk y1.1=1:=by rw [d1];rfl
  have b2:Rows.uptoBulk y2.1=k2.size+1:=by rw [d2];show k2.data.toList.length+1=k2.data.size+1;rw [yS]
  have b3:Rows.uptoBulk y3.1=1:=by rw [d3];rfl
  refine ⟨⟨k0,k1,k2,k3⟩,?_,?_⟩
  ·exact ⟨_,_,rfl,(by simp [au,Value.oneCell']),⟨_,_,rfl,(by simp [au,Value.oneCell']),⟨_,_,rfl,(by simp [au,Value.oneCell']),⟨_,_,rfl,(by simp [au,Value.oneCell']),rfl⟩⟩⟩⟩
  simp only [iY.dat,dQ,qD];omega
theorem amU:um prog 84 2 [(3,0,1),(82,1,1)]:=⟨by kernel_rfl,by kernel_rfl,by kernel_rfl⟩
theorem ade:prog.cellsOf 84=2:=by kernel_rfl
theorem alU {n:Nat} {cs:List ak} {D:DataW H} {Pl:List MemPlace} (h:DataW.trod enc prog W base spare held n 84 cs=some (D,Pl)):∃ r:dH,bH (rM W) r.dat cs∧dQ r.dat+1≤8*Rows.uptoBulk D:=by
 obtain ⟨xs,m,hx,hl,hxl,hf⟩:=vU amU h
 match cs,hl,xs,hxl with
 | [c0,c1],_,[y0,y1],_ =>
  have h0:=hf 0 _ _ _ rfl;have h1:=hf 1 _ _ _ rfl
  simp only at hx
  have hD:Rows.uptoBulk D=Rows.uptoBulk y0.1+(Rows.uptoBulk y1.1+0)+1:=by rw [hx];simp only [iq,yT,Rows.uptoBulk,Rows.uptoBulkAll]
  obtain ⟨k0,e0,d0,-⟩:=DataW.trod_int underlying3 h0;obtain ⟨k1,q1,e1,r1,d1⟩:=xk (dat:=iY.dat) (sz:=4) (by omega) underlying82 adf h1 (fun n cs' D Pl hh _=>alT hh)
  simp at e0 e1
  subst e0 e1
  have b0:Rows.uptoBulk y0.1=1:=by rw [d0];rfl
  refine ⟨⟨k0,k1⟩,?_,?_⟩
  ·exact ⟨_,_,rfl,(by simp [au,Value.oneCell']),⟨_,_,rfl,r1,rfl⟩⟩
  simp only [dH.dat,dQ,qD];omega
theorem amP:um prog 96 6 [(3,0,1),(3,1,1),(9,2,1),(3,3,1),(9,4,1),(4,5,1)]:=⟨by kernel_rfl,by kernel_rfl,by kernel_rfl⟩
theorem acZ:prog.cellsOf 96=6:=by kernel_rfl
theorem alP {n:Nat} {cs:List ak} {D:DataW H} {Pl:List MemPlace} (h:DataW.trod enc prog W base spare held n 96 cs=some (D,Pl)):∃ r:fq,bH (rM W) r.dat cs∧dQ r.dat+1≤8*Rows.uptoBulk D:=by
 obtain ⟨xs,m,hx,hl,hxl,hf⟩:=vU amP h
 match cs,hl,xs,hxl with
 | [c0,c1,c2,c3,c4,c5],_,[y0,y1,y2,y3,y4,y5],_ =>
  have h0:=hf 0 _ _ _ rfl;have h1:=hf 1 _ _ _ rfl;have h2:=hf 2 _ _ _ rfl;have h3:=hf 3 _ _ _ rfl;have h4:=hf 4 _ _ _ rfl;have h5:=hf 5 _ _ _ rfl
  simp only at hx
  have hD:Rows.uptoBulk D=Rows.uptoBulk y0.1+(Rows.uptoBulk y1.1+(Rows.uptoBulk y2.1+(Rows.uptoBulk y3.1+(Rows.uptoBulk y4.1+(Rows.uptoBulk y5.1+0)))))+1:=by rw [hx];simp only [iq,yT,Rows.uptoBulk,Rows.uptoBulkAll]
  obtain ⟨k0,e0,d0,-⟩:=DataW.trod_int underlying3 h0;obtain ⟨k1,e1,d1,-⟩:=DataW.trod_int underlying3 h1;obtain ⟨k2,e2,d2,-⟩:=DataW.trod_string underlying9 h2;obtain ⟨k3,e3,d3,-⟩:=DataW.trod_int underlying3 h3;obtain ⟨k4,e4,d4,-⟩:=DataW.trod_string underlying9 h4;obtain ⟨k5,e5,d5⟩:=DataW.trod_bool underlying4 h5
  simp at e0 e1 e2 e3 e4 e5
  subst e0 e1 e2 e3 e4 e5
  have b0:Rows.uptoBulk y0.1=1:=by rw [d0];rfl
  have b1:Rows.uptoBulk y1.1=1:=by rw [d1];rfl
  have b2:Rows.uptoBulk y2.1=k2.size+1:=by rw [d2];show k2.data.toList.length+1=k2.data.size+1;rw [yS]
  have b3:Rows.uptoBulk y3.1=1:=by rw [d3];rfl
  have b4:Rows.uptoBulk y4.1=k4.size+1:=by rw [d4];show k4.data.toList.length+1=k4.data.size+1;rw [yS]
  have b5:Rows.uptoBulk y5.1=1:=by rw [d5];rfl
  refine ⟨⟨k0,k1,k2,k3,k4,k5⟩,?_,?_⟩
  ·exact ⟨_,_,rfl,(by simp [au,Value.oneCell']),⟨_,_,rfl,(by simp [au,Value.oneCell']),⟨_,_,rfl,(by simp [au,Value.oneCell']),⟨_,_,rfl,(by simp [au,Value.oneCell']),⟨_,_,rfl,(by simp [au,Value.oneCell']),⟨_,_,rfl,(by simp [au,Value.oneCell']),rfl⟩⟩⟩⟩⟩⟩
  simp only [fq.dat,dQ,qD];omega
theorem anc:um prog 99 2 [(9,0,1),(9,1,1)]:=⟨by kernel_rfl,by kernel_rfl,by kernel_rfl⟩
theorem adk:prog.cellsOf 99=2:=by kernel_rfl
theorem alY {n:Nat} {cs:List ak} {D:DataW H} {Pl:List MemPlace} (h:DataW.trod enc prog W base spare held n 99 cs=some (D,Pl)):∃ r:iE,bH (rM W) r.dat cs∧dQ r.dat+1≤8*Rows.uptoBulk D:=by
 obtain ⟨xs,m,hx,hl,hxl,hf⟩:=vU anc h
 match cs,hl,xs,hxl with
 | [c0,c1],_,[y0,y1],_ =>
  have h0:=hf 0 _ _ _ rfl;have h1:=hf 1 _ _ _ rfl
  simp only at hx
  have hD:Rows.uptoBulk D=Rows.uptoBulk y0.1+(Rows.uptoBulk y1.1+0)+1:=by rw [hx];simp only [iq,yT,Rows.uptoBulk,Rows.uptoBulkAll]
  obtain ⟨k0,e0,d0,-⟩:=DataW.trod_string underlying9 h0;obtain ⟨k1,e1,d1,-⟩:=DataW.trod_string underlying9 h1
  simp at e0 e1
  subst e0 e1
  have b0:Rows.uptoBulk y0.1=k0.size+1:=by rw [d0];show k0.data.toList.length+1=k0.data.size+1;rw [yS]
  have b1:Rows.uptoBulk y1.1=k1.size+1:=by rw [d1];show k1.data.toList.length+1=k1.data.size+1;rw [yS]
  refine ⟨⟨k0,k1⟩,?_,?_⟩
  ·exact ⟨_,_,rfl,(by simp [au,Value.oneCell']),⟨_,_,rfl,(by simp [au,Value.oneCell']),rfl⟩⟩
  simp only [iE.dat,dQ,qD];omega
theorem amZ:um prog 49 3 [(3,0,1),(9,1,1),(3,2,1)]:=⟨by kernel_rfl,by kernel_rfl,by kernel_rfl⟩
theorem adh:prog.cellsOf 49=3:=by kernel_rfl
theorem alV {n:Nat} {cs:List ak} {D:DataW H} {Pl:List MemPlace} (h:DataW.trod enc prog W base spare held n 49 cs=some (D,Pl)):∃ r:dh,bH (rM W) r.dat cs∧dQ r.dat+1≤8*Rows.uptoBulk D:=by
 obtain ⟨xs,m,hx,hl,hxl,hf⟩:=vU amZ h
 match cs,hl,xs,hxl with
 | [c0,c1,c2],_,[y0,y1,y2],_ =>
  have h0:=hf 0 _ _ _ rfl;have h1:=hf 1 _ _ _ rfl;have h2:=hf 2 _ _ _ rfl
  simp only at hx
  have hD:Rows.uptoBulk D=Rows.uptoBulk y0.1+(Rows.uptoBulk y1.1+(Rows.uptoBulk y2.1+0))+1:=by rw [hx];simp only [iq,yT,Rows.uptoBulk,Rows.uptoBulkAll]
  obtain ⟨k0,e0,d0,-⟩:=DataW.trod_int underlying3 h0;obtain ⟨k1,e1,d1,-⟩:=DataW.trod_string underlying9 h1;obtain ⟨k2,e2,d2,-⟩:=DataW.trod_int underlying3 h2
  simp at e0 e1 e2
  subst e0 e1 e2
  have b0:Rows.uptoBulk y0.1=1:=by rw [d0];rfl
  have b1:Rows.uptoBulk y1.1=k1.size+1:=by rw [d1];show k1.data.toList.length+1=k1.data.size+1;rw [yS]
  have b2:Rows.uptoBulk y2.1=1:=by rw [d2];rfl
  refine ⟨⟨k0,k1,k2⟩,?_,?_⟩
  ·exact ⟨_,_,rfl,(by simp [au,Value.oneCell']),⟨_,_,rfl,(by simp [au,Value.oneCell']),⟨_,_,rfl,(by simp [au,Value.oneCell']),rfl⟩⟩⟩
  simp only [dh.dat,dQ,qD];omega
theorem ana:um prog 36 4 [(31,0,1),(32,1,1),(33,2,1),(34,3,1)]:=⟨by kernel_rfl,by kernel_rfl,by kernel_rfl⟩
structure QA (s:rD) (n:Nat):Prop where
 st:fE (s.styles.map bL.dat)≤n
 li:fE (s.lists.map dH.dat)≤n
 cm:fE (s.comments.map fq.dat)≤n
 va:fE (s.vars.map iE.dat)≤n
theorem QA.zn {s:rD} {n:Nat} (h:QA s n) (hn:n≤4294967296):KE s∧s.styles.length≤4294967296:=by
 obtain ⟨h1,h2,h3,h4⟩:=h;have l1:=mO (s.styles.map bL.dat);have l2:=mO (s.lists.map dH.dat);have l3:=mO (s.comments.map fq.dat);have l4:=mO (s.vars.map iE.dat);rw [bV] at l1 l2 l3 l4;refine ⟨⟨fun x hx=>?_,by omega,fun x hx y hy=>?_,by omega,fun x hx=>?_,by omega,fun x hx=>?_,fun x hx=>?_,fun x hx=>?_⟩,by omega⟩
 ·have:=Eu (dat:=bL.dat) hx
  simp only [bL.dat,dQ,qD] at this;omega
 ·have:=Eu (dat:=dH.dat) hx
  simp only [dH.dat,dQ,qD] at this
  have h5:=Eu (dat:=iY.dat) hy
  simp only [iY.dat,dQ,qD] at h5;omega
 ·have:=Eu (dat:=fq.dat) hx
  simp only [fq.dat,dQ,qD] at this;omega
 ·have:=Eu (dat:=iE.dat) hx
  simp only [iE.dat,dQ,qD] at this;omega
 ·have:=Eu (dat:=bL.dat) hx;have h5:=mO (x.props.map gV.dat);rw [bV] at h5
  simp only [bL.dat,dQ,qD] at this;omega
 have:=Eu (dat:=dH.dat) hx;have h5:=mO (x.levels.map iY.dat);rw [bV] at h5
 simp only [dH.dat,dQ,qD] at this;omega
theorem alW {n:Nat} {cs:List ak} {x:DataW H × List MemPlace} (h:DataW.trod enc prog W base spare held n 36 cs=some x):∃ (s:rD) (a b c d:ak),cs=[a,b,c,d]∧tq (rM W) s a b c d∧QA s (8*Rows.uptoBulk x.1):=by
 obtain ⟨xs,m,hx,hl,hxl,hf⟩:=vU ana h
 match cs,hl,xs,hxl with
 | [c0,c1,c2,c3],_,[y0,y1,y2,y3],_ =>
  have h0:=hf 0 _ _ _ rfl;have h1:=hf 1 _ _ _ rfl;have h2:=hf 2 _ _ _ rfl;have h3:=hf 3 _ _ _ rfl;obtain ⟨k0,q0,e0,r0,d0⟩:=xk (dat:=bL.dat) (sz:=6) (by omega) underlying31 adi h0 (fun n cs' D Pl hh _=>alX hh);obtain ⟨k1,q1,e1,r1,d1⟩:=xk (dat:=dH.dat) (sz:=2) (by omega) underlying32 ade h1 (fun n cs' D Pl hh _=>alU hh);obtain ⟨k2,q2,e2,r2,d2⟩:=xk (dat:=fq.dat) (sz:=6) (by omega) underlying33 acZ h2 (fun n cs' D Pl hh _=>alP hh);obtain ⟨k3,q3,e3,r3,d3⟩:=xk (dat:=iE.dat) (sz:=2) (by omega) underlying34 adk h3 (fun n cs' D Pl hh _=>alY hh)
  simp at e0 e1 e2 e3
  subst e0 e1 e2 e3
  have hD:Rows.uptoBulk x.1=Rows.uptoBulk y0.1+(Rows.uptoBulk y1.1+(Rows.uptoBulk y2.1+(Rows.uptoBulk y3.1+0)))+1:=by rw [hx];simp only [iq,yT,Rows.uptoBulk,Rows.uptoBulkAll]
  exact ⟨⟨k0,k1,k2,k3⟩,_,_,_,_,rfl,⟨r0,r1,r2,r3⟩,⟨by show fE (k0.map _)≤_;omega,by show fE (k1.map _)≤_;omega,by show fE (k2.map _)≤_;omega,by show fE (k3.map _)≤_;omega⟩⟩
theorem Vf:um prog 38 11 [(22,0,1),(29,1,5),(30,6,1),(36,7,4)]:=⟨by kernel_rfl,by kernel_rfl,by kernel_rfl⟩
theorem Es {G:GH} {sz:Nat} {rs:List (List Dat)} {v:ak} (h:au G (.sl sz rs) v):∃ x,v=aK x:=by
 obtain ⟨a,n,c,rfl⟩:=h.form;exact ⟨(a,n,c),rfl⟩
theorem aaD {n:Nat} {cs:List ak} {x:DataW H × List MemPlace} (h:DataW.trod enc prog W base spare held n 38 cs=some x) (hb:Rows.uptoBulk x.1≤1048576):∃ (D:jS) (d:oC),cs=D.cells∧qF (rM W) D d∧Ey d:=by
 obtain ⟨xs,m,hx,hl,hxl,hf⟩:=vU Vf h
 match cs,hl,xs,hxl with
 | [c0,c1,c2,c3,c4,c5,c6,c7,c8,c9,c10],_,[y0,y1,y2,y3],_ =>
  have h0:=hf 0 _ _ _ rfl;have h1:=hf 1 _ _ _ rfl;have h2:=hf 2 _ _ _ rfl;have h3:=hf 3 _ _ _ rfl;obtain ⟨l,q0,e0,r0,d0⟩:=alR h0;obtain ⟨hd,p,dd,ll,e1,r1,d1⟩:=PO h1;obtain ⟨rv,q2,e2,r2,d2⟩:=xk (dat:=dh.dat) (sz:=3) (by omega) underlying30 adh h2 (fun n cs' D Pl hh _=>alV hh);obtain ⟨s,a,b,c,d,e3,r3,d3⟩:=alW h3
  simp at e0 e1 e2 e3
  obtain ⟨rfl,rfl,rfl,rfl,rfl⟩:=e1;obtain ⟨rfl,rfl,rfl,rfl⟩:=e3;subst e0 e2
  have hD:Rows.uptoBulk x.1=Rows.uptoBulk y0.1+(Rows.uptoBulk y1.1+(Rows.uptoBulk y2.1+(Rows.uptoBulk y3.1+0)))+1:=by rw [hx];simp only [iq,yT,Rows.uptoBulk,Rows.uptoBulkAll]
  obtain ⟨x0,rfl⟩:=Es r0;obtain ⟨x1,rfl⟩:=Es r1.props;obtain ⟨x2,rfl⟩:=Es r1.bR;obtain ⟨x3,rfl⟩:=Es r1.layers;obtain ⟨x4,rfl⟩:=Es r2;obtain ⟨x5,rfl⟩:=Es r3.st;obtain ⟨x6,rfl⟩:=Es r3.li;obtain ⟨x7,rfl⟩:=Es r3.cm;obtain ⟨x8,rfl⟩:=Es r3.va;obtain ⟨hz1,hz2⟩:=d3.zn (by omega);have l2:=mO (rv.map dh.dat);rw [bV] at l2;refine ⟨⟨x0,x1,x2,x3,x4,x5,x6,x7,x8,hd.marks.ins,hd.marks.move⟩,⟨l,hd,rv,s⟩,rfl,⟨r0,r1,rfl,rfl,r2,r3⟩,⟨by show bU l≤_;omega,by show pJ hd≤_;omega,by show rv.length≤_;omega,fun x hx=>?_,hz2,hz1⟩⟩;have:=Eu (dat:=dh.dat) hx
  simp only [dh.dat,dQ,qD] at this
  omega
end
end
end Go.Proofs.YtdacibabefnabaaGreat
