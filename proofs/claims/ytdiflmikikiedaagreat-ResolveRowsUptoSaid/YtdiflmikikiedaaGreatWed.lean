/-
  What the claim stands on, part 4: Ro Ri Chn Chk Dsv Mq Nck Cid Mt Hdr Hea Frm Itc Vis Okd Rws Itm Its Rvs.
-/
import Derived.Test.YtdiflmikikiedaaGreatWec
namespace Go.Proofs.YtdiflmikikiedaaGreat
set_option linter.all false
open Go.Proofs.Tryz
open Go.RowKit
section
section
variable {P:Program} {N:Nat} {D:List Deferred} {w0 w w':World} {F:Nat→Prop} {G0 G G':GH} {L L' Li Lo:OL} {T:List (Nat × aj)} {a a':Act} {Q:Exit→Act→World→Prop}
variable {r:Option Nat} {ops:Array Oper} {rest:List Oper}
def QS (P:Program) (Gi:GH) (B:OL) (gv:aj) (xs:List AP):Prop :=
 ∀ (J:Nat→GH→OL→Prop) (Jx:GH→OL→Prop) (fv:aj) (G:GH) (L:OL) (w:World),fv.cells=#[fv]→(∀ b o,Gi b=some o→G b=some o)→Ir J→Kq Jx→J 0 G L→gL G (B++L) w→Nf P fv G xs J Jx →
  sS P gv [fv] w (gy w G (B++L) fun _ G' L'=>J xs.length G' L'∨Jx G' L')
theorem QS.mono {Gi Eb:GH} {B:OL} {gv:aj} {xs:List AP} (h:QS P Gi B gv xs) (hm:∀ b o,Gi b=some o→Eb b=some o):QS P Eb B gv xs :=
 fun J Jx fv G L w h0 h1=>h J Jx fv G L w h0 fun b o hb=>h1 b o (hm b o hb)
end
end
section
section
variable {P:Program} {N:Nat} {D:List Deferred} {w0 w w':World} {F:Nat→Prop} {G0 G G':GH} {L L' Li Lo:OL} {T:List (Nat × aj)} {a a':Act} {Q:Exit→Act→World→Prop}
variable {r:Option Nat} {ops:Array Oper} {rest:List Oper}
def Iq (P:Program) (Gi:GH) (B:OL) (gv:aj) (xs:List AP) (fin:Bool):Prop :=
 ∀ (J:Nat→GH→OL→Prop) (Jx:GH→OL→Prop) (fv:aj) (G:GH) (L:OL) (w:World),fv.cells=#[fv]→(∀ b o,Gi b=some o→G b=some o)→Ir J→Kq Jx→J 0 G L→gL G (B++L) w→Nf P fv G xs J Jx→(fin=false→∀ g l,¬ J xs.length g l) →
  sS P gv [fv] w (gy w G (B++L) fun _ G' L'=>J xs.length G' L'∨Jx G' L')
theorem Iq.mono {Gi Eb:GH} {B:OL} {gv:aj} {xs:List AP} {fin:Bool} (h:Iq P Gi B gv xs fin) (hm:∀ b o,Gi b=some o→Eb b=some o):Iq P Eb B gv xs fin :=
 fun J Jx fv G L w h0 h1=>h J Jx fv G L w h0 fun b o hb=>h1 b o (hm b o hb)
theorem afs {fin:Bool} {B:OL} {Aj:Operand} {ps:List Nat} {assign body:Code} {gf:FuncId} {caps:List aj} {xs:List AP} {Gi:GH}
  (H:St N D w0 F G0 G (B++L) T a w) (hg:ev T Aj=some (.func (.func gf) #[] caps.toArray)) (en:∀ args w,(callFunc gf args).run P w=.ok (.enter gf args) w) (hit:Iq P Gi B (.func (.func gf) #[] caps.toArray) xs fin) (hGi:∀ b o,Gi b=some o→G b=some o)
  (hps:ps.all (Nat.blt · N)=true) (hlen:∀ k args g,xW xs k args g→args.length=ps.length)
  (J:Nat→GH→OL→Prop) (Jx:Code→GH→OL→Prop) (hno:fin=false→∀ g l,¬ J xs.length g l) (om:Ir J) (hJx:∀ c,Kq (Jx c)) (h0:J 0 G L) (UL:QZ P N ps assign body T G J Jx xs)
  (hdone:∀ Dk G1 L1 a1 w1,(∀ b o,G b=some o→G1 b=some o)→J xs.length G1 L1→St N ({ target:=.collected Dk,args:=#[] } :: D) w0 F G0 G1 ((Dk,.deferred (some [])) :: L1) T a1 w1→Q .normal a1 w1)
  (hstop:∀ Dk c G1 L1 a1 w1,(∀ b o,G b=some o→G1 b=some o)→Jx c G1 L1→St N ({ target:=.collected Dk,args:=#[] } :: D) w0 F G0 G1 ((Dk,.deferred (some [])) :: L1) T a1 w1→WP none P c Q a1 w1) :
  WP none P (.rangeFunc Aj ps.toArray assign body) Q a w:=by
 refine wpIn_rangeFunc ?_
 intro fn _
 have hev:=H.ev hg
 let q:Rec:=⟨fn,a.tmps,ps.toArray,assign,body,w.heap.size⟩
 obtain ⟨W1,hW1⟩:∃ W1,W1=(w.alloc (.deferred (some []))).alloc (q.at .ready none):=⟨_,rfl⟩
 have H1:Hp w0 F G0 G (B++((w.heap.size+1,q.at .ready none) :: (w.heap.size,.deferred (some [])) :: L)) W1:=by
  have:=(H.hp.alloc (.deferred (some []))).alloc (q.at .ready none)
  rw [World.size_alloc] at this
  rw [hW1]
  refine this.perm ?_
  have e:=vX (l₁:=[(w.heap.size+1,q.at .ready none),(w.heap.size,Obj.deferred (some []))]) (l₂:=B)
  have e2:=List.Perm.append_right L e
  rw [iI,iI] at e2
  exact e2
 refine ⟨w.heap.size+1,[{ target:=.collected w.heap.size,args:=#[] }],W1,{ target:=.fn (.func gf) caps.toArray,args:=#[.func (.yield (w.heap.size+1)) #[] #[]] },W1,gf,
  #[.func (.yield (w.heap.size+1)) #[] #[]]++caps.toArray,W1,by rw [hW1];exact run_enterLoop_outer fn a.tmps ps.toArray assign body,?_,fun _ _=>trivial,?_,Nj none,?_⟩
 ·simp only [resolve,rangeCall,hev]
  simp [Deferred.ofValue,Act.eval]
 ·simp [invoke,en]
 ·have hcv:=hit (fun k=>Jr (w.heap.size+1) q [(w.heap.size,.deferred (some []))] (J k)) (Nr (w.heap.size+1) q [(w.heap.size,.deferred (some []))] Jx) (.func (.yield (w.heap.size+1)) #[] #[]) G
   ((w.heap.size+1,q.at .ready none) :: (w.heap.size,.deferred (some [])) :: L) W1 rfl hGi (fun k G G' L hm ⟨Lu,e,h⟩=>⟨Lu,e,om k G G' Lu hm h⟩) (fun G G' L hm ⟨c,Lu,e,h⟩=>⟨c,Lu,e,hJx c G G' Lu hm h⟩) ⟨L,rfl,h0⟩ (Hp.owns (Li:=[]) H1) (Yh H.nO H.get hps hlen UL) (fun e g l ⟨Lu,_,h⟩=>hno e g Lu h)
  replace hcv:=hcv.go
  have e:(do let d ← Deferred.ofValue (.func (.func gf) #[] caps.toArray) [Value.func (.yield (w.heap.size+1)) #[] #[]].toArray;invoke d.target d.args:Sem Next).run P W1=.ok (.enter gf (#[.func (.yield (w.heap.size+1)) #[] #[]]++caps.toArray)) W1:=by
   simp [Deferred.ofValue,invoke,en]
  rw [e] at hcv
  refine (Rw hcv).mono ?_
  rintro e w2 ⟨v,G2,L2,rfl,hch,hJ⟩
  have H2:=Hp.change (Li:=[]) H1 hch
  rcases hJ with ⟨Lu,rfl,hJ⟩|⟨c,Lu,rfl,hJ⟩
  ·have hl:=H2.own _ (gM)
   have H3:=(H2.upd (i:=0) rfl (Fp (q.at .exhausted none) hl)).drop (BK _ _)
   exact ⟨none,_,run_endLoop hl (by simp),hdone _ G2 Lu _ _ hch.gm hJ ⟨H.nO,H.get,by simp [H.ug],H3⟩⟩
  ·have hl:=H2.own _ (gM)
   have H3:=(H2.upd (i:=0) rfl (Fp (q.at .exhausted (some c)) hl)).drop (BK _ _)
   exact ⟨some c,_,run_endLoop hl (by simp),hstop _ c G2 Lu _ _ hch.gm hJ ⟨H.nO,H.get,by simp [H.ug],H3⟩⟩
theorem afu {fin:Bool} {B:OL} {ι κ:Type} {Lc:OL} {Aj:Operand} {ps:List Nat} {assign body:Code} {gf:FuncId} {caps:List aj} {xs:List AP} {Gi:GH}
  (Lv:Nat→ι→OL) (Lt:Nat→ι→OL) (inv:Nat→ι→GH→Prop) (cx:κ→Code) (Lx FH:κ→OL) (AX:κ→GH→Prop) (i0:ι)
  (H:St N D w0 F G0 G (B++(Lc++Lv 0 i0++Lt 0 i0)) T a w) (hg:ev T Aj=some (.func (.func gf) #[] caps.toArray)) (en:∀ args w,(callFunc gf args).run P w=.ok (.enter gf args) w) (hit:Iq P Gi B (.func (.func gf) #[] caps.toArray) xs fin) (hGi:∀ b o,Gi b=some o→G b=some o)
  (hno:fin=false→∀ i g,¬ inv xs.length i g) (hps:ps.all (Nat.blt · N)=true) (hlen:∀ k args g,xW xs k args g→args.length=ps.length) (hinv:∀ k i (G G':GH),(∀ b o,G b=some o→G' b=some o)→inv k i G→inv k i G') (Us:∀ x (G G':GH),(∀ b o,G b=some o→G' b=some o)→AX x G→AX x G') (h0:inv 0 i0 G)
  (round:∀ (l:Nat) (yT vY:Obj) (bk:OL) (k:Nat) (args:List aj) (i:ι) (G1:GH) (w1:World) (F1:Nat→Prop) (B1:Code→Exit→Act→World→Prop) (a1:Act),xW xs k args G1→(∀ b o,G b=some o→G1 b=some o)→inv k i G1 →
   (∀ T' G2 L2 a2 w2 c,St N [] w1 F1 G1 G2 ((l,yT) :: L2) T' a2 w2→(∀ w3,St N [] w1 F1 G1 G2 ((l,vY) :: L2) T' a2 w3→WP (some l) P c (B1 c) a2 w3)→Exit.then (fun a2 w2=>∃ w3,(Instr.beginRound l).run P w2=.ok () w3∧c.wpIn (FW (some l)) 0 P (B1 c) a2 w3) (fun _ _ _=>False) .normal a2 w2) →
   (∀ i' T' G2 a2 w2 c,St N [] w1 F1 G1 G2 ((l,vY) :: (Lc++Lv (k+1) i'++(bk++Lt (k+1) i'))) T' a2 w2→inv (k+1) i' G2→B1 c .normal a2 w2) →
   (∀ x T' G2 a2 w2 c,St N [] w1 F1 G1 G2 ((l,vY) :: (Lc++Lx x++(bk++FH x))) T' a2 w2→AX x G2→(cx x=.ret→B1 c .ret a2 w2)∧∀ n,cx x=.exit n→B1 c (.exit n) a2 w2) →
   St N [] w1 F1 G1 G1 ((l,yT) :: (Lc++Lv k i++(bk++Lt k i))) (uW ps args T) a1 w1 →
   WP (some l) P assign (Exit.then (fun a2 w2=>∃ w3,(Instr.beginRound l).run P w2=.ok () w3∧body.wpIn (FW (some l)) 0 P (B1 body) a2 w3) (fun _ _ _=>False)) a1 w1)
  (hdone:∀ Dk i G1 a1 w1,(∀ b o,G b=some o→G1 b=some o)→inv xs.length i G1→St N ({ target:=.collected Dk,args:=#[] } :: D) w0 F G0 G1 ((Dk,.deferred (some [])) :: (Lc++Lv xs.length i++Lt xs.length i)) T a1 w1→Q .normal a1 w1)
  (hstop:∀ Dk x G1 a1 w1,(∀ b o,G b=some o→G1 b=some o)→AX x G1→St N ({ target:=.collected Dk,args:=#[] } :: D) w0 F G0 G1 ((Dk,.deferred (some [])) :: (Lc++Lx x++FH x)) T a1 w1→WP none P (cx x) Q a1 w1) :
  WP none P (.rangeFunc Aj ps.toArray assign body) Q a w:=by
 refine afs (J:=fun k g L=>∃ i,L=Lc++Lv k i++Lt k i∧inv k i g) (Jx:=fun c g L=>∃ x,c=cx x∧L=Lc++Lx x++FH x∧AX x g) H hg en hit hGi hps hlen (hno:=fun e g l ⟨i,_,h⟩=>hno e i g h) (fun k G G' L hm ⟨i,e,h⟩=>⟨i,e,hinv k i G G' hm h⟩) (fun c G G' L hm ⟨x,e1,e2,h⟩=>⟨x,e1,e2,Us x G G' hm h⟩) ⟨i0,rfl,h0⟩ ?_ ?_ ?_
 ·rintro l q bk k args G1 L1 w1 a1 hk hm ⟨i,rfl,hi⟩ H1
  have pm:∀ A B:OL,(bk++(A++B)).Perm (A++(bk++B)):=fun A B=>by
   rw [← iI,← iI]
   exact List.Perm.append_right B vX
  refine round l (q.at .ready none) (q.at .busy none) bk k args i G1 w1 _ (fun _=>roundPost P l _) a1 hk hm hi ?_ ?_ ?_ (H1.perm (List.Perm.cons _ (pm _ _)))
  ·intro T' G2 L2 a2 w2 c H2 h
   exact Ye H2 h
  ·intro i' T' G2 a2 w2 c H2 h2
   exact JJ none (H2.perm (List.Perm.cons _ (pm _ _).symm)) ⟨_,rfl,i',rfl,h2⟩
  ·intro x T' G2 a2 w2 c H2 h2
   have H3:=H2.perm (List.Perm.cons _ (pm _ _).symm)
   refine ⟨fun e=>?_,fun n e=>?_⟩
   ·exact JJ (some .ret) H3 ⟨_,_,rfl,x,e.symm,rfl,h2⟩
   ·exact JJ (some (.exit n)) H3 ⟨_,_,rfl,x,e.symm,rfl,h2⟩
 ·rintro Dk G1 L1 a1 w1 hm ⟨i,rfl,hi⟩ H1
  exact hdone Dk i G1 a1 w1 hm hi H1
 ·rintro Dk c G1 L1 a1 w1 hm ⟨x,rfl,rfl,hx⟩ H1
  exact hstop Dk x G1 a1 w1 hm hx H1
end
end
theorem Ie:prog.underlying 130=some (.map 3 3):=by kernel_rfl
theorem rR:Ty prog 31 1 24 [.slice none 0 0] false:=⟨by kernel_rfl,by kernel_rfl⟩
theorem Sw:dN prog 192 3 3:=⟨by kernel_rfl⟩
theorem Zc:∀ args w,(callFunc 222 args).run prog w=.ok (.enter 222 args) w:=enters func222 rfl (by kernel_rfl)
theorem abp {x:Int}:∀ {l:List Int} {i n:Nat},wH x i l=some n→n < i+l.length
 | [],_,_,h=>by cases h
 | k :: r,i,n,h=>by
  rw [wH] at h;split at h
  ·cases h;simp
  have:=abp h;simp only [kW];omega
def zu (l:List cu):Nat→Int→List cu
 | 0,_=>[]
 | f+1,id=>if id=0 then [] else match wH id 0 (l.map cu.id) with|none=>[]|some i=>match l[i]? with|none=>[]|some s=>s :: zu l f s.base
def IW (l:List cu) (id:Int):List cu:=zu l (l.length+1) id
theorem afJ {l:List cu} {f:Nat} {id:Int} (h:id=0):zu l f id=[]:=by
 cases f with
 | zero=>rfl
 | succ f=>rw [zu,au h]
theorem afH {l:List cu} {f:Nat} {id:Int} (h0:¬ id=0) (h:wH id 0 (l.map cu.id)=none):zu l f id=[]:=by
 cases f with
 | zero=>rfl
 | succ f=>rw [zu,ah h0,h]
theorem afI {l:List cu} {f i:Nat} {id:Int} (h0:¬ id=0) (h:wH id 0 (l.map cu.id)=some i) (hi:i < l.length):zu l (f+1) id=l[i] :: zu l f l[i].base:=by
 rw [zu,ah h0,h];dsimp only;rw [eD hi]
def stP (x:cu):AP:=fun args g=>∃ cs,args=[.agg cs.toArray]∧aR g x.dat cs
theorem adw {A:List cu} {k:Nat} {args:List aj} {g:GH} (h:xW (A.map stP) k args g):∃ (hk:k < A.length) (cs:List aj),args=[.agg cs.toArray]∧aR g A[k].dat cs:=by
 obtain ⟨p,hp,hargs⟩:=h;rw [pE] at hp;obtain ⟨q,hq,rfl⟩:=qg.1 hp;obtain ⟨hk,rfl⟩:=jH.1 hq;obtain ⟨cs,h1,h2⟩:=hargs;exact ⟨hk,cs,h1,h2⟩
abbrev bI (b:Nat) (n:Int):Nat × Obj:=(b,.cells #[vi n] 3 (0,0))
set_option maxHeartbeats 1000000 in
theorem afK {G:GH} {bl bi:Nat} {l:List cu} {id:Int} {v:aj} (hb:aI G bl 0=some v) (hv:av G (.sl 6 (l.map cu.dat)) v) (hnd:∀ (k:Nat) (h:k < l.length),l[k].id∉(l.take k).map cu.id) :
  Iq prog G [bI bi id] (.func (.func 222) #[] #[(aK bl 0),(aK bi 0)]) ((IW l id).map stP) (decide ((IW l id).length≤l.length)):=by
 intro J Jx fv G1 L w0 GI hGi om hJx hJ hO hcb hfin;refine jI (caps:=[(aK bl 0),(aK bi 0)]) Zc ?_;obtain ⟨A,c,rfl,hc1,hc2,-⟩:=hv.slice;have hml:maxLen=9223372036854775807:=rfl;rw [aZ] at *;replace hb:=aJ hGi hb;replace hv:=hv.mono hGi;refine iY (N:=46) (T:=[(0,_),(1,_),(2,_)]) func222 rfl ntmps222 rfl rfl hO ?_;intro a H;refine bZ (fun _ K1=>?_);refine H6 H wn rfl ?_;clear H;intro bm a w hbm H;refine kH H (ak K1 rfl (SQ fun _ K2=>SR fun _ K3=>Rg rR rfl (by assumption) ?_));clear H K1;intro a H;refine kH H (Rl mg rfl (Rm rfl (Kz K3 (SB ?_))));clear H K3;intro a H;skip;refine fH (ι:=Nat) (Tc:=[(0,_),(1,_),(2,_),(4,_),(10,_),(11,_)]) (Lc:=[(_,_)]) (fun gh=>[(12,vi gh)]) (fun gh=>[afd bm ((l.take gh).map cu.id)]++L) (fun gh=>G1) (fun gh=>gh≤l.length) (fun gh=>l.length - gh) (0) (by exact (H.dG (Pl:=[_,_]) (cZ:=[_,_]) [1,0] (by decide) rfl).sub ⟨rfl,rfl,rfl,rfl,rfl,rfl,rfl,aC⟩) ?_ ?_
 ·exact gY _
 clear H;intro k a w hI H;have hk:=hI;dsimp only [lca,bq] at H;refine kP H (SR fun _ K4=>Rc rfl (Kz K4 (SQ fun _ K5=>Cd rfl ?_ ?_))) <;> clear H K4
 ·intro fD a H
  try have qp:=dT fD
  have hk2:k < l.length:=by omega
  obtain ⟨b,o,pA,pc,rfl,hrow,hp,hrep⟩:=DU hv hk2;have amn:=hnd k hk2
  have hlk:((l.take k).map cu.id).length=k:=by rw [aZ,List.length_take];omega
  have hnx:(l.take k).map cu.id++[l[k].id]=(l.take (k+1)).map cu.id:=by rw [iH hk2,kY];rfl
  refine kP H (Kc K5 (SQ fun _ K6=>SB (SR fun _ K7=>Rm rfl (Ri mg kE rfl rfl ?_))));clear H K5;intro a H;refine bB kE (cs:=[_,_,_,_,_,_]) H wn rfl rfl (fun j v hj=>H.hp.aI (hrow j v hj)) rfl ?_;clear H;intro a H;refine dB kE H wn rfl ?_;clear H;intro b6 a w hb6 H;refine kH H (Ra rfl ?_);clear H;intro a H;refine aY kE 0 (vs:=[_,_,_,_,_,_]) _ H wn rfl rfl rfl rfl rfl rfl rfl rfl ?_;clear H;intro w H;dsimp only [List.set,setRow] at H;refine K7 _ _ ?_;clear K7;refine kP H (SC (Rm rfl (bG xu aH 0 rfl rfl (Rm rfl ?_))));clear H;intro a H;refine ade (i:=2) (ky:=vi l[k].id) (v:=vi k) Ie lJ H wn rfl rfl rfl rfl (by trivial) (by rw [List.toList_toArray,SF,abq amn];rfl) ?_;clear H;intro w H
  have hpush:((yQ 0 ((l.take k).map cu.id)).toArray.push ⟨vi l[k].id,vi k,((l.take k).map cu.id).length⟩)=(yQ 0 ((l.take (k+1)).map cu.id)).toArray:=by rw [← hnx,← aob,hlk]
  rw [hpush,show ((l.take k).map cu.id).length+1=((l.take (k+1)).map cu.id).length by rw [← hnx];simp] at H;refine kH H (Kn K6 (SC (Rd rfl (Rm rfl ?_))));clear H K6;intro a H;refine aD ?_;refine dM ((k+1)) (by exact (H.dG (Pl:=[_,_,_]) (cZ:=[_,_]) [1,2] (by decide) rfl).sub ⟨rfl,rfl,rfl,rfl,rfl,rfl,rfl,aC⟩) ?_
  exact by omega
 intro fD a H
 try have qp:=dF fD
 obtain rfl:k=l.length:=by omega
 rw [tX] at H;refine eu ?_;refine K2 _ _ ?_;clear K2;refine wY ?_;skip;refine fH (ι:=Int × Nat × Nat × OL × GH) (Tc:=[(0,_),(1,_),(2,_),(4,_)]) (Lc:=[(_,_)]) (fun gh=>[]) (fun gh=>[bI bi gh.1]++gh.2.2.2.1) (fun gh=>gh.2.2.2.2) (fun gh=>(∀ b o,G1 b=some o→gh.2.2.2.2 b=some o)∧Now ((IW l id).map stP) stP J (IW l id).length gh.2.2.1 (zu l gh.2.1 gh.1) gh.2.2.2.2 gh.2.2.2.1∧gh.2.2.1+gh.2.1=l.length+1) (fun gh=>gh.2.1) ((id,l.length+1,0,L,G1)) (by exact (H.dG (Pl:=[_,_]) (cZ:=[_,_]) [1,0] (by decide) rfl).sub ⟨rfl,rfl,rfl,rfl,aC⟩) ?_ ?_
 ·exact ⟨fun _ _ h=>h,⟨hJ,fun i a h=>by rw [gJ,pE];rw [show zu l (l.length+1) id=IW l id from rfl] at h;rw [h];rfl,gJ _⟩,gJ _⟩
 clear H;rintro ⟨i,f,j1,Lt,g⟩ a w hI H;dsimp only at hI H;obtain ⟨hgm,dH,hjf⟩:=hI;have hbg:=aJ hgm hb;dsimp only [lca,bq] at H;refine kP H (SQ fun _ K8=>SR fun _ K9=>Ro aH 1 rfl (Rc rfl (Kz K9 (Cd rfl ?_ ?_)))) <;> clear H K9
 ·intro h23 a H
  try have vJ:=dT h23
  have h0:¬ i=0:=by simpa using h23
  obtain ⟨an,han⟩:∃ an,an=wH i 0 (l.map cu.id):=⟨_,rfl⟩;have hfn:=SF i 0 0 (l.map cu.id);rw [← han] at hfn;refine kP H (Kc K8 (SB (SR fun _ aW=>Rm rfl (Ro aH 1 rfl ?_))));clear H K8;intro a H;refine aqC (i:=0) (zv:=vi 0) _ Ie lJ (by kernel_rfl) H wn rfl rfl rfl (by trivial) (by simpa using hfn) rfl ?_;clear H;intro a H;refine kH H (Rm rfl ?_);clear H;intro a H;(iterate 2 refine lS H wn rfl rfl rfl ?_;clear H;intro a H);refine kH H (Ra rfl (ak aW rfl (SQ fun _ bO=>SR fun _ bW=>Rm rfl (Rn rfl (Rm rfl (Sp 32 rfl ?_ ?_)))))) <;> clear H aW
  ·intro h32 a H
   try have p32:=dT h32
   obtain rfl:an=none:=by
    cases an with
    | none=>rfl
    | some n=>simp [DC] at h32
   rw [afH h0 han.symm] at dH;refine kH H (bD h32 rfl (aP h32 rfl (aP h32 rfl (Pt h32 rfl (Kz bW (Ct rfl rfl ?_))))));clear H bW;intro a H;refine bS ?_;refine (leave0 H results222 ?_).1;refine H.hp.gB (L':=Lt) (by repeat (first|exact fT _|apply List.Sublist.cons)) (.inl ?_);have h:=dH.len
   simp only [List.length_nil,qh] at h
   rw [← h];exact dH.now
  intro h32 a H
  try have p32:=dF h32
  obtain ⟨n,rfl⟩:∃ n,an=some n:=by
   cases an with
   | none=>simp [DC] at h32
   | some n=>exact ⟨n,rfl⟩
  have hnl:n < l.length:=by have:=abp han.symm;simpa using this
  obtain ⟨f',rfl⟩:∃ f',f=f'+1:=by
   cases f with
   | succ f'=>exact ⟨f',rfl⟩
   | zero =>
    exfalso
    have hl:=dH.len
    simp only [zu,List.length_nil,qh] at hl
    refine hfin (kX (by omega)) g Lt ?_;rw [← hl];exact dH.now
  rw [afI h0 han.symm hnl] at dH;dsimp only [DC,Option.map_some] at H;obtain ⟨b,o,pA,pc,rfl,hrow,hp,hrep⟩:=DU (hv.mono hgm) hnl;refine kH H (YM h32 rfl (YR rR h32 rfl (by assumption) ?_));clear H;intro a H;refine kH H (YM h32 rfl (YI mg kE h32 rfl rfl ?_));clear H;intro a H;refine bB kE (cs:=[_,_,_,_,_,_]) H (wg H rfl rfl h32) rfl rfl (fun j v hj=>H.hp.aI (hrow j v hj)) rfl ?_;clear H;intro a H;refine vM (Li:=[_,_]) (L:=Lt) H (wg H rfl rfl h32) rfl rfl (hcb j1 _ _ _ _ ⟨_,dH.head,_,rfl,hrep⟩ hgm dH.now (Hp.owns (Li:=[_,_]) H.hp)) rfl ?_;clear H;rintro v38 QI XK a w ⟨b38,rfl,hb1,hb2⟩ Jo H;have hbg:=aJ Jo hbg;have r3:=aJ Jo (hrow 3 _ rfl);refine kH H (YN h32 rfl (Pf h32 rfl (Kz bW (Cd rfl ?_ ?_)))) <;> clear H bW
  ·intro jJ a H
   try have p40:=dT jJ
   refine bS ?_;refine (leave0 H results222 ?_).1;exact H.hp.gB (L':=XK) (by repeat (first|exact fT _|apply List.Sublist.cons)) (.inr (hb2 (by simpa using jJ)))
  intro jJ a H
  try have p40:=dF jJ
  refine kP H (Kc bO (SC (Rg rR rfl (by assumption) ?_)));clear H bO;intro a H;refine kH H (Rm rfl (Ri mg kE rfl rfl (Rf Sw rfl (Rg aH rfl (by assumption) ?_))));clear H;intro a H;refine aY aH 1 (vs:=[_]) _ H wn rfl rfl rfl rfl rfl rfl rfl rfl ?_;clear H;intro w H;dsimp only [List.set,setRow] at H;refine aD ?_;refine dM ((l[n].base,f',j1+1,XK,QI)) (by exact (H).sub ⟨rfl,rfl,rfl,rfl,aC⟩) ?_
  (try dsimp only);exact ⟨fun b o h=>Jo b o (hgm b o h),dH.step (hb1 (by simpa using jJ)),by omega⟩
 intro h23 a H
 try have vJ:=dF h23
 refine eu ?_;refine (leave0 H results222 ?_).2;rw [afJ (by simpa using h23)] at dH;refine H.hp.gB (L':=Lt) (by repeat (first|exact fT _|apply List.Sublist.cons)) (.inl ?_);have h:=dH.len
 simp only [List.length_nil,qh] at h
 rw [← h];exact dH.now
theorem ahZ:∀ args w,(callFunc 182 args).run prog w=.ok (.enter 182 args) w:=enters func182 rfl (by kernel_rfl)
theorem ahY:∀ args w,(callFunc 180 args).run prog w=.ok (.enter 180 args) w:=enters func180 rfl (by kernel_rfl)
theorem R6:∀ args w,(callFunc 181 args).run prog w=.ok (.enter 181 args) w:=enters func181 rfl (by kernel_rfl)
theorem Om:dN prog 192 4 4:=⟨by kernel_rfl⟩
theorem afL {G:GH} {w0:World} (hO:gL G [] w0) (l:List cu) (id:Int) (v:aj) (hv:av G (.sl 6 (l.map cu.dat)) v) :
  Calls prog 182 #[v,vi id] w0 (gy w0 G [] fun u G' L'=>∃ bl bi,u=.func (.func 222) #[] #[(aK bl 0),(aK bi 0)]∧L'=[bI bi id]∧aI G' bl 0=some v):=by
 obtain ⟨A,c,rfl,hc1,hc2,-⟩:=hv.slice;refine iY (N:=6) (T:=[(0,_),(1,_)]) func182 rfl ntmps182 rfl rfl hO ?_;intro a H;refine bZ (fun _ K1=>?_);refine dZ (cs:=[_]) H wn rfl rfl rfl ?_;clear H;intro b2 a w hb2 H;refine dZ (cs:=[_]) H wn rfl rfl rfl ?_;clear H;intro b3 a w hb3 H;refine kH H (ak K1 rfl (SR fun _ K2=>?_));clear H K1;intro a H;refine oQ H wn rfl rfl ?_;clear H;intro a H;refine kH H (ak K2 rfl ?_);clear H K2;intro a H;refine lr H results182 rfl ?_;have H:=H.dG (Pl:=[_,_]) (cZ:=[_,_]) [1,0] (by decide) rfl;obtain ⟨Ga,hma,hb2',H⟩:=H.eH;exact H.hp.dJ ⟨b2,b3,rfl,rfl,by unfold aI;rw [hb2'];rfl⟩
def vg (p:Nat→Int):Nat→Nat→Int
 | _,0=>0
 | k,n+1=>if p k=0 then vg p (k+1) n else p k
theorem ajE {p:Nat→Int} {k m:Nat} (h:k < m):vg p k (m - k)=if p k=0 then vg p (k+1) (m - (k+1)) else p k:=by
 obtain ⟨n,hn⟩:∃ n,m - k=n+1:=⟨m - k - 1,by omega⟩;rw [hn,vg,show m - (k+1)=n by omega]
theorem ajD {p:Nat→Int} {k m:Nat} (h:m≤k):vg p k (m - k)=0:=by rw [show m - k=0 by omega];rfl
theorem Zq {p:Nat→Int}:∀ {n k:Nat},vg p k n=0→∀ j,k≤j→j < k+n→p j=0
 | 0,k,_,j,h1,h2=>by omega
 | n+1,k,h,j,h1,h2=>by
  rw [vg] at h;split at h
  ·rename_i hp
   by_cases e:j=k
   ·rw [e];exact hp
   exact Zq h j (by omega) (by omega)
  rename_i hp;exact absurd h hp
def A9 (l:List cu) (k:Nat):Int:=match l[k]? with|some s=>jl l k s|none=>0
theorem aci {l:List cu} {k:Nat} (h:k < l.length):A9 l k=jl l k l[k]:=by unfold A9;rw [eD h]
def uX (l:List cu) (s:cu):Bool:=(decide (s.base≠0) && !He l s.kind s.base) || (decide (s.next≠0) && (decide (s.kind=2) || !He l 1 s.next))
def RN (l:List cu) (s:cu):Bool:=decide (l.length < (IW l s.id).length)
def gZ (l:List cu):Int:=if 128 < l.length then 9 else if vg (A9 l) 0 l.length≠0 then vg (A9 l) 0 l.length else if l.any (uX l)=true then 25 else if l.any (RN l)=true then 16 else 0
theorem aoJ {l:List cu} (h:vg (A9 l) 0 l.length=0) {k:Nat} (hk:k+1 < l.length):l[k].id < l[k+1].id:=by
 have h1:=Zq h (k+1) (gY _) (by omega);rw [aci hk,jl,mW] at h1
 have hp:zL l (k+1)=some l[k].id:=by rw [zL,ah (by omega),Nat.add_sub_cancel,eD (by omega)];rfl
 rw [hp] at h1
 split at h1
 ·cases h1
 split at h1
 ·cases h1
 split at h1
 ·cases h1
 rename_i _ h2 h3
 have h2':¬ l[k].id=l[k+1].id:=fun e=>h2 (by rw [e]);have h3':¬ l[k+1].id < l[k].id:=fun e=>h3 (aG e)
 omega
theorem acj {l:List cu} (h:vg (A9 l) 0 l.length=0):∀ {k j:Nat} (hk:k < l.length) (hj:j < k),l[j].id < l[k].id
 | k+1,j,hk,hj=>by
  have h1:=aoJ h hk
  by_cases e:j=k
  ·subst e;exact h1
  have:=acj h (k:=k) (j:=j) (by omega) (by omega)
  omega
theorem acn {l:List cu} (h:vg (A9 l) 0 l.length=0) (k:Nat) (hk:k < l.length):l[k].id∉(l.take k).map cu.id:=by
 intro hm;obtain ⟨x,hx1,hx2⟩:=List.mem_map.1 hm;obtain ⟨j,hj,rfl⟩:=List.getElem_of_mem hx1;rw [List.getElem_take] at hx2;rw [List.length_take] at hj;have:=acj h hk (j:=j) (by omega)
 omega
theorem Kv {α:Type} {p:α→Bool} {l:List α} {k:Nat} (hk:k < l.length) (h:(l.take k).any p=false) (hp:p l[k]=false):(l.take (k+1)).any p=false:=by
 rw [iH hk,List.any_append,h];simp [hp]
theorem wW {α:Type} {p:α→Bool} {l:List α} {k:Nat} (hk:k < l.length) (hp:p l[k]=true):l.any p=true:=List.any_eq_true.2 ⟨_,kN hk,hp⟩
theorem BL {α:Type} {p:α→Bool} {l:List α} {k:Nat} (hk:l.length≤k) (h:(l.take k).any p=false):¬ l.any p=true:=by
 rw [iX hk] at h;rw [h];decide
set_option maxHeartbeats 1000000 in
theorem afU (G:GH) (w0:World) (hG:Hold G w0) (l:List cu) (v:aj) (hv:av G (.sl 6 (l.map cu.dat)) v) (hN:∀ s∈l,s.name.size≤4611686018427387904) :
  Calls prog 119 #[v] w0 (bH w0 G fun u G'=>u=vi (gZ l)):=by
 obtain ⟨A,c,rfl,hc1,hc2,-⟩:=hv.slice;have hml:maxLen=9223372036854775807:=rfl;rw [aZ] at *;refine eN [(0,_)] func119 rfl ntmps119 rfl rfl hG ?_;intro a H;refine bZ (fun _ K1=>?_);refine dZ (cs:=[_]) H wn rfl rfl rfl ?_;clear H;intro b1 a w hb1 H;refine dB iy H wn rfl ?_;clear H;intro b2 a w hb2 H;refine K1 _ _ ?_;clear K1;refine kP H (SQ fun _ K2=>SR fun _ K3=>Ro rR 1 rfl (Rl mg rfl (Rc rfl (Kz K3 (Cd rfl ?_ ?_))))) <;> clear H K3
 ·intro h12 a H
  try have rO:=dT h12
  refine bZ (fun _ K4=>?_);refine aY iy 0 (vs:=[_]) _ H wn rfl rfl rfl rfl rfl rfl rfl rfl ?_;clear H;intro w H;dsimp only [List.set,setRow] at H;refine K4 _ _ ?_;clear K4;refine bS ?_;refine (leave1 H results119 (.cons (Bc iy H rfl (H.hp.qM 0 rfl rfl)) .nil) ?_).1
  first
   | exact H.rt (aB vi (by rw [gZ,au (by omega)]))
   | exact H.rt (aB vi (by rw [ah (by simpa using iZ)] at heq;rw [gZ,ah (by omega),← heq,au (by simpa using iZ)]))
   | exact H.rt (aB vi (by rw [gZ,ah (by omega),ah (by rw [hok];decide),au hbad]))
   | exact H.rt (aB vi (by rw [gZ,ah (by omega),ah (by rw [hok];decide),ah hbad,au (wW hj2 hI)]))
   | exact H.rt (aB vi (by rw [gZ,ah (by omega),ah (by rw [hok];decide),ah hbad,ah (BL (by omega) hnc)]))
 intro h12 a H
 try have rO:=dF h12
 refine kP H (Kc K2 (SQ fun _ K5=>SR fun _ K6=>Ro rR 1 rfl (Rl mg rfl (Rm rfl (Kz K6 (SB ?_))))));clear H K2 K6;intro a H;skip;refine fH (ι:=Nat × GH) (Tc:=[(1,_),(2,_),(14,_)]) (Lc:=[(_,_),(_,_)]) (fun gh=>[(15,vi gh.1)]) (fun gh=>[]) (fun gh=>gh.2) (fun gh=>gh.1≤l.length∧vg (A9 l) gh.1 (l.length - gh.1)=vg (A9 l) 0 l.length∧(∀ b o,G b=some o→gh.2 b=some o)) (fun gh=>l.length - gh.1) ((0,G)) (by exact (H).sub ⟨rfl,rfl,rfl,rfl,aC⟩) ?_ ?_
 ·exact ⟨gY _,rfl,fun _ _ h=>h⟩
 clear H;rintro ⟨k,g⟩ a w hI H;dsimp only at hI H;obtain ⟨hk,heq,hgm⟩:=hI;dsimp only [lca,bq] at H;refine kP H (SR fun _ K7=>Rc rfl (Kz K7 (SQ fun _ K8=>Cd rfl ?_ ?_))) <;> clear H K7
 ·intro h16 a H
  try have p16:=dT h16
  have hk2:k < l.length:=by omega
  rw [ajE hk2,aci hk2] at heq;refine kP H (Kc K8 (SQ fun _ K9=>SB (SR fun _ aW=>Rm rfl (ak aW rfl (SR fun _ bO=>Ro rR 1 rfl (Rm rfl ?_))))));clear H K8 aW;intro a H;refine s_call ahY H wn rfl (aoK _ _ H.ro l k _ (hv.mono hgm) hk2 (hN _ (kN hk2))) rfl ?_;clear H;rintro v20 J8 a w rfl sK H;refine kH H (ak bO rfl (SR fun _ bW=>Rm rfl (Rc rfl (Kz bW (Cd rfl ?_ ?_))))) <;> clear H bO bW
  ·intro h22 a H
   try have iZ:=dT h22
   refine kP H (SR fun _ cB=>Rm rfl ?_);clear H;intro a H;refine aY iy 0 (vs:=[_]) _ H wn rfl rfl rfl rfl rfl rfl rfl rfl ?_;clear H;intro w H;dsimp only [List.set,setRow] at H;refine cB _ _ ?_;clear cB;refine bS ?_;refine (leave1 H results119 (.cons (Bc iy H rfl (H.hp.qM 0 rfl rfl)) .nil) ?_).1
   first
    | exact H.rt (aB vi (by rw [gZ,au (by omega)]))
    | exact H.rt (aB vi (by rw [ah (by simpa using iZ)] at heq;rw [gZ,ah (by omega),← heq,au (by simpa using iZ)]))
    | exact H.rt (aB vi (by rw [gZ,ah (by omega),ah (by rw [hok];decide),au hbad]))
    | exact H.rt (aB vi (by rw [gZ,ah (by omega),ah (by rw [hok];decide),ah hbad,au (wW hj2 hI)]))
    | exact H.rt (aB vi (by rw [gZ,ah (by omega),ah (by rw [hok];decide),ah hbad,ah (BL (by omega) hnc)]))
  intro h22 a H
  try have iZ:=dF h22
  refine kP H (Kc K9 (SC (Rd rfl (Rm rfl ?_))));clear H K9;intro a H;refine aD ?_;refine dM ((k+1,J8)) (by exact (H).sub ⟨rfl,rfl,rfl,rfl,aC⟩) ?_
  (try dsimp only);exact ⟨by omega,by rw [au (by simpa using iZ)] at heq;exact heq,fun b o h=>sK b o (hgm b o h)⟩
 intro h16 a H
 try have p16:=dF h16
 have hok:vg (A9 l) 0 l.length=0:=by rw [← heq];exact ajD (by omega)
 clear heq;have Ci:=hv.mono hgm;refine eu ?_;refine K5 _ _ ?_;clear K5;refine kP H (SQ fun _ dw=>SR fun _ dR=>Ro rR 1 rfl (Rl mg rfl (Rm rfl (Kz dR (SB ?_)))));clear H dR;intro a H;skip;refine fH (ι:=Nat × GH) (Tc:=[(1,_),(2,_),(25,_),(26,_)]) (Lc:=[(_,_),(_,_)]) (fun gh=>[(27,vi gh.1)]) (fun gh=>[]) (fun gh=>gh.2) (fun gh=>gh.1≤l.length∧(l.take gh.1).any (uX l)=false∧(∀ b o,g b=some o→gh.2 b=some o)) (fun gh=>l.length - gh.1) ((0,g)) (by exact (H).sub ⟨rfl,rfl,rfl,rfl,rfl,aC⟩) ?_ ?_
 ·exact ⟨gY _,rfl,fun _ _ h=>h⟩
 clear H;rintro ⟨k,g2⟩ a w hI H;dsimp only at hI H;obtain ⟨hk3,hno,jY⟩:=hI;have AV:=Ci.mono jY;dsimp only [lca,bq] at H;refine kP H (SR fun _ dW=>Rc rfl (Kz dW (SQ fun _ dU=>Cd rfl ?_ ?_))) <;> clear H dW
 ·intro fQ a H
  try have p28:=dT fQ
  have hk4:k < l.length:=by omega
  obtain ⟨b,o,pA,pc,rfl,hrow,hp,hrep⟩:=DU AV hk4;refine kP H (Kc dU (SQ fun _ eG=>SB (SR fun _ gu=>Ri mg kE rfl rfl ?_)));clear H dU;intro a H;refine bB kE (cs:=[_,_,_,_,_,_]) H wn rfl rfl (fun j v hj=>H.hp.aI (hrow j v hj)) rfl ?_;clear H;intro a H;refine dB kE H wn rfl ?_;clear H;intro b6 a w hb6 H;refine aY kE 0 (vs:=[_,_,_,_,_,_]) _ H wn rfl rfl rfl rfl rfl rfl rfl rfl ?_;clear H;intro w H;dsimp only [List.set,setRow] at H;refine gu _ _ ?_;clear gu;refine kP H (SR fun _ fC=>bG Sw aH 0 rfl rfl (Rc rfl (Rm rfl (Sp 34 rfl ?_ ?_)))) <;> clear H
  ·intro fE a H
   try have p34:=dT fE
   refine kH H (YO rR 2 fE rfl (YF zx fE rfl (YO aH 0 fE rfl (YF Sw fE rfl (YO aH 0 fE rfl ?_)))));clear H;intro a H;refine s_call R6 H (wg H rfl rfl fE) rfl (Vf _ _ H.ro l l[k].kind l[k].base _ AV) rfl ?_;clear H;rintro v40 g2 a w rfl GJ H;replace jY:=fun b o (h:g b=some o)=>GJ b o (jY b o h);replace AV:=AV.mono GJ;refine kH H (YN fE rfl (Pt fE rfl (Rm rfl (Sp 43 rfl ?_ ?_)))) <;> clear H
   ·intro h43 a H
    try have p43:=dT h43
    refine kH H (aP h43 rfl (aP h43 rfl (Ku rfl (Ku rfl (Ku rfl (Ku rfl (Ku rfl (Ku rfl (Ku rfl (Ku rfl (Ku rfl (Ku rfl (Ks h43 rfl (Pt h43 rfl (Kz fC (Ct rfl rfl (SQ fun _ gH=>?_)))))))))))))))));clear H fC;intro a H;have hbad:l.any (uX l)=true:=wW hk4 (by unfold uX;simp_all);refine mP ?_;refine aY iy 1 (vs:=[_]) _ H wn rfl rfl rfl rfl rfl rfl rfl rfl ?_;clear H;intro w H;dsimp only [List.set,setRow] at H;refine aD ?_;refine gH _ _ ?_;clear gH;refine bS ?_;refine (leave1 H results119 (.cons (Bc iy H rfl (H.hp.qM 1 rfl rfl)) .nil) ?_).1
    first
     | exact H.rt (aB vi (by rw [gZ,au (by omega)]))
     | exact H.rt (aB vi (by rw [ah (by simpa using iZ)] at heq;rw [gZ,ah (by omega),← heq,au (by simpa using iZ)]))
     | exact H.rt (aB vi (by rw [gZ,ah (by omega),ah (by rw [hok];decide),au hbad]))
     | exact H.rt (aB vi (by rw [gZ,ah (by omega),ah (by rw [hok];decide),ah hbad,au (wW hj2 hI)]))
     | exact H.rt (aB vi (by rw [gZ,ah (by omega),ah (by rw [hok];decide),ah hbad,ah (BL (by omega) hnc)]))
   intro h43 a H
   try have p43:=dF h43
   refine kH H (YF Om h43 rfl (YO aH 0 h43 rfl (YC h43 rfl (YM h43 rfl (Sp 47 rfl ?_ ?_))))) <;> clear H
   ·intro h47 a H
    try have p47:=dT h47
    refine kH H (YF zx h47 rfl (YO aH 0 h47 rfl (YC h47 rfl (YM h47 rfl (Sp 51 rfl ?_ ?_))))) <;> clear H
    ·intro kZ a H
     try have p51:=dT kZ
     refine kH H (bD kZ rfl (aP kZ rfl (PT h47 kZ rfl (PT h43 h47 rfl (Pf h43 rfl (Kz fC (Ct rfl rfl (SQ fun _ iC=>?_))))))));clear H fC;intro a H;have hbad:l.any (uX l)=true:=wW hk4 (by unfold uX;simp_all);refine mP ?_;refine aY iy 1 (vs:=[_]) _ H wn rfl rfl rfl rfl rfl rfl rfl rfl ?_;clear H;intro w H;dsimp only [List.set,setRow] at H;refine aD ?_;refine iC _ _ ?_;clear iC;refine bS ?_;refine (leave1 H results119 (.cons (Bc iy H rfl (H.hp.qM 1 rfl rfl)) .nil) ?_).1
     first
      | exact H.rt (aB vi (by rw [gZ,au (by omega)]))
      | exact H.rt (aB vi (by rw [ah (by simpa using iZ)] at heq;rw [gZ,ah (by omega),← heq,au (by simpa using iZ)]))
      | exact H.rt (aB vi (by rw [gZ,ah (by omega),ah (by rw [hok];decide),au hbad]))
      | exact H.rt (aB vi (by rw [gZ,ah (by omega),ah (by rw [hok];decide),ah hbad,au (wW hj2 hI)]))
      | exact H.rt (aB vi (by rw [gZ,ah (by omega),ah (by rw [hok];decide),ah hbad,ah (BL (by omega) hnc)]))
    intro kZ a H
    try have p51:=dF kZ
    refine kH H (YO rR 2 kZ rfl (YF Om kZ rfl (YO aH 0 kZ rfl ?_)));clear H;intro a H;refine s_call R6 H (wg H rfl rfl kZ) rfl (Vf _ _ H.ro l 1 l[k].next _ AV) rfl ?_;clear H;rintro v55 g2 a w rfl wE H;replace jY:=fun b o (h:g b=some o)=>wE b o (jY b o h);replace AV:=AV.mono wE;refine kH H (YN kZ rfl (PF h47 kZ rfl (PT h43 h47 rfl (Pf h43 rfl (Kz fC (Cd rfl ?_ ?_)))))) <;> clear H fC
    ·intro iK a H
     try have p59:=dT iK
     refine bN (fun _ jT=>?_);have hbad:l.any (uX l)=true:=wW hk4 (by unfold uX;simp_all);refine mP ?_;refine aY iy 1 (vs:=[_]) _ H wn rfl rfl rfl rfl rfl rfl rfl rfl ?_;clear H;intro w H;dsimp only [List.set,setRow] at H;refine aD ?_;refine jT _ _ ?_;clear jT;refine bS ?_;refine (leave1 H results119 (.cons (Bc iy H rfl (H.hp.qM 1 rfl rfl)) .nil) ?_).1
     first
      | exact H.rt (aB vi (by rw [gZ,au (by omega)]))
      | exact H.rt (aB vi (by rw [ah (by simpa using iZ)] at heq;rw [gZ,ah (by omega),← heq,au (by simpa using iZ)]))
      | exact H.rt (aB vi (by rw [gZ,ah (by omega),ah (by rw [hok];decide),au hbad]))
      | exact H.rt (aB vi (by rw [gZ,ah (by omega),ah (by rw [hok];decide),ah hbad,au (wW hj2 hI)]))
      | exact H.rt (aB vi (by rw [gZ,ah (by omega),ah (by rw [hok];decide),ah hbad,ah (BL (by omega) hnc)]))
    intro iK a H
    try have p59:=dF iK
    refine kP H (Kc eG (SC (Rd rfl (Rm rfl ?_))));clear H eG;intro a H;refine aD ?_;refine dM ((k+1,g2)) (by exact (H.dG (Pl:=[_,_,_]) (cZ:=[_,_]) [1,2] (by decide) rfl).sub ⟨rfl,rfl,rfl,rfl,rfl,aC⟩) ?_
    (try dsimp only);exact ⟨by omega,Kv hk4 hno (by unfold uX;simp_all),jY⟩
   intro h47 a H
   try have p47:=dF h47
   refine kH H (aP h47 rfl (aP h47 rfl (Ku rfl (Ku rfl (Ku rfl (Ku rfl (Ku rfl (Ks h47 rfl (PF h43 h47 rfl (Pf h43 rfl (Kz fC (Cf rfl rfl (Kc eG (SC (Rd rfl (Rm rfl ?_))))))))))))))));clear H fC eG;intro a H;refine aD ?_;refine dM ((k+1,g2)) (by exact (H.dG (Pl:=[_,_,_]) (cZ:=[_,_]) [1,2] (by decide) rfl).sub ⟨rfl,rfl,rfl,rfl,rfl,aC⟩) ?_
   (try dsimp only);exact ⟨by omega,Kv hk4 hno (by unfold uX;simp_all),jY⟩
  intro fE a H
  try have p34:=dF fE
  refine kH H (bD fE rfl (aP fE rfl (aP fE rfl (Pf fE rfl (Rm rfl ?_)))));clear H;intro a H;refine JO Om H (wg H rfl rfl rfl) rfl rfl ?_;clear H;intro a H;refine rP aH H (wg H rfl rfl rfl) rfl (H.hp.qM 0 rfl rfl) rfl ?_;clear H;intro a H;refine JN H (wg H rfl rfl rfl) rfl rfl rfl rfl ?_;clear H;intro a H;refine JQ H (wg H rfl rfl rfl) rfl rfl ?_;clear H;intro a H;refine Wd H 47 rfl ?_ ?_
  ·intro h47
   try have p47:=dT h47
   refine kH H (YF zx h47 rfl (YO aH 0 h47 rfl (YC h47 rfl (YM h47 rfl (Sp 51 rfl ?_ ?_))))) <;> clear H
   ·intro kZ a H
    try have p51:=dT kZ
    refine kH H (bD kZ rfl (aP kZ rfl (PT h47 kZ rfl ?_)));clear H;intro a H;refine MJ H (wg H rfl rfl rfl) rfl h47 rfl rfl ?_;clear H;intro a H;refine kH H (Pf rfl rfl (Kz fC (Ct rfl rfl (SQ fun _ jN=>?_))));clear H fC;intro a H;have hbad:l.any (uX l)=true:=wW hk4 (by unfold uX;simp_all);refine mP ?_;refine aY iy 1 (vs:=[_]) _ H wn rfl rfl rfl rfl rfl rfl rfl rfl ?_;clear H;intro w H;dsimp only [List.set,setRow] at H;refine aD ?_;refine jN _ _ ?_;clear jN;refine bS ?_;refine (leave1 H results119 (.cons (Bc iy H rfl (H.hp.qM 1 rfl rfl)) .nil) ?_).1
    first
     | exact H.rt (aB vi (by rw [gZ,au (by omega)]))
     | exact H.rt (aB vi (by rw [ah (by simpa using iZ)] at heq;rw [gZ,ah (by omega),← heq,au (by simpa using iZ)]))
     | exact H.rt (aB vi (by rw [gZ,ah (by omega),ah (by rw [hok];decide),au hbad]))
     | exact H.rt (aB vi (by rw [gZ,ah (by omega),ah (by rw [hok];decide),ah hbad,au (wW hj2 hI)]))
     | exact H.rt (aB vi (by rw [gZ,ah (by omega),ah (by rw [hok];decide),ah hbad,ah (BL (by omega) hnc)]))
   intro kZ a H
   try have p51:=dF kZ
   refine kH H (YO rR 2 kZ rfl (YF Om kZ rfl (YO aH 0 kZ rfl ?_)));clear H;intro a H;refine s_call R6 H (wg H rfl rfl kZ) rfl (Vf _ _ H.ro l 1 l[k].next _ AV) rfl ?_;clear H;rintro v55 g2 a w rfl wE H;replace jY:=fun b o (h:g b=some o)=>wE b o (jY b o h);replace AV:=AV.mono wE;refine kH H (YN kZ rfl (PF h47 kZ rfl ?_));clear H;intro a H;refine MJ H (wg H rfl rfl rfl) rfl h47 rfl rfl ?_;clear H;intro a H;refine kH H (Pf rfl rfl (Kz fC (Cd rfl ?_ ?_))) <;> clear H fC
   ·intro iK a H
    try have p59:=dT iK
    refine bN (fun _ jO=>?_);have hbad:l.any (uX l)=true:=wW hk4 (by unfold uX;simp_all);refine mP ?_;refine aY iy 1 (vs:=[_]) _ H wn rfl rfl rfl rfl rfl rfl rfl rfl ?_;clear H;intro w H;dsimp only [List.set,setRow] at H;refine aD ?_;refine jO _ _ ?_;clear jO;refine bS ?_;refine (leave1 H results119 (.cons (Bc iy H rfl (H.hp.qM 1 rfl rfl)) .nil) ?_).1
    first
     | exact H.rt (aB vi (by rw [gZ,au (by omega)]))
     | exact H.rt (aB vi (by rw [ah (by simpa using iZ)] at heq;rw [gZ,ah (by omega),← heq,au (by simpa using iZ)]))
     | exact H.rt (aB vi (by rw [gZ,ah (by omega),ah (by rw [hok];decide),au hbad]))
     | exact H.rt (aB vi (by rw [gZ,ah (by omega),ah (by rw [hok];decide),ah hbad,au (wW hj2 hI)]))
     | exact H.rt (aB vi (by rw [gZ,ah (by omega),ah (by rw [hok];decide),ah hbad,ah (BL (by omega) hnc)]))
   intro iK a H
   try have p59:=dF iK
   refine kP H (Kc eG (SC (Rd rfl (Rm rfl ?_))));clear H eG;intro a H;refine aD ?_;refine dM ((k+1,g2)) (by exact (H.dG (Pl:=[_,_,_]) (cZ:=[_,_]) [1,2] (by decide) rfl).sub ⟨rfl,rfl,rfl,rfl,rfl,aC⟩) ?_
   (try dsimp only);exact ⟨by omega,Kv hk4 hno (by unfold uX;simp_all),jY⟩
  intro h47
  try have p47:=dF h47
  refine kH H (aP h47 rfl (aP h47 rfl (Ku rfl (Ku rfl (Ku rfl (Ku rfl (Ku rfl (Ks h47 rfl ?_))))))));clear H;intro a H;refine Qc H (wg H rfl rfl rfl) rfl h47 rfl rfl ?_;clear H;intro a H;refine kH H (Pf rfl rfl (Kz fC (Cf rfl rfl (Kc eG (SC (Rd rfl (Rm rfl ?_)))))));clear H fC eG;intro a H;refine aD ?_;refine dM ((k+1,g2)) (by exact (H.dG (Pl:=[_,_,_]) (cZ:=[_,_]) [1,2] (by decide) rfl).sub ⟨rfl,rfl,rfl,rfl,rfl,aC⟩) ?_
  (try dsimp only);exact ⟨by omega,Kv hk4 hno (by unfold uX;simp_all),jY⟩
 intro fQ a H
 try have p28:=dF fQ
 have hbad:=BL (by omega) hno;refine eu ?_;refine dw _ _ ?_;clear dw;refine kP H (SQ fun _ kU=>SR fun _ lC=>Ro rR 1 rfl (Rl mg rfl (Rm rfl (Kz lC (SB ?_)))));clear H lC;intro a H;skip;refine NK (ι:=Nat × GH × List Nat) (Tc:=[(1,_),(2,_),(61,_),(62,_)]) (Lc:=[(_,_),(_,_)]) (fun gh=>JB gh.2.2) (fun gh=>[(63,vi gh.1)]) (fun gh=>[]++(lZ gh.2.2++[])) (fun gh=>gh.2.1) (fun gh=>gh.1≤l.length∧(l.take gh.1).any (RN l)=false∧(∀ b o,g2 b=some o→gh.2.1 b=some o)) (fun gh=>l.length - gh.1) ((0,g2,[])) (by exact (H).sub ⟨rfl,rfl,rfl,rfl,rfl,aC⟩) ?_ ?_
 ·exact ⟨gY _,rfl,fun _ _ h=>h⟩
 clear H;rintro ⟨j,g3,ds⟩ a w hI H;dsimp only at hI H;obtain ⟨hj,hnc,tH⟩:=hI;have U5:=AV.mono tH;dsimp only [lca,bq] at H;refine kP H (SR fun _ jP=>Rc rfl (Kz jP (SQ fun _ nM=>Cd rfl ?_ ?_))) <;> clear H jP
 ·intro h64 a H
  try have p64:=dT h64
  have hj2:j < l.length:=by omega
  obtain ⟨b,o,pA,pc,rfl,hrow,hp,hrep⟩:=DU U5 hj2;refine kP H (Kc nM (SQ fun _ nZ=>SB (SR fun _ oF=>Ri mg kE rfl rfl ?_)));clear H nM;intro a H;refine bB kE (cs:=[_,_,_,_,_,_]) H wn rfl rfl (fun j v hj=>H.hp.aI (hrow j v hj)) rfl ?_;clear H;intro a H;refine dB kE H wn rfl ?_;clear H;intro b8 a w Gy H;refine aY kE 0 (vs:=[_,_,_,_,_,_]) _ H wn rfl rfl rfl rfl rfl rfl rfl rfl ?_;clear H;intro w H;dsimp only [List.set,setRow] at H;refine oF _ _ ?_;clear oF;refine bZ (fun _ oZ=>?_);refine dB aH H wn rfl ?_;clear H;intro b9 a w zD H;refine aY aH 0 (vs:=[_]) _ H wn rfl rfl rfl rfl rfl rfl rfl rfl ?_;clear H;intro w H;dsimp only [List.set,setRow] at H;refine oZ _ _ ?_;clear oZ;refine kP H (SR fun _ oG=>Ro rR 3 rfl (bG xu aH 1 rfl rfl ?_));clear H;intro a H;refine gW ahZ (Li:=[_,_,_,_]++lZ ds) (L:=[]) (St.un (A:=[_,_,_,_]) H) wn rfl (afL (Hp.owns (Li:=[_,_,_,_]++lZ ds) (St.un (A:=[_,_,_,_]) H).hp) l l[j].id _ U5) rfl ?_;clear H;rintro v70 g4 L70 a w ⟨bl,bi,rfl,rfl,hbl⟩ aaC H;have H:=(St.JD (A:=[_,_,_,_,_]) (B:=lZ ds) (H.perm vX));dsimp only [lca,bq] at H;have hit:=afK (l:=l) (id:=l[j].id) (bi:=bi) hbl (U5.mono aaC) (acn hok);refine oG _ _ ?_;clear oG;refine wY ?_;skip;refine afu (B:=[(_,_)]) (ι:=Unit) (κ:=Int) (Lc:=[(_,_),(_,_)]) (fun (k:Nat) (gh:Unit)=>[(b9,.cells #[vi k] 3 (0,0)),(b2,.cells #[vi 0] 49 (0,0))]) (fun (k:Nat) (gh:Unit)=>(lZ ds++[])) (fun (k:Nat) (gh:Unit) (g:GH)=>k≤l.length) (fun (gx:Int)=>Code.ret) (fun (gx:Int)=>[(b9,.cells #[vi gx] 3 (0,0)),(b2,.cells #[vi 16] 49 (0,0))]) (fun (gx:Int)=>(lZ ds++[])) (fun (gx:Int) (g:GH)=>RN l l[j]=true) (()) (by exact H.dG (Pl:=[_,_,_,_,_]) (cZ:=[_,_,_,_,_]) [0,2,4,1,3] (by decide) rfl) rfl Zc (hit) (fun _ _ h=>h) (fun e i g h=>absurd (of_decide_eq_false e) (by rw [aZ] at h;omega)) rfl (fun k args g h=>by obtain ⟨_,_,rfl,_⟩:=adw h;rfl) (fun _ _ _ _ _ h=>h) (fun _ _ _ _ h=>h) (gY _) ?_ ?_ ?_
  ·clear H;intro l21 yT vY bk k args gh Nk w21 F21 B21 a aav yJ hI als amm amY H;obtain ⟨aav,atw,rfl,aur⟩:=adw aav;dsimp only [uW,List.cons_append,List.nil_append] at H;refine fZ ?_;refine als _ _ _ _ _ _ (by exact H) ?_;clear H;intro w H;refine kP H (SB (SR fun _ pq=>Ro aH 3 rfl (Rd rfl ?_)));clear H;intro a H;refine aY aH 3 (vs:=[_]) _ H wn rfl rfl rfl rfl rfl rfl rfl rfl ?_;clear H;intro w H;dsimp only [List.set,setRow] at H;refine pq _ _ ?_;clear pq;refine kP H (SR fun _ rU=>Ro aH 3 rfl (Ro rR 2 rfl (Rl mg rfl (Rc rfl (Kz rU (Cd rfl ?_ ?_)))))) <;> clear H rU
   ·intro Gj a H
    try have JG:=dT Gj
    refine bZ (fun _ rV=>?_);refine aY iy 4 (vs:=[_]) _ H wn rfl rfl rfl rfl rfl rfl rfl rfl ?_;clear H;intro w H;dsimp only [List.set,setRow] at H;refine rV _ _ ?_;clear rV;refine bS ?_;refine (amY ((k:Int)+1) _ _ _ _ _ (by exact H) ?_).1 rfl;exact jB (by omega)
   intro Gj a H
   try have JG:=dF Gj
   refine fZ ?_;refine amm (()) _ _ _ _ _ (by exact H) ?_
   omega
  ·clear H;intro Xa gh Xj a w yJ hI H;dsimp only [lca,bq] at H;refine nZ _ _ ?_;clear nZ;refine kP H (SC (Rd rfl (Rm rfl ?_)));clear H;intro a H;refine aD ?_;refine Ho ((j+1,Xj,Xa :: ds)) (by exact (H.dG (Pl:=[_,_,_,_,_]) (cZ:=[_,_,_]) [4,2,0] (by decide) rfl).sub ⟨rfl,rfl,rfl,rfl,rfl,aC⟩) ?_ ?_
   ·(try dsimp only);exact ⟨by omega,Kv hj2 hnc (kX (by rw [aZ] at hI;omega)),fun b o h=>yJ b o (aaC b o (tH b o h))⟩
   first|omega|(dsimp only;omega)
  clear H;intro Xa x Xj a w yJ hI H;dsimp only [lca,bq] at H;refine bS ?_;refine (AY H 0 rfl ?_).1;clear H;intro a w H;dsimp only [List.eraseIdx_cons_succ,List.eraseIdx_cons_zero] at H;refine (zJ (Lh:=[_,_,_,_]) _ H ?_).1;clear H;intro a w H;dsimp only [lca,bq] at H;refine (leave1 H results119 (.cons (Bc iy H rfl (H.hp.qM 3 rfl rfl)) .nil) ?_).1
  first
   | exact H.rt (aB vi (by rw [gZ,au (by omega)]))
   | exact H.rt (aB vi (by rw [ah (by simpa using iZ)] at heq;rw [gZ,ah (by omega),← heq,au (by simpa using iZ)]))
   | exact H.rt (aB vi (by rw [gZ,ah (by omega),ah (by rw [hok];decide),au hbad]))
   | exact H.rt (aB vi (by rw [gZ,ah (by omega),ah (by rw [hok];decide),ah hbad,au (wW hj2 hI)]))
   | exact H.rt (aB vi (by rw [gZ,ah (by omega),ah (by rw [hok];decide),ah hbad,ah (BL (by omega) hnc)]))
 intro h64 a H
 try have p64:=dF h64
 refine eu ?_;refine kU _ _ ?_;clear kU;refine bZ (fun _ wS=>?_);refine aY iy 0 (vs:=[_]) _ H wn rfl rfl rfl rfl rfl rfl rfl rfl ?_;clear H;intro w H;dsimp only [List.set,setRow] at H;refine wS _ _ ?_;clear wS;refine bS ?_;refine (zJ (Lh:=[_,_]) _ H ?_).1;clear H;intro a w H;dsimp only [lca,bq] at H;refine (leave1 H results119 (.cons (Bc iy H rfl (H.hp.qM 0 rfl rfl)) .nil) ?_).1
 first
  | exact H.rt (aB vi (by rw [gZ,au (by omega)]))
  | exact H.rt (aB vi (by rw [ah (by simpa using iZ)] at heq;rw [gZ,ah (by omega),← heq,au (by simpa using iZ)]))
  | exact H.rt (aB vi (by rw [gZ,ah (by omega),ah (by rw [hok];decide),au hbad]))
  | exact H.rt (aB vi (by rw [gZ,ah (by omega),ah (by rw [hok];decide),ah hbad,au (wW hj2 hI)]))
  | exact H.rt (aB vi (by rw [gZ,ah (by omega),ah (by rw [hok];decide),ah hbad,ah (BL (by omega) hnc)]))
theorem yZ:Ty prog 34 1 24 [.slice none 0 0] false:=⟨by kernel_rfl,by kernel_rfl⟩
theorem wQ:prog.underlying 34=some (.slice 110):=by kernel_rfl
theorem Bl:Ty prog 110 2 32 [.string ⟨#[]⟩,.string ⟨#[]⟩] true:=⟨by kernel_rfl,by kernel_rfl⟩
theorem I5:dN prog 110 0 0:=⟨by kernel_rfl⟩
theorem R8:∀ args w,(callFunc 192 args).run prog w=.ok (.enter 192 args) w:=enters func192 rfl (by kernel_rfl)
theorem Zy:dN prog 110 1 1:=⟨by kernel_rfl⟩
theorem FY:dN prog 36 0 0:=⟨by kernel_rfl⟩
theorem ahl:∀ args w,(callFunc 119 args).run prog w=.ok (.enter 119 args) w:=enters func119 rfl (by kernel_rfl)
theorem FZ:dN prog 36 1 1:=⟨by kernel_rfl⟩
theorem ahm:∀ args w,(callFunc 120 args).run prog w=.ok (.enter 120 args) w:=enters func120 rfl (by kernel_rfl)
theorem Sz:dN prog 36 2 2:=⟨by kernel_rfl⟩
theorem ahn:∀ args w,(callFunc 121 args).run prog w=.ok (.enter 121 args) w:=enters func121 rfl (by kernel_rfl)
theorem SA:dN prog 36 3 3:=⟨by kernel_rfl⟩
theorem aho:∀ args w,(callFunc 122 args).run prog w=.ok (.enter 122 args) w:=enters func122 rfl (by kernel_rfl)
theorem aik:∀ args w,(callFunc 191 args).run prog w=.ok (.enter 191 args) w:=enters func191 rfl (by kernel_rfl)
theorem aea {G:GH} {l:List mq} {A:Option Addr} {n c k:Nat} (hv:av G (.sl 2 (l.map mq.dat)) (.slice A n c)) (hk:k < l.length):∃ b o,A=some ⟨b,o,none⟩∧(∀ j u,l[k].cells[j]?=some u→aI G b (o+k*2+j)=some u):=by
 obtain ⟨A',c',he,_,_,hg⟩:=hv.slice
 injection he with e1 e2 e3
 subst e1;obtain ⟨b,o,cs,h1,h2,h3,h4⟩:=hg k l[k].dat (by simp [hk]);have:=asI h4;subst this;exact ⟨b,o,h1,h3⟩
def adZ (k:Nat) (x:mq) (pn:ByteArray):Int:=dY [dx (!tu x.name) 13,dx (decide (0 < (k:Int)) && (x.name.toList == pn.toList)) 7,dx (decide (0 < (k:Int)) && Op.bytesLess x.name.toList pn.toList) 6,DW x.value]
def J3 (l:List mq) (k:Nat):Int:=match l[k]? with|some x=>adZ k x ((l[k - 1]?.map mq.name).getD ⟨#[]⟩)|none=>0
set_option maxHeartbeats 2000000 in
theorem asH {G:GH} {bl:Nat} {l:List mq} {A:Option Addr} {n c:Nat} (hb:aI G bl 0=some (.slice A n c)) (hv:av G (.sl 2 (l.map mq.dat)) (.slice A n c)) (hl:l.length≤4294967296) (ht:∀ x∈l,x.name.size < 4611686018427387904∧x.value.size < 4611686018427387904):uS (.func (.func 191) #[] #[(aK bl 0)]) G l.length (J3 l):=by
 intro k hk G1 w0 hm hG;refine jI (caps:=[(aK bl 0)]) aik ?_;replace hb:=aJ hm hb;replace hv:=hv.mono hm
 obtain rfl:n=l.length:=by have:=hv.len;simpa using this
 obtain ⟨b,o,rfl,hrow⟩:=aea hv hk
 have hk1:k - 1 < l.length:=by omega
 obtain ⟨b',o',he',hrow'⟩:=aea hv hk1
 injection he' with he'
 injection he' with e1 e2
 subst e1;subst e2;have hte:=ht _ (kN hk)
 have he:J3 l k=adZ k l[k] l[k - 1].name:=by unfold J3;rw [eD hk,eD hk1];rfl
 obtain ⟨x,hx⟩:∃ x,x=l[k]:=⟨_,rfl⟩;obtain ⟨y,hy⟩:∃ y,y=l[k - 1]:=⟨_,rfl⟩;rw [← hx] at hrow hte he;rw [← hy] at hrow' he;refine eN [(0,_),(1,_)] func191 rfl ntmps191 rfl rfl hG ?_;intro a H;refine kP H (SR fun _ K1=>ak K1 rfl (SQ fun _ K2=>?_));clear H K1;intro a H;have H:=H.sub (T':=[(0,_),(1,_)]) ⟨rfl,rfl,aC⟩
 by_cases c0:0 < (k:Int)
 ·skip;refine dI hmx [[],[],[0,1],[0,1,2],(ra 0 4),(ra 0 5),(ra 0 6),(ra 0 7),[],[8],(ra 0 10),(ra 0 11),(ra 0 11),(ra 0 13),(ra 0 14),(ra 0 15),(ra 0 11),(ra 0 11),(ra 0 11++[17]),(ra 0 11++[17,18]),(ra 0 11++ra 16 4),(ra 0 11++ra 16 5),(ra 0 11++ra 16 6),(ra 0 23),(ra 0 24),(ra 0 25),[],[26],(ra 0 28),(ra 0 29),(ra 0 29),(ra 0 31),(ra 0 32),(ra 0 33),(ra 0 29),(ra 0 29),(ra 0 29++[35]),(ra 0 29++[35,36]),(ra 0 29++ra 34 4),(ra 0 29++ra 34 5),(ra 0 29++ra 34 6),(ra 0 41),(ra 0 42),(ra 0 43),[],[],[44,45],[44,45,46],(ra 44 4),(ra 0 49),(ra 0 50),(ra 0 51),(ra 0 52)] [50,51,52] (by kernel_rfl) [_,_,_,_,_,.bool (tu x.name),_,vi (dx (!tu x.name) 13),_,_,_,_,_,_,_,_,_,_,vi ((max k 1:Nat):Int),vi ((k - 1:Nat):Int),_,_,_,.bool (x.name.toList == y.name.toList),.bool (decide (0 < (k:Int)) && (x.name.toList == y.name.toList)),vi (dx (decide (0 < (k:Int)) && (x.name.toList == y.name.toList)) 7),_,_,_,_,_,_,_,_,_,_,vi ((max k 1:Nat):Int),vi ((k - 1:Nat):Int),_,_,_,.bool (Op.bytesLess x.name.toList y.name.toList),.bool (decide (0 < (k:Int)) && Op.bytesLess x.name.toList y.name.toList),vi (dx (decide (0 < (k:Int)) && Op.bytesLess x.name.toList y.name.toList) 6),_,_,_,_,_,vi (DW x.value)] H (aF (X0 rfl fun hG=>Rg yZ rfl (aJ hG hb)) (Z0 rfl (Rm rfl)) (Z2 0 4 1 5 rfl (Ri wQ Bl rfl rfl)) (Z1 2 6 rfl (Rf I5 rfl)) (aF (X1 3 7 rfl fun hG=>Rg iM rfl (aJ hG (hrow 0 _ rfl))) ?_ (Z1 5 9 rfl (Rn rfl)) ?_ (aF (Z0 rfl (Rm rfl)) (Z1 8 12 rfl (Rc rfl)) (Z1 9 13 rfl (Rm rfl)) (X1 10 14 rfl fun hG=>YR yZ (aG c0) rfl (aJ hG hb)) (aF (Z1 10 14 rfl (YM (aG c0) rfl)) (Z3 11 15 12 16 10 14 rfl (YI wQ Bl (aG c0) rfl rfl)) (Z2 13 17 10 14 rfl (YF I5 (aG c0) rfl)) (X2 14 18 10 14 rfl fun hG=>YR iM (aG c0) rfl (aJ hG (hrow 0 _ rfl))) (aF (X1 10 14 rfl fun hG=>YR yZ (aG c0) rfl (aJ hG hb)) (Z1 10 14 rfl (YM (aG c0) rfl)) ?_ ?_ (aF (Z3 16 20 19 23 10 14 rfl (YI wQ Bl (aG c0) rfl rfl)) (Z2 20 24 10 14 rfl (YF I5 (aG c0) rfl)) (X2 21 25 10 14 rfl fun hG=>YR iM (aG c0) rfl (aJ hG (hrow' 0 _ rfl))) ?_ (aF ?_ ?_ (Z0 rfl (Rm rfl)) (Z1 26 30 rfl (Rc rfl)) (aF (Z1 27 31 rfl (Rm rfl)) (X1 28 32 rfl fun hG=>YR yZ (aG c0) rfl (aJ hG hb)) (Z1 28 32 rfl (YM (aG c0) rfl)) (Z3 29 33 30 34 28 32 rfl (YI wQ Bl (aG c0) rfl rfl)) (aF (Z2 31 35 28 32 rfl (YF I5 (aG c0) rfl)) (X2 32 36 28 32 rfl fun hG=>YR iM (aG c0) rfl (aJ hG (hrow 0 _ rfl))) (X1 28 32 rfl fun hG=>YR yZ (aG c0) rfl (aJ hG hb)) (Z1 28 32 rfl (YM (aG c0) rfl)) (aF ?_ ?_ (Z3 34 38 37 41 28 32 rfl (YI wQ Bl (aG c0) rfl rfl)) (Z2 38 42 28 32 rfl (YF I5 (aG c0) rfl)) (aF (X2 39 43 28 32 rfl fun hG=>YR iM (aG c0) rfl (aJ hG (hrow' 0 _ rfl))) ?_ ?_ ?_ (aF (X0 rfl fun hG=>Rg yZ rfl (aJ hG hb)) (Z0 rfl (Rm rfl)) (Z2 44 48 45 49 rfl (Ri wQ Bl rfl rfl)) (Z1 46 50 rfl (Rf Zy rfl)) (aF (X1 47 51 rfl fun hG=>Rg iM rfl (aJ hG (hrow 1 _ rfl))) ?_ (bQ rfl) (bQ rfl) (bM (bQ rfl) dz)))))))))))))) ?_
  ·refine eP 4 8 rfl rfl fun _ a w G1 hG HT H fin=>?_;refine s_call R8 H wn rfl (RI _ _ H.ro x.name hte.1) rfl ?_;clear H;rintro v9 G9 a w ⟨rfl,-⟩ TM H;exact fin H TM (rfl)
  ·refine eP 6 10 rfl rfl fun _ a w G1 hG HT H fin=>?_;refine s_call jR H wn rfl (jS _ _ H.ro _ 13) rfl ?_;clear H;rintro v11 tO a w ⟨rfl,-⟩ lW H;exact fin H lW (rfl)
  ·refine dK 17 21 10 14 rfl rfl fun _ a w G1 hG HT H fin=>?_;refine Qa H (wg H rfl rfl (aG c0)) rfl rfl rfl ?_;clear H;intro a H;exact fin H iJ (by show _=_;first|rfl|exact aB vi (by omega))
  ·refine dK 18 22 10 14 rfl rfl fun _ a w G1 hG HT H fin=>?_;refine nW _ H (wg H rfl rfl (aG c0)) rfl rfl rfl (by omega) (by omega) rfl ?_;clear H;intro a H;exact fin H iJ (by show _=_;first|rfl|exact aB vi (by omega))
  ·refine zk 15 19 22 26 10 14 rfl rfl fun _ a w G1 hG HT H fin=>?_;refine E9 H (wg H rfl rfl (aG c0)) rfl rfl rfl ?_;clear H;intro a H;exact fin H iJ rfl
  ·refine dK 10 14 23 27 rfl rfl fun _ a w G1 hG HT H fin=>?_;refine kH H (Pt (aG c0) rfl ?_);clear H;intro a H;exact fin H iJ (dO (by first|(rw [jB c0,Em];done)|(rw [kX c0,xZ];done)))
  ·refine eP 24 28 rfl rfl fun _ a w G1 hG HT H fin=>?_;refine s_call jR H wn rfl (jS _ _ H.ro _ 7) rfl ?_;clear H;rintro v29 G29 a w ⟨rfl,-⟩ TB H;exact fin H TB (rfl)
  ·refine dK 35 39 28 32 rfl rfl fun _ a w G1 hG HT H fin=>?_;refine Qa H (wg H rfl rfl (aG c0)) rfl rfl rfl ?_;clear H;intro a H;exact fin H iJ (by show _=_;first|rfl|exact aB vi (by omega))
  ·refine dK 36 40 28 32 rfl rfl fun _ a w G1 hG HT H fin=>?_;refine nW _ H (wg H rfl rfl (aG c0)) rfl rfl rfl (by omega) (by omega) rfl ?_;clear H;intro a H;exact fin H iJ (by show _=_;first|rfl|exact aB vi (by omega))
  ·refine zk 33 37 40 44 28 32 rfl rfl fun _ a w G1 hG HT H fin=>?_;refine aqD H (wg H rfl rfl (aG c0)) rfl rfl rfl ?_;clear H;intro a H;exact fin H iJ rfl
  ·refine dK 28 32 41 45 rfl rfl fun _ a w G1 hG HT H fin=>?_;refine kH H (Pt (aG c0) rfl ?_);clear H;intro a H;exact fin H iJ (dO (by first|(rw [jB c0,Em];done)|(rw [kX c0,xZ];done)))
  ·refine eP 42 46 rfl rfl fun _ a w G1 hG HT H fin=>?_;refine s_call jR H wn rfl (jS _ _ H.ro _ 6) rfl ?_;clear H;rintro v47 Np a w ⟨rfl,-⟩ TH H;exact fin H TH (rfl)
  ·refine eP 48 52 rfl rfl fun _ a w G1 hG HT H fin=>?_;refine s_call R7 H wn rfl (Ww _ _ H.ro x.value hte.2) rfl ?_;clear H;rintro v53 Xh a w rfl LA H;exact fin H LA (rfl)
  clear H;intro a w G nA H hv;have H:=H.aM (hv 7 11 rfl rfl) rfl;have H:=H.aM (hv 25 29 rfl rfl) rfl;have H:=H.aM (hv 43 47 rfl rfl) rfl;have H:=H.aM (hv 49 53 rfl rfl) rfl;clear hv;refine ig qU iy [_,_,_,_] [_,_,_,_] H wn rfl rfl rfl rfl rfl (by intro i q h;match i,h with|0,h=>exact h|1,h=>exact h|2,h=>exact h|3,h=>exact h|n+4,h=>simp at h) rfl rfl ?_;clear H;intro BM a w aag H;obtain ⟨G54,amd,TY,H⟩:=H.eH;refine s_call sj H wn rfl (sD _ _ H.ro _ _ (GZ [dx (!tu x.name) 13,dx (decide (0 < (k:Int)) && (x.name.toList == y.name.toList)) 7,dx (decide (0 < (k:Int)) && Op.bytesLess x.name.toList y.name.toList) 6,DW x.value] TY (show 4≤maxLen by decide))) rfl ?_;clear H;rintro v55 _ a w ⟨rfl,rfl⟩ - H;refine kH H (Ra rfl ?_);clear H;intro a H;refine aD ⟨rfl,?_⟩;refine K2 _ _ ?_;clear K2;refine lr H results191 rfl ?_;exact H.rt (by rw [he];rfl)
 skip;refine dI hmx [[],[],[0,1],[0,1,2],(ra 0 4),(ra 0 5),(ra 0 6),(ra 0 7),[],[8],(ra 0 10),(ra 0 11),(ra 0 11),(ra 0 13),(ra 0 14),(ra 0 15),(ra 0 11),(ra 0 11),(ra 0 11++[17]),(ra 0 11++[17,18]),(ra 0 11++ra 16 4),(ra 0 11++ra 16 5),(ra 0 11++ra 16 6),(ra 0 23),(ra 0 24),(ra 0 25),[],[26],(ra 0 28),(ra 0 29),(ra 0 29),(ra 0 31),(ra 0 32),(ra 0 33),(ra 0 29),(ra 0 29),(ra 0 29++[35]),(ra 0 29++[35,36]),(ra 0 29++ra 34 4),(ra 0 29++ra 34 5),(ra 0 29++ra 34 6),(ra 0 41),(ra 0 42),(ra 0 43),[],[],[44,45],[44,45,46],(ra 44 4),(ra 0 49),(ra 0 50),(ra 0 51),(ra 0 52)] [50,51,52] (by kernel_rfl) [_,_,_,_,_,.bool (tu x.name),_,vi (dx (!tu x.name) 13),_,_,_,undef,undef,undef,undef,undef,undef,undef,undef,undef,undef,undef,undef,undef,.bool (decide (0 < (k:Int)) && (x.name.toList == y.name.toList)),vi (dx (decide (0 < (k:Int)) && (x.name.toList == y.name.toList)) 7),_,_,_,undef,undef,undef,undef,undef,undef,undef,undef,undef,undef,undef,undef,undef,.bool (decide (0 < (k:Int)) && Op.bytesLess x.name.toList y.name.toList),vi (dx (decide (0 < (k:Int)) && Op.bytesLess x.name.toList y.name.toList) 6),_,_,_,_,_,vi (DW x.value)] H (aF (X0 rfl fun hG=>Rg yZ rfl (aJ hG hb)) (Z0 rfl (Rm rfl)) (Z2 0 4 1 5 rfl (Ri wQ Bl rfl rfl)) (Z1 2 6 rfl (Rf I5 rfl)) (aF (X1 3 7 rfl fun hG=>Rg iM rfl (aJ hG (hrow 0 _ rfl))) ?_ (Z1 5 9 rfl (Rn rfl)) ?_ (aF (Z0 rfl (Rm rfl)) (Z1 8 12 rfl (Rc rfl)) (Z1 9 13 rfl (Rm rfl)) (aX 10 (aU c0) rfl rfl) (aF (aX 10 (aU c0) rfl rfl) (aX 10 (aU c0) rfl rfl) (aX 10 (aU c0) rfl rfl) (aX 10 (aU c0) rfl rfl) (aF (aX 10 (aU c0) rfl rfl) (aX 10 (aU c0) rfl rfl) (aX 10 (aU c0) rfl rfl) (aX 10 (aU c0) rfl rfl) (aF (aX 10 (aU c0) rfl rfl) (aX 10 (aU c0) rfl rfl) (aX 10 (aU c0) rfl rfl) (aX 10 (aU c0) rfl rfl) (aF ?_ ?_ (Z0 rfl (Rm rfl)) (Z1 26 30 rfl (Rc rfl)) (aF (Z1 27 31 rfl (Rm rfl)) (aX 28 (aU c0) rfl rfl) (aX 28 (aU c0) rfl rfl) (aX 28 (aU c0) rfl rfl) (aF (aX 28 (aU c0) rfl rfl) (aX 28 (aU c0) rfl rfl) (aX 28 (aU c0) rfl rfl) (aX 28 (aU c0) rfl rfl) (aF (aX 28 (aU c0) rfl rfl) (aX 28 (aU c0) rfl rfl) (aX 28 (aU c0) rfl rfl) (aX 28 (aU c0) rfl rfl) (aF (aX 28 (aU c0) rfl rfl) (aX 28 (aU c0) rfl rfl) ?_ ?_ (aF (X0 rfl fun hG=>Rg yZ rfl (aJ hG hb)) (Z0 rfl (Rm rfl)) (Z2 44 48 45 49 rfl (Ri wQ Bl rfl rfl)) (Z1 46 50 rfl (Rf Zy rfl)) (aF (X1 47 51 rfl fun hG=>Rg iM rfl (aJ hG (hrow 1 _ rfl))) ?_ (bQ rfl) (bQ rfl) (bM (bQ rfl) dz)))))))))))))) ?_
 ·refine eP 4 8 rfl rfl fun _ a w G1 hG HT H fin=>?_;refine s_call R8 H wn rfl (RI _ _ H.ro x.name hte.1) rfl ?_;clear H;rintro v9 G9 a w ⟨rfl,-⟩ TM H;exact fin H TM (rfl)
 ·refine eP 6 10 rfl rfl fun _ a w G1 hG HT H fin=>?_;refine s_call jR H wn rfl (jS _ _ H.ro _ 13) rfl ?_;clear H;rintro v11 tO a w ⟨rfl,-⟩ lW H;exact fin H lW (rfl)
 ·refine dK 10 14 23 27 rfl rfl fun _ a w G1 hG HT H fin=>?_;refine kH H (Pf (aU c0) rfl ?_);clear H;intro a H;exact fin H iJ (dO (by first|(rw [jB c0,Em];done)|(rw [kX c0,xZ];done)))
 ·refine eP 24 28 rfl rfl fun _ a w G1 hG HT H fin=>?_;refine s_call jR H wn rfl (jS _ _ H.ro _ 7) rfl ?_;clear H;rintro v29 G29 a w ⟨rfl,-⟩ TB H;exact fin H TB (rfl)
 ·refine dK 28 32 41 45 rfl rfl fun _ a w G1 hG HT H fin=>?_;refine kH H (Pf (aU c0) rfl ?_);clear H;intro a H;exact fin H iJ (dO (by first|(rw [jB c0,Em];done)|(rw [kX c0,xZ];done)))
 ·refine eP 42 46 rfl rfl fun _ a w G1 hG HT H fin=>?_;refine s_call jR H wn rfl (jS _ _ H.ro _ 6) rfl ?_;clear H;rintro v47 Np a w ⟨rfl,-⟩ TH H;exact fin H TH (rfl)
 ·refine eP 48 52 rfl rfl fun _ a w G1 hG HT H fin=>?_;refine s_call R7 H wn rfl (Ww _ _ H.ro x.value hte.2) rfl ?_;clear H;rintro v53 Xh a w rfl LA H;exact fin H LA (rfl)
 clear H;intro a w G nA H hv;have H:=H.aM (hv 7 11 rfl rfl) rfl;have H:=H.aM (hv 25 29 rfl rfl) rfl;have H:=H.aM (hv 43 47 rfl rfl) rfl;have H:=H.aM (hv 49 53 rfl rfl) rfl;clear hv;refine ig qU iy [_,_,_,_] [_,_,_,_] H wn rfl rfl rfl rfl rfl (by intro i q h;match i,h with|0,h=>exact h|1,h=>exact h|2,h=>exact h|3,h=>exact h|n+4,h=>simp at h) rfl rfl ?_;clear H;intro BM a w aag H;obtain ⟨G54,amd,TY,H⟩:=H.eH;refine s_call sj H wn rfl (sD _ _ H.ro _ _ (GZ [dx (!tu x.name) 13,dx (decide (0 < (k:Int)) && (x.name.toList == y.name.toList)) 7,dx (decide (0 < (k:Int)) && Op.bytesLess x.name.toList y.name.toList) 6,DW x.value] TY (show 4≤maxLen by decide))) rfl ?_;clear H;rintro v55 _ a w ⟨rfl,rfl⟩ - H;refine kH H (Ra rfl ?_);clear H;intro a H;refine aD ⟨rfl,?_⟩;refine K2 _ _ ?_;clear K2;refine lr H results191 rfl ?_;exact H.rt (by rw [he];rfl)
def NQ (l:List mq):Int:=dY [dx (decide (128 < (l.length:Int))) 9,kQ (J3 l) (min l.length 128)]
theorem afS (G:GH) (w0:World) (hG:Hold G w0) (l:List mq) (v:aj) (hv:av G (.sl 2 (l.map mq.dat)) v) (hl:l.length≤4294967296) (ht:∀ x∈l,x.name.size < 4611686018427387904∧x.value.size < 4611686018427387904) :
  Calls prog 122 #[v] w0 (bH w0 G fun u G'=>u=vi (NQ l)):=by
 obtain ⟨A,c,rfl,hc1,hc2,-⟩:=hv.slice;rw [aZ] at *;refine eN [(0,_)] func122 rfl ntmps122 rfl rfl hG ?_;intro a H;refine bZ (fun _ K1=>?_);refine dZ (cs:=[_]) H wn rfl rfl rfl ?_;clear H;intro b1 a w hb1 H;refine kH H (ak K1 rfl (SQ fun _ K2=>?_));clear H K1;intro a H;have H:=H.sub (T':=[(1,_)]) ⟨rfl,aC⟩;obtain ⟨Ga,hma,hb1',H⟩:=H.eH
 have hbl:aI Ga b1 0=some (.slice A l.length c):=by unfold aI;rw [hb1'];rfl
 have hcb:=asH hbl (hv.mono hma) hl ht;refine dI hmx [[],[0],[0,1],[0,1,2],[],[4],[4,5],[],(ra 0 8),(ra 0 9),(ra 0 10),(ra 0 11)] [9,10,11] (by kernel_rfl) [_,_,_,vi (dx (decide (128 < (l.length:Int))) 9),_,_,vi ((min l.length 128:Nat):Int),.func (.func 191) #[] #[(aK b1 0)],vi (kQ (J3 l) (min l.length 128))] H (aF (X0 rfl fun hG=>Rg yZ rfl (aJ hG hbl)) (Z1 0 3 rfl (Rl wQ rfl)) (Z1 1 4 rfl (Rc rfl)) ?_ (aF (X0 rfl fun hG=>Rg yZ rfl (aJ hG hbl)) (Z1 4 7 rfl (Rl wQ rfl)) ?_ ?_ (aF ?_ (bQ rfl) (bQ rfl) (bQ rfl) dz))) ?_
 ·refine eP 2 5 rfl rfl fun _ a w G1 hG HT H fin=>?_;refine s_call jR H wn rfl (jS _ _ H.ro _ 9) rfl ?_;clear H;rintro v6 G6 a w ⟨rfl,-⟩ iU H;exact fin H iU (rfl)
 ·refine eP 5 8 rfl rfl fun _ a w G1 hG HT H fin=>?_;refine Qb H wn rfl rfl rfl ?_;clear H;intro a H;exact fin H iJ (aB vi (by omega))
 ·refine CU rfl fun _ a w G1 hG HT H fin=>?_;refine oQ H wn rfl rfl ?_;clear H;intro a H;exact fin H iJ rfl
 ·refine dK 6 9 7 10 rfl rfl fun _ a w G1 hG HT H fin=>?_;refine s_call IZ H wn rfl (Kt _ _ H.ro (min l.length 128) (J3 l) _ (by omega) ((hcb.mono hG).le (Nat.min_le_left _ _))) rfl ?_;clear H;rintro v11 tO a w rfl lW H;exact fin H lW (rfl)
 clear H;intro a w G nA H hv;have H:=H.aM (hv 3 6 rfl rfl) rfl;have H:=H.aM (hv 8 11 rfl rfl) rfl;clear hv;refine ig qU iy [_,_] [_,_] H wn rfl rfl rfl rfl rfl (by intro i q h;match i,h with|0,h=>exact h|1,h=>exact h|n+2,h=>simp at h) rfl rfl ?_;clear H;intro b12 a w Gw H;obtain ⟨D9,Dq,Gx,H⟩:=H.eH;refine s_call sj H wn rfl (sD _ _ H.ro _ _ (zR Gx)) rfl ?_;clear H;rintro v13 _ a w ⟨rfl,rfl⟩ - H;refine kH H (Ra rfl ?_);clear H;intro a H;refine aD ⟨rfl,?_⟩;refine K2 _ _ ?_;clear K2;refine lr H results122 rfl ?_;exact H.rt rfl
structure BH where
 styles:List cu
 lists:List fK
 comments:List iT
 vars:List mq
structure Ab (G:GH) (s:BH) (a b c d:aj):Prop where
 st:av G (.sl 6 (s.styles.map cu.dat)) a
 li:av G (.sl 2 (s.lists.map fK.dat)) b
 cm:av G (.sl 6 (s.comments.map iT.dat)) c
 va:av G (.sl 2 (s.vars.map mq.dat)) d
structure Q7 (s:BH):Prop where
 sn:∀ x∈s.styles,x.name.size≤4611686018427387904
 ln:s.lists.length≤4294967296
 lt:∀ x∈s.lists,∀ y∈x.levels,y.Bh.size < 4611686018427387904
 cn:s.comments.length≤4294967296
 ct:∀ x∈s.comments,x.author.size < 4611686018427387904∧x.text.size < 4611686018427387904
 vn:s.vars.length≤4294967296
 vt:∀ x∈s.vars,x.name.size < 4611686018427387904∧x.value.size < 4611686018427387904
 pl:∀ x∈s.styles,x.props.length≤4294967296
 ll:∀ x∈s.lists,x.levels.length≤4294967296
def KC (s:BH):Int:=dY [gZ s.styles,KA s.lists,NP s.comments,NQ s.vars]
theorem afR (G:GH) (w0:World) (hG:Hold G w0) (s:BH) (a b c d:aj) (hR:Ab G s a b c d) (hz:Q7 s) :
  Calls prog 67 #[.agg #[a,b,c,d]] w0 (bH w0 G fun u G'=>u=vi (KC s)):=by
 obtain ⟨sA,sn,sc,rfl⟩:=hR.st.form;obtain ⟨lA,ln,lc,rfl⟩:=hR.li.form;obtain ⟨cA,cn,cc,rfl⟩:=hR.cm.form;obtain ⟨vA,vn,vc,rfl⟩:=hR.va.form;refine eN [(0,_)] func67 rfl ntmps67 rfl rfl hG ?_;intro a H;refine bZ (fun _ K1=>?_);refine dZ (cs:=[_,_,_,_]) H wn rfl rfl rfl ?_;clear H;intro b1 a w hb1 H;refine kH H (ak K1 rfl (SQ fun _ K2=>?_));clear H K1;intro a H;have H:=H.sub (T':=[(1,_)]) ⟨rfl,aC⟩;obtain ⟨Ga,hma,hb1',H⟩:=H.eH
 have hc0:aI Ga b1 0=some (.slice sA sn sc):=by unfold aI;rw [hb1'];rfl
 have hc1:aI Ga b1 1=some (.slice lA ln lc):=by unfold aI;rw [hb1'];rfl
 have hc2:aI Ga b1 2=some (.slice cA cn cc):=by unfold aI;rw [hb1'];rfl
 have hc3:aI Ga b1 3=some (.slice vA vn vc):=by unfold aI;rw [hb1'];rfl
 refine dI hmx [[],[0],[0,1],[],[3],(ra 0 5),[],[6],(ra 0 8),[],[9],(ra 0 11),(ra 0 12),(ra 0 13),(ra 0 14)] [12,13,14] (by kernel_rfl) [_,_,vi (gZ s.styles),_,_,vi (KA s.lists),_,_,vi (NP s.comments),_,_,vi (NQ s.vars)] H (aF (Z0 rfl (Rf FY rfl)) (X1 0 3 rfl fun hG=>Rg rR rfl (aJ hG hc0)) ?_ (Z0 rfl (Rf FZ rfl)) (aF (X1 3 6 rfl fun hG=>Rg Bo rfl (aJ hG hc1)) ?_ (Z0 rfl (Rf Sz rfl)) (X1 6 9 rfl fun hG=>Rg Fh rfl (aJ hG hc2)) (aF ?_ (Z0 rfl (Rf SA rfl)) (X1 9 12 rfl fun hG=>Rg yZ rfl (aJ hG hc3)) ?_ (bM (bQ rfl) (bM (bQ rfl) (bM (bQ rfl) dz)))))) ?_
 ·refine eP 1 4 rfl rfl fun _ a w G1 hG HT H fin=>?_;refine s_call ahl H wn rfl (afU _ _ H.ro s.styles _ ((hR.st.mono hma).mono hG) hz.sn) rfl ?_;clear H;rintro v5 G5 a w rfl mR H;exact fin H mR (rfl)
 ·refine eP 4 7 rfl rfl fun _ a w G1 hG HT H fin=>?_;refine s_call ahm H wn rfl (afP _ _ H.ro s.lists _ ((hR.li.mono hma).mono hG) hz.ln hz.lt) rfl ?_;clear H;rintro v8 G8 a w rfl ql H;exact fin H ql (rfl)
 ·refine eP 7 10 rfl rfl fun _ a w G1 hG HT H fin=>?_;refine s_call ahn H wn rfl (afN _ _ H.ro s.comments _ ((hR.cm.mono hma).mono hG) hz.cn hz.ct) rfl ?_;clear H;rintro v11 tO a w rfl lW H;exact fin H lW (rfl)
 ·refine eP 10 13 rfl rfl fun _ a w G1 hG HT H fin=>?_;refine s_call aho H wn rfl (afS _ _ H.ro s.vars _ ((hR.va.mono hma).mono hG) hz.vn hz.vt) rfl ?_;clear H;rintro v14 ze a w rfl Dg H;exact fin H Dg (rfl)
 clear H;intro a w G nA H hv;have H:=H.aM (hv 2 5 rfl rfl) rfl;have H:=H.aM (hv 5 8 rfl rfl) rfl;have H:=H.aM (hv 8 11 rfl rfl) rfl;have H:=H.aM (hv 11 14 rfl rfl) rfl;clear hv;refine ig qU iy [_,_,_,_] [_,_,_,_] H wn rfl rfl rfl rfl rfl (by intro i q h;match i,h with|0,h=>exact h|1,h=>exact h|2,h=>exact h|3,h=>exact h|n+4,h=>simp at h) rfl rfl ?_;clear H;intro b15 a w aae H;obtain ⟨CO,sI,ald,H⟩:=H.eH;refine s_call sj H wn rfl (sD _ _ H.ro _ _ (GZ [gZ s.styles,KA s.lists,NP s.comments,NQ s.vars] ald (show 4≤maxLen by decide))) rfl ?_;clear H;rintro v16 _ a w ⟨rfl,rfl⟩ - H;refine kH H (Ra rfl ?_);clear H;intro a H;refine aD ⟨rfl,?_⟩;refine K2 _ _ ?_;clear K2;refine lr H results67 rfl ?_;exact H.rt rfl
section
def iV:Nat→List (Int × aj)→List MapEntry
 | _,[]=>[]
 | i,(k,v) :: r=>⟨.int .i64 k,v,i⟩ :: iV (i+1) r
theorem abM (x:Int × aj):∀ (i:Nat) (l:List (Int × aj)),iV i (l++[x])=iV i l++[⟨.int .i64 x.1,x.2,i+l.length⟩]
 | _,[]=>rfl
 | i,k :: r=>by
  rw [lD,iV,abM x (i+1) r,iV,lD,kW,show i+1+r.length=i+(r.length+1) by omega]
def vI (x:Int):List (Int × aj)→Option aj
 | []=>none
 | (k,v) :: r=>if k=x then some v else vI x r
theorem Mw {x:Int}:∀ {l:List (Int × aj)},x∉l.map (·.1)→vI x l=none
 | [],_=>rfl
 | (k,v) :: r,h=>by
  rw [vI,ah (fun e=>h (by simp [e])),Mw (fun hm=>h (iO _ hm))]
theorem SG (x:Int):∀ (i j:Nat) (l:List (Int × aj)),∃ an,Instr.findNow (.int .i64) (.int .i64 x) (iV i l) j=some an∧an.map (·.2)=vI x l
 | _,_,[]=>⟨none,rfl,rfl⟩
 | i,j,(k,v) :: r=>by
  obtain ⟨an,h1,h2⟩:=SG x (i+1) (j+1) r
  by_cases e:k=x
  ·subst e
   exact ⟨some (j,v),by simp only [iV,Instr.findNow,Instr.sameNow,au,beq_self_eq_true],by rw [vI,au rfl];rfl⟩
  ·have hb:(x == k)=false:=by simp;exact fun h=>e h.symm
   exact ⟨an,by simpa only [iV,Instr.findNow,Instr.sameNow,au,hb] using h1,by rw [vI,ah e];exact h2⟩
abbrev fF (l:List (Int × aj)):Obj:=.map (iV 0 l).toArray l.length
section
variable {N:Nat} {D:List Deferred} {w0:World} {F:Nat→Prop} {G0 G:GH} {L:OL} {T:List (Nat × aj)}
variable {r:Option Nat} {P:Program} {ops:Array Oper} {Q:Exit→Act→World→Prop} {rest:List Oper} {a:Act} {w:World}
variable {d:Nat} {ty:TypeId} {pos:String} {aL:Array Edge} {g:Option (Nat × Bool)}
theorem Bg {t kt et:TypeId} {x y:Operand} {b:Nat} {l:List (Int × aj)} {ky:Int} {zv:aj} (hm:P.underlying t=some (.map kt et)) (hk:P.underlying kt=some (.int .i64)) (hz:(P.info? et).map (fun i=>i.zero)=some (some zv)) (H:St N D w0 F G0 G L T a w)
  (hw:Region.wanted ⟨some d,.lookup t x y false,ty,pos,aL,g⟩ (yielded ops a.tmps)=true) (hx:ev T x=some (.map (some b))) (hy:ev T y=some (.int .i64 ky)) (hb:w.heap[b]?=some (fF l)) (hd:Nat.blt d N=true)
  (k:∀ a',St N D w0 F G0 G L ((d,(vI ky l).getD zv) :: T) a' w→WL r P ops Q rest a' w):WL r P ops Q (⟨some d,.lookup t x y false,ty,pos,aL,g⟩ :: rest) a w:=by
 obtain ⟨an,hf,han⟩:=SG ky 0 0 l
 obtain ⟨inf,hi1,hi2⟩:=qg.1 hz
 refine fP (v:=(vI ky l).getD zv) (w':=w) hw rfl ?_ (k _ (H.put hd _ H.hp))
 have hkey:MapKept.IsKey (.int .i64) (.int .i64 ky):=by trivial
 have hf2:Instr.findNow (.int .i64) (.int .i64 ky) (iV 0 l).toArray.toList 0=some an:=by simpa using hf
 replace hb:w.heap[b]?=some (.map (iV 0 l).toArray l.length):=hb
 generalize (iV 0 l).toArray=es at hb hf2
 have h1:=MapKept.run_checkKey (P:=P) (w:=w) hk hkey es.isEmpty 9999
 have h2:=MapKept.run_findKey (P:=P) (w:=w) hk hf2
 rw [← han]
 cases an with
 | none=>simp [execOp,Instr.lookup,H.ev hx,H.ev hy,dX,mZ hm,MapKept.run_getObj_map hb,h1,h2,Result.andThen,zeroValue,E8 hi1,hi2]
 | some q=>simp [execOp,Instr.lookup,H.ev hx,H.ev hy,dX,mZ hm,MapKept.run_getObj_map hb,h1,h2,Result.andThen]
theorem MK {t kt et:TypeId} {x y z:Operand} {b i:Nat} {l:List (Int × aj)} {ky:Int} {v:aj} (hm:P.underlying t=some (.map kt et)) (hk:P.underlying kt=some (.int .i64)) (H:St N D w0 F G0 G L T a w)
  (hw:Region.wanted ⟨none,.mapUpdate t x y z,ty,pos,aL,g⟩ (yielded ops a.tmps)=true) (hx:ev T x=some (.map (some b))) (hy:ev T y=some (.int .i64 ky)) (hzv:ev T z=some v) (hi:L[i]?=some (b,fF l)) (hn:vI ky l=none)
  (k:∀ w',St N D w0 F G0 G (L.set i (b,fF (l++[(ky,v)]))) T a w'→WL r P ops Q rest a w'):WL r P ops Q (⟨none,.mapUpdate t x y z,ty,pos,aL,g⟩ :: rest) a w:=by
 obtain ⟨an,hf,han⟩:=SG ky 0 0 l
 have hnone:an=none:=by
  rw [hn] at han
  cases an with
  | none=>rfl
  | some q=>cases han
 subst hnone
 refine ade (i:=i) hm hk H hw hx hy hzv hi (by trivial) (by simpa using hf) ?_
 intro w' H'
 have e:(iV 0 l).toArray.push ⟨.int .i64 ky,v,l.length⟩=(iV 0 (l++[(ky,v)])).toArray:=by
  rw [abM,List.push_toArray,gJ]
 refine k w' ?_
 rw [e] at H'
 rw [fF,iN]
 exact H'
end
end
theorem xR:prog.underlying 131=some (.map 3 4):=by kernel_rfl
theorem oU:Ty prog 102 3 32 [.int .i64 0,.string ⟨#[]⟩,.int .i64 0] true:=⟨by kernel_rfl,by kernel_rfl⟩
theorem arN:qd prog 133 [(0,1),(1,1),(2,1),(3,1),(4,1),(5,1)] [.map none,.map none,.map none,.map none,.map none,.int .i64 0]:=⟨by kernel_rfl,by kernel_rfl⟩
theorem La:dN prog 38 3 7:=⟨by kernel_rfl⟩
theorem KV:dN prog 133 0 0:=⟨by kernel_rfl⟩
theorem MP:Ty prog 130 1 8 [.map none] false:=⟨by kernel_rfl,by kernel_rfl⟩
theorem ZA:dN prog 133 1 1:=⟨by kernel_rfl⟩
theorem uN:Ty prog 131 1 8 [.map none] false:=⟨by kernel_rfl,by kernel_rfl⟩
theorem Ev:dN prog 38 2 6:=⟨by kernel_rfl⟩
theorem yY:Ty prog 30 1 24 [.slice none 0 0] false:=⟨by kernel_rfl,by kernel_rfl⟩
theorem pW:prog.underlying 30=some (.slice 102):=by kernel_rfl
theorem KW:dN prog 133 2 2:=⟨by kernel_rfl⟩
theorem Sr:dN prog 102 0 0:=⟨by kernel_rfl⟩
structure dh where
 id:Int
 author:ByteArray
 time:Int
def dh.dat (x:dh):List Dat:=[li x.id,.lf (.string x.author),li x.time]
abbrev dh.cells (x:dh):List aj:=[vi x.id,.string x.author,vi x.time]
theorem V6 {G:GH} {x:dh} {cs:List aj} (h:aR G x.dat cs):cs=x.cells:=by
 simp only [dh.dat,aR,av] at h
 obtain ⟨_,_,rfl,⟨rfl,_⟩,_,_,rfl,⟨rfl,_⟩,_,_,rfl,⟨rfl,_⟩,rfl⟩:=h
 rfl
theorem V5 {G:GH} {l:List dh} {A:Option Addr} {n c k:Nat} (hv:av G (.sl 3 (l.map dh.dat)) (.slice A n c)) (hk:k < l.length):∃ b o,A=some ⟨b,o,none⟩∧(∀ j u,l[k].cells[j]?=some u→aI G b (o+k*3+j)=some u):=by
 obtain ⟨A',c',he,_,_,hg⟩:=hv.slice
 injection he with e1 e2 e3
 subst e1;obtain ⟨b,o,cs,h1,h2,h3,h4⟩:=hg k l[k].dat (by simp [hk]);have:=V6 h4;subst this;exact ⟨b,o,h1,h3⟩
abbrev gI (b ms ml mr mb mu:Nat) (n:Int):Nat × Obj:=(b,.cells #[.map (some ms),.map (some ml),.map (some mr),.map (some mb),.map (some mu),vi n] 133 (0,0))
def AZ (l:List cu):List (Int × aj):=l.map fun s=>(s.id,vi s.kind)
def fV (l:List Int):List (Int × aj):=l.map fun k=>(k,.bool true)
structure wR (us:List Int) (G:GH) (st:List cu) (li:List fK) (rv:List dh) (ms ml mr mu:Nat):Prop where
 sty:G ms=some (fF (AZ st))
 wI:G ml=some (fF (fV (li.map fK.id)))
 rev:G mr=some (fF (fV (rv.map dh.id)))
 use:G mu=some (fF (fV us))
theorem wR.mono {us:List Int} {G G':GH} {st:List cu} {li:List fK} {rv:List dh} {ms ml mr mu:Nat} (h:wR us G st li rv ms ml mr mu) (hm:∀ b o,G b=some o→G' b=some o):wR us G' st li rv ms ml mr mu:=⟨hm _ _ h.sty,hm _ _ h.wI,hm _ _ h.rev,hm _ _ h.use⟩
structure QD (G:GH) (st:List cu) (li:List fK) (rv:List dh) (ms ml mr:Nat):Prop where
 sty:G ms=some (fF (AZ st))
 wI:G ml=some (fF (fV (li.map fK.id)))
 rev:G mr=some (fF (fV (rv.map dh.id)))
theorem QD.with {us:List Int} {G G':GH} {st:List cu} {li:List fK} {rv:List dh} {ms ml mr mu:Nat} (h:QD G st li rv ms ml mr) (hm:∀ b o,G b=some o→G' b=some o) (hu:G' mu=some (fF (fV us))):wR us G' st li rv ms ml mr mu:=⟨hm _ _ h.sty,hm _ _ h.wI,hm _ _ h.rev,hu⟩
def CJ (l:List Int):Prop:=∀ (k:Nat) (h:k < l.length),l[k]∉l.take k
theorem aoa {l:List cu} {k:Nat} (h:k < l.length):AZ (l.take (k+1))=AZ (l.take k)++[(l[k].id,vi l[k].kind)]:=by rw [AZ,iH h,kY];rfl
theorem abJ {l:List Int} {k:Nat} (h:k < l.length):fV (l.take (k+1))=fV (l.take k)++[(l[k],.bool true)]:=by rw [fV,iH h,kY];rfl
theorem anZ {l:List cu} {k:Nat} (f:CJ (l.map cu.id)) (h:k < l.length):vI l[k].id (AZ (l.take k))=none:=by
 refine Mw ?_;have:=f k (by simpa using h)
 simpa [AZ,List.map_take,List.map_map,Function.comp_def] using this
theorem abI {l:List Int} {k:Nat} (f:CJ l) (h:k < l.length):vI l[k] (fV (l.take k))=none:=by
 refine Mw ?_;have:=f k h
 simpa [fV,List.map_map,Function.comp_def] using this
theorem aor (G:GH) (w0:World) (hO:gL G [] w0) (D:jM) (st:List cu) (li:List fK) (rv:List dh) (hst:av G (.sl 6 (st.map cu.dat)) (cK D.s1)) (LQ:av G (.sl 2 (li.map fK.dat)) (cK D.s2)) (pQ:av G (.sl 3 (rv.map dh.dat)) (cK D.r))
  (f1:CJ (st.map cu.id)) (f2:CJ (li.map fK.id)) (f3:CJ (rv.map dh.id)) (z1:st.length≤4294967296) (z2:li.length≤4294967296) (z3:rv.length≤4294967296) :
  Calls prog 69 #[D.val] w0 (gy w0 G [] fun u G' L'=>∃ b ms ml mr mb mu,u=(aK b 0)∧L'=[gI b ms ml mr mb mu 0,(mb,fF []),(mu,fF [])]∧QD G' st li rv ms ml mr):=by
 obtain ⟨df,dp,dd,dy,⟨rA,rn,rc⟩,⟨sA,sn,sc⟩,⟨lA,ln,lc⟩,d3,d4,ins,mv⟩:=D;dsimp only at hst LQ pQ
 obtain rfl:sn=st.length:=by have:=hst.len;simpa using this
 obtain rfl:ln=li.length:=by have:=LQ.len;simpa using this
 obtain rfl:rn=rv.length:=by have:=pQ.len;simpa using this
 have hml:maxLen=9223372036854775807:=rfl;refine iY (N:=64) (T:=[(0,_)]) func69 rfl ntmps69 rfl rfl hO ?_;intro a H;refine bZ (fun _ K1=>?_);refine dZ (cs:=[_,_,_,_,_,_,_,_,_,_,_]) H wn rfl rfl rfl ?_;clear H;intro b1 a w hb1 H;refine kH H (ak K1 rfl (SQ fun _ K2=>?_));clear H K1;intro a H;obtain ⟨Ga,hma,hb1',H⟩:=H.eH
 have hc7:aI Ga b1 7=some (.slice sA st.length sc):=by unfold aI;rw [hb1'];rfl
 have hc8:aI Ga b1 8=some (.slice lA li.length lc):=by unfold aI;rw [hb1'];rfl
 have hc6:aI Ga b1 6=some (.slice rA rv.length rc):=by unfold aI;rw [hb1'];rfl
 replace hst:=hst.mono hma;replace LQ:=LQ.mono hma;replace pQ:=pQ.mono hma;refine mP ?_;refine H6 H wn rfl ?_;clear H;intro b10 a w TV H;refine H6 H wn rfl ?_;clear H;intro b11 a w BX H;refine H6 H wn rfl ?_;clear H;intro b12 a w Gw H;refine H6 H wn rfl ?_;clear H;intro b13 a w OA H;refine H6 H wn rfl ?_;clear H;intro b14 a w aad H;refine jv arN [_,_,_,_,_,_] H wn rfl rfl rfl rfl ?_;clear H;intro a H;refine dZ (cs:=[_,_,_,_,_,_]) H wn rfl rfl rfl ?_;clear H;intro b16 a w ale H;refine kH H (bC K2 rfl (SQ fun _ K3=>SR fun _ K4=>Rf La rfl (Rf FY rfl (Rg rR rfl (by assumption) ?_))));clear H K2;intro a H;refine kH H (Rl mg rfl (Rm rfl (Kz K4 (SB ?_))));clear H K4;intro a H;skip;refine fH (ι:=Nat × GH) (Tc:=[(1,_),(3,_),(19,_),(20,_)]) (Lc:=[(_,_),(_,_),(_,_),(_,_),(_,_)]) (fun gh=>[(21,vi gh.1)]) (fun gh=>[(b10,fF (AZ (st.take gh.1)))]) (fun gh=>gh.2) (fun gh=>gh.1≤st.length∧(∀ b o,Ga b=some o→gh.2 b=some o)) (fun gh=>st.length - gh.1) ((0,Ga)) (by exact (H).sub ⟨rfl,rfl,rfl,rfl,rfl,aC⟩) ?_ ?_
 ·exact ⟨gY _,fun _ _ h=>h⟩
 clear H;rintro ⟨k,g1⟩ a w hI H;dsimp only at hI H;obtain ⟨hk,Js⟩:=hI;dsimp only [lca,bq] at H;refine kP H (SR fun _ K5=>Rc rfl (Kz K5 (SQ fun _ K6=>Cd rfl ?_ ?_))) <;> clear H K5
 ·intro h22 a H
  try have iZ:=dT h22
  have hk2:k < st.length:=by omega
  obtain ⟨xb,xo,pA,pc,rfl,hrow,-,-⟩:=DU (hst.mono Js) hk2;have hnew:=anZ f1 hk2;refine kP H (Kc K6 (SQ fun _ K7=>SB (SR fun _ K8=>Ri mg kE rfl rfl ?_)));clear H K6;intro a H;refine bB kE (cs:=_) H wn rfl rfl (fun j v hj=>H.hp.aI (hrow j v hj)) rfl ?_;clear H;intro a H;refine dB kE H wn rfl ?_;clear H;intro b5 a w hb5 H;refine aY kE 0 (vs:=[_,_,_,_,_,_]) _ H wn rfl rfl rfl rfl rfl rfl rfl rfl ?_;clear H;intro w H;dsimp only [List.set,setRow] at H;refine K8 _ _ ?_;clear K8;refine dI hmx [[],[0],[0,1],[0,1,2],[],[4],[],[6],(ra 0 8)] [8] (by kernel_rfl) [_,_,_,.map (some b10),_,vi st[k].id,_,vi st[k].kind] H (aF (Z0 rfl (Rm rfl)) (Z1 0 25 rfl (Rk rfl)) (Z1 1 26 rfl (Rf KV rfl)) (Z1 2 27 rfl (Ro MP 1 rfl)) (aF (Z0 rfl (Rf xu rfl)) (Z1 4 29 rfl (Ro aH 0 rfl)) (Z0 rfl (Rf zx rfl)) (Z1 6 31 rfl (Ro aH 0 rfl)) (bM (bQ rfl) dz))) ?_
  clear H;intro a w G mR H hv;have H:=H.aM (hv 3 28 rfl rfl) rfl;have H:=H.aM (hv 5 30 rfl rfl) rfl;have H:=H.aM (hv 7 32 rfl rfl) rfl;clear hv;refine MK (i:=6) Ie lJ H wn rfl rfl rfl rfl hnew ?_;clear H;intro w H;dsimp only [List.set,List.append,lca,bq] at H;rw [← aoa hk2] at H;refine aD ⟨rfl,?_⟩;refine K7 _ _ ?_;clear K7;refine kP H (SC (Rd rfl (Rm rfl ?_)));clear H;intro a H;refine aD ?_;refine dM ((k+1,G)) (by exact (H.dG (Pl:=[_,_,_,_,_,_,_]) (cZ:=[_,_,_,_,_,_]) [1,2,3,4,5,6] (by decide) rfl).sub ⟨rfl,rfl,rfl,rfl,rfl,aC⟩) ?_
  (try dsimp only);exact ⟨by omega,fun b o h=>mR b o (Js b o h)⟩
 intro h22 a H
 try have iZ:=dF h22
 obtain rfl:k=st.length:=by omega
 rw [tX] at H;have atW:=aJ Js hc8;refine eu ?_;refine K3 _ _ ?_;clear K3;refine kP H (SQ fun _ K9=>SR fun _ aW=>Rf La rfl (Rf FZ rfl (Rg Bo rfl (by assumption) ?_)));clear H;intro a H;refine kH H (Rl xS rfl (Rm rfl (Kz aW (SB ?_))));clear H aW;intro a H;skip;refine fH (ι:=Nat × GH) (Tc:=[(1,_),(3,_),(36,_),(37,_)]) (Lc:=[(_,_),(_,_),(_,_),(_,_),(_,_)]) (fun gh=>[(38,vi gh.1)]) (fun gh=>[(b11,fF (fV ((li.map fK.id).take gh.1)))]) (fun gh=>gh.2) (fun gh=>gh.1≤li.length∧(∀ b o,g1 b=some o→gh.2 b=some o)) (fun gh=>li.length - gh.1) ((0,g1)) (by exact (H.dG (Pl:=[_,_,_,_,_,_]) (cZ:=[_,_,_,_,_,_]) [0,1,2,3,5,4] (by decide) rfl).sub ⟨rfl,rfl,rfl,rfl,rfl,aC⟩) ?_ ?_
 ·exact ⟨gY _,fun _ _ h=>h⟩
 clear H;rintro ⟨k,g2⟩ a w hI H;dsimp only at hI H;obtain ⟨hk,OW⟩:=hI;dsimp only [lca,bq] at H;refine kP H (SR fun _ bO=>Rc rfl (Kz bO (SQ fun _ bW=>Cd rfl ?_ ?_))) <;> clear H bO
 ·intro jq a H
  try have p39:=dT jq
  have hk2:k < li.length:=by omega
  obtain ⟨xb,xo,B,d,rfl,hrow,-⟩:=Vo ((LQ.mono Js).mono OW) hk2
  have hk3:k < (li.map fK.id).length:=by simpa using hk2
  have hnew:=abI f2 hk3
  have qo:(li.map fK.id)[k]=li[k].id:=by simp
  rw [qo] at hnew;refine kP H (Kc bW (SQ fun _ cB=>SB (SR fun _ dw=>Ri xS Bq rfl rfl ?_)));clear H bW;intro a H;refine bB Bq (cs:=_) H wn rfl rfl (fun j v hj=>H.hp.aI (hrow j v hj)) rfl ?_;clear H;intro a H;refine dB Bq H wn rfl ?_;clear H;intro b7 a w zC H;refine aY Bq 0 (vs:=[_,_]) _ H wn rfl rfl rfl rfl rfl rfl rfl rfl ?_;clear H;intro w H;dsimp only [List.set,setRow] at H;refine dw _ _ ?_;clear dw;refine dI hmx [[],[0],[0,1],[0,1,2],[],[4],(ra 0 6)] [6] (by kernel_rfl) [_,_,_,.map (some b11),_,vi li[k].id] H (aF (Z0 rfl (Rm rfl)) (Z1 0 42 rfl (Rk rfl)) (Z1 1 43 rfl (Rf ZA rfl)) (Z1 2 44 rfl (Ro uN 1 rfl)) (bM (Z0 rfl (Rf ZF rfl)) (bM (Z1 4 46 rfl (Ro aH 0 rfl)) (bM (bQ rfl) dz)))) ?_
  clear H;intro a w G ru H hv;have H:=H.aM (hv 3 45 rfl rfl) rfl;have H:=H.aM (hv 5 47 rfl rfl) rfl;clear hv;refine MK (i:=6) xR lJ H wn rfl rfl rfl rfl hnew ?_;clear H;intro w H;dsimp only [List.set,List.append,lca,bq] at H;rw [← qo,← abJ hk3] at H;refine aD ⟨rfl,?_⟩;refine cB _ _ ?_;clear cB;refine kP H (SC (Rd rfl (Rm rfl ?_)));clear H;intro a H;refine aD ?_;refine dM ((k+1,G)) (by exact (H.dG (Pl:=[_,_,_,_,_,_,_]) (cZ:=[_,_,_,_,_,_]) [1,2,3,4,5,6] (by decide) rfl).sub ⟨rfl,rfl,rfl,rfl,rfl,aC⟩) ?_
  (try dsimp only);exact ⟨by omega,fun b o h=>ru b o (OW b o h)⟩
 intro jq a H
 try have p39:=dF jq
 obtain rfl:k=li.length:=by omega
 rw [iX (by simp)] at H;have atV:=aJ OW (aJ Js hc6);refine eu ?_;refine K9 _ _ ?_;clear K9;refine kP H (SQ fun _ dR=>SR fun _ dW=>Rf Ev rfl (Rg yY rfl (by assumption) ?_));clear H;intro a H;refine kH H (Rl pW rfl (Rm rfl (Kz dW (SB ?_))));clear H dW;intro a H;skip;refine fH (ι:=Nat × GH) (Tc:=[(3,_),(50,_),(51,_)]) (Lc:=[(_,_),(_,_),(_,_),(_,_),(_,_)]) (fun gh=>[(52,vi gh.1)]) (fun gh=>[(b12,fF (fV ((rv.map dh.id).take gh.1)))]) (fun gh=>gh.2) (fun gh=>gh.1≤rv.length∧(∀ b o,g2 b=some o→gh.2 b=some o)) (fun gh=>rv.length - gh.1) ((0,g2)) (by exact (H.dG (Pl:=[_,_,_,_,_,_]) (cZ:=[_,_,_,_,_,_]) [0,1,2,4,5,3] (by decide) rfl).sub ⟨rfl,rfl,rfl,rfl,aC⟩) ?_ ?_
 ·exact ⟨gY _,fun _ _ h=>h⟩
 clear H;rintro ⟨k,g3⟩ a w hI H;dsimp only at hI H;obtain ⟨hk,aaE⟩:=hI;dsimp only [lca,bq] at H;refine kP H (SR fun _ dU=>Rc rfl (Kz dU (SQ fun _ eG=>Cd rfl ?_ ?_))) <;> clear H dU
 ·intro Aq a H
  try have p53:=dT Aq
  have hk2:k < rv.length:=by omega
  obtain ⟨xb,xo,rfl,hrow⟩:=V5 (((pQ.mono Js).mono OW).mono aaE) hk2
  have hk3:k < (rv.map dh.id).length:=by simpa using hk2
  have hnew:=abI f3 hk3
  have qo:(rv.map dh.id)[k]=rv[k].id:=by simp
  rw [qo] at hnew;refine kP H (Kc eG (SQ fun _ gu=>SB (SR fun _ fC=>Ri pW oU rfl rfl ?_)));clear H eG;intro a H;refine bB oU (cs:=_) H wn rfl rfl (fun j v hj=>H.hp.aI (hrow j v hj)) rfl ?_;clear H;intro a H;refine dB oU H wn rfl ?_;clear H;intro b9 a w zD H;refine aY oU 0 (vs:=[_,_,_]) _ H wn rfl rfl rfl rfl rfl rfl rfl rfl ?_;clear H;intro w H;dsimp only [List.set,setRow] at H;refine fC _ _ ?_;clear fC;refine dI hmx [[],[0],[0,1],[0,1,2],[],[4],(ra 0 6)] [6] (by kernel_rfl) [_,_,_,.map (some b12),_,vi rv[k].id] H (aF (Z0 rfl (Rm rfl)) (Z1 0 56 rfl (Rk rfl)) (Z1 1 57 rfl (Rf KW rfl)) (Z1 2 58 rfl (Ro uN 1 rfl)) (bM (Z0 rfl (Rf Sr rfl)) (bM (Z1 4 60 rfl (Ro aH 0 rfl)) (bM (bQ rfl) dz)))) ?_
  clear H;intro a w G Dh H hv;have H:=H.aM (hv 3 59 rfl rfl) rfl;have H:=H.aM (hv 5 61 rfl rfl) rfl;clear hv;refine MK (i:=6) xR lJ H wn rfl rfl rfl rfl hnew ?_;clear H;intro w H;dsimp only [List.set,List.append,lca,bq] at H;rw [← qo,← abJ hk3] at H;refine aD ⟨rfl,?_⟩;refine gu _ _ ?_;clear gu;refine kP H (SC (Rd rfl (Rm rfl ?_)));clear H;intro a H;refine aD ?_;refine dM ((k+1,G)) (by exact (H.dG (Pl:=[_,_,_,_,_,_,_]) (cZ:=[_,_,_,_,_,_]) [1,2,3,4,5,6] (by decide) rfl).sub ⟨rfl,rfl,rfl,rfl,aC⟩) ?_
  (try dsimp only);exact ⟨by omega,fun b o h=>Dh b o (aaE b o h)⟩
 intro Aq a H
 try have p53:=dF Aq
 obtain rfl:k=rv.length:=by omega
 rw [iX (by simp)] at H;refine eu ?_;refine dR _ _ ?_;clear dR;refine kP H (SR fun _ gH=>Rm rfl (ak gH rfl ?_));clear H gH;intro a H;refine bS ?_;have H:=H.dG (Pl:=[_,_,_,_,_,_]) (cZ:=[_,_,_,_,_,_]) [3,4,5,0,2,1] (by decide) rfl;obtain ⟨Gs,hms,hs,H⟩:=H.eH;obtain ⟨Gl,Uy,hl,H⟩:=H.eH;obtain ⟨Gr,hmr,hr,H⟩:=H.eH;refine lv H results69 rfl ?_;exact H.hp.dJ ⟨b16,b10,b11,b12,b13,b14,rfl,rfl,⟨hmr _ _ (Uy _ _ hs),hmr _ _ hl,hr⟩⟩
section
theorem ajQ:dN prog 133 4 4:=⟨by kernel_rfl⟩
theorem ZB:dN prog 133 3 3:=⟨by kernel_rfl⟩
variable {us:List Int}
theorem ET (x:Int):∀ l:List Int,(vI x (fV l)).getD (.bool false)=.bool (decide (x∈l))
 | []=>rfl
 | k :: r=>by
  have ih:=ET x r;rw [fV,fO,vI]
  by_cases e:k=x
  ·subst e;simp
  rw [ah e,show (r.map fun k=>(k,Value.bool true))=fV r from rfl,ih]
  simp [show x≠k from fun h=>e h.symm]
def Qi (st:List cu) (v:Int):Int:=((st.find? fun s=>decide (s.id=v)).map cu.kind).getD 0
theorem Mx (x:Int):∀ l:List cu,(vI x (AZ l)).getD (vi 0)=vi (Qi l x)
 | []=>rfl
 | s :: r=>by
  have ih:=Mx x r;rw [AZ,fO,vI]
  by_cases e:s.id=x
  ·subst e;simp [Qi]
  rw [ah e,show (r.map fun s=>(s.id,vi s.kind))=AZ r from rfl,ih]
  simp [Qi,e]
def qL (us bK:List Int) (x:Int):Int:=if ¬ (1≤x∧x≤1073741824)∨x∈us then 18 else if x∈bK then 7 else 0
def kR (us bK:List Int) (x:Int):List Int:=if qL us bK x=0 then bK++[x] else bK
theorem anY (l:List Int) (x:Int):fV (l++[x])=fV l++[(x,.bool true)]:=by simp [fV]
theorem RA (G:GH) (L:OL) (w0:World) (st:List cu) (li:List fK) (rv:List dh) (b ms ml mr mb mu:Nat) (n:Int) (bK:List Int) (x:Int) (hck:wR us G st li rv ms ml mr mu) (hO:gL G (gI b ms ml mr mb mu n :: (mb,fF (fV bK)) :: L) w0) :
  Calls prog 198 #[(aK b 0),vi x] w0 (gy w0 G (gI b ms ml mr mb mu n :: (mb,fF (fV bK)) :: L) fun u G' L'=>u=vi (qL us bK x)∧L'=gI b ms ml mr mb mu n :: (mb,fF (fV (kR us bK x))) :: L∧G=G'):=by
 refine iY (N:=29) (T:=[(0,_),(1,_)]) func198 rfl ntmps198 rfl rfl hO ?_;intro a H;refine kP H (SR fun _ K1=>ak K1 rfl (SQ fun _ K2=>SB (SR fun _ K3=>Rm rfl ?_)));clear H K1;intro a H;refine s_call yw H wn rfl (yP _ _ H.ro x 1 1073741824) rfl ?_;clear H;rintro v7 _ a w ⟨rfl,rfl⟩ - H;refine kH H (Rn rfl (Rm rfl (Sp 9 rfl ?_ ?_))) <;> clear H
 ·intro h9 a H
  try have p9:=dT h9
  refine kH H (bD h9 rfl (bD h9 rfl (Pt h9 rfl (ak K3 rfl (Ct rfl rfl (SQ fun _ K4=>?_))))));clear H K3;intro a H
  have e:qL us bK x=18:=by rw [qL,au (by first|(simp_all;done)|(simp_all;omega))]
  refine kP H (SC (bC K4 rfl ?_));clear H K4;intro a H;refine lr H results198 rfl ?_
  first
   | exact H.hp.dJ ⟨by rw [e],by rw [kR,au e],rfl⟩
   | exact H.hp.dJ ⟨by rw [e],by rw [kR,ah (by rw [e];decide)],rfl⟩
 intro h9 a H
 try have p9:=dF h9
 refine kH H (YM h9 rfl ?_);clear H;intro a H;refine vO H (wg H rfl rfl h9) rfl rfl ?_;clear H;intro a H;refine kH H (YF ajQ h9 rfl (YO uN 0 h9 rfl (YM h9 rfl ?_)));clear H;intro a H;refine Bg (zv:=.bool false) xR lJ (by kernel_rfl) H (wg H rfl rfl h9) rfl rfl (H.ro _ _ hck.use) rfl ?_;clear H;intro a H;rw [ET] at H;refine kH H (Pf h9 rfl (ak K3 rfl (Cd rfl ?_ ?_))) <;> clear H K3
 ·intro h5 a H
  try have p5:=dT h5
  refine bN (fun _ K5=>?_)
  have e:qL us bK x=18:=by rw [qL,au (by first|(simp_all;done)|(simp_all;omega))]
  refine kP H (SC (bC K5 rfl ?_));clear H K5;intro a H;refine lr H results198 rfl ?_
  first
   | exact H.hp.dJ ⟨by rw [e],by rw [kR,au e],rfl⟩
   | exact H.hp.dJ ⟨by rw [e],by rw [kR,ah (by rw [e];decide)],rfl⟩
 intro h5 a H
 try have p5:=dF h5
 have hin:¬ (¬ (1≤x∧x≤1073741824)∨x∈us):=by first|(simp_all;done)|(simp_all;omega)
 refine kP H (SR fun _ K6=>Rm rfl (Rk rfl (bG ZB uN 0 rfl rfl (Rm rfl ?_))));clear H;intro a H;refine Bg (zv:=.bool false) xR lJ (by kernel_rfl) H wn rfl rfl (H.hp.own _ (iO _ gM)) rfl ?_;clear H;intro a H;rw [ET] at H;refine kH H (ak K6 rfl (Cd rfl ?_ ?_)) <;> clear H K6
 ·intro eY a H
  refine bN (fun _ K7=>?_)
  have e:qL us bK x=7:=by rw [qL,ah hin,au (mM eY)]
  refine kP H (SC (bC K7 rfl ?_));clear H K7;intro a H;refine lr H results198 rfl ?_
  first
   | exact H.hp.dJ ⟨by rw [e],by rw [kR,au e],rfl⟩
   | exact H.hp.dJ ⟨by rw [e],by rw [kR,ah (by rw [e];decide)],rfl⟩
 intro eY a H
 have hx:x∉bK:=of_decide_eq_false eY;have hnew:vI x (fV bK)=none:=Mw (by simpa [fV,List.map_map,Function.comp_def] using hx)
 have e:qL us bK x=0:=by rw [qL,ah hin,ah hx]
 refine kP H (Kc K2 (SR fun _ K8=>Rm rfl (Rk rfl (bG ZB uN 0 rfl rfl (Rm rfl ?_)))));clear H K2;intro a H;refine MK (i:=1) xR lJ H wn rfl rfl rfl rfl hnew ?_;clear H;intro w H;dsimp only [List.set] at H;rw [← anY] at H;refine K8 _ _ ?_;clear K8;refine kP H (SR fun _ K9=>ak K9 rfl ?_);clear H K9;intro a H;refine lr H results198 rfl ?_
 first
  | exact H.hp.dJ ⟨by rw [e],by rw [kR,au e],rfl⟩
  | exact H.hp.dJ ⟨by rw [e],by rw [kR,ah (by rw [e];decide)],rfl⟩
def oP (st:List cu) (wI:List Int) (key v:Int):Int :=
 if key=20∨key=1 then dx (decide (v≠0∧Qi st v≠(if key=1 then 2 else 1))) 25 else if key=33 then dx (decide (v≠0∧v∉wI)) 26 else 0
theorem RB (G:GH) (w0:World) (hG:Hold G w0) (st:List cu) (li:List fK) (rv:List dh) (b ms ml mr mb mu:Nat) (n:Int) (key v:Int) (hck:wR us G st li rv ms ml mr mu) (hb:G b=some (gI b ms ml mr mb mu n).2) :
  Calls prog 130 #[(aK b 0),vi key,vi v] w0 (bH w0 G fun u G'=>u=vi (oP st (li.map fK.id) key v)∧G=G'):=by
 have hc0:aI G b 0=some (.map (some ms)):=by unfold aI;rw [hb];rfl
 have hc1:aI G b 1=some (.map (some ml)):=by unfold aI;rw [hb];rfl
 refine eN [(0,_),(1,_),(2,_)] func130 rfl ntmps130 rfl rfl hG ?_;intro a H;refine kP H (SR fun _ K1=>ak K1 rfl (SQ fun _ K2=>SR fun _ K3=>Rm rfl (Kz K3 (SB (SQ fun _ K4=>SR fun _ K5=>Rc rfl (ak K5 rfl (Cd rfl ?_ ?_))))))) <;> clear H K1 K3 K5
 ·intro h9 a H
  try have p9:=dT h9
  refine kP H (Kc K4 (Ct rfl h9 (SR fun _ K6=>ak K6 rfl (SQ fun _ K7=>SR fun _ K8=>Rm rfl (Rc rfl (Kz K8 (Cd rfl ?_ ?_))))))) <;> clear H K4 K6 K8
  ·intro fD a H
   try have qp:=dT fD
   refine kP H (SC (bC K7 rfl (SR fun _ K9=>Rm rfl (Rc rfl (Rm rfl (Sp 16 rfl ?_ ?_)))))) <;> clear H K7
   ·intro h16 a H
    try have p16:=dT h16
    refine kH H (YM h16 rfl ?_);clear H;intro a H;refine vO H (wg H rfl rfl h16) rfl rfl ?_;clear H;intro a H;refine kH H (YF KV h16 rfl (YR MP h16 rfl (by assumption) ?_));clear H;intro a H;refine kH H (YM h16 rfl ?_);clear H;intro a H;refine Bg (zv:=vi 0) Ie lJ (by kernel_rfl) H (wg H rfl rfl h16) rfl rfl (H.ro _ _ hck.sty) rfl ?_;clear H;intro a H;rw [Mx] at H;refine kH H (YM h16 rfl (YC h16 rfl (Pt h16 rfl ?_)));clear H;intro a H;refine s_call jR H wn rfl (jS _ _ H.ro _ 25) rfl ?_;clear H;rintro v26 _ a w ⟨rfl,rfl⟩ - H;refine kH H (ak K9 rfl ?_);clear H K9;intro a H;refine lr H results130 rfl ?_
    exact H.rt ⟨aB vi (by unfold oP;(repeat' split) <;> first|rfl|(simp_all;done)|(exfalso;simp_all;done)|(congr 1;rw [tq];simp only [wV,ny,nN];exact ⟨fun h=>⟨p31,h⟩,fun h=>h.2⟩)),rfl⟩
   intro h16 a H
   try have p16:=dF h16
   refine kH H (bD h16 rfl (bD h16 rfl (aP h16 rfl (Pf h16 rfl ?_))));clear H;intro a H;refine s_call jR H wn rfl (jS _ _ H.ro _ 25) rfl ?_;clear H;rintro v26 _ a w ⟨rfl,rfl⟩ - H;refine kH H (ak K9 rfl ?_);clear H K9;intro a H;refine lr H results130 rfl ?_
   exact H.rt ⟨aB vi (by unfold oP;(repeat' split) <;> first|rfl|(simp_all;done)|(exfalso;simp_all;done)|(congr 1;rw [tq];simp only [wV,ny,nN];exact ⟨fun h=>⟨p31,h⟩,fun h=>h.2⟩)),rfl⟩
  intro fD a H
  try have qp:=dF fD
  refine kP H (Kc K7 (SR fun _ aW=>Rm rfl (Rc rfl (Rm rfl (Sp 16 rfl ?_ ?_))))) <;> clear H K7
  ·intro h16 a H
   try have p16:=dT h16
   refine kH H (YM h16 rfl ?_);clear H;intro a H;refine vO H (wg H rfl rfl h16) rfl rfl ?_;clear H;intro a H;refine kH H (YF KV h16 rfl (YR MP h16 rfl (by assumption) ?_));clear H;intro a H;refine kH H (YM h16 rfl ?_);clear H;intro a H;refine Bg (zv:=vi 0) Ie lJ (by kernel_rfl) H (wg H rfl rfl h16) rfl rfl (H.ro _ _ hck.sty) rfl ?_;clear H;intro a H;rw [Mx] at H;refine kH H (YM h16 rfl (YC h16 rfl (Pt h16 rfl ?_)));clear H;intro a H;refine s_call jR H wn rfl (jS _ _ H.ro _ 25) rfl ?_;clear H;rintro v26 _ a w ⟨rfl,rfl⟩ - H;refine kH H (ak aW rfl ?_);clear H aW;intro a H;refine lr H results130 rfl ?_
   exact H.rt ⟨aB vi (by unfold oP;(repeat' split) <;> first|rfl|(simp_all;done)|(exfalso;simp_all;done)|(congr 1;rw [tq];simp only [wV,ny,nN];exact ⟨fun h=>⟨p31,h⟩,fun h=>h.2⟩)),rfl⟩
  intro h16 a H
  try have p16:=dF h16
  refine kH H (bD h16 rfl (bD h16 rfl (aP h16 rfl (Pf h16 rfl ?_))));clear H;intro a H;refine s_call jR H wn rfl (jS _ _ H.ro _ 25) rfl ?_;clear H;rintro v26 _ a w ⟨rfl,rfl⟩ - H;refine kH H (ak aW rfl ?_);clear H aW;intro a H;refine lr H results130 rfl ?_
  exact H.rt ⟨aB vi (by unfold oP;(repeat' split) <;> first|rfl|(simp_all;done)|(exfalso;simp_all;done)|(congr 1;rw [tq];simp only [wV,ny,nN];exact ⟨fun h=>⟨p31,h⟩,fun h=>h.2⟩)),rfl⟩
 intro h9 a H
 try have p9:=dF h9
 refine kP H (SC (Rc rfl (bC K4 rfl (Cd rfl ?_ ?_)))) <;> clear H K4
 ·intro h9 a H
  try have p9:=dT h9
  refine kP H (SR fun _ bO=>ak bO rfl (SQ fun _ bW=>SR fun _ cB=>Rm rfl (Rc rfl (Kz cB (Cd rfl ?_ ?_))))) <;> clear H bO cB
  ·intro fD a H
   try have qp:=dT fD
   refine kP H (SC (bC bW rfl (SR fun _ dw=>Rm rfl (Rc rfl (Rm rfl (Sp 16 rfl ?_ ?_)))))) <;> clear H bW
   ·intro h16 a H
    try have p16:=dT h16
    refine kH H (YM h16 rfl ?_);clear H;intro a H;refine vO H (wg H rfl rfl h16) rfl rfl ?_;clear H;intro a H;refine kH H (YF KV h16 rfl (YR MP h16 rfl (by assumption) ?_));clear H;intro a H;refine kH H (YM h16 rfl ?_);clear H;intro a H;refine Bg (zv:=vi 0) Ie lJ (by kernel_rfl) H (wg H rfl rfl h16) rfl rfl (H.ro _ _ hck.sty) rfl ?_;clear H;intro a H;rw [Mx] at H;refine kH H (YM h16 rfl (YC h16 rfl (Pt h16 rfl ?_)));clear H;intro a H;refine s_call jR H wn rfl (jS _ _ H.ro _ 25) rfl ?_;clear H;rintro v26 _ a w ⟨rfl,rfl⟩ - H;refine kH H (ak dw rfl ?_);clear H dw;intro a H;refine lr H results130 rfl ?_
    exact H.rt ⟨aB vi (by unfold oP;(repeat' split) <;> first|rfl|(simp_all;done)|(exfalso;simp_all;done)|(congr 1;rw [tq];simp only [wV,ny,nN];exact ⟨fun h=>⟨p31,h⟩,fun h=>h.2⟩)),rfl⟩
   intro h16 a H
   try have p16:=dF h16
   refine kH H (bD h16 rfl (bD h16 rfl (aP h16 rfl (Pf h16 rfl ?_))));clear H;intro a H;refine s_call jR H wn rfl (jS _ _ H.ro _ 25) rfl ?_;clear H;rintro v26 _ a w ⟨rfl,rfl⟩ - H;refine kH H (ak dw rfl ?_);clear H dw;intro a H;refine lr H results130 rfl ?_
   exact H.rt ⟨aB vi (by unfold oP;(repeat' split) <;> first|rfl|(simp_all;done)|(exfalso;simp_all;done)|(congr 1;rw [tq];simp only [wV,ny,nN];exact ⟨fun h=>⟨p31,h⟩,fun h=>h.2⟩)),rfl⟩
  intro fD a H
  try have qp:=dF fD
  refine kP H (Kc bW (SR fun _ dR=>Rm rfl (Rc rfl (Rm rfl (Sp 16 rfl ?_ ?_))))) <;> clear H bW
  ·intro h16 a H
   try have p16:=dT h16
   refine kH H (YM h16 rfl ?_);clear H;intro a H;refine vO H (wg H rfl rfl h16) rfl rfl ?_;clear H;intro a H;refine kH H (YF KV h16 rfl (YR MP h16 rfl (by assumption) ?_));clear H;intro a H;refine kH H (YM h16 rfl ?_);clear H;intro a H;refine Bg (zv:=vi 0) Ie lJ (by kernel_rfl) H (wg H rfl rfl h16) rfl rfl (H.ro _ _ hck.sty) rfl ?_;clear H;intro a H;rw [Mx] at H;refine kH H (YM h16 rfl (YC h16 rfl (Pt h16 rfl ?_)));clear H;intro a H;refine s_call jR H wn rfl (jS _ _ H.ro _ 25) rfl ?_;clear H;rintro v26 _ a w ⟨rfl,rfl⟩ - H;refine kH H (ak dR rfl ?_);clear H dR;intro a H;refine lr H results130 rfl ?_
   exact H.rt ⟨aB vi (by unfold oP;(repeat' split) <;> first|rfl|(simp_all;done)|(exfalso;simp_all;done)|(congr 1;rw [tq];simp only [wV,ny,nN];exact ⟨fun h=>⟨p31,h⟩,fun h=>h.2⟩)),rfl⟩
  intro h16 a H
  try have p16:=dF h16
  refine kH H (bD h16 rfl (bD h16 rfl (aP h16 rfl (Pf h16 rfl ?_))));clear H;intro a H;refine s_call jR H wn rfl (jS _ _ H.ro _ 25) rfl ?_;clear H;rintro v26 _ a w ⟨rfl,rfl⟩ - H;refine kH H (ak dR rfl ?_);clear H dR;intro a H;refine lr H results130 rfl ?_
  exact H.rt ⟨aB vi (by unfold oP;(repeat' split) <;> first|rfl|(simp_all;done)|(exfalso;simp_all;done)|(congr 1;rw [tq];simp only [wV,ny,nN];exact ⟨fun h=>⟨p31,h⟩,fun h=>h.2⟩)),rfl⟩
 intro h9 a H
 try have p9:=dF h9
 refine kP H (SR fun _ dW=>Rc rfl (ak dW rfl (Cd rfl ?_ ?_))) <;> clear H dW
 ·intro h27 a H
  try have p27:=dT h27
  refine kP H (SR fun _ dU=>Rm rfl (Rc rfl (Rm rfl (Sp 31 rfl ?_ ?_)))) <;> clear H
  ·intro h31 a H
   try have p31:=dT h31
   refine kH H (YM h31 rfl ?_);clear H;intro a H;refine vO H (wg H rfl rfl h31) rfl rfl ?_;clear H;intro a H;refine kH H (YF ZA h31 rfl (YR uN h31 rfl (by assumption) ?_));clear H;intro a H;refine kH H (YM h31 rfl ?_);clear H;intro a H;refine Bg (zv:=.bool false) xR lJ (by kernel_rfl) H (wg H rfl rfl h31) rfl rfl (H.ro _ _ hck.wI) rfl ?_;clear H;intro a H;rw [ET] at H;refine kH H (YN h31 rfl (Pt h31 rfl ?_));clear H;intro a H;refine s_call jR H wn rfl (jS _ _ H.ro _ 26) rfl ?_;clear H;rintro v40 _ a w ⟨rfl,rfl⟩ - H;refine kH H (ak dU rfl ?_);clear H dU;intro a H;refine lr H results130 rfl ?_
   exact H.rt ⟨aB vi (by unfold oP;(repeat' split) <;> first|rfl|(simp_all;done)|(exfalso;simp_all;done)|(congr 1;rw [tq];simp only [wV,ny,nN];exact ⟨fun h=>⟨p31,h⟩,fun h=>h.2⟩)),rfl⟩
  intro h31 a H
  try have p31:=dF h31
  refine kH H (bD h31 rfl (aP h31 rfl (aP h31 rfl (Pf h31 rfl ?_))));clear H;intro a H;refine s_call jR H wn rfl (jS _ _ H.ro _ 26) rfl ?_;clear H;rintro v40 _ a w ⟨rfl,rfl⟩ - H;refine kH H (ak dU rfl ?_);clear H dU;intro a H;refine lr H results130 rfl ?_
  exact H.rt ⟨aB vi (by unfold oP;(repeat' split) <;> first|rfl|(simp_all;done)|(exfalso;simp_all;done)|(congr 1;rw [tq];simp only [wV,ny,nN];exact ⟨fun h=>⟨p31,h⟩,fun h=>h.2⟩)),rfl⟩
 intro h27 a H
 try have p27:=dF h27
 refine kP H (Kc K2 (SR fun _ eG=>ak eG rfl ?_));clear H K2 eG;intro a H;refine lr H results130 rfl ?_
 exact H.rt ⟨aB vi (by unfold oP;(repeat' split) <;> first|rfl|(simp_all;done)|(exfalso;simp_all;done)|(congr 1;rw [tq];simp only [wV,ny,nN];exact ⟨fun h=>⟨p31,h⟩,fun h=>h.2⟩)),rfl⟩
end
section
section
variable {N:Nat} {D:List Deferred} {w0:World} {F:Nat→Prop} {G0 G G':GH} {L L':OL} {T:List (Nat × aj)}
variable {r:Option Nat} {P:Program} {ops:Array Oper} {Q:Exit→Act→World→Prop} {rest:List Oper} {a:Act} {w w':World}
theorem DZ {ι:Type} {Tc:List (Nat × aj)} {l:List Oper} (k:Nat) (Tv:ι→List (Nat × aj)) (Pr:ι→Prop) (_:St N D w0 F G0 G L Tc a w)
  (h1:(∀ i a w,Pr i→St N D w0 F G0 G L (Tv i++Tc) a w→WL r P ops Q (l.drop k) a w)→WL r P ops Q l a w)
  (h2:∀ i a w,Pr i→St N D w0 F G0 G L (Tv i++Tc) a w→WL r P ops Q (l.drop k) a w):WL r P ops Q l a w:=h1 h2
theorem Change.back (h:Change w w' G G' L L'):Change w w' G G L L' :=
 ⟨h.os,h.tape,h.output,h.size,h.fr,fun _ _ h=>h,fun _ _ h=>.inl h,⟨fun k o hk=>h.owns.ro k o (h.gm k o hk),h.owns.own,fun p hp=>(by
  have hs:=h.owns.sep p hp
  cases hg:G p.1 with
  | none=>rfl
  | some o=>have:=h.gm _ _ hg;rw [hs] at this;cases this),h.owns.nd⟩,h.lx⟩
theorem gy.back {R:aj→GH→OL→Prop} {R':aj→OL→Prop} (hR:∀ v G' L',R v G' L'→R' v L') {e:Ending} (h:gy w G L R e w'):gy w G L (fun v G' L'=>G=G'∧R' v L') e w':=by
 obtain ⟨v,G',L',rfl,hc,hr⟩:=h
 exact ⟨v,G,L',rfl,hc.back,rfl,hR _ _ _ hr⟩
theorem Calls.afe {f:FuncId} {args:Array aj} {R:aj→GH→OL→Prop} {R':aj→OL→Prop} (h:Calls P f args w (gy w G L R)) (hR:∀ v G' L',R v G' L'→R' v L'):Calls P f args w (gy w G L fun v G' L'=>G=G'∧R' v L') :=
 h.mono fun _ _=>gy.back hR
theorem bH.back {R:aj→GH→Prop} {e:Ending} (h:bH w G R e w'):bH w G (fun v G'=>(∃ g,R v g)∧G=G') e w':=by
 obtain ⟨v,G',rfl,hb,hX,hr⟩:=h
 exact ⟨v,G,rfl,hb,⟨fun _ _ h=>h,fun _ _ h=>.inl h,fun k o hk=>hX.2.2 k o (hX.1 k o hk)⟩,⟨G',hr⟩,rfl⟩
theorem X6 {f:FuncId} {args:Array aj} {R:aj→GH→Prop} (h:Calls P f args w (bH w G R)):Calls P f args w (bH w G fun v G'=>(∃ g,R v g)∧G=G'):=h.mono fun _ _=>bH.back
theorem gL.add {b:Nat} {o:Obj} (h:gL G ((b,o) :: L) w):Hold (G.add b o) w:=fun k o' hk=>by
 unfold GH.add at hk
 split at hk
 ·next e=>cases hk;subst e;exact h.own _ gM
 ·exact h.ro k o' hk
theorem apO {b:Nat} {o:Obj} {R:aj→GH→Prop} {R':aj→Prop} (hO:gL G ((b,o) :: L) w) (hR:∀ v G',R v G'→R' v) {e:Ending} (h:bH w (G.add b o) R e w'):gy w G ((b,o) :: L) (fun v G' L'=>G=G'∧L'=(b,o) :: L∧R' v) e w':=by
 obtain ⟨v,G',rfl,hb,hX,hr⟩:=h
 exact ⟨v,G,_,rfl,(hO.hp.below hb).adC,rfl,rfl,hR _ _ hr⟩
end
end
section
theorem Oi:dN prog 161 0 0:=⟨by kernel_rfl⟩
theorem yB:dN prog 161 1 1:=⟨by kernel_rfl⟩
theorem Oj:dN prog 161 3 3:=⟨by kernel_rfl⟩
theorem Et:dN prog 161 2 2:=⟨by kernel_rfl⟩
theorem RZ:∀ args w,(callFunc 130 args).run prog w=.ok (.enter 130 args) w:=enters func130 rfl (by kernel_rfl)
variable {us:List Int}
structure bP where
 st:List cu
 wI:List Int
 Bd:List Int
 us:List Int
abbrev bF (us:List Int) (st:List cu) (li:List fK) (rv:List dh):bP:=⟨st,li.map fK.id,rv.map dh.id,us⟩
theorem ER {G:GH} {l:List cO} {A:Option Addr} {n c k:Nat} (hv:av G (.sl 4 (l.map cO.dat)) (.slice A n c)) (hk:k < l.length):∃ b o,A=some ⟨b,o,none⟩∧(∀ j u,l[k].cells[j]?=some u→aI G b (o+k*4+j)=some u):=by
 obtain ⟨A',c',he,_,_,hg⟩:=hv.slice
 injection he with e1 e2 e3
 subst e1;obtain ⟨b,o,cs,h1,h2,h3,h4⟩:=hg k l[k].dat (by simp [hk]);have:=Vl h4;subst this;exact ⟨b,o,h1,h3⟩
theorem N9 {G:GH} {l:List gq} {A:Option Addr} {n c k:Nat} (hv:av G (.sl 2 (l.map gq.dat)) (.slice A n c)) (hk:k < l.length):∃ b o,A=some ⟨b,o,none⟩∧(∀ j u,l[k].cells[j]?=some u→aI G b (o+k*2+j)=some u):=by
 obtain ⟨A',c',he,_,_,hg⟩:=hv.slice
 injection he with e1 e2 e3
 subst e1;obtain ⟨b,o,cs,h1,h2,h3,h4⟩:=hg k l[k].dat (by simp [hk]);have:=KO h4;subst this;exact ⟨b,o,h1,h3⟩
def xI (C:bP) (e:Int) (k:Nat) (x:cO) (pk:Int):Int :=
 if x.rev∉C.Bd then 22 else if wz e x.key=false then 4 else if 0 < k∧x.key < pk then 6 else if x.had=false then dx (decide (x.before≠0)) 21 else dY [uf x.key x.before,oP C.st C.wI x.key x.before]
def zI (C:bP) (e:Int) (l:List cO) (k:Nat):Int:=match l[k]? with|some x=>xI C e k x ((l[k - 1]?.map cO.key).getD 0)|none=>0
theorem anM (G:GH) (w0:World) (hG:Hold G w0) (st:List cu) (li:List fK) (rv:List dh) (b ms ml mr mb mu:Nat) (n:Int) (hck:wR us G st li rv ms ml mr mu) (hb:G b=some (gI b ms ml mr mb mu n).2)
  (e:Int) (l:List cO) (v:aj) (hv:av G (.sl 4 (l.map cO.dat)) v) (k:Nat) (hk:k < l.length) :
  Calls prog 132 #[(aK b 0),vi e,v,vi k] w0 (bH w0 G fun u G'=>u=vi (zI (bF us st li rv) e l k)):=by
 have hc2:aI G b 2=some (.map (some mr)):=by unfold aI;rw [hb];rfl
 obtain ⟨A,c,rfl,hl1,hl2,-⟩:=hv.slice;have hml:maxLen=9223372036854775807:=rfl;rw [aZ] at *;obtain ⟨xb,xo,rfl,hrow⟩:=ER hv hk
 have hk1:k - 1 < l.length:=by omega
 obtain ⟨b',o',he',hrow'⟩:=ER hv hk1
 injection he' with he'
 injection he' with e1 e2
 subst e1;subst e2
 have he:zI (bF us st li rv) e l k=xI (bF us st li rv) e k l[k] l[k - 1].key:=by unfold zI;rw [eD hk,eD hk1];rfl
 obtain ⟨x,hx⟩:∃ x,x=l[k]:=⟨_,rfl⟩;obtain ⟨y,hy⟩:∃ y,y=l[k - 1]:=⟨_,rfl⟩;rw [← hx] at hrow he;rw [← hy] at hrow' he;have hq:=hrow' 1 _ rfl;refine eN [(0,_),(1,_),(2,_),(3,_)] func132 rfl ntmps132 rfl rfl hG ?_;intro a H;refine kP H (SR fun _ K1=>ak K1 rfl (SR fun _ K2=>Rm rfl (Rm rfl (Ri kF ji rfl rfl ?_))));clear H K1;intro a H;refine bB ji (cs:=x.cells) H wn rfl rfl (fun j v hj=>H.hp.aI (hrow j v hj)) rfl ?_;clear H;intro a H;refine dB ji H wn rfl ?_;clear H;intro b9 a w zD H;refine aY ji 0 (vs:=[_,_,_,_]) _ H wn rfl rfl rfl rfl rfl rfl rfl rfl ?_;clear H;intro w H;dsimp only [List.set,setRow] at H;refine K2 _ _ ?_;clear K2;refine kP H (SQ fun _ K3=>SB (SQ fun _ K4=>?_));clear H;intro a H;refine dI hmx [[],[0],[0,1],[0,1,2],[],[4],(ra 0 6),(ra 0 7),(ra 0 8)] [8] (by kernel_rfl) [_,_,_,_,_,vi x.rev,.bool (decide (x.rev∈rv.map dh.id)),_] H (aF (Z0 rfl (Rm rfl)) (Z1 0 15 rfl (Rk rfl)) (Z1 1 16 rfl (Rf KW rfl)) (X1 2 17 rfl fun hG=>Rg uN rfl (aJ hG hc2)) (aF (Z0 rfl (Rf Oi rfl)) (Z1 4 19 rfl (Ro aH 0 rfl)) ?_ (Z1 6 21 rfl (Rn rfl)) (bM (bQ rfl) dz))) ?_
 ·refine dK 3 18 5 20 rfl rfl fun _ a w G1 hG HT H fin=>?_;refine Bg (zv:=.bool false) xR lJ (by kernel_rfl) H wn rfl rfl (H.ro _ _ (hG _ _ hck.rev)) rfl ?_;clear H;intro a H;rw [ET] at H;exact fin H iJ rfl
 clear H;intro a w G Di H hv;have H:=H.aM (hv 7 22 rfl rfl) rfl;clear hv;refine kH H (Ra rfl ?_);clear H;intro a H;refine aD ⟨rfl,?_⟩;refine K4 _ _ ?_;clear K4;refine jC H rfl ?_ ?_
 ·intro jD
  try have xL:=dT jD
  refine kP H (SR fun _ K5=>ak K5 rfl ?_);clear H K5;intro a H;refine lr H results132 rfl ?_
  exact H.rt (by rw [he];refine aB vi ?_;clear he hrow hrow' hq hx hy;unfold xI;(repeat' split) <;> first|rfl|(simp_all;done)|(exfalso;simp_all;done))
 intro jD
 try have xL:=dF jD
 refine kP H (SR fun _ K6=>Rm rfl (bG yB aH 0 rfl rfl ?_));clear H;intro a H;refine s_call Y8 H wn rfl (X6 (ZL _ _ H.ro e x.key)) rfl ?_;clear H;rintro v27 _ a w ⟨⟨_,rfl⟩,rfl⟩ - H;refine kH H (Rn rfl (ak K6 rfl (Cd rfl ?_ ?_))) <;> clear H K6
 ·intro h23 a H
  try have vJ:=dT h23
  refine kP H (SR fun _ K7=>ak K7 rfl ?_);clear H K7;intro a H;refine lr H results132 rfl ?_
  exact H.rt (by rw [he];refine aB vi ?_;clear he hrow hrow' hq hx hy;unfold xI;(repeat' split) <;> first|rfl|(simp_all;done)|(exfalso;simp_all;done))
 intro h23 a H
 try have vJ:=dF h23
 refine bN (fun _ K8=>?_);replace hq:=aJ Di hq
 by_cases c0:0 < (k:Int)
 ·skip
  by_cases c1:x.key < y.key
  ·skip;refine dI hmx [[],[0],[0,1],[0,1,2],(ra 0 4),[0,1,2],[0,1,2],[0,1,2,6],[0,1,2,5,6,7],[0,1,2,5,6,7,8],[0,1,2,5,6,7,8,9],(ra 0 11),(ra 0 12),(ra 0 13)] [13] (by kernel_rfl) [_,_,_,_,vi x.key,_,_,vi ((k - 1:Nat):Int),_,_,_,_,_] H (aF (Z0 rfl (Rm rfl)) (Z1 0 30 rfl (Rc rfl)) (Z1 1 31 rfl (Rm rfl)) (Z1 2 32 rfl (YF yB (aG c0) rfl)) (aF (Z2 3 33 2 32 rfl (YO aH 0 (aG c0) rfl)) (Z1 2 32 rfl (YM (aG c0) rfl)) (Z1 2 32 rfl (YM (aG c0) rfl)) ?_ (aF (Z3 5 35 7 37 2 32 rfl (YI kF ji (aG c0) rfl rfl)) (Z2 8 38 2 32 rfl (YF yB (aG c0) rfl)) (X2 9 39 2 32 rfl fun hG=>YR aH (aG c0) rfl (aJ hG hq)) (Z3 4 34 10 40 2 32 rfl (YC (aG c0) rfl)) (bM (Z2 2 32 11 41 rfl (Pt (aG c0) rfl)) (bM (bQ rfl) dz))))) ?_
   ·refine dK 6 36 2 32 rfl rfl fun _ a w G1 hG HT H fin=>?_;refine nW _ H (wg H rfl rfl (aG c0)) rfl rfl rfl (by omega) (by omega) rfl ?_;clear H;intro a H;exact fin H iJ (by show _=_;first|rfl|exact aB vi (by omega))
   clear H;intro a w G iU H hv;have H:=H.aM (hv 12 42 rfl rfl) rfl;clear hv;refine kH H (Ra rfl ?_);clear H;intro a H;refine aD ⟨rfl,?_⟩;refine K8 _ _ ?_;clear K8;refine BN H rfl (aG c1) ?_;refine bN (fun _ K9=>?_);have hz:0 < k∧x.key < y.key:=⟨by omega,c1⟩;refine kP H (SC (bC K9 rfl ?_));clear H K9;intro a H;refine lr H results132 rfl ?_
   exact H.rt (by rw [he];refine aB vi ?_;clear he hrow hrow' hq hx hy;unfold xI;(repeat' split) <;> first|rfl|(simp_all;done)|(exfalso;simp_all;done))
  skip;refine dI hmx [[],[0],[0,1],[0,1,2],(ra 0 4),[0,1,2],[0,1,2],[0,1,2,6],[0,1,2,5,6,7],[0,1,2,5,6,7,8],[0,1,2,5,6,7,8,9],(ra 0 11),(ra 0 12),(ra 0 13)] [13] (by kernel_rfl) [_,_,_,_,vi x.key,_,_,vi ((k - 1:Nat):Int),_,_,_,_,_] H (aF (Z0 rfl (Rm rfl)) (Z1 0 30 rfl (Rc rfl)) (Z1 1 31 rfl (Rm rfl)) (Z1 2 32 rfl (YF yB (aG c0) rfl)) (aF (Z2 3 33 2 32 rfl (YO aH 0 (aG c0) rfl)) (Z1 2 32 rfl (YM (aG c0) rfl)) (Z1 2 32 rfl (YM (aG c0) rfl)) ?_ (aF (Z3 5 35 7 37 2 32 rfl (YI kF ji (aG c0) rfl rfl)) (Z2 8 38 2 32 rfl (YF yB (aG c0) rfl)) (X2 9 39 2 32 rfl fun hG=>YR aH (aG c0) rfl (aJ hG hq)) (Z3 4 34 10 40 2 32 rfl (YC (aG c0) rfl)) (bM (Z2 2 32 11 41 rfl (Pt (aG c0) rfl)) (bM (bQ rfl) dz))))) ?_
  ·refine dK 6 36 2 32 rfl rfl fun _ a w G1 hG HT H fin=>?_;refine nW _ H (wg H rfl rfl (aG c0)) rfl rfl rfl (by omega) (by omega) rfl ?_;clear H;intro a H;exact fin H iJ (by show _=_;first|rfl|exact aB vi (by omega))
  clear H;intro a w G iU H hv;have H:=H.aM (hv 12 42 rfl rfl) rfl;clear hv;refine kH H (Ra rfl ?_);clear H;intro a H;refine aD ⟨rfl,?_⟩;refine K8 _ _ ?_;clear K8;refine rY H rfl (aU c1) ?_;refine bN (fun _ aW=>?_)
  have hz:¬ (0 < k∧x.key < y.key):=by first|exact fun h=>c1 h.2|exact fun h=>c0 (by omega)
  refine kP H (SC (bG Oj pV 0 rfl rfl (Rn rfl (bC aW rfl (Cd rfl ?_ ?_))))) <;> clear H aW
  ·intro h43 a H
   try have p43:=dT h43
   refine kP H (SR fun _ bO=>bG Et aH 0 rfl rfl (Rc rfl ?_));clear H;intro a H;refine s_call jR H wn rfl (jS _ _ H.ro _ 21) rfl ?_;clear H;rintro v50 _ a w ⟨rfl,rfl⟩ - H;refine kH H (ak bO rfl ?_);clear H bO;intro a H;refine lr H results132 rfl ?_
   exact H.rt (by rw [he];refine aB vi ?_;clear he hrow hrow' hq hx hy;unfold xI;(repeat' split) <;> first|rfl|(simp_all;done)|(exfalso;simp_all;done))
  intro h43 a H
  try have p43:=dF h43
  refine fZ ?_;refine K3 _ _ ?_;clear K3;refine bN (fun _ bW=>?_);replace hck:=(hck.mono Di).mono iU;replace hb:=iU _ _ (Di _ _ hb);refine dI hmx [[],[0],[],[2],(ra 0 4),[],[],[6],[],[8],(ra 0 10),(ra 0 11),(ra 0 12),(ra 0 13)] [11,12,13] (by kernel_rfl) [_,vi x.key,_,vi x.before,vi (uf x.key x.before),_,_,vi x.key,_,vi x.before,vi (oP st (li.map fK.id) x.key x.before)] H (aF (Z0 rfl (Rf yB rfl)) (Z1 0 51 rfl (Ro aH 0 rfl)) (Z0 rfl (Rf Et rfl)) (Z1 2 53 rfl (Ro aH 0 rfl)) (aF ?_ (Z0 rfl (Rm rfl)) (Z0 rfl (Rf yB rfl)) (Z1 6 57 rfl (Ro aH 0 rfl)) (aF (Z0 rfl (Rf Et rfl)) (Z1 8 59 rfl (Ro aH 0 rfl)) ?_ (bQ rfl) (bM (bQ rfl) (bM (bQ rfl) dz))))) ?_
  ·refine dK 1 52 3 54 rfl rfl fun _ a w G1 hG HT H fin=>?_;refine s_call R9 H wn rfl (Ry _ _ H.ro x.key x.before) rfl ?_;clear H;rintro v55 Ke a w rfl TI H;exact fin H TI (rfl)
  ·refine zk 5 56 7 58 9 60 rfl rfl fun _ a w G1 hG HT H fin=>?_;refine s_call RZ H wn rfl (RB _ _ H.ro st li rv b ms ml mr mb mu n x.key x.before (hck.mono hG) (hG _ _ hb)) rfl ?_;clear H;rintro v61 G61 a w ⟨rfl,-⟩ TJ H;exact fin H TJ (rfl)
  clear H;intro a w G ru H hv;have H:=H.aM (hv 4 55 rfl rfl) rfl;have H:=H.aM (hv 10 61 rfl rfl) rfl;clear hv;refine ig qU iy [_,_] [_,_] H wn rfl rfl rfl rfl rfl (by intro i q h;match i,h with|0,h=>exact h|1,h=>exact h|n+2,h=>simp at h) rfl rfl ?_;clear H;intro b62 a w alo H;obtain ⟨G62,amf,Ua,H⟩:=H.eH;refine s_call sj H wn rfl (sD _ _ H.ro _ _ (zR Ua)) rfl ?_;clear H;rintro v63 _ a w ⟨rfl,rfl⟩ - H;refine kH H (Ra rfl ?_);clear H;intro a H;refine aD ⟨rfl,?_⟩;refine bW _ _ ?_;clear bW;refine lr H results132 rfl ?_
  exact H.rt (by rw [he];refine aB vi ?_;clear he hrow hrow' hq hx hy;unfold xI;(repeat' split) <;> first|rfl|(simp_all;done)|(exfalso;simp_all;done))
 skip;refine dI hmx [[],[0],[0,1],[0,1,2],(ra 0 4),[0,1,2],[0,1,2],[0,1,2,6],[0,1,2,5,6,7],[0,1,2,5,6,7,8],[0,1,2,5,6,7,8,9],(ra 0 11),(ra 0 12),(ra 0 13)] [13] (by kernel_rfl) [_,_,_,undef,undef,undef,undef,undef,undef,undef,undef,undef,_] H (aF (Z0 rfl (Rm rfl)) (Z1 0 30 rfl (Rc rfl)) (Z1 1 31 rfl (Rm rfl)) (aX 2 (aU c0) rfl rfl) (aF (aX 2 (aU c0) rfl rfl) (aX 2 (aU c0) rfl rfl) (aX 2 (aU c0) rfl rfl) (aX 2 (aU c0) rfl rfl) (aF (aX 2 (aU c0) rfl rfl) (aX 2 (aU c0) rfl rfl) (aX 2 (aU c0) rfl rfl) (aX 2 (aU c0) rfl rfl) (bM (Z2 2 32 11 41 rfl (Pf (aU c0) rfl)) (bM (bQ rfl) dz))))) ?_
 clear H;intro a w G iU H hv;have H:=H.aM (hv 12 42 rfl rfl) rfl;clear hv;refine kH H (Ra rfl ?_);clear H;intro a H;refine aD ⟨rfl,?_⟩;refine K8 _ _ ?_;clear K8;refine rY H rfl rfl ?_;refine bN (fun _ cB=>?_)
 have hz:¬ (0 < k∧x.key < y.key):=by first|exact fun h=>c1 h.2|exact fun h=>c0 (by omega)
 refine kP H (SC (bG Oj pV 0 rfl rfl (Rn rfl (bC cB rfl (Cd rfl ?_ ?_))))) <;> clear H cB
 ·intro h43 a H
  try have p43:=dT h43
  refine kP H (SR fun _ dw=>bG Et aH 0 rfl rfl (Rc rfl ?_));clear H;intro a H;refine s_call jR H wn rfl (jS _ _ H.ro _ 21) rfl ?_;clear H;rintro v50 _ a w ⟨rfl,rfl⟩ - H;refine kH H (ak dw rfl ?_);clear H dw;intro a H;refine lr H results132 rfl ?_
  exact H.rt (by rw [he];refine aB vi ?_;clear he hrow hrow' hq hx hy;unfold xI;(repeat' split) <;> first|rfl|(simp_all;done)|(exfalso;simp_all;done))
 intro h43 a H
 try have p43:=dF h43
 refine fZ ?_;refine K3 _ _ ?_;clear K3;refine bN (fun _ dR=>?_);replace hck:=(hck.mono Di).mono iU;replace hb:=iU _ _ (Di _ _ hb);refine dI hmx [[],[0],[],[2],(ra 0 4),[],[],[6],[],[8],(ra 0 10),(ra 0 11),(ra 0 12),(ra 0 13)] [11,12,13] (by kernel_rfl) [_,vi x.key,_,vi x.before,vi (uf x.key x.before),_,_,vi x.key,_,vi x.before,vi (oP st (li.map fK.id) x.key x.before)] H (aF (Z0 rfl (Rf yB rfl)) (Z1 0 51 rfl (Ro aH 0 rfl)) (Z0 rfl (Rf Et rfl)) (Z1 2 53 rfl (Ro aH 0 rfl)) (aF ?_ (Z0 rfl (Rm rfl)) (Z0 rfl (Rf yB rfl)) (Z1 6 57 rfl (Ro aH 0 rfl)) (aF (Z0 rfl (Rf Et rfl)) (Z1 8 59 rfl (Ro aH 0 rfl)) ?_ (bQ rfl) (bM (bQ rfl) (bM (bQ rfl) dz))))) ?_
 ·refine dK 1 52 3 54 rfl rfl fun _ a w G1 hG HT H fin=>?_;refine s_call R9 H wn rfl (Ry _ _ H.ro x.key x.before) rfl ?_;clear H;rintro v55 Ke a w rfl TI H;exact fin H TI (rfl)
 ·refine zk 5 56 7 58 9 60 rfl rfl fun _ a w G1 hG HT H fin=>?_;refine s_call RZ H wn rfl (RB _ _ H.ro st li rv b ms ml mr mb mu n x.key x.before (hck.mono hG) (hG _ _ hb)) rfl ?_;clear H;rintro v61 G61 a w ⟨rfl,-⟩ TJ H;exact fin H TJ (rfl)
 clear H;intro a w G ru H hv;have H:=H.aM (hv 4 55 rfl rfl) rfl;have H:=H.aM (hv 10 61 rfl rfl) rfl;clear hv;refine ig qU iy [_,_] [_,_] H wn rfl rfl rfl rfl rfl (by intro i q h;match i,h with|0,h=>exact h|1,h=>exact h|n+2,h=>simp at h) rfl rfl ?_;clear H;intro b62 a w alo H;obtain ⟨G62,amf,Ua,H⟩:=H.eH;refine s_call sj H wn rfl (sD _ _ H.ro _ _ (zR Ua)) rfl ?_;clear H;rintro v63 _ a w ⟨rfl,rfl⟩ - H;refine kH H (Ra rfl ?_);clear H;intro a H;refine aD ⟨rfl,?_⟩;refine dR _ _ ?_;clear dR;refine lr H results132 rfl ?_
 exact H.rt (by rw [he];refine aB vi ?_;clear he hrow hrow' hq hx hy;unfold xI;(repeat' split) <;> first|rfl|(simp_all;done)|(exfalso;simp_all;done))
end
section
theorem JU:Ty prog 123 1 8 [.pointer none] false:=⟨by kernel_rfl,by kernel_rfl⟩
theorem ahs:∀ args w,(callFunc 132 args).run prog w=.ok (.enter 132 args) w:=enters func132 rfl (by kernel_rfl)
theorem DY:Ty prog 27 4 64 [.int .i64 0,.int .i64 0,.slice none 0 0,.slice none 0 0] true:=⟨by kernel_rfl,by kernel_rfl⟩
theorem Es:dN prog 159 0 0:=⟨by kernel_rfl⟩
theorem ZC:dN prog 159 1 1:=⟨by kernel_rfl⟩
theorem ahr:∀ args w,(callFunc 131 args).run prog w=.ok (.enter 131 args) w:=enters func131 rfl (by kernel_rfl)
variable {us:List Int}
theorem anK {G:GH} {st:List cu} {li:List fK} {rv:List dh} {b ms ml mr mb mu:Nat} {n:Int} (hck:wR us G st li rv ms ml mr mu) (hb:G b=some (gI b ms ml mr mb mu n).2)
  {x3 x4 WM:Nat} {e:Int} {l:List cO} {v:aj} (h3:aI G x3 0=some (aK b 0)) (h4:aI G x4 0=some (vi e)) (h11:aI G WM 3=some v) (hv:av G (.sl 4 (l.map cO.dat)) v) :
  uS (.func (.func 131) #[] #[(aK x3 0),(aK x4 0),(aK WM 0)]) G l.length (zI (bF us st li rv) e l):=by
 intro k hk G1 w0 hm hG;refine jI (caps:=[(aK x3 0),(aK x4 0),(aK WM 0)]) ahr ?_;replace h3:=aJ hm h3;replace h4:=aJ hm h4;replace h11:=aJ hm h11;replace hv:=hv.mono hm;obtain ⟨vA,vn,vc,rfl⟩:=hv.form;refine eN [(0,_),(1,_),(2,_),(3,_)] func131 rfl ntmps131 rfl rfl hG ?_;intro a H;refine kP H (SR fun _ K1=>ak K1 rfl (SR fun _ K2=>Rg JU rfl (by assumption) ?_));clear H K1;intro a H;refine kH H (Rg aH rfl (by assumption) ?_);clear H;intro a H;refine kH H (Rf Ag rfl (Rg Bn rfl (by assumption) ?_));clear H;intro a H;refine kH H (Rm rfl ?_);clear H;intro a H;refine s_call ahs H wn rfl (anM _ _ H.ro st li rv b ms ml mr mb mu n (hck.mono hm) (hm _ _ hb) e l _ hv k hk) rfl ?_;clear H;rintro v11 tO a w rfl Dp H;exact kH H (ak K2 rfl (LR results131 rfl fun H=>H.rt rfl))
def Bb (C:bP) (l:List aO):Int:=dY (l.map fun p=>oP C.st C.wI p.key p.value)
def jZ (C:bP) (m:zi):Int:=if m.ins≠0∧m.ins∉C.Bd then 22 else if ¬ (0≤m.move∧m.move≤1073741824)∨(m.move≠0∧m.ins=0) then 21 else if 16 < (m.bJ.length:Int) then 9 else 0
def uZ (C:bP) (k:Nat) (x:gq) (pr:Int):Int:=if x.rev∉C.Bd then 22 else if 0 < k∧x.rev≤pr then 6 else if ¬ (0≤x.move∧x.move≤1073741824) then 21 else 0
def uY (C:bP) (l:List gq) (k:Nat):Int:=match l[k]? with|some x=>uZ C k x ((l[k - 1]?.map gq.rev).getD 0)|none=>0
def iE (C:bP) (e:Int) (h:dQ):Int:=dY [iw e h.props,Bb C h.props,jZ C h.marks,kQ (uY C h.marks.bJ) h.marks.bJ.length,dx (decide (64 < (h.marks.layers.length:Int))) 9,kQ (zI C e h.marks.layers) h.marks.layers.length]
theorem alL {C:bP} {e:Int} {h:dQ} (h1:iw e h.props≠0):iE C e h=iw e h.props:=by simp [iE,dY,h1]
theorem alM {C:bP} {e:Int} {h:dQ} (h1:iw e h.props=0) (h2:Bb C h.props≠0):iE C e h=Bb C h.props:=by simp [iE,dY,h1,h2]
theorem Dm {C:bP} {e:Int} {h:dQ} (h1:iw e h.props=0) (h2:Bb C h.props=0) (h3:jZ C h.marks≠0):iE C e h=jZ C h.marks:=by simp [iE,dY,h1,h2,h3]
theorem alN {C:bP} {e:Int} {h:dQ} (h1:iw e h.props=0) (h2:Bb C h.props=0) (h3:jZ C h.marks=0) (h4:kQ (uY C h.marks.bJ) h.marks.bJ.length≠0):iE C e h=kQ (uY C h.marks.bJ) h.marks.bJ.length:=by simp [iE,dY,h1,h2,h3,h4]
theorem alO {C:bP} {e:Int} {h:dQ} (h1:iw e h.props=0) (h2:Bb C h.props=0) (h3:jZ C h.marks=0) (h4:kQ (uY C h.marks.bJ) h.marks.bJ.length=0) (h5:64 < (h.marks.layers.length:Int)):iE C e h=9:=by simp [iE,dY,h1,h2,h3,h4,dx,h5]
theorem alP {C:bP} {e:Int} {h:dQ} (h1:iw e h.props=0) (h2:Bb C h.props=0) (h3:jZ C h.marks=0) (h4:kQ (uY C h.marks.bJ) h.marks.bJ.length=0) (h5:¬ 64 < (h.marks.layers.length:Int)):iE C e h=kQ (zI C e h.marks.layers) h.marks.layers.length:=by simp [iE,dY,h1,h2,h3,h4,dx,h5];exact Eq.symm
theorem acG {C:bP} {l:List aO} {k:Nat} (h:k < l.length):dY ((l.map fun p=>oP C.st C.wI p.key p.value).drop k)=if oP C.st C.wI l[k].key l[k].value≠0 then oP C.st C.wI l[k].key l[k].value else dY ((l.map fun p=>oP C.st C.wI p.key p.value).drop (k+1)):=by
 rw [Ou (by simpa using h)];simp
theorem alQ (G:GH) (w0:World) (hG:Hold G w0) (st:List cu) (li:List fK) (rv:List dh) (b ms ml mr mb mu:Nat) (n:Int) (hck:wR us G st li rv ms ml mr mu) (hb:G b=some (gI b ms ml mr mb mu n).2)
  (e:Int) (h:dQ) (p d l:aj) (hh:jc G h p d l) (hz:mh h≤4294967296) :
  Calls prog 70 #[(aK b 0),vi e,rz h p d l] w0 (bH w0 G fun u G'=>u=vi (iE (bF us st li rv) e h)):=by
 obtain ⟨pA,pc,rfl,-,-,-⟩:=hh.props.slice;obtain ⟨dA,dc,rfl,-,-,-⟩:=hh.bJ.slice;obtain ⟨lA,lc,rfl,-,-,-⟩:=hh.layers.slice;have hml:maxLen=9223372036854775807:=rfl;have hzz:=Fw h;have hz1:=qP (h.props.map aO.dat);have hz2:=qP (h.marks.bJ.map gq.dat);have hz3:=qP (h.marks.layers.map cO.dat)
 simp only [aZ] at hh hz1 hz2 hz3 ⊢
 generalize mh h=zz at hz hzz
 refine eN [(0,_),(1,_),(2,_)] func70 rfl ntmps70 rfl rfl hG ?_;intro a H;refine bZ (fun _ K1=>?_);refine dZ (cs:=[_]) H wn rfl rfl rfl ?_;clear H;intro b3 a w hb3 H;refine dZ (cs:=[_]) H wn rfl rfl rfl ?_;clear H;intro b4 a w hb4 H;refine dZ (cs:=[_,_,_,_,_]) H wn rfl rfl rfl ?_;clear H;intro b5 a w hb5 H;refine kH H (ak K1 rfl (SQ fun _ K2=>SQ fun _ K3=>?_));clear H K1;intro a H;obtain ⟨Ga5,OV,BZ,H⟩:=H.eH;obtain ⟨Ga4,Jq,Av,H⟩:=H.eH;obtain ⟨Ga,EJ,Au,H⟩:=H.eH;replace BZ:=EJ _ _ (Jq _ _ BZ);replace Av:=EJ _ _ Av;have hma:∀ b o,G b=some o→Ga b=some o:=fun b o h=>EJ _ _ (Jq _ _ (OV _ _ h));clear EJ Jq OV;replace hck:=hck.mono hma;replace hb:=hma _ _ hb;replace hh:=hh.mono hma
 have g3:aI Ga b3 0=some (aK b 0):=by unfold aI;rw [Au];rfl
 have g4:aI Ga b4 0=some (vi e):=by unfold aI;rw [Av];rfl
 have g50:aI Ga b5 0=some (.slice pA h.props.length pc):=by unfold aI;rw [BZ];rfl
 have g51:∀ (j:Nat) (u:aj),[vi h.marks.ins,vi h.marks.move,.slice dA h.marks.bJ.length dc,.slice lA h.marks.layers.length lc][j]?=some u→aI Ga b5 (1+j)=some u:=by
  intro j u hj
  unfold aI;rw [BZ]
  match j,hj with
  | 0,hj=>exact hj
  | 1,hj=>exact hj
  | 2,hj=>exact hj
  | 3,hj=>exact hj
  | n+4,hj=>simp at hj
 have hc2:aI Ga b 2=some (.map (some mr)):=by unfold aI;rw [hb];rfl
 refine kP H (SC (Rg aH rfl (by assumption) ?_));clear H;intro a H;refine kH H (Rf yC rfl (Rg uO rfl (by assumption) ?_));clear H;intro a H;refine s_call Y3 H wn rfl (X6 (acy _ _ H.ro e h.props _ hh.props)) rfl ?_;clear H;rintro v17 _ a w ⟨⟨_,rfl⟩,rfl⟩ - H;refine kH H (bC K3 rfl (SR fun _ K4=>Rm rfl (Rc rfl (Kz K4 (Cd rfl ?_ ?_))))) <;> clear H K3 K4
 ·intro h19 a H
  try have sO:=dT h19
  refine bN (fun _ K5=>?_);have hE:=alL (C:=bF us st li rv) (e:=e) (h:=h) sO;exact kP H (SC (Rm rfl (bC K5 rfl (LR results70 rfl fun H=>H.rt (by rw [hE])))))
 intro h19 a H
 try have sO:=dF h19
 have e1:iw e h.props=0:=by simpa using sO
 refine kP H (Kc K2 (SQ fun _ K6=>SR fun _ K7=>Rf yC rfl (Rg uO rfl (by assumption) ?_)));clear H K2;intro a H;refine kH H (Rl gG rfl (Rm rfl (Kz K7 (SB ?_))));clear H K7;intro a H;skip;refine fH (ι:=Nat) (Tc:=[(3,_),(4,_),(5,_),(22,_),(23,_)]) (Lc:=[]) (fun gh=>[(24,vi gh)]) (fun gh=>[]) (fun gh=>Ga) (fun gh=>gh≤h.props.length∧dY ((h.props.map fun p=>oP st (li.map fK.id) p.key p.value).drop gh)=Bb (bF us st li rv) h.props) (fun gh=>h.props.length - gh) (0) (by exact (H).sub ⟨rfl,rfl,rfl,rfl,rfl,rfl,aC⟩) ?_ ?_
 ·exact ⟨gY _,rfl⟩
 clear H;intro k a w hI H;obtain ⟨hk,heq⟩:=hI;dsimp only [lca,bq] at H;refine kP H (SR fun _ K8=>Rc rfl (Kz K8 (SQ fun _ K9=>Cd rfl ?_ ?_))) <;> clear H K8
 ·intro gX a H
  try have p25:=dT gX
  have hk2:k < h.props.length:=by omega
  obtain ⟨xb,xo,rfl,hrow⟩:=HV hh.props hk2;refine kP H (Kc K9 (SQ fun _ aW=>SB (SR fun _ bO=>Ri gG gT rfl rfl ?_)));clear H K9;intro a H;refine bB gT (cs:=[_,_]) H wn rfl rfl (fun j v hj=>H.hp.aI (hrow j v hj)) rfl ?_;clear H;intro a H;refine dB gT H wn rfl ?_;clear H;intro b9 a w zD H;refine aY gT 0 (vs:=[_,_]) _ H wn rfl rfl rfl rfl rfl rfl rfl rfl ?_;clear H;intro w H;dsimp only [List.set,setRow] at H;refine bO _ _ ?_;clear bO;refine kP H (SR fun _ bW=>Rg JU rfl (by assumption) ?_);clear H;intro a H;refine kH H (bG xq aH 0 rfl rfl (bG Ol aH 0 rfl rfl ?_));clear H;intro a H;refine s_call RZ H wn rfl (RB _ _ H.ro st li rv b ms ml mr mb mu n h.props[k].key h.props[k].value hck hb) rfl ?_;clear H;rintro v33 _ a w ⟨rfl,rfl⟩ - H;refine kH H (ak bW rfl (SR fun _ cB=>Rm rfl (Rc rfl (Kz cB (Cd rfl ?_ ?_))))) <;> clear H bW cB
  ·intro gV a H
   try have p35:=dT gV
   refine bN (fun _ dw=>?_)
   have hr:Bb (bF us st li rv) h.props=oP st (li.map fK.id) h.props[k].key h.props[k].value:=by rw [← heq];exact (acG (C:=bF us st li rv) hk2).trans (au p35)
   have hE:=(alM (C:=bF us st li rv) (e:=e) (h:=h) e1 (by rw [hr];exact p35)).trans hr;exact kP H (SC (Rm rfl (bC dw rfl (LR results70 rfl fun H=>H.rt (by rw [hE])))))
  intro gV a H
  try have p35:=dF gV
  refine kP H (Kc aW (SC (Rd rfl (Rm rfl ?_))));clear H aW;intro a H;refine aD ?_;refine dM ((k+1)) (by exact (H.dG (Pl:=[_]) (cZ:=[]) [] (by decide) rfl).sub ⟨rfl,rfl,rfl,rfl,rfl,rfl,aC⟩) ?_
  exact ⟨by omega,by rw [acG (C:=bF us st li rv) hk2,ah (by simpa using p35)] at heq;exact heq⟩
 intro gX a H
 try have p25:=dF gX
 refine eu ?_;refine K6 _ _ ?_;clear K6;refine bN (fun _ dR=>?_)
 have e2:Bb (bF us st li rv) h.props=0:=by rw [← heq,jm (by rw [aZ];omega)];rfl
 refine kP H (SC (Rf mD rfl ?_));clear H;intro a H;refine bB DY (cs:=[vi h.marks.ins,vi h.marks.move,.slice dA h.marks.bJ.length dc,.slice lA h.marks.layers.length lc]) H wn rfl rfl (fun j v hj=>H.hp.aI (g51 j v hj)) rfl ?_;clear H;intro a H;refine dB DY H wn rfl ?_;clear H;intro b11 a w BX H;refine aY DY 0 (vs:=[_,_,_,_]) _ H wn rfl rfl rfl rfl rfl rfl rfl rfl ?_;clear H;intro w H;dsimp only [List.set,setRow] at H;obtain ⟨Gb,hmb,EC,H⟩:=H.eH;replace hck:=hck.mono hmb;replace hb:=hmb _ _ hb;replace hh:=hh.mono hmb;replace g3:=aJ hmb g3;replace g4:=aJ hmb g4;replace hc2:=aJ hmb hc2
 have q0:aI Gb b11 0=some (vi h.marks.ins):=by unfold aI;rw [EC];rfl
 have q1:aI Gb b11 1=some (vi h.marks.move):=by unfold aI;rw [EC];rfl
 have q2:aI Gb b11 2=some (.slice dA h.marks.bJ.length dc):=by unfold aI;rw [EC];rfl
 have q3:aI Gb b11 3=some (.slice lA h.marks.layers.length lc):=by unfold aI;rw [EC];rfl
 have hcb:=anK hck hb g3 g4 q3 hh.layers;refine aD ?_;refine dR _ _ ?_;clear dR;refine tZ (ι:=GH) (Tc:=[(3,_),(4,_),(11,_)]) (Lc:=[]) (fun gh=>[]) (fun gh=>[]) (fun gh=>gh) (fun gh=>jZ (bF us st li rv) h.marks=0∧(∀ b o,Gb b=some o→gh b=some o)) (by exact (H).sub ⟨rfl,rfl,rfl,aC⟩) ?_ ?_
 ·skip;refine wY ?_;refine bN (fun _ dW=>?_)
  by_cases c0:h.marks.ins≠0
  ·skip
   by_cases c1:h.marks.ins∉rv.map dh.id
   ·skip;refine dI hmx [[],[0],[0,1],[0,1,2],(ra 0 4),(ra 0 5),(ra 0 6),(ra 0 7),(ra 0 4),[0,1,2,3,8],(ra 0 10),(ra 0 11),(ra 0 12),(ra 0 13)] [13] (by kernel_rfl) [_,_,_,_,_,(aK b 0),_,_,_,_,.bool (decide (h.marks.ins∈rv.map dh.id)),.bool (decide (h.marks.ins∉rv.map dh.id)),_] H (aF (Z0 rfl (Rf sw rfl)) (X1 0 41 rfl fun hG=>Rg aH rfl (aJ hG q0)) (Z1 1 42 rfl (Rc rfl)) (Z1 2 43 rfl (Rm rfl)) (aF (X1 3 44 rfl fun hG=>YR JU (aG c0) rfl (aJ hG g3)) ?_ (Z2 5 46 3 44 rfl (YF KW (aG c0) rfl)) (X2 6 47 3 44 rfl fun hG=>YR uN (aG c0) rfl (aJ hG hc2)) (aF (Z1 3 44 rfl (YF sw (aG c0) rfl)) (X2 8 49 3 44 rfl fun hG=>YR aH (aG c0) rfl (aJ hG q0)) ?_ ?_ (bM (Z2 3 44 11 52 rfl (Pt (aG c0) rfl)) (bM (bQ rfl) dz))))) ?_
    ·refine dK 4 45 3 44 rfl rfl fun _ a w G1 hG HT H fin=>?_;refine vO H (wg H rfl rfl (aG c0)) rfl rfl ?_;clear H;intro a H;exact fin H iJ rfl
    ·refine zk 7 48 9 50 3 44 rfl rfl fun _ a w G1 hG HT H fin=>?_;refine Bg (zv:=.bool false) xR lJ (by kernel_rfl) H (wg H rfl rfl (aG c0)) rfl rfl (H.ro _ _ (hG _ _ hck.rev)) rfl ?_;clear H;intro a H;rw [ET] at H;exact fin H iJ rfl
    ·refine dK 10 51 3 44 rfl rfl fun _ a w G1 hG HT H fin=>?_;refine kH H (YN (aG c0) rfl ?_);clear H;intro a H;exact fin H iJ (by show _=_;first|rfl|exact dO decide_not.symm)
    clear H;intro a w G oN H hv;have H:=H.aM (hv 12 53 rfl rfl) rfl;clear hv;refine kH H (Ra rfl ?_);clear H;intro a H;refine aD ⟨rfl,?_⟩;refine dW _ _ ?_;clear dW;refine BN H rfl (aG c1) ?_;refine bN (fun _ dU=>?_);have e3:jZ (bF us st li rv) h.marks=22:=au ⟨c0,c1⟩;have hE:=(Dm (C:=bF us st li rv) (e:=e) (h:=h) e1 e2 (by rw [e3];decide)).trans e3;exact kP H (SC (bC dU rfl (LR results70 rfl fun H=>H.rt (by rw [hE]))))
   skip;refine dI hmx [[],[0],[0,1],[0,1,2],(ra 0 4),(ra 0 5),(ra 0 6),(ra 0 7),(ra 0 4),[0,1,2,3,8],(ra 0 10),(ra 0 11),(ra 0 12),(ra 0 13)] [13] (by kernel_rfl) [_,_,_,_,_,(aK b 0),_,_,_,_,.bool (decide (h.marks.ins∈rv.map dh.id)),.bool (decide (h.marks.ins∉rv.map dh.id)),_] H (aF (Z0 rfl (Rf sw rfl)) (X1 0 41 rfl fun hG=>Rg aH rfl (aJ hG q0)) (Z1 1 42 rfl (Rc rfl)) (Z1 2 43 rfl (Rm rfl)) (aF (X1 3 44 rfl fun hG=>YR JU (aG c0) rfl (aJ hG g3)) ?_ (Z2 5 46 3 44 rfl (YF KW (aG c0) rfl)) (X2 6 47 3 44 rfl fun hG=>YR uN (aG c0) rfl (aJ hG hc2)) (aF (Z1 3 44 rfl (YF sw (aG c0) rfl)) (X2 8 49 3 44 rfl fun hG=>YR aH (aG c0) rfl (aJ hG q0)) ?_ ?_ (bM (Z2 3 44 11 52 rfl (Pt (aG c0) rfl)) (bM (bQ rfl) dz))))) ?_
   ·refine dK 4 45 3 44 rfl rfl fun _ a w G1 hG HT H fin=>?_;refine vO H (wg H rfl rfl (aG c0)) rfl rfl ?_;clear H;intro a H;exact fin H iJ rfl
   ·refine zk 7 48 9 50 3 44 rfl rfl fun _ a w G1 hG HT H fin=>?_;refine Bg (zv:=.bool false) xR lJ (by kernel_rfl) H (wg H rfl rfl (aG c0)) rfl rfl (H.ro _ _ (hG _ _ hck.rev)) rfl ?_;clear H;intro a H;rw [ET] at H;exact fin H iJ rfl
   ·refine dK 10 51 3 44 rfl rfl fun _ a w G1 hG HT H fin=>?_;refine kH H (YN (aG c0) rfl ?_);clear H;intro a H;exact fin H iJ (by show _=_;first|rfl|exact dO decide_not.symm)
   clear H;intro a w G oN H hv;have H:=H.aM (hv 12 53 rfl rfl) rfl;clear hv;refine kH H (Ra rfl ?_);clear H;intro a H;refine aD ⟨rfl,?_⟩;refine dW _ _ ?_;clear dW;refine rY H rfl (aU c1) ?_;refine bN (fun _ eG=>?_)
   have hno:¬ (h.marks.ins≠0∧h.marks.ins∉(bF us st li rv).Bd):=by first|exact fun h=>c1 h.2|exact fun h=>c0 h.1
   replace q0:=aJ oN q0;replace q1:=aJ oN q1;replace q2:=aJ oN q2;refine kP H (SC (Rf BQ rfl (Rg aH rfl (by assumption) ?_)));clear H;intro a H;refine s_call yw H wn rfl (yP _ _ H.ro h.marks.move 0 1073741824) rfl ?_;clear H;rintro v57 _ a w ⟨rfl,rfl⟩ - H;refine kH H (Rn rfl (Rm rfl (Sp 59 rfl ?_ ?_))) <;> clear H
   ·intro iK a H
    try have p59:=dT iK
    refine kH H (aP iK rfl (aP iK rfl (Ku rfl (Ku rfl (Ku rfl (Ks iK rfl (Pt iK rfl (bC eG rfl (Ct rfl rfl (SQ fun _ gu=>?_))))))))));clear H eG;intro a H
    have e3:jZ (bF us st li rv) h.marks=21:=by unfold jZ;rw [ah hno,au (by first|(simp_all;done)|(simp_all;omega))]
    have hE:=(Dm (C:=bF us st li rv) (e:=e) (h:=h) e1 e2 (by rw [e3];decide)).trans e3;exact kP H (SC (bC gu rfl (LR results70 rfl fun H=>H.rt (by rw [hE]))))
   intro iK a H
   try have p59:=dF iK
   refine kH H (YF BQ iK rfl (YR aH iK rfl (by assumption) ?_));clear H;intro a H;refine kH H (YC iK rfl (YM iK rfl (Sp 63 rfl ?_ ?_))) <;> clear H
   ·intro h63 a H
    try have p63:=dT h63
    refine kH H (YF sw h63 rfl (YR aH h63 rfl (by assumption) ?_));clear H;intro a H;refine kH H (YC h63 rfl (PT iK h63 rfl (Pf iK rfl (bC eG rfl (Cd rfl ?_ ?_))))) <;> clear H eG
    ·intro gQ a H
     try have p54:=dT gQ
     refine bN (fun _ fC=>?_)
     have e3:jZ (bF us st li rv) h.marks=21:=by unfold jZ;rw [ah hno,au (by first|(simp_all;done)|(simp_all;omega))]
     have hE:=(Dm (C:=bF us st li rv) (e:=e) (h:=h) e1 e2 (by rw [e3];decide)).trans e3;exact kP H (SC (bC fC rfl (LR results70 rfl fun H=>H.rt (by rw [hE]))))
    intro gQ a H
    try have p54:=dF gQ
    refine bN (fun _ gH=>?_)
    have hn2:¬ (¬ (0≤h.marks.move∧h.marks.move≤1073741824)∨(h.marks.move≠0∧h.marks.ins=0)):=by first|(simp_all;done)|(simp_all;omega)
    refine kP H (SC (Rf qj rfl (Rg qy rfl (by assumption) ?_)));clear H;intro a H;refine kH H (Rl lU rfl (Rc rfl (bC gH rfl (Cd rfl ?_ ?_)))) <;> clear H gH
    ·intro sH a H
     refine bN (fun _ iC=>?_)
     have e3:jZ (bF us st li rv) h.marks=9:=by unfold jZ;rw [ah hno,ah hn2,au (by simpa using sH)]
     have hE:=(Dm (C:=bF us st li rv) (e:=e) (h:=h) e1 e2 (by rw [e3];decide)).trans e3;exact kP H (SC (bC iC rfl (LR results70 rfl fun H=>H.rt (by rw [hE]))))
    intro sH a H
    have e3:jZ (bF us st li rv) h.marks=0:=by unfold jZ;rw [ah hno,ah hn2,ah (by simpa using sH)]
    refine fZ ?_;refine ⟨_,by exact (H).sub ⟨rfl,rfl,rfl,aC⟩,?_⟩;exact ⟨e3,oN⟩
   intro h63 a H
   try have p63:=dF h63
   refine kH H (bD h63 rfl (PF iK h63 rfl (Pf iK rfl (bC eG rfl (Cf rfl rfl (SQ fun _ jT=>?_))))));clear H eG;intro a H
   have hn2:¬ (¬ (0≤h.marks.move∧h.marks.move≤1073741824)∨(h.marks.move≠0∧h.marks.ins=0)):=by first|(simp_all;done)|(simp_all;omega)
   refine kP H (SC (Rf qj rfl (Rg qy rfl (by assumption) ?_)));clear H;intro a H;refine kH H (Rl lU rfl (Rc rfl (bC jT rfl (Cd rfl ?_ ?_)))) <;> clear H jT
   ·intro sH a H
    refine bN (fun _ jN=>?_)
    have e3:jZ (bF us st li rv) h.marks=9:=by unfold jZ;rw [ah hno,ah hn2,au (by simpa using sH)]
    have hE:=(Dm (C:=bF us st li rv) (e:=e) (h:=h) e1 e2 (by rw [e3];decide)).trans e3;exact kP H (SC (bC jN rfl (LR results70 rfl fun H=>H.rt (by rw [hE]))))
   intro sH a H
   have e3:jZ (bF us st li rv) h.marks=0:=by unfold jZ;rw [ah hno,ah hn2,ah (by simpa using sH)]
   refine fZ ?_;refine ⟨_,by exact (H).sub ⟨rfl,rfl,rfl,aC⟩,?_⟩;exact ⟨e3,oN⟩
  skip;refine dI hmx [[],[0],[0,1],[0,1,2],(ra 0 4),(ra 0 5),(ra 0 6),(ra 0 7),(ra 0 4),[0,1,2,3,8],(ra 0 10),(ra 0 11),(ra 0 12),(ra 0 13)] [13] (by kernel_rfl) [_,_,_,_,undef,undef,undef,undef,undef,undef,undef,undef,_] H (aF (Z0 rfl (Rf sw rfl)) (X1 0 41 rfl fun hG=>Rg aH rfl (aJ hG q0)) (Z1 1 42 rfl (Rc rfl)) (Z1 2 43 rfl (Rm rfl)) (aF (aX 3 (aU c0) rfl rfl) (aX 3 (aU c0) rfl rfl) (aX 3 (aU c0) rfl rfl) (aX 3 (aU c0) rfl rfl) (aF (aX 3 (aU c0) rfl rfl) (aX 3 (aU c0) rfl rfl) (aX 3 (aU c0) rfl rfl) (aX 3 (aU c0) rfl rfl) (bM (Z2 3 44 11 52 rfl (Pf (aU c0) rfl)) (bM (bQ rfl) dz))))) ?_
  clear H;intro a w G oN H hv;have H:=H.aM (hv 12 53 rfl rfl) rfl;clear hv;refine kH H (Ra rfl ?_);clear H;intro a H;refine aD ⟨rfl,?_⟩;refine dW _ _ ?_;clear dW;refine rY H rfl rfl ?_;refine bN (fun _ jO=>?_)
  have hno:¬ (h.marks.ins≠0∧h.marks.ins∉(bF us st li rv).Bd):=by first|exact fun h=>c1 h.2|exact fun h=>c0 h.1
  replace q0:=aJ oN q0;replace q1:=aJ oN q1;replace q2:=aJ oN q2;refine kP H (SC (Rf BQ rfl (Rg aH rfl (by assumption) ?_)));clear H;intro a H;refine s_call yw H wn rfl (yP _ _ H.ro h.marks.move 0 1073741824) rfl ?_;clear H;rintro v57 _ a w ⟨rfl,rfl⟩ - H;refine kH H (Rn rfl (Rm rfl (Sp 59 rfl ?_ ?_))) <;> clear H
  ·intro iK a H
   try have p59:=dT iK
   refine kH H (aP iK rfl (aP iK rfl (Ku rfl (Ku rfl (Ku rfl (Ks iK rfl (Pt iK rfl (bC jO rfl (Ct rfl rfl (SQ fun _ kU=>?_))))))))));clear H jO;intro a H
   have e3:jZ (bF us st li rv) h.marks=21:=by unfold jZ;rw [ah hno,au (by first|(simp_all;done)|(simp_all;omega))]
   have hE:=(Dm (C:=bF us st li rv) (e:=e) (h:=h) e1 e2 (by rw [e3];decide)).trans e3;exact kP H (SC (bC kU rfl (LR results70 rfl fun H=>H.rt (by rw [hE]))))
  intro iK a H
  try have p59:=dF iK
  refine kH H (YF BQ iK rfl (YR aH iK rfl (by assumption) ?_));clear H;intro a H;refine kH H (YC iK rfl (YM iK rfl (Sp 63 rfl ?_ ?_))) <;> clear H
  ·intro h63 a H
   try have p63:=dT h63
   refine kH H (YF sw h63 rfl (YR aH h63 rfl (by assumption) ?_));clear H;intro a H;refine kH H (YC h63 rfl (PT iK h63 rfl (Pf iK rfl (bC jO rfl (Cd rfl ?_ ?_))))) <;> clear H jO
   ·intro gQ a H
    try have p54:=dT gQ
    refine bN (fun _ lC=>?_)
    have e3:jZ (bF us st li rv) h.marks=21:=by unfold jZ;rw [ah hno,au (by first|(simp_all;done)|(simp_all;omega))]
    have hE:=(Dm (C:=bF us st li rv) (e:=e) (h:=h) e1 e2 (by rw [e3];decide)).trans e3;exact kP H (SC (bC lC rfl (LR results70 rfl fun H=>H.rt (by rw [hE]))))
   intro gQ a H
   try have p54:=dF gQ
   refine bN (fun _ jP=>?_)
   have hn2:¬ (¬ (0≤h.marks.move∧h.marks.move≤1073741824)∨(h.marks.move≠0∧h.marks.ins=0)):=by first|(simp_all;done)|(simp_all;omega)
   refine kP H (SC (Rf qj rfl (Rg qy rfl (by assumption) ?_)));clear H;intro a H;refine kH H (Rl lU rfl (Rc rfl (bC jP rfl (Cd rfl ?_ ?_)))) <;> clear H jP
   ·intro sH a H
    refine bN (fun _ nM=>?_)
    have e3:jZ (bF us st li rv) h.marks=9:=by unfold jZ;rw [ah hno,ah hn2,au (by simpa using sH)]
    have hE:=(Dm (C:=bF us st li rv) (e:=e) (h:=h) e1 e2 (by rw [e3];decide)).trans e3;exact kP H (SC (bC nM rfl (LR results70 rfl fun H=>H.rt (by rw [hE]))))
   intro sH a H
   have e3:jZ (bF us st li rv) h.marks=0:=by unfold jZ;rw [ah hno,ah hn2,ah (by simpa using sH)]
   refine fZ ?_;refine ⟨_,by exact (H).sub ⟨rfl,rfl,rfl,aC⟩,?_⟩;exact ⟨e3,oN⟩
  intro h63 a H
  try have p63:=dF h63
  refine kH H (bD h63 rfl (PF iK h63 rfl (Pf iK rfl (bC jO rfl (Cf rfl rfl (SQ fun _ nZ=>?_))))));clear H jO;intro a H
  have hn2:¬ (¬ (0≤h.marks.move∧h.marks.move≤1073741824)∨(h.marks.move≠0∧h.marks.ins=0)):=by first|(simp_all;done)|(simp_all;omega)
  refine kP H (SC (Rf qj rfl (Rg qy rfl (by assumption) ?_)));clear H;intro a H;refine kH H (Rl lU rfl (Rc rfl (bC nZ rfl (Cd rfl ?_ ?_)))) <;> clear H nZ
  ·intro sH a H
   refine bN (fun _ oF=>?_)
   have e3:jZ (bF us st li rv) h.marks=9:=by unfold jZ;rw [ah hno,ah hn2,au (by simpa using sH)]
   have hE:=(Dm (C:=bF us st li rv) (e:=e) (h:=h) e1 e2 (by rw [e3];decide)).trans e3;exact kP H (SC (bC oF rfl (LR results70 rfl fun H=>H.rt (by rw [hE]))))
  intro sH a H
  have e3:jZ (bF us st li rv) h.marks=0:=by unfold jZ;rw [ah hno,ah hn2,ah (by simpa using sH)]
  refine fZ ?_;refine ⟨_,by exact (H).sub ⟨rfl,rfl,rfl,aC⟩,?_⟩;exact ⟨e3,oN⟩
 clear H;intro g a w hI H;obtain ⟨e3,yN⟩:=hI;replace hck:=hck.mono yN;replace hb:=yN _ _ hb;replace hh:=hh.mono yN;replace g3:=aJ yN g3;replace q2:=aJ yN q2;replace q3:=aJ yN q3;replace hc2:=aJ yN hc2;replace hcb:=hcb.mono yN;dsimp only [lca,bq] at H;refine kP H (SQ fun _ oZ=>SR fun _ oG=>Rf qj rfl (Rg qy rfl (by assumption) ?_));clear H;intro a H;refine kH H (Rl lU rfl (Rm rfl (Kz oG (SB ?_))));clear H oG;intro a H;skip;refine fH (ι:=Nat × GH) (Tc:=[(3,_),(4,_),(11,_),(75,_),(76,_)]) (Lc:=[]) (fun gh=>[(77,vi gh.1)]) (fun gh=>[]) (fun gh=>gh.2) (fun gh=>gh.1≤h.marks.bJ.length∧dY (((List.range h.marks.bJ.length).map (uY (bF us st li rv) h.marks.bJ)).drop gh.1)=kQ (uY (bF us st li rv) h.marks.bJ) h.marks.bJ.length∧(∀ b o,g b=some o→gh.2 b=some o)) (fun gh=>h.marks.bJ.length - gh.1) ((0,g)) (by exact (H).sub ⟨rfl,rfl,rfl,rfl,rfl,rfl,aC⟩) ?_ ?_
 ·exact ⟨gY _,rfl,fun _ _ h=>h⟩
 clear H;rintro ⟨k,g2⟩ a w hI H;dsimp only at hI H;obtain ⟨hk,heq,hgm⟩:=hI;dsimp only [lca,bq] at H;refine kP H (SR fun _ pq=>Rc rfl (Kz pq (SQ fun _ rU=>Cd rfl ?_ ?_))) <;> clear H pq
 ·intro Tn a H
  try have p78:=dT Tn
  have hk2:k < h.marks.bJ.length:=by omega
  have hd2:=hh.bJ.mono hgm;obtain ⟨xb,xo,rfl,hrow⟩:=N9 hd2 hk2
  have hk1:k - 1 < h.marks.bJ.length:=by omega
  obtain ⟨b',o',he',hrow'⟩:=N9 hd2 hk1
  injection he' with he'
  injection he' with e1 e2
  subst e1;subst e2
  have hde:uY (bF us st li rv) h.marks.bJ k=uZ (bF us st li rv) k h.marks.bJ[k] h.marks.bJ[k - 1].rev:=by unfold uY;rw [eD hk2,eD hk1];rfl
  have hX:∀ v,uZ (bF us st li rv) k h.marks.bJ[k] h.marks.bJ[k - 1].rev=v→v≠0→iE (bF us st li rv) e h=v:=fun v h1 h2=>by
   have h4:kQ (uY (bF us st li rv) h.marks.bJ) h.marks.bJ.length=v:=by rw [← heq,FK hk2,hde,h1,au h2]
   exact (alN e1 e2 e3 (by rw [h4];exact h2)).trans h4
  have hp:=hrow' 0 _ rfl;have g3':=aJ hgm g3;have hc2':=aJ hgm hc2;have q2':=aJ hgm q2;refine kP H (Kc rU (SQ fun _ rV=>SB (SR fun _ wS=>Rm rfl (Ri lU nK rfl rfl ?_))));clear H rU;intro a H;refine bB nK (cs:=h.marks.bJ[k].cells) H wn rfl rfl (fun j v hj=>H.hp.aI (hrow j v hj)) rfl ?_;clear H;intro a H;refine dB nK H wn rfl ?_;clear H;intro b13 a w OA H;refine kH H (Ra rfl ?_);clear H;intro a H;refine aY nK 0 (vs:=[_,_]) _ H wn rfl rfl rfl rfl rfl rfl rfl rfl ?_;clear H;intro w H;dsimp only [List.set,setRow] at H;refine wS _ _ ?_;clear wS;refine wY ?_;refine bN (fun _ Bv=>?_);refine dI hmx [[],[0],[0,1],[0,1,2],[],[4],(ra 0 6),(ra 0 7),(ra 0 8)] [8] (by kernel_rfl) [_,_,_,_,_,vi h.marks.bJ[k].rev,.bool (decide (h.marks.bJ[k].rev∈rv.map dh.id)),_] H (aF (X0 rfl fun hG=>Rg JU rfl (aJ hG g3')) (Z1 0 83 rfl (Rk rfl)) (Z1 1 84 rfl (Rf KW rfl)) (X1 2 85 rfl fun hG=>Rg uN rfl (aJ hG hc2')) (aF (Z0 rfl (Rf Es rfl)) (Z1 4 87 rfl (Ro aH 0 rfl)) ?_ (Z1 6 89 rfl (Rn rfl)) (bM (bQ rfl) dz))) ?_
  ·refine dK 3 86 5 88 rfl rfl fun _ a w G1 hG HT H fin=>?_;refine Bg (zv:=.bool false) xR lJ (by kernel_rfl) H wn rfl rfl (H.ro _ _ (hG _ _ (hgm _ _ hck.rev))) rfl ?_;clear H;intro a H;rw [ET] at H;exact fin H iJ rfl
  clear H;intro a w G Jd H hv;have H:=H.aM (hv 7 90 rfl rfl) rfl;clear hv;refine kH H (Ra rfl ?_);clear H;intro a H;refine aD ⟨rfl,?_⟩;refine Bv _ _ ?_;clear Bv;refine jC H rfl ?_ ?_
  ·intro xw
   refine bN (fun _ Bw=>?_);have hE:=hX 22 (by unfold uZ;rw [au (by simpa using xw)]) (by decide);exact kP H (SC (bC Bw rfl (LR results70 rfl fun H=>H.rt (by rw [hE]))))
  intro xw
  try have p82:=dF xw
  have LW:¬ (h.marks.bJ[k].rev∉(bF us st li rv).Bd):=by simpa using xw
  refine bN (fun _ qb=>?_);replace hp:=aJ Jd hp;replace q2':=aJ Jd q2'
  by_cases c3:0 < (k:Int)
  ·skip
   by_cases c4:h.marks.bJ[k].rev≤h.marks.bJ[k - 1].rev
   ·skip;refine dI hmx [[],[0],[0,1],[0,1,2],(ra 0 4),[0,1,2],[0,1,2,5],[0,1,2],[0,1,2,7],[0,1,2,5,6,7,8],[0,1,2,5,6,7,8,9],([0,1,2]++ra 5 6),(ra 0 12),(ra 0 13),(ra 0 14)] [14] (by kernel_rfl) [_,_,_,_,vi h.marks.bJ[k].rev,_,_,_,vi ((k - 1:Nat):Int),_,_,_,_,_] H (aF (Z0 rfl (Rm rfl)) (Z1 0 92 rfl (Rc rfl)) (Z1 1 93 rfl (Rm rfl)) (Z1 2 94 rfl (YF Es (aG c3) rfl)) (aF (Z2 3 95 2 94 rfl (YO aH 0 (aG c3) rfl)) (Z1 2 94 rfl (YF qj (aG c3) rfl)) (X2 5 97 2 94 rfl fun hG=>YR qy (aG c3) rfl (aJ hG q2')) (Z1 2 94 rfl (YM (aG c3) rfl)) (aF ?_ (Z3 6 98 8 100 2 94 rfl (YI lU nK (aG c3) rfl rfl)) (Z2 9 101 2 94 rfl (YF Es (aG c3) rfl)) (X2 10 102 2 94 rfl fun hG=>YR aH (aG c3) rfl (aJ hG hp)) (bM (Z3 4 96 11 103 2 94 rfl (YC (aG c3) rfl)) (bM (Z2 2 94 12 104 rfl (Pt (aG c3) rfl)) (bM (bQ rfl) dz)))))) ?_
    ·refine dK 7 99 2 94 rfl rfl fun _ a w G1 hG HT H fin=>?_;refine nW _ H (wg H rfl rfl (aG c3)) rfl rfl rfl (by omega) (by omega) rfl ?_;clear H;intro a H;exact fin H iJ (by show _=_;first|rfl|exact aB vi (by omega))
    clear H;intro a w G Je H hv;have H:=H.aM (hv 13 105 rfl rfl) rfl;clear hv;refine kH H (Ra rfl ?_);clear H;intro a H;refine aD ⟨rfl,?_⟩;refine qb _ _ ?_;clear qb;refine BN H rfl (aG c4) ?_;refine bN (fun _ CP=>?_);have hz:0 < k∧h.marks.bJ[k].rev≤h.marks.bJ[k - 1].rev:=⟨by omega,c4⟩;have hE:=hX 6 (by unfold uZ;rw [ah LW,au hz]) (by decide);exact kP H (SC (bC CP rfl (LR results70 rfl fun H=>H.rt (by rw [hE]))))
   skip;refine dI hmx [[],[0],[0,1],[0,1,2],(ra 0 4),[0,1,2],[0,1,2,5],[0,1,2],[0,1,2,7],[0,1,2,5,6,7,8],[0,1,2,5,6,7,8,9],([0,1,2]++ra 5 6),(ra 0 12),(ra 0 13),(ra 0 14)] [14] (by kernel_rfl) [_,_,_,_,vi h.marks.bJ[k].rev,_,_,_,vi ((k - 1:Nat):Int),_,_,_,_,_] H (aF (Z0 rfl (Rm rfl)) (Z1 0 92 rfl (Rc rfl)) (Z1 1 93 rfl (Rm rfl)) (Z1 2 94 rfl (YF Es (aG c3) rfl)) (aF (Z2 3 95 2 94 rfl (YO aH 0 (aG c3) rfl)) (Z1 2 94 rfl (YF qj (aG c3) rfl)) (X2 5 97 2 94 rfl fun hG=>YR qy (aG c3) rfl (aJ hG q2')) (Z1 2 94 rfl (YM (aG c3) rfl)) (aF ?_ (Z3 6 98 8 100 2 94 rfl (YI lU nK (aG c3) rfl rfl)) (Z2 9 101 2 94 rfl (YF Es (aG c3) rfl)) (X2 10 102 2 94 rfl fun hG=>YR aH (aG c3) rfl (aJ hG hp)) (bM (Z3 4 96 11 103 2 94 rfl (YC (aG c3) rfl)) (bM (Z2 2 94 12 104 rfl (Pt (aG c3) rfl)) (bM (bQ rfl) dz)))))) ?_
   ·refine dK 7 99 2 94 rfl rfl fun _ a w G1 hG HT H fin=>?_;refine nW _ H (wg H rfl rfl (aG c3)) rfl rfl rfl (by omega) (by omega) rfl ?_;clear H;intro a H;exact fin H iJ (by show _=_;first|rfl|exact aB vi (by omega))
   clear H;intro a w G Je H hv;have H:=H.aM (hv 13 105 rfl rfl) rfl;clear hv;refine kH H (Ra rfl ?_);clear H;intro a H;refine aD ⟨rfl,?_⟩;refine qb _ _ ?_;clear qb;refine rY H rfl (aU c4) ?_;refine bN (fun _ Bz=>?_)
   have hz:¬ (0 < k∧h.marks.bJ[k].rev≤h.marks.bJ[k - 1].rev):=by first|exact fun h=>c4 h.2|exact fun h=>c3 (by omega)
   refine kP H (SC (bG ZC aH 0 rfl rfl ?_));clear H;intro a H;refine s_call yw H wn rfl (yP _ _ H.ro h.marks.bJ[k].move 0 1073741824) rfl ?_;clear H;rintro v109 _ a w ⟨rfl,rfl⟩ - H;refine kH H (Rn rfl (bC Bz rfl (Cd rfl ?_ ?_))) <;> clear H Bz
   ·intro Ak a H
    try have VD:=dT Ak
    refine bN (fun _ FB=>?_);have hE:=hX 21 (by unfold uZ;rw [ah LW,ah hz,au (by have h0:=Ak;simp at h0;omega)]) (by decide);exact kP H (SC (bC FB rfl (LR results70 rfl fun H=>H.rt (by rw [hE]))))
   intro Ak a H
   try have VD:=dF Ak
   have Uj:uZ (bF us st li rv) k h.marks.bJ[k] h.marks.bJ[k - 1].rev=0:=by unfold uZ;rw [ah LW,ah hz,ah (by have h0:=Ak;simp at h0;omega)]
   have Tz:=fun b o h=>Je b o (Jd b o (hgm b o h));refine kP H (Kc rV (SC (Rd rfl (Rm rfl ?_))));clear H rV;intro a H;refine aD ?_;refine dM ((k+1,G)) (by exact (H.dG (Pl:=[_]) (cZ:=[]) [] (by decide) rfl).sub ⟨rfl,rfl,rfl,rfl,rfl,rfl,aC⟩) ?_
   (try dsimp only);exact ⟨by omega,by rw [FK hk2,ah (by rw [hde];simpa using Uj)] at heq;exact heq,Tz⟩
  skip;refine dI hmx [[],[0],[0,1],[0,1,2],(ra 0 4),[0,1,2],[0,1,2,5],[0,1,2],[0,1,2,7],[0,1,2,5,6,7,8],[0,1,2,5,6,7,8,9],([0,1,2]++ra 5 6),(ra 0 12),(ra 0 13),(ra 0 14)] [14] (by kernel_rfl) [_,_,_,undef,undef,undef,undef,undef,undef,undef,undef,undef,undef,_] H (aF (Z0 rfl (Rm rfl)) (Z1 0 92 rfl (Rc rfl)) (Z1 1 93 rfl (Rm rfl)) (aX 2 (aU c3) rfl rfl) (aF (aX 2 (aU c3) rfl rfl) (aX 2 (aU c3) rfl rfl) (aX 2 (aU c3) rfl rfl) (aX 2 (aU c3) rfl rfl) (aF (aX 2 (aU c3) rfl rfl) (aX 2 (aU c3) rfl rfl) (aX 2 (aU c3) rfl rfl) (aX 2 (aU c3) rfl rfl) (bM (aX 2 (aU c3) rfl rfl) (bM (Z2 2 94 12 104 rfl (Pf (aU c3) rfl)) (bM (bQ rfl) dz)))))) ?_
  clear H;intro a w G Je H hv;have H:=H.aM (hv 13 105 rfl rfl) rfl;clear hv;refine kH H (Ra rfl ?_);clear H;intro a H;refine aD ⟨rfl,?_⟩;refine qb _ _ ?_;clear qb;refine rY H rfl rfl ?_;refine bN (fun _ Ec=>?_)
  have hz:¬ (0 < k∧h.marks.bJ[k].rev≤h.marks.bJ[k - 1].rev):=by first|exact fun h=>c4 h.2|exact fun h=>c3 (by omega)
  refine kP H (SC (bG ZC aH 0 rfl rfl ?_));clear H;intro a H;refine s_call yw H wn rfl (yP _ _ H.ro h.marks.bJ[k].move 0 1073741824) rfl ?_;clear H;rintro v109 _ a w ⟨rfl,rfl⟩ - H;refine kH H (Rn rfl (bC Ec rfl (Cd rfl ?_ ?_))) <;> clear H Ec
  ·intro Ak a H
   try have VD:=dT Ak
   refine bN (fun _ FC=>?_);have hE:=hX 21 (by unfold uZ;rw [ah LW,ah hz,au (by have h0:=Ak;simp at h0;omega)]) (by decide);exact kP H (SC (bC FC rfl (LR results70 rfl fun H=>H.rt (by rw [hE]))))
  intro Ak a H
  try have VD:=dF Ak
  have Uj:uZ (bF us st li rv) k h.marks.bJ[k] h.marks.bJ[k - 1].rev=0:=by unfold uZ;rw [ah LW,ah hz,ah (by have h0:=Ak;simp at h0;omega)]
  have Tz:=fun b o h=>Je b o (Jd b o (hgm b o h));refine kP H (Kc rV (SC (Rd rfl (Rm rfl ?_))));clear H rV;intro a H;refine aD ?_;refine dM ((k+1,G)) (by exact (H.dG (Pl:=[_]) (cZ:=[]) [] (by decide) rfl).sub ⟨rfl,rfl,rfl,rfl,rfl,rfl,aC⟩) ?_
  (try dsimp only);exact ⟨by omega,by rw [FK hk2,ah (by rw [hde];simpa using Uj)] at heq;exact heq,Tz⟩
 intro Tn a H
 try have p78:=dF Tn
 refine eu ?_;refine oZ _ _ ?_;clear oZ;refine bN (fun _ Ed=>?_);refine bN (fun _ Ki=>?_)
 have e4:kQ (uY (bF us st li rv) h.marks.bJ) h.marks.bJ.length=0:=by rw [← heq,jm (by simp;omega)];rfl
 replace q3:=aJ hgm q3;refine kP H (SC (Rf Ag rfl (Rg Bn rfl (by assumption) ?_)));clear H;intro a H;refine kH H (Rl kF rfl (Rc rfl (Kn Ki (Cd rfl ?_ ?_)))) <;> clear H Ki
 ·intro Te a H
  try have VE:=dT Te
  refine bN (fun _ Ns=>?_);have hE:=alO (C:=bF us st li rv) (e:=e) (h:=h) e1 e2 e3 e4 VE;exact kP H (SC (bC Ns rfl (LR results70 rfl fun H=>H.rt (by rw [hE]))))
 intro Te a H
 try have VE:=dF Te
 refine fZ ?_;refine Ed _ _ ?_;clear Ed;refine bN (fun _ Nt=>?_);have hE:=alP (C:=bF us st li rv) (e:=e) (h:=h) e1 e2 e3 e4 VE;refine kP H (SC (Rf Ag rfl (Rg Bn rfl (by assumption) ?_)));clear H;intro a H;refine kH H (Rl kF rfl ?_);clear H;intro a H;refine oQ H wn rfl rfl ?_;clear H;intro a H;refine s_call IZ H wn rfl (Kt _ _ H.ro h.marks.layers.length (zI (bF us st li rv) e h.marks.layers) _ (by omega) (hcb.mono hgm)) rfl ?_;clear H;rintro auJ ath a w rfl atA H;exact kH H (bC Nt rfl (LR results70 rfl fun H=>H.rt (by rw [hE])))
end
theorem Lb:dN prog 68 1 1:=⟨by kernel_rfl⟩
def codeOk (x:ay):Bool:=if x.kind=4 then decide (1≤x.code∧x.code≤3) else if x.kind=6 then decide (1≤x.code∧x.code≤2) else if x.kind=8 then decide (1≤x.code∧x.code≤4) else true
def zQ (x:ay):Bool:=decide (x.kind=8∧x.code=1)
def zU (x:ay):Bool:=decide (x.kind=1∨x.kind=5) || zQ x
def xK (x:ay):Bool:=decide (x.kind=6∨x.kind=7∨x.kind=8)
def wZ (x:ay):Bool:=decide (x.kind=4∨x.kind=6∨x.kind=8)
def qX (s:ByteArray):Bool:=s.toList == (⟨#[]⟩:ByteArray).toList
def vo (x:ay):Bool:=!wZ x && decide (x.code≠0) || !xK x && decide (x.id≠0) || !zU x && !qX x.text || decide (x.kind≠6) && decide (0 < (x.flow.length:Int)) || decide (x.kind≠7) && decide (0 < (x.rows.length:Int))
def kI (x:ay):Int :=
 if (!decide (1≤x.kind∧x.kind≤8) || !codeOk x)=true then 3 else if vo x=true then 15 else if rT x.text=false then 12 else if (decide (x.kind=1∨x.kind=5) && qX x.text)=true then 11
 else if (decide (x.kind=5) && decide (1024 < (x.text.size:Int)))=true then 10 else if (zQ x && !tu x.text)=true then 13 else 0
theorem akq (G:GH) (w0:World) (hG:Hold G w0) (x:ay) (p d l:aj) (fA rA:Option Addr) (fc rc:Nat) (hs:x.text.size < 4611686018427387904) :
  Calls prog 196 #[.agg #[vi x.kind,vi x.code,vi x.id,.string x.text,p,vi x.head.marks.ins,vi x.head.marks.move,d,l,.slice fA x.flow.length fc,.slice rA x.rows.length rc]] w0 (bH w0 G fun u G'=>u=vi (kI x)∧G=G'):=by
 refine eN [(0,_)] func196 rfl ntmps196 rfl rfl hG ?_;intro a H;refine bZ (fun _ K1=>?_);refine dZ (cs:=[_,_,_,_,_,_,_,_,_,_,_]) H wn rfl rfl rfl ?_;clear H;intro b1 a w hb1 H;refine kH H (ak K1 rfl ?_);clear H K1;intro a H;refine tZ (ι:=Bool) (Tc:=[(1,_)]) (Lc:=[(_,_)]) (fun gh=>[(3,.bool gh)]) (fun gh=>[]) (fun gh=>G) (fun gh=>gh=zQ x) (by exact (H).sub ⟨rfl,aC⟩) ?_ ?_
 ·skip;refine kP H (SC (bG kG aH 0 rfl rfl (Rc rfl (Rm rfl (Sp 11 rfl ?_ ?_))))) <;> clear H
  ·intro h11 a H
   try have rM:=dT h11
   refine kH H (YF Lb h11 rfl (YO aH 0 h11 rfl (YC h11 rfl (Pt h11 rfl (Ra rfl ?_)))));clear H;intro a H;refine aD ?_;refine ⟨_,by exact (H).sub ⟨rfl,rfl,aC⟩,?_⟩
   unfold zQ;first|(simp_all;done)
  intro h11 a H
  try have rM:=dF h11
  refine kH H (bD h11 rfl (Pf h11 rfl (Ra rfl ?_)));clear H;intro a H;refine aD ?_;refine ⟨_,by exact (H).sub ⟨rfl,rfl,aC⟩,?_⟩
  unfold zQ;first|(simp_all;done)
 clear H;intro st a w hI H;have hst:=hI;dsimp only [lca,bq] at H;refine tZ (ι:=Bool) (Tc:=[(1,_),(3,_)]) (Lc:=[(_,_)]) (fun gh=>[(4,.bool gh)]) (fun gh=>[]) (fun gh=>G) (fun gh=>gh=zU x) (by exact (H).sub ⟨rfl,rfl,aC⟩) ?_ ?_
 ·skip;refine kP H (SC (bG kG aH 0 rfl rfl (Rc rfl (Rm rfl (Sp 19 rfl ?_ ?_))))) <;> clear H
  ·intro h19 a H
   try have sO:=dT h19
   refine kH H (bD h19 rfl (Pt h19 rfl (Rm rfl (Ks rfl rfl (Pt rfl rfl (Ra rfl ?_))))));clear H;intro a H;refine aD ?_;refine ⟨_,by exact (H).sub ⟨rfl,rfl,rfl,aC⟩,?_⟩
   unfold zU;first|(simp_all;done)
  intro h19 a H
  try have sO:=dF h19
  refine kH H (YF kG h19 rfl (YO aH 0 h19 rfl (YC h19 rfl (Pf h19 rfl (Rm rfl (Sp 24 rfl ?_ ?_)))))) <;> clear H
  ·intro fB a H
   try have mX:=dT fB
   refine kH H (Ks fB rfl (Pt fB rfl (Ra rfl ?_)));clear H;intro a H;refine aD ?_;refine ⟨_,by exact (H).sub ⟨rfl,rfl,rfl,aC⟩,?_⟩
   unfold zU;first|(simp_all;done)
  intro fB a H
  try have mX:=dF fB
  refine kH H (YM fB rfl (Pf fB rfl (Ra rfl ?_)));clear H;intro a H;refine aD ?_;refine ⟨_,by exact (H).sub ⟨rfl,rfl,rfl,aC⟩,?_⟩
  unfold zU;first|(simp_all;done)
 clear H;intro wd a w hI H;have hwd:=hI;dsimp only [lca,bq] at H;refine tZ (ι:=Bool) (Tc:=[(1,_),(3,_),(4,_)]) (Lc:=[(_,_)]) (fun gh=>[(5,.bool gh)]) (fun gh=>[]) (fun gh=>G) (fun gh=>gh=xK x) (by exact (H).sub ⟨rfl,rfl,rfl,aC⟩) ?_ ?_
 ·skip;refine kP H (SC (bG kG aH 0 rfl rfl (Rc rfl (Rm rfl (Sp 30 rfl ?_ ?_))))) <;> clear H
  ·intro yF a H
   try have p30:=dT yF
   refine kH H (bD yF rfl (Pt yF rfl (Rm rfl (bD rfl rfl (Pt rfl rfl (Ra rfl ?_))))));clear H;intro a H;refine aD ?_;refine ⟨_,by exact (H).sub ⟨rfl,rfl,rfl,rfl,aC⟩,?_⟩
   unfold xK;first|(simp_all;done)
  intro yF a H
  try have p30:=dF yF
  refine kH H (YF kG yF rfl (YO aH 0 yF rfl (YC yF rfl (Pf yF rfl (Rm rfl (Sp 35 rfl ?_ ?_)))))) <;> clear H
  ·intro gV a H
   try have p35:=dT gV
   refine kH H (bD gV rfl (Pt gV rfl (Ra rfl ?_)));clear H;intro a H;refine aD ?_;refine ⟨_,by exact (H).sub ⟨rfl,rfl,rfl,rfl,aC⟩,?_⟩
   unfold xK;first|(simp_all;done)
  intro gV a H
  try have p35:=dF gV
  refine kH H (YF kG gV rfl (YO aH 0 gV rfl (YC gV rfl (Pf gV rfl (Ra rfl ?_)))));clear H;intro a H;refine aD ?_;refine ⟨_,by exact (H).sub ⟨rfl,rfl,rfl,rfl,aC⟩,?_⟩
  unfold xK;first|(simp_all;done)
 clear H;intro nm a w hI H;have hnm:=hI;dsimp only [lca,bq] at H;refine kP H (SR fun _ K2=>ak K2 rfl ?_);clear H K2;intro a H;refine tZ (ι:=Bool) (Tc:=[(1,_),(3,_),(4,_),(5,_)]) (Lc:=[(_,_)]) (fun gh=>[(6,.bool gh)]) (fun gh=>[]) (fun gh=>G) (fun gh=>gh=codeOk x) (by exact (H).sub ⟨rfl,rfl,rfl,rfl,aC⟩) ?_ ?_
 ·skip;refine kP H (SR fun _ K3=>bG kG aH 0 rfl rfl (Kz K3 (SB (SR fun _ K4=>Rc rfl (ak K4 rfl (Cd rfl ?_ ?_)))))) <;> clear H K3 K4
  ·intro jW a H
   try have p42:=dT jW
   refine kP H (SC (bG Lb aH 0 rfl rfl ?_));clear H;intro a H;refine s_call yw H wn rfl (yP _ _ H.ro x.code 1 3) rfl ?_;clear H;rintro v46 _ a w ⟨rfl,rfl⟩ - H;refine kH H (Ra rfl ?_);clear H;intro a H;refine aD ?_;refine ⟨_,by exact (H).sub ⟨rfl,rfl,rfl,rfl,rfl,aC⟩,?_⟩
   unfold codeOk;first|(simp_all;done)
  intro jW a H
  try have p42:=dF jW
  refine kP H (SR fun _ K5=>Rc rfl (ak K5 rfl (Cd rfl ?_ ?_))) <;> clear H K5
  ·intro h47 a H
   try have p47:=dT h47
   refine kP H (SC (bG Lb aH 0 rfl rfl ?_));clear H;intro a H;refine s_call yw H wn rfl (yP _ _ H.ro x.code 1 2) rfl ?_;clear H;rintro v51 _ a w ⟨rfl,rfl⟩ - H;refine kH H (Ra rfl ?_);clear H;intro a H;refine aD ?_;refine ⟨_,by exact (H).sub ⟨rfl,rfl,rfl,rfl,rfl,aC⟩,?_⟩
   unfold codeOk;first|(simp_all;done)
  intro h47 a H
  try have p47:=dF h47
  refine kP H (SR fun _ K6=>Rc rfl (ak K6 rfl (Cd rfl ?_ ?_))) <;> clear H K6
  ·intro lG a H
   try have p52:=dT lG
   refine kP H (SC (bG Lb aH 0 rfl rfl ?_));clear H;intro a H;refine s_call yw H wn rfl (yP _ _ H.ro x.code 1 4) rfl ?_;clear H;rintro v56 _ a w ⟨rfl,rfl⟩ - H;refine kH H (Ra rfl ?_);clear H;intro a H;refine aD ?_;refine ⟨_,by exact (H).sub ⟨rfl,rfl,rfl,rfl,rfl,aC⟩,?_⟩
   unfold codeOk;first|(simp_all;done)
  intro lG a H
  try have p52:=dF lG
  refine fZ ?_;refine ⟨_,by exact (H).sub ⟨rfl,rfl,rfl,rfl,rfl,aC⟩,?_⟩
  unfold codeOk;first|(simp_all;done)
 clear H;intro ck a w hI H;have hck:=hI;dsimp only [lca,bq] at H;refine tZ (ι:=Bool) (Tc:=[(1,_),(3,_),(4,_),(5,_),(6,_)]) (Lc:=[(_,_)]) (fun gh=>[(7,.bool gh)]) (fun gh=>[]) (fun gh=>G) (fun gh=>gh=wZ x) (by exact (H).sub ⟨rfl,rfl,rfl,rfl,rfl,aC⟩) ?_ ?_
 ·skip;refine kP H (SC (bG kG aH 0 rfl rfl (Rc rfl (Rm rfl (Sp 60 rfl ?_ ?_))))) <;> clear H
  ·intro jX a H
   try have p60:=dT jX
   refine kH H (bD jX rfl (Pt jX rfl (Rm rfl (bD rfl rfl (Pt rfl rfl (Ra rfl ?_))))));clear H;intro a H;refine aD ?_;refine ⟨_,by exact (H).sub ⟨rfl,rfl,rfl,rfl,rfl,rfl,aC⟩,?_⟩
   unfold wZ;first|(simp_all;done)
  intro jX a H
  try have p60:=dF jX
  refine kH H (YF kG jX rfl (YO aH 0 jX rfl (YC jX rfl (Pf jX rfl (Rm rfl (Sp 65 rfl ?_ ?_)))))) <;> clear H
  ·intro um a H
   try have p65:=dT um
   refine kH H (bD um rfl (Pt um rfl (Ra rfl ?_)));clear H;intro a H;refine aD ?_;refine ⟨_,by exact (H).sub ⟨rfl,rfl,rfl,rfl,rfl,rfl,aC⟩,?_⟩
   unfold wZ;first|(simp_all;done)
  intro um a H
  try have p65:=dF um
  refine kH H (YF kG um rfl (YO aH 0 um rfl (YC um rfl (Pf um rfl (Ra rfl ?_)))));clear H;intro a H;refine aD ?_;refine ⟨_,by exact (H).sub ⟨rfl,rfl,rfl,rfl,rfl,rfl,aC⟩,?_⟩
  unfold wZ;first|(simp_all;done)
 clear H;intro cd a w hI H;have hcd:=hI;dsimp only [lca,bq] at H;refine kP H (SQ fun _ K7=>SB (SR fun _ K8=>?_));clear H;intro a H;refine DZ (ι:=Bool) (Tc:=[(1,_),(3,_),(4,_),(5,_),(7,_)]) 8 (fun (q0:Bool)=>[(78,.bool q0)]) (fun (q0:Bool)=>q0=(!decide (1≤x.kind∧x.kind≤8) || !codeOk x)) (by exact H.sub ⟨rfl,rfl,rfl,rfl,rfl,aC⟩) ?_ ?_
 ·intro Z6;refine kH H (bG kG aH 0 rfl rfl ?_);clear H;intro a H;refine s_call yw H wn rfl (yP _ _ H.ro x.kind 1 8) rfl ?_;clear H;rintro v73 _ a w ⟨rfl,rfl⟩ - H;refine kH H (Rn rfl (Rm rfl (Sp 75 rfl ?_ ?_))) <;> clear H
  ·intro zB a H
   try have p75:=dT zB
   refine kH H (aP zB rfl (Pt zB rfl ?_));clear H;intro a H;refine Z6 (_) _ _ ?_ (by exact H.sub ⟨rfl,rfl,rfl,rfl,rfl,rfl,aC⟩);rw [← hck];clear hst hwd hnm hck hcd;(try clear hq1);(try clear hq2);(try clear hq3);(try clear hq0);(try clear hq4);(try clear oq);(try clear ou);(try clear ow);simp_all
  intro zB a H
  try have p75:=dF zB
  refine kH H (YM zB rfl (YN zB rfl (Pf zB rfl ?_)));clear H;intro a H;refine Z6 (_) _ _ ?_ (by exact H.sub ⟨rfl,rfl,rfl,rfl,rfl,rfl,aC⟩);rw [← hck];clear hst hwd hnm hck hcd;(try clear hq1);(try clear hq2);(try clear hq3);(try clear hq0);(try clear hq4);(try clear oq);(try clear ou);(try clear ow);simp_all
 clear H;intro q0 a w hI H;dsimp only [lca,bq] at H;simp only [zq,tY];have hq0:=hI;refine kH H (ak K8 rfl (Cd rfl ?_ ?_)) <;> clear H K8
 ·intro Oy a H
  refine bN (fun _ K9=>?_)
  have e:kI x=3:=by unfold kI;rw [au (by rw [← hq0];exact Oy)]
  exact kP H (SC (bC K9 rfl (LR results196 rfl fun H=>H.rt ⟨by rw [e],rfl⟩)))
 intro Oy a H
 try have p70:=dF Oy
 have f0:¬ (!decide (1≤x.kind∧x.kind≤8) || !codeOk x)=true:=by rw [← hq0,Oy];decide
 refine bZ (fun _ aW=>?_);refine DZ (ι:=Bool) (Tc:=[(1,_),(3,_),(4,_),(5,_)]) 7 (fun (q1:Bool)=>[(86,.bool q1)]) (fun (q1:Bool)=>q1=(!wZ x && decide (x.code≠0))) (by exact H.sub ⟨rfl,rfl,rfl,rfl,aC⟩) ?_ ?_
 ·intro Z7;refine kH H (Rm rfl (Rn rfl (Rm rfl (Sp 82 rfl ?_ ?_)))) <;> clear H
  ·intro xw a H
   try have p82:=dT xw
   refine kH H (YF Lb xw rfl (YO aH 0 xw rfl (YC xw rfl (Pt xw rfl ?_))));clear H;intro a H;refine Z7 (_) _ _ ?_ (by exact H.sub ⟨rfl,rfl,rfl,rfl,rfl,aC⟩);rw [← hcd];clear hst hwd hnm hck hcd;(try clear hq1);(try clear hq2);(try clear hq3);(try clear hq0);(try clear hq4);(try clear oq);(try clear ou);(try clear ow);simp_all
  intro xw a H
  try have p82:=dF xw
  refine kH H (bD xw rfl (Pf xw rfl ?_));clear H;intro a H;refine Z7 (_) _ _ ?_ (by exact H.sub ⟨rfl,rfl,rfl,rfl,rfl,aC⟩);rw [← hcd];clear hst hwd hnm hck hcd;(try clear hq1);(try clear hq2);(try clear hq3);(try clear hq0);(try clear hq4);(try clear oq);(try clear ou);(try clear ow);simp_all
 clear H;intro q1 a w hI H;dsimp only [lca,bq] at H;simp only [zq,tY];have hq1:=hI;refine DZ (ι:=Bool) (Tc:=[(1,_),(3,_),(4,_)]) 9 (fun (q2:Bool)=>[(95,.bool q2)]) (fun (q2:Bool)=>q2=(q1 || !xK x && decide (x.id≠0))) (by exact H.sub ⟨rfl,rfl,rfl,aC⟩) ?_ ?_
 ·intro TR;refine kH H (Rm rfl (Sp 87 rfl ?_ ?_)) <;> clear H
  ·intro h87 a H
   try have VI:=dT h87
   refine kH H (bD h87 rfl (Ku rfl (Ku rfl (Ku rfl (Ks h87 rfl (Pt h87 rfl ?_))))));clear H;intro a H;refine TR (_) _ _ ?_ (by exact H.sub ⟨rfl,rfl,rfl,rfl,aC⟩);rw [← hnm];clear hst hwd hnm hck hcd;(try clear hq1);(try clear hq2);(try clear hq3);(try clear hq0);(try clear hq4);(try clear oq);(try clear ou);(try clear ow);simp_all
  intro h87 a H
  try have VI:=dF h87
  refine kH H (YM h87 rfl (YN h87 rfl (YM h87 rfl (Sp 90 rfl ?_ ?_)))) <;> clear H
  ·intro Dc a H
   try have p90:=dT Dc
   refine kH H (YF I8 Dc rfl (YO aH 0 Dc rfl (YC Dc rfl (PT h87 Dc rfl (Pf h87 rfl ?_)))));clear H;intro a H;refine TR (_) _ _ ?_ (by exact H.sub ⟨rfl,rfl,rfl,rfl,aC⟩);rw [← hnm];clear hst hwd hnm hck hcd;(try clear hq1);(try clear hq2);(try clear hq3);(try clear hq0);(try clear hq4);(try clear oq);(try clear ou);(try clear ow);simp_all
  intro Dc a H
  try have p90:=dF Dc
  refine kH H (bD Dc rfl (PF h87 Dc rfl (Pf h87 rfl ?_)));clear H;intro a H;refine TR (_) _ _ ?_ (by exact H.sub ⟨rfl,rfl,rfl,rfl,aC⟩);rw [← hnm];clear hst hwd hnm hck hcd;(try clear hq1);(try clear hq2);(try clear hq3);(try clear hq0);(try clear hq4);(try clear oq);(try clear ou);(try clear ow);simp_all
 clear H;intro q2 a w hI H;dsimp only [lca,bq] at H;simp only [zq,tY];have hq2:=hI;refine DZ (ι:=Bool) (Tc:=[(1,_),(3,_)]) 9 (fun (q3:Bool)=>[(104,.bool q3)]) (fun (q3:Bool)=>q3=(q2 || !zU x && !qX x.text)) (by exact H.sub ⟨rfl,rfl,aC⟩) ?_ ?_
 ·intro TN;refine kH H (Rm rfl (Sp 96 rfl ?_ ?_)) <;> clear H
  ·intro uo a H
   try have ME:=dT uo
   refine kH H (bD uo rfl (Ku rfl (Ku rfl (Ku rfl (Ks uo rfl (Pt uo rfl ?_))))));clear H;intro a H;refine TN (_) _ _ ?_ (by exact H.sub ⟨rfl,rfl,rfl,aC⟩);rw [← hwd];clear hst hwd hnm hck hcd;(try clear hq1);(try clear hq2);(try clear hq3);(try clear hq0);(try clear hq4);(try clear oq);(try clear ou);(try clear ow);simp_all [qX]
  intro uo a H
  try have ME:=dF uo
  refine kH H (YM uo rfl (YN uo rfl (YM uo rfl (Sp 99 rfl ?_ ?_)))) <;> clear H
  ·intro pK a H
   try have VK:=dT pK
   refine kH H (YF wu pK rfl (YO iM 0 pK rfl ?_));clear H;intro a H;refine aqF H (wg H rfl rfl pK) rfl rfl rfl ?_;clear H;intro a H;refine kH H (PT uo pK rfl (Pf uo rfl ?_));clear H;intro a H;refine TN (_) _ _ ?_ (by exact H.sub ⟨rfl,rfl,rfl,aC⟩);rw [← hwd];clear hst hwd hnm hck hcd;(try clear hq1);(try clear hq2);(try clear hq3);(try clear hq0);(try clear hq4);(try clear oq);(try clear ou);(try clear ow);simp_all [qX]
  intro pK a H
  try have VK:=dF pK
  refine kH H (bD pK rfl (PF uo pK rfl (Pf uo rfl ?_)));clear H;intro a H;refine TN (_) _ _ ?_ (by exact H.sub ⟨rfl,rfl,rfl,aC⟩);rw [← hwd];clear hst hwd hnm hck hcd;(try clear hq1);(try clear hq2);(try clear hq3);(try clear hq0);(try clear hq4);(try clear oq);(try clear ou);(try clear ow);simp_all [qX]
 clear H;intro q3 a w hI H;dsimp only [lca,bq] at H;simp only [zq,tY];have hq3:=hI;refine DZ (ι:=Bool) (Tc:=[(1,_),(3,_)]) 11 (fun (q4:Bool)=>[(115,.bool q4)]) (fun (q4:Bool)=>q4=(q3 || decide (x.kind≠6) && decide (0 < (x.flow.length:Int)))) (by exact H.sub ⟨rfl,rfl,aC⟩) ?_ ?_
 ·intro TP;refine kH H (Rm rfl (Sp 105 rfl ?_ ?_)) <;> clear H
  ·intro sG a H
   try have JF:=dT sG
   refine kH H (aP sG rfl (aP sG rfl (Ku rfl (Ku rfl (Ku rfl (Ku rfl (Ks sG rfl (Pt sG rfl ?_))))))));clear H;intro a H;refine TP (_) _ _ ?_ (by exact H.sub ⟨rfl,rfl,rfl,aC⟩);clear hst hwd hnm hck hcd;(try clear hq1);(try clear hq2);(try clear hq3);(try clear hq0);(try clear hq4);(try clear oq);(try clear ou);(try clear ow);simp_all
  intro sG a H
  try have JF:=dF sG
  refine kH H (YF kG sG rfl (YO aH 0 sG rfl (YC sG rfl (YM sG rfl (Sp 109 rfl ?_ ?_))))) <;> clear H
  ·intro Al a H
   try have aoN:=dT Al
   refine kH H (YF Ah Al rfl (YO kg 0 Al rfl (YL jk Al rfl (YC Al rfl (PT sG Al rfl (Pf sG rfl ?_))))));clear H;intro a H;refine TP (_) _ _ ?_ (by exact H.sub ⟨rfl,rfl,rfl,aC⟩);clear hst hwd hnm hck hcd;(try clear hq1);(try clear hq2);(try clear hq3);(try clear hq0);(try clear hq4);(try clear oq);(try clear ou);(try clear ow);simp_all
  intro Al a H
  try have aoN:=dF Al
  refine kH H (aP Al rfl (aP Al rfl (PF sG Al rfl (Pf sG rfl ?_))));clear H;intro a H;refine TP (_) _ _ ?_ (by exact H.sub ⟨rfl,rfl,rfl,aC⟩);clear hst hwd hnm hck hcd;(try clear hq1);(try clear hq2);(try clear hq3);(try clear hq0);(try clear hq4);(try clear oq);(try clear ou);(try clear ow);simp_all
 clear H;intro q4 a w hI H;dsimp only [lca,bq] at H;simp only [zq,tY];have hq4:=hI;refine DZ (ι:=Bool) (Tc:=[(1,_),(3,_)]) 11 (fun (q5:Bool)=>[(126,.bool q5)]) (fun (q5:Bool)=>q5=vo x) (by exact H.sub ⟨rfl,rfl,aC⟩) ?_ ?_
 ·intro TQ;refine kH H (Rm rfl (Sp 116 rfl ?_ ?_)) <;> clear H
  ·intro h116 a H
   try have aoR:=dT h116
   refine kH H (aP h116 rfl (aP h116 rfl (Ku rfl (Ku rfl (Ku rfl (Ku rfl (Ks h116 rfl (Pt h116 rfl ?_))))))));clear H;intro a H;refine TQ (_) _ _ ?_ (by exact H.sub ⟨rfl,rfl,rfl,aC⟩);rw [show vo x=(q4 || decide (x.kind≠7) && decide (0 < (x.rows.length:Int))) by rw [hq4,hq3,hq2,hq1];rfl];clear hq4;clear hst hwd hnm hck hcd;(try clear hq1);(try clear hq2);(try clear hq3);(try clear hq0);(try clear hq4);(try clear oq);(try clear ou);(try clear ow);simp_all
  intro h116 a H
  try have aoR:=dF h116
  refine kH H (YF kG h116 rfl (YO aH 0 h116 rfl (YC h116 rfl (YM h116 rfl (Sp 120 rfl ?_ ?_))))) <;> clear H
  ·intro Am a H
   try have aoS:=dT Am
   refine kH H (YF oL Am rfl (YO oV 0 Am rfl (YL kT Am rfl (YC Am rfl (PT h116 Am rfl (Pf h116 rfl ?_))))));clear H;intro a H;refine TQ (_) _ _ ?_ (by exact H.sub ⟨rfl,rfl,rfl,aC⟩);rw [show vo x=(q4 || decide (x.kind≠7) && decide (0 < (x.rows.length:Int))) by rw [hq4,hq3,hq2,hq1];rfl];clear hq4;clear hst hwd hnm hck hcd;(try clear hq1);(try clear hq2);(try clear hq3);(try clear hq0);(try clear hq4);(try clear oq);(try clear ou);(try clear ow);simp_all
  intro Am a H
  try have aoS:=dF Am
  refine kH H (aP Am rfl (aP Am rfl (PF h116 Am rfl (Pf h116 rfl ?_))));clear H;intro a H;refine TQ (_) _ _ ?_ (by exact H.sub ⟨rfl,rfl,rfl,aC⟩);rw [show vo x=(q4 || decide (x.kind≠7) && decide (0 < (x.rows.length:Int))) by rw [hq4,hq3,hq2,hq1];rfl];clear hq4;clear hst hwd hnm hck hcd;(try clear hq1);(try clear hq2);(try clear hq3);(try clear hq0);(try clear hq4);(try clear oq);(try clear ou);(try clear ow);simp_all
 clear H;intro q5 a w hI H;dsimp only [lca,bq] at H;simp only [zq,tY];have oq:=hI;refine kH H (ak aW rfl (Cd rfl ?_ ?_)) <;> clear H aW
 ·intro EB a H
  refine bN (fun _ bO=>?_)
  have e:kI x=15:=by unfold kI;rw [ah f0,au (by rw [← oq];exact EB)]
  exact kP H (SC (bC bO rfl (LR results196 rfl fun H=>H.rt ⟨by rw [e],rfl⟩)))
 intro EB a H
 try have VH:=dF EB
 have f1:¬ vo x=true:=by rw [← oq,EB];decide
 refine kP H (SR fun _ bW=>bG wu iM 0 rfl rfl ?_);clear H;intro a H;refine s_call KS H wn rfl (M6 _ _ H.ro x.text hs) rfl ?_;clear H;rintro v130 _ a w ⟨rfl,rfl⟩ - H;refine kH H (Rn rfl (ak bW rfl (Cd rfl ?_ ?_))) <;> clear H bW
 ·intro h127 a H
  refine bN (fun _ cB=>?_)
  have e:kI x=12:=by unfold kI;rw [ah f0,ah f1,au (by simpa using h127)]
  exact kP H (SC (bC cB rfl (LR results196 rfl fun H=>H.rt ⟨by rw [e],rfl⟩)))
 intro h127 a H
 try have auD:=dF h127
 have f2:¬ rT x.text=false:=by simpa using h127
 refine bZ (fun _ dw=>?_);refine DZ (ι:=Bool) (Tc:=[(1,_),(3,_)]) 13 (fun (q6:Bool)=>[(145,.bool q6)]) (fun (q6:Bool)=>q6=(decide (x.kind=1∨x.kind=5) && qX x.text)) (by exact H.sub ⟨rfl,rfl,aC⟩) ?_ ?_
 ·intro TS;refine kH H (bG kG aH 0 rfl rfl (Rc rfl (Rm rfl (Sp 136 rfl ?_ ?_)))) <;> clear H
  ·intro C9 a H
   try have aoV:=dT C9
   refine kH H (bD C9 rfl (Pt C9 rfl (Rm rfl ?_)));clear H;intro a H;refine JO wu H (wg H rfl rfl rfl) rfl rfl ?_;clear H;intro a H;refine rP iM H (wg H rfl rfl rfl) rfl (H.hp.qM 0 rfl rfl) rfl ?_;clear H;intro a H;refine E9 H (wg H rfl rfl rfl) rfl rfl rfl ?_;clear H;intro a H;refine kH H (Pt rfl rfl ?_);clear H;intro a H;refine TS (_) _ _ ?_ (by exact H.sub ⟨rfl,rfl,rfl,aC⟩);clear hst hwd hnm hck hcd;(try clear hq1);(try clear hq2);(try clear hq3);(try clear hq0);(try clear hq4);(try clear oq);(try clear ou);(try clear ow);simp_all [qX]
  intro C9 a H
  try have aoV:=dF C9
  refine kH H (YF kG C9 rfl (YO aH 0 C9 rfl (YC C9 rfl (Pf C9 rfl (Rm rfl (Sp 141 rfl ?_ ?_)))))) <;> clear H
  ·intro Da a H
   try have aoX:=dT Da
   refine kH H (YF wu Da rfl (YO iM 0 Da rfl ?_));clear H;intro a H;refine E9 H (wg H rfl rfl Da) rfl rfl rfl ?_;clear H;intro a H;refine kH H (Pt Da rfl ?_);clear H;intro a H;refine TS (_) _ _ ?_ (by exact H.sub ⟨rfl,rfl,rfl,aC⟩);clear hst hwd hnm hck hcd;(try clear hq1);(try clear hq2);(try clear hq3);(try clear hq0);(try clear hq4);(try clear oq);(try clear ou);(try clear ow);simp_all [qX]
  intro Da a H
  try have aoX:=dF Da
  refine kH H (bD Da rfl (Pf Da rfl ?_));clear H;intro a H;refine TS (_) _ _ ?_ (by exact H.sub ⟨rfl,rfl,rfl,aC⟩);clear hst hwd hnm hck hcd;(try clear hq1);(try clear hq2);(try clear hq3);(try clear hq0);(try clear hq4);(try clear oq);(try clear ou);(try clear ow);simp_all [qX]
 clear H;intro q6 a w hI H;dsimp only [lca,bq] at H;simp only [zq,tY];have ou:=hI;refine kH H (ak dw rfl (Cd rfl ?_ ?_)) <;> clear H dw
 ·intro Ez a H
  refine bN (fun _ dR=>?_)
  have e:kI x=11:=by unfold kI;rw [ah f0,ah f1,ah f2,au (by rw [← ou];exact Ez)]
  exact kP H (SC (bC dR rfl (LR results196 rfl fun H=>H.rt ⟨by rw [e],rfl⟩)))
 intro Ez a H
 try have aco:=dF Ez
 have f3:¬ (decide (x.kind=1∨x.kind=5) && qX x.text)=true:=by rw [← ou,Ez];decide
 refine bZ (fun _ dW=>?_);refine DZ (ι:=Bool) (Tc:=[(1,_),(3,_)]) 9 (fun (q7:Bool)=>[(155,.bool q7)]) (fun (q7:Bool)=>q7=(decide (x.kind=5) && decide (1024 < (x.text.size:Int)))) (by exact H.sub ⟨rfl,rfl,aC⟩) ?_ ?_
 ·intro Z8;refine kH H (bG kG aH 0 rfl rfl (Rc rfl (Rm rfl (Sp 150 rfl ?_ ?_)))) <;> clear H
  ·intro Ao a H
   try have aoY:=dT Ao
   refine kH H (YF wu Ao rfl (YO iM 0 Ao rfl ?_));clear H;intro a H;refine Fa iB H (wg H rfl rfl Ao) rfl rfl ?_;clear H;intro a H;refine kH H (YC Ao rfl (Pt Ao rfl ?_));clear H;intro a H;refine Z8 (_) _ _ ?_ (by exact H.sub ⟨rfl,rfl,rfl,aC⟩);clear hst hwd hnm hck hcd;(try clear hq1);(try clear hq2);(try clear hq3);(try clear hq0);(try clear hq4);(try clear oq);(try clear ou);(try clear ow);simp_all
  intro Ao a H
  try have aoY:=dF Ao
  refine kH H (aP Ao rfl (aP Ao rfl (Pf Ao rfl ?_)));clear H;intro a H;refine Z8 (_) _ _ ?_ (by exact H.sub ⟨rfl,rfl,rfl,aC⟩);clear hst hwd hnm hck hcd;(try clear hq1);(try clear hq2);(try clear hq3);(try clear hq0);(try clear hq4);(try clear oq);(try clear ou);(try clear ow);simp_all
 clear H;intro q7 a w hI H;dsimp only [lca,bq] at H;simp only [zq,tY];have ow:=hI;refine kH H (ak dW rfl (Cd rfl ?_ ?_)) <;> clear H dW
 ·intro Ow a H
  refine bN (fun _ dU=>?_)
  have e:kI x=10:=by unfold kI;rw [ah f0,ah f1,ah f2,ah f3,au (by rw [← ow];exact Ow)]
  exact kP H (SC (bC dU rfl (LR results196 rfl fun H=>H.rt ⟨by rw [e],rfl⟩)))
 intro Ow a H
 try have auF:=dF Ow
 have f4:¬ (decide (x.kind=5) && decide (1024 < (x.text.size:Int)))=true:=by rw [← ow,Ow];decide
 refine bZ (fun _ eG=>?_);refine DZ (ι:=Bool) (Tc:=[]) 7 (fun (q8:Bool)=>[(163,.bool q8)]) (fun (q8:Bool)=>q8=(zQ x && !tu x.text)) (by exact H.sub trivial) ?_ ?_
 ·intro Z9;refine kH H (Rm rfl (Rm rfl (Sp 158 rfl ?_ ?_))) <;> clear H
  ·intro Ap a H
   try have aoZ:=dT Ap
   refine kH H (YF wu Ap rfl (YO iM 0 Ap rfl ?_));clear H;intro a H;refine s_call R8 H (wg H rfl rfl Ap) rfl (RI _ _ H.ro x.text hs) rfl ?_;clear H;rintro auM _ a w ⟨rfl,rfl⟩ - H;refine kH H (YN Ap rfl (Pt Ap rfl ?_));clear H;intro a H;refine Z9 (_) _ _ ?_ (by exact H.sub ⟨rfl,aC⟩);rw [← hst];clear hst hwd hnm hck hcd;(try clear hq1);(try clear hq2);(try clear hq3);(try clear hq0);(try clear hq4);(try clear oq);(try clear ou);(try clear ow);simp_all
  intro Ap a H
  try have aoZ:=dF Ap
  refine kH H (aP Ap rfl (aP Ap rfl (Pf Ap rfl ?_)));clear H;intro a H;refine Z9 (_) _ _ ?_ (by exact H.sub ⟨rfl,aC⟩);rw [← hst];clear hst hwd hnm hck hcd;(try clear hq1);(try clear hq2);(try clear hq3);(try clear hq0);(try clear hq4);(try clear oq);(try clear ou);(try clear ow);simp_all
 clear H;intro q8 a w hI H;dsimp only [lca,bq] at H;simp only [zq,tY];have hq8:=hI;refine kH H (ak eG rfl (Cd rfl ?_ ?_)) <;> clear H eG
 ·intro Tk a H
  refine bN (fun _ gu=>?_)
  have e:kI x=13:=by unfold kI;rw [ah f0,ah f1,ah f2,ah f3,ah f4,au (by rw [← hq8];exact Tk)]
  exact kP H (SC (bC gu rfl (LR results196 rfl fun H=>H.rt ⟨by rw [e],rfl⟩)))
 intro Tk a H
 refine fZ ?_;refine K7 _ _ ?_;clear K7;refine bN (fun _ fC=>?_)
 have e:kI x=0:=by unfold kI;rw [ah f0,ah f1,ah f2,ah f3,ah f4,ah (by rw [← hq8,Tk];decide)]
 exact kP H (SC (bC fC rfl (LR results196 rfl fun H=>H.rt ⟨by rw [e],rfl⟩)))
structure CS where
 n:Int
 bK:List Int
abbrev CR:=Int × CS
def gK (r:CR) (f:CS→CR):CR:=if r.1≠0 then r else f r.2
theorem II {r:CR} {f:CS→CR} (h:r.1=0):gK r f=f r.2:=by rw [gK,ah (fun h'=>h' h)]
theorem NG {r:CR} {f:CS→CR} (h:r.1≠0):gK r f=r:=by rw [gK,au h]
def kS (C:bP) (s:CS) (x:Int):CR:=(qL C.us s.bK x,⟨s.n,kR C.us s.bK x⟩)
def mY (C:bP) (body note:Bool) (t k i:Int) (s:CS):CR :=
 if k=3 then (dx (!body) 19,s) else if k=6 then gK (dx note 19,s) fun s=>kS C s i else if k=7 then gK (dx (decide (4≤t)) 17,s) fun s=>kS C s i else if k=8 then (dx (!decide (1≤i∧i≤1073741824)) 18,s) else (0,s)
def DL (C:bP) (h:dQ) (n:Nat):Int:=dY [iE C 9 h,dx (decide ((n:Int)=0)) 11,dx (decide (32 < (n:Int))) 9]
def mI (n:Nat) (f:CS→CR) (s:CS):CR:=if n=0 then (11,s) else if 256 < n then (9,s) else f s
mutual
def fJ (C:bP) (body note:Bool) (t:Int):ay→CS→CR
 | .mk k c i tx h f r,s =>
  gK (kI (.mk k c i tx h f r),s) fun s=>gK (mY C body note t k i ⟨s.n+(if k=1 then rZ tx else 1:Nat),s.bK⟩) fun s=>gK (iE C k h,s) fun s =>
   if k=6 then jF C false true t f s else if k=7 then mI r.length (fun s=>iP C note (t+1) r s) s else (0,s)
def zN (C:bP) (note:Bool) (t:Int):aS→CS→CR
 | .mk h cs,s=>gK (DL C h cs.length,s) fun s=>qE C note t cs s
def cellC (C:bP) (note:Bool) (t:Int):aT→CS→CR
 | .mk i h f,s=>gK (kS C s i) fun s=>gK (iE C 10 h,s) fun s=>jF C false note t f s
def jF (C:bP) (body note:Bool) (t:Int):List ay→CS→CR
 | [],s=>(0,s)
 | x :: r,s=>gK (fJ C body note t x s) fun s=>jF C body note t r s
def iP (C:bP) (note:Bool) (t:Int):List aS→CS→CR
 | [],s=>(0,s)
 | x :: r,s=>gK (zN C note t x s) fun s=>iP C note t r s
def qE (C:bP) (note:Bool) (t:Int):List aT→CS→CR
 | [],s=>(0,s)
 | x :: r,s=>gK (cellC C note t x s) fun s=>qE C note t r s
end
theorem abv (C:bP) (body note:Bool) (t:Int) (x:ay) (s:CS):fJ C body note t x s=gK (kI x,s) fun s=>gK (mY C body note t x.kind x.id ⟨s.n+(jy x:Nat),s.bK⟩) fun s=>gK (iE C x.kind x.head,s) fun s =>
  if x.kind=6 then jF C false true t x.flow s else if x.kind=7 then mI x.rows.length (fun s=>iP C note (t+1) x.rows s) s else (0,s):=by cases x;rw [fJ];rfl
theorem PY (C:bP) (note:Bool) (t:Int) (x:aS) (s:CS):zN C note t x s=gK (DL C x.head x.cells.length,s) fun s=>qE C note t x.cells s:=by cases x;rw [zN];rfl
theorem NM (C:bP) (note:Bool) (t:Int) (x:aT) (s:CS):cellC C note t x s=gK (kS C s x.id) fun s=>gK (iE C 10 x.head,s) fun s=>jF C false note t x.flow s:=by cases x;rw [cellC];rfl
def Up (s:CS) (z:Nat) (r:CR):Prop:=s.n≤r.2.n∧r.2.n≤s.n+z
theorem Up.and {s:CS} {z y q:Nat} {r:CR} {f:CS→CR} (h:Up s z r) (hq:z+y≤q) (hf:∀ s,Up s y (f s)):Up s q (gK r f):=by
 obtain ⟨h1,h2⟩:=h
 unfold gK
 split
 ·exact ⟨h1,by omega⟩
 obtain ⟨h3,h4⟩:=hf r.2;exact ⟨by omega,by omega⟩
theorem Up.zero (s:CS) (e:Int) (q:Nat):Up s q (e,s):=⟨Int.le_refl _,by dsimp only;omega⟩
theorem Up.le {s:CS} {z y:Nat} {r:CR} (h:Up s z r) (hq:z≤y):Up s y r:=⟨h.1,by have:=h.2;omega⟩
theorem adU (C:bP) (s:CS) (x:Int) (q:Nat):Up s q (kS C s x):=⟨Int.le_refl _,by dsimp only [kS];omega⟩
theorem asv (C:bP) (body note:Bool) (t k i:Int) (s:CS) (q:Nat):Up s q (mY C body note t k i s):=by
 unfold mY
 (repeat' split) <;> first|exact Up.zero _ _ _|exact (Up.zero _ _ 0).and (y:=0) (by omega) fun s=>adU _ _ _ _
mutual
theorem adV (C:bP) (body note:Bool) (t:Int):∀ (x:ay) (s:CS),Up s (bT x.dat) (fJ C body note t x s)
 | .mk k c i tx h f r,s=>by
  have hz:=tN (.mk k c i tx h f r);have hf:=Qr C false true t f;have hr:=adW C note (t+1) r;rw [fJ];obtain ⟨u,hu'⟩:∃ u,u=(if k=1 then rZ tx else 1:Nat):=⟨_,rfl⟩
  have hu:u≤tx.size+1:=by
   have:=NW tx
   rw [hu'];split <;> omega
  rw [← hu'];dsimp only [ay.text,ay.flow,ay.rows,ay.head] at hz;refine (Up.zero s _ 0).and (Nat.le_of_eq (gJ _)) fun s=>?_
  have h2:Up s (u) (mY C body note t k i ⟨s.n+(u:Nat),s.bK⟩):=by
   obtain ⟨h3,h4⟩:=asv C body note t k i ⟨s.n+(u:Nat),s.bK⟩ 0;dsimp only at h3 h4;exact ⟨by omega,by omega⟩
  refine h2.and (y:=bV f+gD r) (by omega) fun s=>(Up.zero s _ 0).and (Nat.le_of_eq (gJ _)) fun s=>?_
  by_cases h6:k=6
  ·rw [au h6];exact (hf s).le (by omega)
  rw [ah h6]
  by_cases h7:k=7
  ·rw [au h7]
   unfold mI
   by_cases c1:r.length=0
   ·rw [au c1];exact Up.zero _ _ _
   rw [ah c1]
   by_cases c2:256 < r.length
   ·rw [au c2];exact Up.zero _ _ _
   rw [ah c2];exact (hr s).le (by omega)
  rw [ah h7];exact Up.zero _ _ _
theorem asw (C:bP) (note:Bool) (t:Int):∀ (x:aS) (s:CS),Up s (bT x.dat) (zN C note t x s)
 | .mk h cs,s=>by
  have hz:=zW (.mk h cs);have hc:=adT C note t cs;rw [PY];dsimp only [aS.cells,aS.head] at hz ⊢;exact (Up.zero s _ 0).and (y:=iR cs) (by omega) fun s=>hc s
theorem asu (C:bP) (note:Bool) (t:Int):∀ (x:aT) (s:CS),Up s (bT x.dat) (cellC C note t x s)
 | .mk i h f,s=>by
  have hz:=Bt (.mk i h f);have hf:=Qr C false note t f;rw [NM];dsimp only [aT.flow,aT.head,aT.id] at hz ⊢;exact (adU C s _ 0).and (y:=bV f) (by omega) fun s=>(Up.zero s _ 0).and (Nat.le_of_eq (gJ _)) fun s=>hf s
theorem Qr (C:bP) (body note:Bool) (t:Int):∀ (l:List ay) (s:CS),Up s (bV l) (jF C body note t l s)
 | [],s=>by rw [jF];exact Up.zero _ _ _
 | x :: r,s=>by
  rw [jF];exact (adV C body note t x s).and (y:=bV r) (by simp only [bV,fO,dV];omega) fun s=>Qr C body note t r s
theorem adW (C:bP) (note:Bool) (t:Int):∀ (l:List aS) (s:CS),Up s (gD l) (iP C note t l s)
 | [],s=>by rw [iP];exact Up.zero _ _ _
 | x :: r,s=>by
  rw [iP];exact (asw C note t x s).and (y:=gD r) (by simp only [gD,fO,dV];omega) fun s=>adW C note t r s
theorem adT (C:bP) (note:Bool) (t:Int):∀ (l:List aT) (s:CS),Up s (iR l) (qE C note t l s)
 | [],s=>by rw [qE];exact Up.zero _ _ _
 | x :: r,s=>by
  rw [qE];exact (asu C note t x s).and (y:=iR r) (by simp only [iR,fO,dV];omega) fun s=>adT C note t r s
end
def rQ {α:Type} (f:α→CS→CR) (l:List α) (s:CS):Nat→CS
 | 0=>s
 | i+1=>match l[i]? with|some x=>(f x (rQ f l s i)).2|none=>rQ f l s i
def CZ {α:Type} (f:α→CS→CR) (l:List α) (s:CS) (i:Nat):Int:=match l[i]? with|some x=>(f x (rQ f l s i)).1|none=>0
theorem Wq {α:Type} (f:α→CS→CR) (x:α) (l:List α) (s:CS):∀ i,rQ f (x :: l) s (i+1)=rQ f l (f x s).2 i
 | 0=>rfl
 | i+1=>by
  have ih:=Wq f x l s i
  simp only [rQ,List.getElem?_cons_succ] at ih ⊢
  rw [ih]
theorem ajC {α:Type} (f:α→CS→CR) (x:α) (l:List α) (s:CS) (i:Nat):CZ f (x :: l) s (i+1)=CZ f l (f x s).2 i:=by
 unfold CZ
 simp only [List.getElem?_cons_succ,Wq]
theorem afa (E:Nat→Int) (n:Nat):kQ E (n+1)=if E 0≠0 then E 0 else kQ (fun i=>E (i+1)) n:=by
 unfold kQ
 rw [List.range_succ_eq_map,fO,dY,List.map_map]
 rfl
theorem abw (C:bP) (body note:Bool) (t:Int):∀ (l:List ay) (s:CS),(jF C body note t l s).1=kQ (CZ (fJ C body note t) l s) l.length∧((jF C body note t l s).1=0→(jF C body note t l s).2=rQ (fJ C body note t) l s l.length)
 | [],s=>by rw [jF];exact ⟨rfl,fun _=>rfl⟩
 | x :: r,s=>by
  obtain ⟨h1,h2⟩:=abw C body note t r (fJ C body note t x s).2;have e0:CZ (fJ C body note t) (x :: r) s 0=(fJ C body note t x s).1:=rfl;rw [jF,kW,afa,e0,Wq]
  simp only [ajC]
  unfold gK
  split
  ·next h=>exact ⟨rfl,fun h0=>absurd h0 h⟩
  exact ⟨h1,h2⟩
theorem adX (C:bP) (body note:Bool) (t:Int) (l:List ay) (s:CS):∀ i,i≤l.length→s.n≤(rQ (fJ C body note t) l s i).n∧(rQ (fJ C body note t) l s i).n+(bV (l.drop i):Nat)≤s.n+(bV l:Nat)
 | 0,_=>⟨Int.le_refl _,Int.le_refl _⟩
 | i+1,hi=>by
  have hi':i < l.length:=hi;obtain ⟨h1,h2⟩:=adX C body note t l s i (by omega)
  have hs:rQ (fJ C body note t) l s (i+1)=(fJ C body note t l[i] (rQ (fJ C body note t) l s i)).2:=by rw [rQ,eD hi']
  have hd:bV (l.drop i)=1+bT l[i].dat+bV (l.drop (i+1)):=by
   simp only [bV];rw [oh hi',fO,dV]
  obtain ⟨h3,h4⟩:=adV C body note t l[i] (rQ (fJ C body note t) l s i);rw [hs];exact ⟨by omega,by omega⟩
mutual
/-- The ids in items, in document order. -/
def qK:ay→List Int
 | .mk k _ i _ _ f r=>(if k=6∨k=7 then [i] else [])++((if k=6 then jf f else [])++(if k=7 then mV r else []))
def jf:List ay→List Int
 | []=>[]
 | x :: r=>qK x++jf r
def vG:aS→List Int
 | .mk _ c=>nT c
def mV:List aS→List Int
 | []=>[]
 | x :: r=>vG x++mV r
def wG:aT→List Int
 | .mk i _ f=>i :: jf f
def nT:List aT→List Int
 | []=>[]
 | x :: r=>wG x++nT r
end
theorem mO {r:CR} {f:CS→CR} {s':CS} (h:gK r f=(0,s')):r.1=0∧f r.2=(0,s'):=by
 unfold gK at h
 split at h
 ·rename_i h1;rw [h] at h1;exact absurd rfl h1
 rename_i h1;exact ⟨oK.1 h1,h⟩
theorem RJ {r:CR} (h:r.1=0):r=(0,r.2):=Prod.ext h rfl
structure mK (a b c:List Int):Prop where
 eq:c=a++b
 nd:a.Nodup→c.Nodup
 pos:∀ i∈b,1≤i∧i≤1073741824
theorem mK.nil (a:List Int):mK a [] a:=⟨by simp,fun h=>h,fun i h=>by cases h⟩
theorem mK.trans {a b c d e:List Int} (h:mK a b c) (g:mK c d e):mK a (b++d) e:=⟨by rw [g.eq,h.eq,iI],fun h1=>g.nd (h.nd h1),fun i hi=>(oJ.1 hi).elim (h.pos i) (g.pos i)⟩
theorem mK.id {us a:List Int} {x:Int} (h:qL us a x=0):mK a [x] (kR us a x):=by
 unfold kR
 rw [au h]
 unfold qL at h
 by_cases h0:¬ (1≤x∧x≤1073741824)∨x∈us
 ·rw [au h0] at h;cases h
 rw [ah h0] at h;have h1:1≤x∧x≤1073741824:=oK.1 fun h'=>h0 (.inl h')
 by_cases h2:x∈a
 ·rw [au h2] at h;cases h
 exact ⟨rfl,fun h3=>List.nodup_append.2 ⟨h3,by simp,fun u hu v hv=>by rw [tV.1 hv];exact fun e=>h2 (e ▸ hu)⟩,fun i hi=>by rw [tV.1 hi];exact h1⟩
theorem mK.kS {C:bP} {s s':CS} {x:Int} (h:kS C s x=(0,s')):mK s.bK [x] s'.bK:=by
 unfold Go.Proofs.YtdiflmikikiedaaGreat.kS at h
 injection h with h1 h2
 rw [← h2];exact mK.id h1
theorem apj {C:bP} {body note:Bool} {t k i:Int} {s s':CS} (h:mY C body note t k i s=(0,s')):mK s.bK (if k=6∨k=7 then [i] else []) s'.bK:=by
 unfold mY at h
 by_cases h3:k=3
 ·rw [au h3] at h;injection h with _ h2;rw [ah (by omega),← h2];exact mK.nil _
 rw [ah h3] at h
 by_cases h6:k=6
 ·rw [au h6] at h;rw [au (.inl h6)];exact mK.kS (mO h).2
 rw [ah h6] at h
 by_cases h7:k=7
 ·rw [au h7] at h;rw [au (.inr h7)];exact mK.kS (mO h).2
 rw [ah h7] at h;rw [ah (by omega)]
 by_cases h8:k=8
 ·rw [au h8] at h;injection h with _ h2;rw [← h2];exact mK.nil _
 rw [ah h8] at h;injection h with _ h2;rw [← h2];exact mK.nil _
theorem VU {n:Nat} {f:CS→CR} {s s':CS} (h:mI n f s=(0,s')):n≠0∧f s=(0,s'):=by
 unfold mI at h
 split at h
 ·cases h
 rename_i h1
 split at h
 ·cases h
 exact ⟨h1,h⟩
mutual
theorem ajG (C:bP) (body note:Bool) (t:Int):∀ (x:ay) (s s':CS),fJ C body note t x s=(0,s')→mK s.bK (qK x) s'.bK
 | .mk k c i tx h f r,s,s',e=>by
  have hf:=Oh C false true t f;have hr:=Zv C note (t+1) r;rw [fJ] at e;obtain ⟨-,e⟩:=mO e;obtain ⟨e1,e⟩:=mO e;obtain ⟨-,e⟩:=mO e;have h1:=apj (RJ e1);rw [qK];refine h1.trans ?_
  by_cases h6:k=6
  ·rw [au h6] at e ⊢;rw [ah (show ¬ k=7 by omega),jd];exact hf _ _ e
  rw [ah h6] at e ⊢;rw [lK]
  by_cases h7:k=7
  ·rw [au h7] at e ⊢;exact hr _ _ (VU e).2
  rw [ah h7] at e ⊢
  injection e with _ e
  rw [← e];exact mK.nil _
theorem ajH (C:bP) (note:Bool) (t:Int):∀ (x:aS) (s s':CS),zN C note t x s=(0,s')→mK s.bK (vG x) s'.bK
 | .mk h cs,s,s',e=>by
  have hc:=Zu C note t cs;rw [PY] at e;rw [vG];exact hc _ _ (mO e).2
theorem ajF (C:bP) (note:Bool) (t:Int):∀ (x:aT) (s s':CS),cellC C note t x s=(0,s')→mK s.bK (wG x) s'.bK
 | .mk i h f,s,s',e=>by
  have hf:=Oh C false note t f;rw [NM] at e;dsimp only [aT.id,aT.head,aT.flow] at e;obtain ⟨e1,e⟩:=mO e;have h1:=mK.kS (s':=(kS C s i).2) (Prod.ext e1 rfl);rw [wG];exact h1.trans (hf _ _ (mO e).2)
theorem Oh (C:bP) (body note:Bool) (t:Int):∀ (l:List ay) (s s':CS),jF C body note t l s=(0,s')→mK s.bK (jf l) s'.bK
 | [],s,s',e=>by rw [jF] at e;injection e with _ e;rw [← e];exact mK.nil _
 | x :: r,s,s',e=>by
  rw [jF] at e;obtain ⟨e1,e⟩:=mO e;rw [jf];exact (ajG C body note t x s _ (Prod.ext e1 rfl)).trans (Oh C body note t r _ _ e)
theorem Zv (C:bP) (note:Bool) (t:Int):∀ (l:List aS) (s s':CS),iP C note t l s=(0,s')→mK s.bK (mV l) s'.bK
 | [],s,s',e=>by rw [iP] at e;injection e with _ e;rw [← e];exact mK.nil _
 | x :: r,s,s',e=>by
  rw [iP] at e;obtain ⟨e1,e⟩:=mO e;rw [mV];exact (ajH C note t x s _ (Prod.ext e1 rfl)).trans (Zv C note t r _ _ e)
theorem Zu (C:bP) (note:Bool) (t:Int):∀ (l:List aT) (s s':CS),qE C note t l s=(0,s')→mK s.bK (nT l) s'.bK
 | [],s,s',e=>by rw [qE] at e;injection e with _ e;rw [← e];exact mK.nil _
 | x :: r,s,s',e=>by
  rw [qE] at e;obtain ⟨e1,e⟩:=mO e;rw [nT];exact (ajF C note t x s _ (Prod.ext e1 rfl)).trans (Zu C note t r _ _ e)
end
def rX (l:List ay):Prop:=∃ (C:bP) (body note:Bool) (t:Int) (s s':CS),jF C body note t l s=(0,s')
structure Iy (x:ay):Prop where
 txt:rT x.text=true
 kd:1≤x.kind∧x.kind≤8
 rw0:x.kind≠7→x.rows=[]
 fl0:x.kind≠6→x.flow=[]
 fl:rX x.flow
 rw:∀ r∈x.rows,∀ c∈r.cells,rX c.flow
theorem aoD:rX []:=⟨⟨[],[],[],[]⟩,false,false,0,⟨0,[]⟩,⟨0,[]⟩,by rw [jF]⟩
theorem F5 {x:ay} (h:kI x=0):rT x.text=true∧(1≤x.kind∧x.kind≤8)∧(x.kind≠7→x.rows=[])∧(x.kind≠6→x.flow=[]):=by
 unfold kI at h
 split at h
 ·cases h
 rename_i h1
 split at h
 ·cases h
 rename_i h2
 split at h
 ·cases h
 rename_i h3
 have hk:decide (1≤x.kind∧x.kind≤8)=true:=by
  cases hd:decide (1≤x.kind∧x.kind≤8)
  ·rw [hd] at h1;exact absurd rfl h1
  rfl
 refine ⟨by simpa using h3,mM hk,fun h7=>?_,fun h6=>?_⟩
 ·rw [Bool.not_eq_true] at h2
  unfold vo at h2
  simp only [Bool.or_eq_false_iff] at h2
  have h4:=h2.2;rw [jB h7,Em,ny] at h4;exact List.length_eq_zero_iff.1 (by omega)
 rw [Bool.not_eq_true] at h2
 unfold vo at h2
 simp only [Bool.or_eq_false_iff] at h2
 have h4:=h2.1.2;rw [jB h6,Em,ny] at h4;exact List.length_eq_zero_iff.1 (by omega)
theorem cells_ok {C:bP} {note:Bool} {t:Int}:∀ {l:List aT} {s s':CS},qE C note t l s=(0,s')→∀ c∈l,rX c.flow
 | [],_,_,_,_,h=>by cases h
 | x :: r,s,s',e,c,h=>by
  rw [qE] at e;obtain ⟨e1,e⟩:=mO e
  rcases kL.1 h with rfl|h
  ·have e2:cellC C note t c s=(0,(cellC C note t c s).2):=Prod.ext e1 rfl
   generalize (cellC C note t c s).2=s2 at e2
   rw [NM] at e2;exact ⟨C,false,note,t,_,_,(mO (mO e2).2).2⟩
  exact cells_ok e c h
theorem acL {C:bP} {note:Bool} {t:Int}:∀ {l:List aS} {s s':CS},iP C note t l s=(0,s')→∀ r∈l,∀ c∈r.cells,rX c.flow
 | [],_,_,_,_,h=>by cases h
 | x :: r,s,s',e,q,h=>by
  rw [iP] at e;obtain ⟨e1,e⟩:=mO e
  rcases kL.1 h with rfl|h
  ·have e2:zN C note t q s=(0,(zN C note t q s).2):=Prod.ext e1 rfl
   generalize (zN C note t q s).2=s2 at e2
   rw [PY] at e2;exact cells_ok (mO e2).2
  exact acL e q h
theorem rX.head {x:ay} {l:List ay} (h:rX (x :: l)):Iy x∧rX l:=by
 obtain ⟨C,body,note,t,s,s',e⟩:=h;rw [jF] at e;obtain ⟨e1,e⟩:=mO e;have e2:fJ C body note t x s=(0,(fJ C body note t x s).2):=Prod.ext e1 rfl
 generalize (fJ C body note t x s).2=s2 at e2
 refine ⟨?_,⟨C,body,note,t,_,_,e⟩⟩;rw [abv] at e2;obtain ⟨f1,e2⟩:=mO e2;(iterate 2 obtain ⟨-,e2⟩:=mO e2);obtain ⟨h1,h2,h3,h4⟩:=F5 f1;refine ⟨h1,h2,h3,h4,?_,?_⟩
 ·by_cases h6:x.kind=6
  ·rw [au h6] at e2;exact ⟨_,_,_,_,_,_,e2⟩
  rw [h4 h6];exact aoD
 by_cases h7:x.kind=7
 ·rw [ah (by omega),au h7] at e2;exact acL (VU e2).2
 rw [h3 h7];exact fun _ h=>by cases h
theorem rX.tail {x:ay} {l:List ay} (h:rX (x :: l)):rX l:=h.head.2
theorem rX.mem:∀ {l:List ay} {x:ay},rX l→x∈l→Iy x
 | y :: l,x,h,hx=>by
  rcases kL.1 hx with rfl|hx
  ·exact h.head.1
  exact rX.mem h.head.2 hx
theorem Iy.e {x:ay} (h:Iy x):M0 x=0:=by unfold M0 J2;rw [au h.txt];split <;> rfl
theorem Iy.n1 {x:ay} (h:Iy x):n1 x=jy x:=by unfold Go.Proofs.YtdiflmikikiedaaGreat.n1;rw [au h.e]
theorem rX.div {l:List ay} (h:rX l):Oa l=true:=by
 unfold Oa
 rw [kM];exact fun x hx=>jB (h.mem hx).e
theorem rX.len {l:List ay} (h:rX l):ES l=H8 l:=by unfold ES;rw [au h.div]
mutual
theorem asM (note:Bool) (t:Int):∀ x:ay,((M8 note t x).map qC.id).Sublist (qK x)
 | .mk k c i tx h f r=>by
  have hf:=Qu true t f;have hr:=aeg note t r;rw [M8,qK]
  by_cases h6:k=6
  ·rw [au h6,au (.inl h6),au h6,ah (by omega),jd];exact List.Sublist.cons_cons _ hf
  rw [ah h6,ah h6,lK]
  by_cases h7:k=7
  ·rw [au h7,au h7,au (.inr h7)];exact List.Sublist.cons _ hr
  rw [ah h7];exact List.nil_sublist _
theorem Qu (note:Bool) (t:Int):∀ l:List ay,((Cz note t l).map qC.id).Sublist (jf l)
 | []=>by rw [Cz];exact List.nil_sublist _
 | x :: l=>by
  rw [Cz,jf,kY];exact (asM note t x).append (Qu note t l)
theorem asN (note:Bool) (t:Int):∀ x:aS,((M9 note t x).map qC.id).Sublist (vG x)
 | .mk h cs=>by rw [M9,vG];exact aef note t cs
theorem aeg (note:Bool) (t:Int):∀ l:List aS,((Fu note t l).map qC.id).Sublist (mV l)
 | []=>by rw [Fu];exact List.nil_sublist _
 | x :: l=>by
  rw [Fu,mV,kY];exact (asN note t x).append (aeg note t l)
theorem asL (note:Bool) (t:Int):∀ x:aT,((M7 note t x).map qC.id).Sublist (wG x)
 | .mk i h f=>by rw [M7,wG];exact List.Sublist.cons_cons _ (Qu note (t+1) f)
theorem aef (note:Bool) (t:Int):∀ l:List aT,((Fq note t l).map qC.id).Sublist (nT l)
 | []=>by rw [Fq];exact List.nil_sublist _
 | x :: l=>by
  rw [Fq,nT,kY];exact (asL note t x).append (aef note t l)
end
structure Nw (l:List ay):Prop where
 ok:rX l
 nd:(jf l).Nodup
 pos:∀ i∈jf l,1≤i∧i≤1073741824
theorem Nw.of {C:bP} {body note:Bool} {t n:Int} {l:List ay} {s':CS} (h:jF C body note t l ⟨n,[]⟩=(0,s')):Nw l:=by
 have he:=Oh C body note t l _ _ h;have hn:=he.nd List.nodup_nil;rw [he.eq] at hn;exact ⟨⟨C,body,note,t,_,_,h⟩,by simpa using hn,he.pos⟩
theorem Nw.ids {l:List ay} (h:Nw l):((Jb l).map qC.id).Nodup:=by
 have hs:=Qu false 0 l;rw [Jb,fO,List.nodup_cons];exact ⟨fun hm=>by have:=h.pos _ (hs.subset hm);dsimp only at this;omega,hs.nodup h.nd⟩
section
theorem I4:∀ args w,(callFunc 70 args).run prog w=.ok (.enter 70 args) w:=enters func70 rfl (by kernel_rfl)
theorem Sb:∀ args w,(callFunc 198 args).run prog w=.ok (.enter 198 args) w:=enters func198 rfl (by kernel_rfl)
theorem KT:∀ args w,(callFunc 72 args).run prog w=.ok (.enter 72 args) w:=enters func72 rfl (by kernel_rfl)
variable {us:List Int}
theorem Ji (G:GH) (L:OL) (w0:World) (st:List cu) (li:List fK) (rv:List dh) (b ms ml mr mb mu:Nat) (n:Int) (hck:wR us G st li rv ms ml mr mu) (hO:gL G (gI b ms ml mr mb mu n :: L) w0)
  (e:Int) (h:dQ) (p d l:aj) (hh:jc G h p d l) (hz:mh h≤4294967296) :
  Calls prog 70 #[(aK b 0),vi e,rz h p d l] w0 (gy w0 G (gI b ms ml mr mb mu n :: L) fun v G' L'=>G=G'∧L'=gI b ms ml mr mb mu n :: L∧v=vi (iE (bF us st li rv) e h)):=by
 have hm:=GH.IE G (o:=(gI b ms ml mr mb mu n).2) (hO.sep _ gM);exact (alQ (G.add b (gI b ms ml mr mb mu n).2) w0 hO.add st li rv b ms ml mr mb mu n (hck.mono hm) (GH.IG _ _ _) e h p d l (hh.mono hm) hz).mono fun _ _=>apO (b:=b) (o:=(gI b ms ml mr mb mu n).2) (R':=fun v=>v=vi (iE (bF us st li rv) e h)) hO fun _ _ h=>h
abbrev Ng (b ms ml mr mb mu:Nat) (L:OL) (r:CR):aj→OL→Prop:=fun u L'=>∃ s:CS,u=vi r.1∧L'=gI b ms ml mr mb mu s.n :: (mb,fF (fV s.bK)) :: L∧(r.1=0→s=r.2)
def Ip (us:List Int) (m:Nat):Prop:=∀ (G:GH) (L:OL) (w0:World) (st:List cu) (li:List fK) (rv:List dh) (b ms ml mr mb mu:Nat) (s:CS) (l:List ay) (v:aj) (body note:Bool) (t:Int),
 wR us G st li rv ms ml mr mu→gL G (gI b ms ml mr mb mu s.n :: (mb,fF (fV s.bK)) :: L) w0→av G (.sl 11 (l.map ay.dat)) v→bV l < m→0≤t→t≤4→0≤s.n→s.n+(bV l:Nat)≤1099511627776 →
 Calls prog 72 #[(aK b 0),v,.agg #[.bool body,.bool note,vi t]] w0 (gy w0 G (gI b ms ml mr mb mu s.n :: (mb,fF (fV s.bK)) :: L) fun u G' L'=>G=G'∧Ng b ms ml mr mb mu L (jF (bF us st li rv) body note t l s) u L')
theorem rows_ok {m:Nat} (ih:Ip us m) (hm:m≤4294967296) (Gt:GH) (L:OL) (w0:World) (st:List cu) (li:List fK) (rv:List dh) (b ms ml mr mb mu:Nat) (s:CS) (l:List aS) (v:aj) (note:Bool) (t:Int)
  (hck:wR us Gt st li rv ms ml mr mu) (hO:gL Gt (gI b ms ml mr mb mu s.n :: (mb,fF (fV s.bK)) :: L) w0) (hv:av Gt (.sl 6 (l.map aS.dat)) v) (hz:gD l < m) (ht0:0≤t) (AQ:t≤4) (hs0:0≤s.n) (hs1:s.n+(gD l:Nat)≤1099511627776) :
  Calls prog 199 #[(aK b 0),v,.agg #[.bool false,.bool note,vi t]] w0 (gy w0 Gt (gI b ms ml mr mb mu s.n :: (mb,fF (fV s.bK)) :: L) fun u G' L'=>Ng b ms ml mr mb mu L (mI l.length (fun s=>iP (bF us st li rv) note t l s) s) u L'):=by
 obtain ⟨A,c,rfl,hc1,hc2,hg⟩:=hv.slice;rw [aZ] at *;have hll:=D6 l;refine iY (N:=77) (T:=[(0,_),(1,_),(2,_)]) func199 rfl ntmps199 rfl rfl hO ?_;intro a H;refine bZ (fun _ K1=>?_);refine dZ (cs:=[_,_,_]) H wn rfl rfl rfl ?_;clear H;intro b5 a w hb5 H;refine kH H (ak K1 rfl (SQ fun _ K2=>SR fun _ K3=>Rm rfl (Rl kT rfl (Rc rfl (Kz K3 (Cd rfl ?_ ?_)))))) <;> clear H K1 K3
 ·intro eY a H
  try have nH:=dT eY
  refine bN (fun _ K4=>?_);have hE:mI l.length (fun s=>iP (bF us st li rv) note t l s) s=(11,s):=au (by omega);exact kP H (SC (bC K4 rfl (LR results199 rfl fun H=>H.hp.gB (L':=gI b ms ml mr mb mu s.n :: (mb,fF (fV s.bK)) :: L) (by repeat (first|exact fT _|apply List.Sublist.cons)) ⟨s,by rw [hE],rfl,fun h=>by rw [hE]⟩)))
 intro eY a H
 try have nH:=dF eY
 refine kP H (Kc K2 (SQ fun _ K5=>SR fun _ K6=>Rm rfl (Rl kT rfl (Rc rfl (Kz K6 (Cd rfl ?_ ?_)))))) <;> clear H K2 K6
 ·intro h20 a H
  try have Hz:=dT h20
  refine bN (fun _ K7=>?_)
  have hE:mI l.length (fun s=>iP (bF us st li rv) note t l s) s=(9,s):=by rw [mI,ah (by omega),au (by omega)]
  exact kP H (SC (bC K7 rfl (LR results199 rfl fun H=>H.hp.gB (L':=gI b ms ml mr mb mu s.n :: (mb,fF (fV s.bK)) :: L) (by repeat (first|exact fT _|apply List.Sublist.cons)) ⟨s,by rw [hE],rfl,fun h=>by rw [hE]⟩)))
 intro h20 a H
 try have Hz:=dF h20
 refine kP H (Kc K5 (SQ fun _ K8=>SQ fun _ K9=>?_));clear H K5;intro a H
 have hE:mI l.length (fun s=>iP (bF us st li rv) note t l s) s=iP (bF us st li rv) note t l s:=by rw [mI,ah (by omega),ah (by omega)]
 refine kP H (SC (Rm rfl (Rl kT rfl (Rm rfl (Kn K9 (SB ?_))))));clear H K9;intro a H;skip;refine fH (ι:=Nat × CS × GH) (Tc:=[(0,_),(5,_),(21,_),(22,_)]) (Lc:=[(_,_)]) (fun gh=>[(23,vi gh.1)]) (fun gh=>[gI b ms ml mr mb mu gh.2.1.n,(mb,fF (fV gh.2.1.bK))]++L) (fun gh=>gh.2.2) (fun gh=>gh.1≤l.length∧(∀ b o,Gt b=some o→gh.2.2 b=some o)∧iP (bF us st li rv) note t l s=iP (bF us st li rv) note t (l.drop gh.1) gh.2.1∧0≤gh.2.1.n∧gh.2.1.n+(gD (l.drop gh.1):Nat)≤1099511627776) (fun gh=>l.length - gh.1) ((0,s,Gt)) (by exact (H).sub ⟨rfl,rfl,rfl,rfl,rfl,aC⟩) ?_ ?_
 ·exact ⟨gY _,fun _ _ h=>h,rfl,hs0,hs1⟩
 clear H;rintro ⟨k,s1,g⟩ a w hI H;dsimp only at hI H;obtain ⟨hk,hgm,hR,hn0,hn1⟩:=hI;dsimp only [lca,bq] at H;refine kP H (SR fun _ aW=>Rc rfl (Kz aW (SQ fun _ bO=>Cd rfl ?_ ?_))) <;> clear H aW
 ·intro fB a H
  try have mX:=dT fB
  have hk2:k < l.length:=by omega
  have hsz:=Na hk2;have hcs:=Fv l[k].cells
  have hdz:gD (l.drop k)=1+bT l[k].dat+gD (l.drop (k+1)):=by simp only [gD];rw [oh hk2,fO,dV]
  have hrz:=zW l[k];obtain ⟨xb,xo,qA,qn,qc,eA,en,ec,zA,zn,zc,cA,cn,cc,rfl,hrow,Ch,hcl⟩:=HZ hk2 hg;replace hrow:=fun j u hj=>aJ hgm (hrow j u hj);replace Ch:=Ch.mono hgm;replace hcl:=hcl.mono hgm;have hcn:=hcl.len;rw [aZ] at hcn;subst hcn;have alC:=hck.mono hgm;rw [oh hk2,iP,PY] at hR;refine kP H (Kc bO (SQ fun _ bW=>SB (SR fun _ cB=>Ri kT iW rfl rfl ?_)));clear H bO;intro a H;refine bB iW (cs:=[_,_,_,_,_,_]) H wn rfl rfl (fun j v hj=>H.hp.aI (hrow j v hj)) rfl ?_;clear H;intro a H;refine dB iW H wn rfl ?_;clear H;intro b8 a w Gy H;refine aY iW 0 (vs:=[_,_,_,_,_,_]) _ H wn rfl rfl rfl rfl rfl rfl rfl rfl ?_;clear H;intro w H;dsimp only [List.set,setRow] at H;refine cB _ _ ?_;clear cB;refine bN (fun _ dw=>?_);refine bN (fun _ dR=>?_);refine dI hmx [[],[],[1],[0,1,2],[],[4],[4,5],[4,5,6],(ra 0 8),[],[9],[9,10],[9,10,11],(ra 0 13),(ra 0 14),(ra 0 15),(ra 0 16)] [14,15,16] (by kernel_rfl) [_,_,rz l[k].head (.slice qA qn qc) (.slice eA en ec) (.slice zA zn zc),vi (iE (bF us st li rv) 9 l[k].head),_,.slice cA l[k].cells.length cc,_,_,vi (dx (decide ((l[k].cells.length:Int)=0)) 11),_,.slice cA l[k].cells.length cc,_,_,vi (dx (decide (32 < (l[k].cells.length:Int))) 9)] H (aF (Z0 rfl (Rm rfl)) (Z0 rfl (Rf F3 rfl)) ?_ ?_ (aF (Z0 rfl (Rf uh rfl)) (Z1 4 31 rfl (Ro uP 0 rfl)) (Z1 5 32 rfl (Rl lu rfl)) (Z1 6 33 rfl (Rc rfl)) (aF ?_ (Z0 rfl (Rf uh rfl)) (Z1 9 36 rfl (Ro uP 0 rfl)) (Z1 10 37 rfl (Rl lu rfl)) (aF (Z1 11 38 rfl (Rc rfl)) ?_ (bQ rfl) (bQ rfl) (bM (bQ rfl) dz))))) ?_
  ·refine eP 1 28 rfl rfl fun _ a w G1 hG HT H fin=>?_;refine bB eO (cs:=[_,_,_,_,_]) H wn rfl rfl (H.hp.bU 0 rfl rfl) rfl ?_;clear H;intro a H;exact fin H iJ rfl
  ·refine dK 0 27 2 29 rfl rfl fun _ a w G1 hG HT H fin=>?_;refine gW I4 (Li:=[_,_]) (L:=gI b ms ml mr mb mu s1.n :: (mb,fF (fV s1.bK)) :: L) H wn rfl (Ji _ _ _ st li rv b ms ml mr mb mu _ (alC.mono hG) (Hp.owns (Li:=[_,_]) H.hp) 9 l[k].head _ _ _ (Ch.mono hG) (by omega)) rfl ?_;clear H;rintro v30 _ _ a w ⟨rfl,rfl,rfl⟩ TD H;dsimp only [lca,bq] at H;exact fin H TD (rfl)
  ·refine eP 7 34 rfl rfl fun _ a w G1 hG HT H fin=>?_;refine s_call jR H wn rfl (jS _ _ H.ro _ 11) rfl ?_;clear H;rintro v35 QG a w ⟨rfl,-⟩ TF H;exact fin H TF (rfl)
  ·refine eP 12 39 rfl rfl fun _ a w G1 hG HT H fin=>?_;refine s_call jR H wn rfl (jS _ _ H.ro _ 9) rfl ?_;clear H;rintro v40 QJ a w ⟨rfl,-⟩ akL H;exact fin H akL (rfl)
  clear H;intro a w G ql H hv;have H:=H.aM (hv 3 30 rfl rfl) rfl;have H:=H.aM (hv 8 35 rfl rfl) rfl;have H:=H.aM (hv 13 40 rfl rfl) rfl;clear hv;refine ig qU iy [_,_,_] [_,_,_] H wn rfl rfl rfl rfl rfl (by intro i q h;match i,h with|0,h=>exact h|1,h=>exact h|2,h=>exact h|n+3,h=>simp at h) rfl rfl ?_;clear H;intro b41 a w atK H;obtain ⟨zZ,nS,alm,H⟩:=H.eH;have aar:∀ b o,Gt b=some o→zZ b=some o:=fun b o h=>nS _ _ (ql _ _ (hgm _ _ h));refine s_call sj H wn rfl (sD _ _ H.ro _ _ (GZ [iE (bF us st li rv) 9 l[k].head,dx (decide ((l[k].cells.length:Int)=0)) 11,dx (decide (32 < (l[k].cells.length:Int))) 9] alm (show 3≤maxLen by decide))) rfl ?_;clear H;rintro v42 _ a w ⟨rfl,rfl⟩ - H;refine kH H (Ra rfl ?_);clear H;intro a H;refine aD ⟨rfl,?_⟩;refine dR _ _ ?_;clear dR;refine kP H (SR fun _ dW=>Rm rfl (Rc rfl (Kz dW (Cd rfl ?_ ?_)))) <;> clear H dW
  ·intro oM a H
   try have p44:=dT oM
   have e44:DL (bF us st li rv) l[k].head l[k].cells.length≠0:=p44
   have hF1:(mI l.length (fun s=>iP (bF us st li rv) note t l s) s).1=DL (bF us st li rv) l[k].head l[k].cells.length:=by rw [hE,hR,NG (r:=(DL (bF us st li rv) l[k].head l[k].cells.length,s1)) e44,NG e44]
   have hF2:(mI l.length (fun s=>iP (bF us st li rv) note t l s) s).1=0→s1=(mI l.length (fun s=>iP (bF us st li rv) note t l s) s).2:=fun h=>absurd (hF1.symm.trans h) e44;exact kP H (SR fun _ dU=>Rm rfl (ak dU rfl (LR results199 rfl fun H=>H.hp.gB (L':=gI b ms ml mr mb mu s1.n :: (mb,fF (fV s1.bK)) :: L) (by repeat (first|exact fT _|apply List.Sublist.cons)) ⟨s1,aB vi hF1.symm,rfl,hF2⟩)))
  intro oM a H
  try have p44:=dF oM
  have e44:DL (bF us st li rv) l[k].head l[k].cells.length=0:=oK.1 p44;rw [II (r:=(DL (bF us st li rv) l[k].head l[k].cells.length,s1)) e44] at hR;dsimp only at hR;have alD:=hck.mono aar;replace hcl:=hcl.mono (fun b o h=>nS _ _ (ql b o h));refine kP H (Kc dw (SR fun _ eG=>bG uh uP 0 rfl rfl (Rl lu rfl (Rm rfl (Kz eG (SB ?_))))));clear H dw eG;intro a H;skip;refine fH (ι:=Nat × CS × GH) (Tc:=[(0,_),(5,_),(21,_),(22,_),(23,_),(47,_),(48,_)]) (Lc:=[(_,_),(_,_)]) (fun gh=>[(49,vi gh.1)]) (fun gh=>[gI b ms ml mr mb mu gh.2.1.n,(mb,fF (fV gh.2.1.bK))]++L) (fun gh=>gh.2.2) (fun gh=>gh.1≤l[k].cells.length∧(∀ b o,zZ b=some o→gh.2.2 b=some o)∧iP (bF us st li rv) note t l s=gK (qE (bF us st li rv) note t (l[k].cells.drop gh.1) gh.2.1) (fun s=>iP (bF us st li rv) note t (l.drop (k+1)) s)∧0≤gh.2.1.n∧gh.2.1.n+(iR (l[k].cells.drop gh.1):Nat)+(gD (l.drop (k+1)):Nat)≤1099511627776) (fun gh=>l[k].cells.length - gh.1) ((0,s1,zZ)) (by exact (H).sub ⟨rfl,rfl,rfl,rfl,rfl,rfl,rfl,rfl,aC⟩) ?_ ?_
  ·exact ⟨gY _,fun _ _ h=>h,hR,hn0,by dsimp only;rw [tY];omega⟩
  clear H;rintro ⟨c,s2,g2⟩ a w hI H;dsimp only at hI H;obtain ⟨hc,OM,hR2,hm0,hm1⟩:=hI;have jY:=fun b o h=>OM b o (aar b o h);dsimp only [lca,bq] at H;refine kP H (SR fun _ gu=>Rc rfl (Kz gu (SQ fun _ fC=>Cd rfl ?_ ?_))) <;> clear H gu
  ·intro h50 a H
   try have p50:=dT h50
   have hk4:c < l[k].cells.length:=by omega
   have amZ:=WQ hk4
   have alK:iR (l[k].cells.drop c)=1+bT l[k].cells[c].dat+iR (l[k].cells.drop (c+1)):=by simp only [iR];rw [oh hk4,fO,dV]
   have hcz:=Bt l[k].cells[c];obtain ⟨b3',o3,sA,sn,sc,tA,tn,tc,uA,un,uc,gA,gn,gc,rfl,hrow,hch,hcf⟩:=CY hk4 (hcl.mono OM).at_;have Uh:=alD.mono OM;rw [oh hk4,qE,NM] at hR2;obtain ⟨y,hy⟩:∃ y,y=l[k].cells[c]:=⟨_,rfl⟩;rw [← hy] at hR2 hrow hch hcf hcz amZ alK;refine kP H (Kc fC (SQ fun _ gH=>SB (SR fun _ iC=>Ri lu iQ rfl rfl ?_)));clear H fC;intro a H;refine bB iQ (cs:=[_,_,_,_,_,_,_]) H wn rfl rfl (fun j v hj=>H.hp.aI (hrow j v hj)) rfl ?_;clear H;intro a H;refine dB iQ H wn rfl ?_;clear H;intro b11 a w BX H;refine aY iQ 0 (vs:=[_,_,_,_,_,_,_]) _ H wn rfl rfl rfl rfl rfl rfl rfl rfl ?_;clear H;intro w H;dsimp only [List.set,setRow] at H;refine iC _ _ ?_;clear iC;refine kP H (SQ fun _ jT=>SR fun _ jN=>Rm rfl (bG I9 aH 0 rfl rfl ?_));clear H;intro a H;refine gW Sb (Li:=[_,_,_]) (L:=gI b ms ml mr mb mu s2.n :: (mb,fF (fV s2.bK)) :: L) H wn rfl (RA _ _ _ st li rv b ms ml mr mb mu _ s2.bK y.id Uh (Hp.owns (Li:=[_,_,_]) H.hp)) rfl ?_;clear H;rintro v56 _ _ a w ⟨rfl,rfl,rfl⟩ - H;dsimp only [lca,bq] at H;refine kH H (ak jN rfl (SR fun _ jO=>Rm rfl (Rc rfl (Kz jO (Cd rfl ?_ ?_))))) <;> clear H jN jO
   ·intro lg a H
    try have p58:=dT lg
    have hF1:(mI l.length (fun s=>iP (bF us st li rv) note t l s) s).1=qL us s2.bK y.id:=by rw [hE,hR2];simp [gK,kS,p58]
    have hF2:(mI l.length (fun s=>iP (bF us st li rv) note t l s) s).1=0→(⟨s2.n,kR us s2.bK y.id⟩:CS)=(mI l.length (fun s=>iP (bF us st li rv) note t l s) s).2:=fun h=>absurd (hF1.symm.trans h) p58;exact kP H (SR fun _ kU=>Rm rfl (ak kU rfl (LR results199 rfl fun H=>H.hp.gB (L':=gI b ms ml mr mb mu s2.n :: (mb,fF (fV (kR us s2.bK y.id))) :: L) (by repeat (first|exact fT _|apply List.Sublist.cons)) ⟨⟨s2.n,kR us s2.bK y.id⟩,aB vi hF1.symm,rfl,hF2⟩)))
   intro lg a H
   try have p58:=dF lg
   have e58:qL us s2.bK y.id=0:=oK.1 p58;refine kP H (Kc jT (SQ fun _ lC=>SR fun _ jP=>Rm rfl (Rf C8 rfl ?_)));clear H jT;intro a H;refine bB eO (cs:=[_,_,_,_,_]) H wn rfl rfl (H.hp.bU 0 rfl rfl) rfl ?_;clear H;intro a H;refine gW I4 (Li:=[_,_,_]) (L:=gI b ms ml mr mb mu s2.n :: (mb,fF (fV (kR us s2.bK y.id))) :: L) H wn rfl (Ji _ _ _ st li rv b ms ml mr mb mu _ Uh (Hp.owns (Li:=[_,_,_]) H.hp) 10 y.head _ _ _ hch (by omega)) rfl ?_;clear H;rintro v63 _ _ a w ⟨rfl,rfl,rfl⟩ - H;dsimp only [lca,bq] at H;refine kH H (ak jP rfl (SR fun _ nM=>Rm rfl (Rc rfl (Kz nM (Cd rfl ?_ ?_))))) <;> clear H jP nM
   ·intro um a H
    try have p65:=dT um
    have hF1:(mI l.length (fun s=>iP (bF us st li rv) note t l s) s).1=iE (bF us st li rv) 10 y.head:=by rw [hE,hR2];simp [gK,kS,e58,p65]
    have hF2:(mI l.length (fun s=>iP (bF us st li rv) note t l s) s).1=0→(⟨s2.n,kR us s2.bK y.id⟩:CS)=(mI l.length (fun s=>iP (bF us st li rv) note t l s) s).2:=fun h=>absurd (hF1.symm.trans h) p65;exact kP H (SR fun _ nZ=>Rm rfl (ak nZ rfl (LR results199 rfl fun H=>H.hp.gB (L':=gI b ms ml mr mb mu s2.n :: (mb,fF (fV (kR us s2.bK y.id))) :: L) (by repeat (first|exact fT _|apply List.Sublist.cons)) ⟨⟨s2.n,kR us s2.bK y.id⟩,aB vi hF1.symm,rfl,hF2⟩)))
   intro um a H
   try have p65:=dF um
   have e65:iE (bF us st li rv) 10 y.head=0:=oK.1 p65;refine kP H (Kc lC (SR fun _ oF=>Rm rfl (bG Ew kg 0 rfl rfl ?_)));clear H lC;intro a H;refine bB adI (cs:=[_,_,_]) H wn rfl rfl (H.hp.bU 2 rfl rfl) rfl ?_;clear H;intro a H;refine gW KT (Li:=[_,_,_]) (L:=gI b ms ml mr mb mu s2.n :: (mb,fF (fV (kR us s2.bK y.id))) :: L) H wn rfl (ih _ _ _ st li rv b ms ml mr mb mu ⟨s2.n,kR us s2.bK y.id⟩ y.flow _ false note t Uh (Hp.owns (Li:=[_,_,_]) H.hp) hcf (by omega) ht0 AQ hm0 (by dsimp only;omega)) rfl ?_;clear H;rintro v71 _ _ a w ⟨rfl,s3,rfl,rfl,h3⟩ - H;dsimp only [lca,bq] at H;refine kH H (ak oF rfl (SR fun _ oZ=>Rm rfl (Rc rfl (Kz oZ (Cd rfl ?_ ?_))))) <;> clear H oF oZ
   ·intro Gg a H
    try have p73:=dT Gg
    have hF1:(mI l.length (fun s=>iP (bF us st li rv) note t l s) s).1=(jF (bF us st li rv) false note t y.flow ⟨s2.n,kR us s2.bK y.id⟩).1:=by rw [hE,hR2];simp [gK,kS,e58,e65,p73]
    have hF2:(mI l.length (fun s=>iP (bF us st li rv) note t l s) s).1=0→s3=(mI l.length (fun s=>iP (bF us st li rv) note t l s) s).2:=fun h=>absurd (hF1.symm.trans h) p73;exact kP H (SR fun _ oG=>Rm rfl (ak oG rfl (LR results199 rfl fun H=>H.hp.gB (L':=gI b ms ml mr mb mu s3.n :: (mb,fF (fV s3.bK)) :: L) (by repeat (first|exact fT _|apply List.Sublist.cons)) ⟨s3,aB vi hF1.symm,rfl,hF2⟩)))
   intro Gg a H
   try have p73:=dF Gg
   have RU:(jF (bF us st li rv) false note t y.flow ⟨s2.n,kR us s2.bK y.id⟩).1=0:=oK.1 p73;obtain ⟨hu1,hu2⟩:=Qr (bF us st li rv) false note t y.flow ⟨s2.n,kR us s2.bK y.id⟩;rw [← h3 RU] at hu1 hu2;dsimp only at hu1 hu2
   have hS:gK (gK (gK (kS (bF us st li rv) s2 y.id) fun s=>gK (iE (bF us st li rv) 10 y.head,s) fun s=>jF (bF us st li rv) false note t y.flow s) fun s=>qE (bF us st li rv) note t (l[k].cells.drop (c+1)) s) (fun s=>iP (bF us st li rv) note t (l.drop (k+1)) s)=gK (qE (bF us st li rv) note t (l[k].cells.drop (c+1)) s3) (fun s=>iP (bF us st li rv) note t (l.drop (k+1)) s):=by
    rw [h3 RU];simp [gK,kS,e58,e65,RU]
   refine kP H (Kc gH (SC (Rd rfl (Rm rfl ?_))));clear H gH;intro a H;refine aD ?_;refine dM ((c+1,s3,g2)) (by exact (H.dG (Pl:=[_,_,_,_,_]) (cZ:=[_,_,_,_]) [1,2,3,4] (by decide) rfl).sub ⟨rfl,rfl,rfl,rfl,rfl,rfl,rfl,rfl,aC⟩) ?_
   (try dsimp only);exact ⟨by omega,OM,hR2.trans hS,by omega,by omega⟩
  intro h50 a H
  try have p50:=dF h50
  refine eu ?_;refine bW _ _ ?_;clear bW;refine kP H (SC (Rd rfl (Rm rfl ?_)));clear H;intro a H;refine aD ?_;refine dM ((k+1,s2,g2)) (by exact (H.dG (Pl:=[_,_,_,_]) (cZ:=[_,_,_]) [1,2,3] (by decide) rfl).sub ⟨rfl,rfl,rfl,rfl,rfl,aC⟩) ?_
  (try dsimp only);exact ⟨by omega,jY,by rw [hR2,jm (by omega),qE,II rfl],hm0,by omega⟩
 intro fB a H
 try have mX:=dF fB
 refine eu ?_;refine K8 _ _ ?_;clear K8;refine bN (fun _ pq=>?_)
 have hF1:(mI l.length (fun s=>iP (bF us st li rv) note t l s) s).1=0:=by rw [hE,hR,jm (by omega),iP]
 have hF2:(mI l.length (fun s=>iP (bF us st li rv) note t l s) s).1=0→s1=(mI l.length (fun s=>iP (bF us st li rv) note t l s) s).2:=fun h=>by rw [hE,hR,jm (by omega),iP]
 exact kP H (SC (bC pq rfl (LR results199 rfl fun H=>H.hp.gB (L':=gI b ms ml mr mb mu s1.n :: (mb,fF (fV s1.bK)) :: L) (by repeat (first|exact fT _|apply List.Sublist.cons)) ⟨s1,aB vi hF1.symm,rfl,hF2⟩)))
end
section
theorem ain:∀ args w,(callFunc 199 args).run prog w=.ok (.enter 199 args) w:=enters func199 rfl (by kernel_rfl)
theorem ail:∀ args w,(callFunc 196 args).run prog w=.ok (.enter 196 args) w:=enters func196 rfl (by kernel_rfl)
theorem FX:dN prog 133 5 5:=⟨by kernel_rfl⟩
theorem ajP:dN prog 129 0 0:=⟨by kernel_rfl⟩
variable {us:List Int}
theorem aoH {G:GH} {b:Nat} {x:Int} (h:G b=some (.cells #[vi x] 49 (0,0))):av G (.sl 1 ([x].map fun k=>[li k])) (.slice (some ⟨b,0,none⟩) 1 1):=GZ [x] h (show 1≤maxLen by decide)
theorem anB {m:Nat} (ih:Ip us m) (hm:m≤4294967296) (Gt:GH) (L:OL) (w0:World) (st:List cu) (li:List fK) (rv:List dh) (b ms ml mr mb mu:Nat) (s:CS) (x:ay) (p d y f r:aj) (body note:Bool) (t:Int)
  (hck:wR us Gt st li rv ms ml mr mu) (hO:gL Gt (gI b ms ml mr mb mu s.n :: (mb,fF (fV s.bK)) :: L) w0) (hh:jc Gt x.head p d y) (hf:av Gt (.sl 11 (x.flow.map ay.dat)) f) (hr:av Gt (.sl 6 (x.rows.map aS.dat)) r) (hz:bT x.dat≤m) (ht0:0≤t) (AQ:t≤4) (hs0:0≤s.n) (hs1:s.n+(bT x.dat:Nat)≤1099511627776) :
  Calls prog 134 #[(aK b 0),.agg #[vi x.kind,vi x.code,vi x.id,.string x.text,p,vi x.head.marks.ins,vi x.head.marks.move,d,y,f,r],.agg #[.bool body,.bool note,vi t]] w0 (gy w0 Gt (gI b ms ml mr mb mu s.n :: (mb,fF (fV s.bK)) :: L) fun u G' L'=>Ng b ms ml mr mb mu L (fJ (bF us st li rv) body note t x s) u L'):=by
 obtain ⟨pA,pn,pc,rfl⟩:=hh.props.form;obtain ⟨dA,dn,dc,rfl⟩:=hh.bJ.form;obtain ⟨lA,ln,lc,rfl⟩:=hh.layers.form;obtain ⟨fA,fc,rfl,-⟩:=hf.slice;obtain ⟨rA,rc,rfl,-⟩:=hr.slice;(iterate 2 rw [aZ] at *);have hxz:=tN x;have hcl:=NW x.text
 have hus:jy x≤x.text.size+1:=by unfold jy;split <;> omega
 have hE:=abv (bF us st li rv) body note t x s;refine iY (N:=117) (T:=[(0,_),(1,_),(2,_)]) func134 rfl ntmps134 rfl rfl hO ?_;intro a H;refine bZ (fun _ K1=>?_);refine dZ (cs:=[_,_,_,_,_,_,_,_,_,_,_]) H wn rfl rfl rfl ?_;clear H;intro b4 a w hb4 H;refine dZ (cs:=[_,_,_]) H wn rfl rfl rfl ?_;clear H;intro b5 a w hb5 H;refine kH H (ak K1 rfl (SQ fun _ K2=>SR fun _ K3=>?_));clear H K1;intro a H;refine bB dL (cs:=[_,_,_,_,_,_,_,_,_,_,_]) H wn rfl rfl (H.hp.bU 1 rfl rfl) rfl ?_;clear H;intro a H;refine s_call ail H wn rfl (akq _ _ H.ro x _ _ _ _ _ _ _ (by omega)) rfl ?_;clear H;rintro v15 _ a w ⟨rfl,rfl⟩ - H;refine kH H (ak K3 rfl (SR fun _ K4=>Rm rfl (Rc rfl (Kz K4 (Cd rfl ?_ ?_))))) <;> clear H K3 K4
 ·intro eY a H
  try have nH:=dT eY
  rw [NG (r:=(kI x,s)) nH] at hE;exact kP H (SR fun _ K5=>Rm rfl (ak K5 rfl (LR results134 rfl fun H=>H.hp.gB (L':=gI b ms ml mr mb mu s.n :: (mb,fF (fV s.bK)) :: L) (by repeat (first|exact fT _|apply List.Sublist.cons)) ⟨s,by rw [hE],rfl,fun h=>by rw [hE]⟩)))
 intro eY a H
 try have nH:=dF eY
 rw [II (r:=(kI x,s)) (oK.1 nH)] at hE;dsimp only at hE;refine kP H (Kc K2 (SR fun _ K6=>Rm rfl (Rk rfl (bG FX aH 2 rfl rfl (Rd rfl (Rk rfl (Rf FX rfl ?_)))))));clear H K2;intro a H;refine aY aH 2 (vs:=[_]) _ H wn rfl rfl rfl rfl rfl rfl rfl rfl ?_;clear H;intro w H;dsimp only [List.set,setRow] at H;refine K6 _ _ ?_;clear K6;refine tZ (ι:=CS × GH) (Tc:=[(0,_),(4,_),(5,_)]) (Lc:=[(_,_),(_,_)]) (fun gh=>[]) (fun gh=>[gI b ms ml mr mb mu gh.1.n,(mb,fF (fV gh.1.bK))]++L) (fun gh=>gh.2) (fun gh=>mY (bF us st li rv) body note t x.kind x.id ⟨s.n+(jy x:Nat),s.bK⟩=(0,gh.1)∧(∀ b o,Gt b=some o→gh.2 b=some o)∧gh.1.n=s.n+(jy x:Nat)∧(x.kind=7→t < 4)) (by exact (H).sub ⟨rfl,rfl,rfl,aC⟩) ?_ ?_
 ·skip;refine kP H (SR fun _ K7=>bG kG aH 1 rfl rfl (Kz K7 (SB (SR fun _ K8=>Rc rfl (ak K8 rfl (Cd rfl ?_ ?_)))))) <;> clear H K7 K8
  ·intro fQ a H
   try have p28:=dT fQ
   have hu:((jy x:Nat):Int)=rZ x.text:=by rw [jy,au p28]
   refine kP H (SR fun _ K9=>bG wu iM 1 rfl rfl ?_);clear H;intro a H;refine s_call Y9 H wn rfl (Yx _ _ H.ro x.text (by omega)) rfl ?_;clear H;rintro v33 _ a w ⟨rfl,rfl⟩ - H;refine kH H (Rm rfl ?_);clear H;intro a H;(iterate 2 refine lS H wn rfl rfl rfl ?_;clear H;intro a H);refine kH H (Ra rfl (ak K9 rfl (SC (Rm rfl (Rk rfl (bG FX aH 2 rfl rfl (Rm rfl (Rs rfl (Rd rfl ?_)))))))));clear H K9;intro a H;rw [show s.n+1+((rZ x.text:Int) - 1)=s.n+(jy x:Nat) by omega] at H;refine kH H (Rk rfl (Rf FX rfl ?_));clear H;intro a H;refine aY aH 2 (vs:=[_]) _ H wn rfl rfl rfl rfl rfl rfl rfl rfl ?_;clear H;intro w H;dsimp only [List.set,setRow] at H;refine aD ?_;refine ⟨(⟨s.n+(jy x:Nat),s.bK⟩,Gt),by exact (H).sub ⟨rfl,rfl,rfl,aC⟩,?_⟩;(try dsimp only)
   first
   | exact ⟨by simp_all [mY,dx,gK,kS],fun _ _ h=>h,rfl,fun h7=>by first|omega|(exfalso;simp_all)⟩
   | exact ⟨by simp_all [mY,dx,gK,kS],wE,rfl,fun h7=>by first|omega|(exfalso;simp_all)⟩
  intro fQ a H
  try have p28:=dF fQ
  have hu:((jy x:Nat):Int)=1:=by rw [jy,ah p28];rfl
  rw [show s.n+1=s.n+((jy x:Nat):Int) by omega] at H;refine kP H (SR fun _ aW=>Rc rfl (ak aW rfl (Cd rfl ?_ ?_))) <;> clear H aW
  ·intro h45 a H
   try have p45:=dT h45
   refine kP H (SR fun _ bO=>bG ajP pV 0 rfl rfl (Rn rfl (Kz bO (Cd rfl ?_ ?_)))) <;> clear H bO
   ·intro Ox a H
    try have p49:=dT Ox
    refine bN (fun _ bW=>?_)
    have hF1:(fJ (bF us st li rv) body note t x s).1=19:=by rw [hE];simp [gK,mY,p45,dx,Ox]
    have hF2:(fJ (bF us st li rv) body note t x s).1=0→(⟨s.n+(jy x:Nat),s.bK⟩:CS)=(fJ (bF us st li rv) body note t x s).2:=fun h=>absurd (hF1.symm.trans h) (by decide);exact kP H (SC (bC bW rfl (LR results134 rfl fun H=>H.hp.gB (L':=gI b ms ml mr mb mu (s.n+(jy x:Nat)) :: (mb,fF (fV (s.bK))) :: L) (by repeat (first|exact fT _|apply List.Sublist.cons)) ⟨⟨s.n+(jy x:Nat),s.bK⟩,aB vi hF1.symm,rfl,hF2⟩)))
   intro Ox a H
   try have p49:=dF Ox
   refine fZ ?_;refine ⟨(⟨s.n+(jy x:Nat),s.bK⟩,Gt),by exact (H).sub ⟨rfl,rfl,rfl,aC⟩,?_⟩;(try dsimp only)
   first
   | exact ⟨by simp_all [mY,dx,gK,kS],fun _ _ h=>h,rfl,fun h7=>by first|omega|(exfalso;simp_all)⟩
   | exact ⟨by simp_all [mY,dx,gK,kS],wE,rfl,fun h7=>by first|omega|(exfalso;simp_all)⟩
  intro h45 a H
  try have p45:=dF h45
  refine kP H (SR fun _ cB=>Rc rfl (ak cB rfl (Cd rfl ?_ ?_))) <;> clear H cB
  ·intro h50 a H
   try have p50:=dT h50
   refine kP H (SQ fun _ dw=>SR fun _ dR=>bG Zz pV 0 rfl rfl ?_);clear H;intro a H;refine s_call jR H wn rfl (jS _ _ H.ro _ 19) rfl ?_;clear H;rintro v54 _ a w ⟨rfl,rfl⟩ - H;refine ig qU iy [_] [_] H wn rfl rfl rfl rfl rfl (by intro i q h;match i,h with|0,h=>exact h|n+1,h=>simp at h) rfl rfl ?_;clear H;intro b55 a w atO H;obtain ⟨Ke,wE,aln,H⟩:=H.eH;refine s_call sj H wn rfl (sD _ _ H.ro _ _ (aoH aln)) rfl ?_;clear H;rintro v56 _ a w ⟨rfl,rfl⟩ - H;refine kH H (ak dR rfl (SR fun _ dW=>Rm rfl (Rc rfl (Kz dW (Cd rfl ?_ ?_))))) <;> clear H dR dW
   ·intro lg a H
    try have p58:=dT lg
    have e58:dx note 19≠0:=fun h=>p58 (by rw [h];rfl)
    have ani:dY [dx note 19]=dx note 19:=by simp [dY,e58]
    rw [ani] at H
    have hF1:(fJ (bF us st li rv) body note t x s).1=dx note 19:=by rw [hE];simp [gK,mY,p50,e58]
    have hF2:(fJ (bF us st li rv) body note t x s).1=0→(⟨s.n+(jy x:Nat),s.bK⟩:CS)=(fJ (bF us st li rv) body note t x s).2:=fun h=>absurd (hF1.symm.trans h) (e58);exact kP H (SR fun _ dU=>Rm rfl (ak dU rfl (LR results134 rfl fun H=>H.hp.gB (L':=gI b ms ml mr mb mu (s.n+(jy x:Nat)) :: (mb,fF (fV (s.bK))) :: L) (by repeat (first|exact fT _|apply List.Sublist.cons)) ⟨⟨s.n+(jy x:Nat),s.bK⟩,aB vi hF1.symm,rfl,hF2⟩)))
   intro lg a H
   try have p58:=dF lg
   have e58:dx note 19=0:=Decidable.byContradiction fun h=>p58 (by simp [dY,h]);refine kP H (Kc dw (SR fun _ eG=>Rm rfl (bG I8 aH 1 rfl rfl ?_)));clear H dw;intro a H;refine gW Sb (Li:=[_,_]) (L:=gI b ms ml mr mb mu _ :: (mb,fF (fV s.bK)) :: L) H wn rfl (RA _ _ _ st li rv b ms ml mr mb mu _ s.bK x.id (hck.mono wE) (Hp.owns (Li:=[_,_]) H.hp)) rfl ?_;clear H;rintro v63 _ _ a w ⟨rfl,rfl,rfl⟩ - H;dsimp only [lca,bq] at H;refine kH H (ak eG rfl (SR fun _ gu=>Rm rfl (Rc rfl (Kz gu (Cd rfl ?_ ?_))))) <;> clear H eG gu
   ·intro um a H
    try have p65:=dT um
    have hF1:(fJ (bF us st li rv) body note t x s).1=qL us s.bK x.id:=by rw [hE];simp [gK,mY,p50,e58,kS,p65]
    have hF2:(fJ (bF us st li rv) body note t x s).1=0→(⟨s.n+(jy x:Nat),kR us s.bK x.id⟩:CS)=(fJ (bF us st li rv) body note t x s).2:=fun h=>absurd (hF1.symm.trans h) (p65);exact kP H (SR fun _ fC=>Rm rfl (ak fC rfl (LR results134 rfl fun H=>H.hp.gB (L':=gI b ms ml mr mb mu (s.n+(jy x:Nat)) :: (mb,fF (fV (kR us s.bK x.id))) :: L) (by repeat (first|exact fT _|apply List.Sublist.cons)) ⟨⟨s.n+(jy x:Nat),kR us s.bK x.id⟩,aB vi hF1.symm,rfl,hF2⟩)))
   intro um a H
   try have p65:=dF um
   have e65:qL us s.bK x.id=0:=oK.1 p65;refine fZ ?_;refine ⟨(⟨s.n+(jy x:Nat),kR us s.bK x.id⟩,Ke),by exact (H).sub ⟨rfl,rfl,rfl,aC⟩,?_⟩;(try dsimp only)
   first
   | exact ⟨by simp_all [mY,dx,gK,kS],fun _ _ h=>h,rfl,fun h7=>by first|omega|(exfalso;simp_all)⟩
   | exact ⟨by simp_all [mY,dx,gK,kS],wE,rfl,fun h7=>by first|omega|(exfalso;simp_all)⟩
  intro h50 a H
  try have p50:=dF h50
  refine kP H (SR fun _ gH=>Rc rfl (ak gH rfl (Cd rfl ?_ ?_))) <;> clear H gH
  ·intro F9 a H
   try have p67:=dT F9
   refine kP H (SQ fun _ iC=>SR fun _ jT=>bG Sv aH 0 rfl rfl (Rc rfl (Kz jT (Cd rfl ?_ ?_)))) <;> clear H jT
   ·intro Tm a H
    try have p71:=dT Tm
    refine bN (fun _ jN=>?_)
    have hF1:(fJ (bF us st li rv) body note t x s).1=17:=by rw [hE];simp [gK,mY,p67,dx,p71]
    have hF2:(fJ (bF us st li rv) body note t x s).1=0→(⟨s.n+(jy x:Nat),s.bK⟩:CS)=(fJ (bF us st li rv) body note t x s).2:=fun h=>absurd (hF1.symm.trans h) (by decide);exact kP H (SC (bC jN rfl (LR results134 rfl fun H=>H.hp.gB (L':=gI b ms ml mr mb mu (s.n+(jy x:Nat)) :: (mb,fF (fV (s.bK))) :: L) (by repeat (first|exact fT _|apply List.Sublist.cons)) ⟨⟨s.n+(jy x:Nat),s.bK⟩,aB vi hF1.symm,rfl,hF2⟩)))
   intro Tm a H
   try have p71:=dF Tm
   have e71:¬ 4≤t:=by omega
   refine kP H (Kc iC (SR fun _ jO=>Rm rfl (bG I8 aH 1 rfl rfl ?_)));clear H iC;intro a H;refine gW Sb (Li:=[_,_]) (L:=gI b ms ml mr mb mu _ :: (mb,fF (fV s.bK)) :: L) H wn rfl (RA _ _ _ st li rv b ms ml mr mb mu _ s.bK x.id hck (Hp.owns (Li:=[_,_]) H.hp)) rfl ?_;clear H;rintro v75 _ _ a w ⟨rfl,rfl,rfl⟩ - H;dsimp only [lca,bq] at H;refine kH H (ak jO rfl (SR fun _ kU=>Rm rfl (Rc rfl (Kz kU (Cd rfl ?_ ?_))))) <;> clear H jO kU
   ·intro Gj a H
    try have JG:=dT Gj
    have hF1:(fJ (bF us st li rv) body note t x s).1=qL us s.bK x.id:=by rw [hE];simp [gK,mY,p67,dx,e71,kS,JG]
    have hF2:(fJ (bF us st li rv) body note t x s).1=0→(⟨s.n+(jy x:Nat),kR us s.bK x.id⟩:CS)=(fJ (bF us st li rv) body note t x s).2:=fun h=>absurd (hF1.symm.trans h) (JG);exact kP H (SR fun _ lC=>Rm rfl (ak lC rfl (LR results134 rfl fun H=>H.hp.gB (L':=gI b ms ml mr mb mu (s.n+(jy x:Nat)) :: (mb,fF (fV (kR us s.bK x.id))) :: L) (by repeat (first|exact fT _|apply List.Sublist.cons)) ⟨⟨s.n+(jy x:Nat),kR us s.bK x.id⟩,aB vi hF1.symm,rfl,hF2⟩)))
   intro Gj a H
   try have JG:=dF Gj
   have e77:qL us s.bK x.id=0:=oK.1 JG;refine fZ ?_;refine ⟨(⟨s.n+(jy x:Nat),kR us s.bK x.id⟩,Gt),by exact (H).sub ⟨rfl,rfl,rfl,aC⟩,?_⟩;(try dsimp only)
   first
   | exact ⟨by simp_all [mY,dx,gK,kS],fun _ _ h=>h,rfl,fun h7=>by first|omega|(exfalso;simp_all)⟩
   | exact ⟨by simp_all [mY,dx,gK,kS],wE,rfl,fun h7=>by first|omega|(exfalso;simp_all)⟩
  intro F9 a H
  try have p67:=dF F9
  refine kP H (SR fun _ jP=>Rc rfl (ak jP rfl (Cd rfl ?_ ?_))) <;> clear H jP
  ·intro EB a H
   try have VH:=dT EB
   refine kP H (SR fun _ nM=>bG I8 aH 1 rfl rfl ?_);clear H;intro a H;refine s_call yw H wn rfl (yP _ _ H.ro x.id 1 1073741824) rfl ?_;clear H;rintro v83 _ a w ⟨rfl,rfl⟩ - H;refine kH H (Rn rfl (Kz nM (Cd rfl ?_ ?_))) <;> clear H nM
   ·intro h84 a H
    try have p84:=dT h84
    refine bN (fun _ nZ=>?_)
    have e84:¬ (1≤x.id∧x.id≤1073741824):=by have h0:=h84;simp at h0;omega
    have hF1:(fJ (bF us st li rv) body note t x s).1=18:=by rw [hE];simp [gK,mY,VH,dx,e84]
    have hF2:(fJ (bF us st li rv) body note t x s).1=0→(⟨s.n+(jy x:Nat),s.bK⟩:CS)=(fJ (bF us st li rv) body note t x s).2:=fun h=>absurd (hF1.symm.trans h) (by decide);exact kP H (SC (bC nZ rfl (LR results134 rfl fun H=>H.hp.gB (L':=gI b ms ml mr mb mu (s.n+(jy x:Nat)) :: (mb,fF (fV (s.bK))) :: L) (by repeat (first|exact fT _|apply List.Sublist.cons)) ⟨⟨s.n+(jy x:Nat),s.bK⟩,aB vi hF1.symm,rfl,hF2⟩)))
   intro h84 a H
   try have p84:=dF h84
   refine fZ ?_;refine ⟨(⟨s.n+(jy x:Nat),s.bK⟩,Gt),by exact (H).sub ⟨rfl,rfl,rfl,aC⟩,?_⟩;(try dsimp only)
   first
   | exact ⟨by simp_all [mY,dx,gK,kS],fun _ _ h=>h,rfl,fun h7=>by first|omega|(exfalso;simp_all)⟩
   | exact ⟨by simp_all [mY,dx,gK,kS],wE,rfl,fun h7=>by first|omega|(exfalso;simp_all)⟩
  intro EB a H
  try have VH:=dF EB
  refine fZ ?_;refine ⟨(⟨s.n+(jy x:Nat),s.bK⟩,Gt),by exact (H).sub ⟨rfl,rfl,rfl,aC⟩,?_⟩;(try dsimp only)
  first
  | exact ⟨by simp_all [mY,dx,gK,kS],fun _ _ h=>h,rfl,fun h7=>by first|omega|(exfalso;simp_all)⟩
  | exact ⟨by simp_all [mY,dx,gK,kS],wE,rfl,fun h7=>by first|omega|(exfalso;simp_all)⟩
 clear H;rintro ⟨s1,g⟩ a w hI H;dsimp only at hI H;obtain ⟨hP,yN,aus,ht7⟩:=hI;rw [hP,II rfl] at hE;dsimp only at hE;replace hck:=hck.mono yN;replace hh:=hh.mono yN;replace hf:=hf.mono yN;replace hr:=hr.mono yN;dsimp only [lca,bq] at H;refine kP H (SQ fun _ oF=>SR fun _ oZ=>Rm rfl (bG kG aH 1 rfl rfl (Rf yE rfl ?_)));clear H;intro a H;refine bB eO (cs:=[_,_,_,_,_]) H wn rfl rfl (H.hp.bU 1 rfl rfl) rfl ?_;clear H;intro a H;refine gW I4 (Li:=[_,_]) (L:=gI b ms ml mr mb mu s1.n :: (mb,fF (fV s1.bK)) :: L) H wn rfl (Ji _ _ _ st li rv b ms ml mr mb mu _ hck (Hp.owns (Li:=[_,_]) H.hp) x.kind x.head _ _ _ hh (by omega)) rfl ?_;clear H;rintro v90 _ _ a w ⟨rfl,rfl,rfl⟩ - H;dsimp only [lca,bq] at H;refine kH H (ak oZ rfl (SR fun _ oG=>Rm rfl (Rc rfl (Kz oG (Cd rfl ?_ ?_))))) <;> clear H oZ oG
 ·intro Gm a H
  try have JH:=dT Gm
  have hF1:(fJ (bF us st li rv) body note t x s).1=iE (bF us st li rv) x.kind x.head:=by rw [hE,NG (r:=(iE (bF us st li rv) x.kind x.head,s1)) JH]
  have hF2:(fJ (bF us st li rv) body note t x s).1=0→s1=(fJ (bF us st li rv) body note t x s).2:=fun h=>absurd (hF1.symm.trans h) JH;exact kP H (SR fun _ pq=>Rm rfl (ak pq rfl (LR results134 rfl fun H=>H.hp.gB (L':=gI b ms ml mr mb mu (s1.n) :: (mb,fF (fV (s1.bK))) :: L) (by repeat (first|exact fT _|apply List.Sublist.cons)) ⟨s1,aB vi hF1.symm,rfl,hF2⟩)))
 intro Gm a H
 try have JH:=dF Gm
 rw [II (r:=(iE (bF us st li rv) x.kind x.head,s1)) (oK.1 JH)] at hE;dsimp only at hE;refine kP H (Kc oF (SQ fun _ rU=>SR fun _ rV=>bG kG aH 1 rfl rfl (Kz rV (SB (SR fun _ wS=>Rc rfl (ak wS rfl (Cd rfl ?_ ?_))))))) <;> clear H oF rV wS
 ·intro uo a H
  try have ME:=dT uo
  rw [au ME] at hE;refine kP H (SR fun _ Bv=>Rm rfl (bG Ah kg 1 rfl rfl (bG Sv aH 0 rfl rfl ?_)));clear H;intro a H;refine jv ML [_,_,_] H wn rfl rfl rfl rfl ?_;clear H;intro a H;refine gW KT (Li:=[_,_]) (L:=gI b ms ml mr mb mu s1.n :: (mb,fF (fV s1.bK)) :: L) H wn rfl (ih _ _ _ st li rv b ms ml mr mb mu s1 x.flow _ false true t hck (Hp.owns (Li:=[_,_]) H.hp) hf (by omega) ht0 AQ (by omega) (by omega)) rfl ?_;clear H;rintro asE _ _ a w ⟨rfl,s3,rfl,rfl,h3⟩ - H;dsimp only [lca,bq] at H
  have hF1:(fJ (bF us st li rv) body note t x s).1=(jF (bF us st li rv) false true t x.flow s1).1:=by rw [hE]
  have hF2:(fJ (bF us st li rv) body note t x s).1=0→s3=(fJ (bF us st li rv) body note t x s).2:=by rw [hE];exact h3
  exact kH H (ak Bv rfl (LR results134 rfl fun H=>H.hp.gB (L':=gI b ms ml mr mb mu (s3.n) :: (mb,fF (fV (s3.bK))) :: L) (by repeat (first|exact fT _|apply List.Sublist.cons)) ⟨s3,aB vi hF1.symm,rfl,hF2⟩))
 intro uo a H
 try have ME:=dF uo
 rw [ah ME] at hE;refine kP H (SR fun _ Bw=>Rc rfl (ak Bw rfl (Cd rfl ?_ ?_))) <;> clear H Bw
 ·intro sG a H
  try have JF:=dT sG
  rw [au JF] at hE;refine kP H (SR fun _ qb=>Rm rfl (bG oL oV 1 rfl rfl (bG Zz pV 0 rfl rfl (bG Sv aH 0 rfl rfl (Rd rfl ?_)))));clear H;intro a H;refine jv ML [_,_,_] H wn rfl rfl rfl rfl ?_;clear H;intro a H;refine gW ain (Li:=[_,_]) (L:=gI b ms ml mr mb mu s1.n :: (mb,fF (fV s1.bK)) :: L) H wn rfl (rows_ok ih hm _ _ _ st li rv b ms ml mr mb mu s1 x.rows _ note (t+1) hck (Hp.owns (Li:=[_,_]) H.hp) hr (by omega) (by omega) (by have:=ht7 JF;omega) (by omega) (by omega)) rfl ?_;clear H;rintro auI _ _ a w ⟨s3,rfl,rfl,h3⟩ - H;dsimp only [lca,bq] at H
  have hF1:(fJ (bF us st li rv) body note t x s).1=(mI x.rows.length (fun s=>iP (bF us st li rv) note (t+1) x.rows s) s1).1:=by rw [hE]
  have hF2:(fJ (bF us st li rv) body note t x s).1=0→s3=(fJ (bF us st li rv) body note t x s).2:=by rw [hE];exact h3
  exact kH H (ak qb rfl (LR results134 rfl fun H=>H.hp.gB (L':=gI b ms ml mr mb mu (s3.n) :: (mb,fF (fV (s3.bK))) :: L) (by repeat (first|exact fT _|apply List.Sublist.cons)) ⟨s3,aB vi hF1.symm,rfl,hF2⟩))
 intro sG a H
 try have JF:=dF sG
 rw [ah JF] at hE
 have hF1:(fJ (bF us st li rv) body note t x s).1=0:=by rw [hE]
 have hF2:(fJ (bF us st li rv) body note t x s).1=0→s1=(fJ (bF us st li rv) body note t x s).2:=fun h=>by rw [hE]
 exact kP H (Kc rU (SR fun _ CP=>ak CP rfl (LR results134 rfl fun H=>H.hp.gB (L':=gI b ms ml mr mb mu (s1.n) :: (mb,fF (fV (s1.bK))) :: L) (by repeat (first|exact fT _|apply List.Sublist.cons)) ⟨s1,aB vi hF1.symm,rfl,hF2⟩)))
end
section
theorem ahu:∀ args w,(callFunc 134 args).run prog w=.ok (.enter 134 args) w:=enters func134 rfl (by kernel_rfl)
theorem aht:∀ args w,(callFunc 133 args).run prog w=.ok (.enter 133 args) w:=enters func133 rfl (by kernel_rfl)
variable {us:List Int}
def Xk (fv:aj) (Gi:GH) (n:Nat) (E:Nat→Int) {σ:Type} (B:σ→OL) (S:Nat→σ):Prop:=∀ i,i < n→∀ (G1:GH) (w1:World),(∀ b o,Gi b=some o→G1 b=some o)→gL G1 (B (S i)) w1 →
 sS prog fv [vi i] w1 (gy w1 G1 (B (S i)) fun u G' L'=>∃ s,u=vi (E i)∧L'=B s∧(E i=0→s=S (i+1)))
theorem afb (G:GH) (w0:World) {σ:Type} (B:σ→OL) (S:Nat→σ) (n:Nat) (E:Nat→Int) (fv:aj) (hO:gL G (B (S 0)) w0) (hn:n≤4611686018427387904) (hf:Xk fv G n E B S) :
  Calls prog 123 #[vi n,fv] w0 (gy w0 G (B (S 0)) fun u G' L'=>∃ s,u=vi (kQ E n)∧L'=B s∧(kQ E n=0→s=S n)):=by
 refine iY (N:=18) (T:=[(0,_),(1,_)]) func123 rfl ntmps123 rfl rfl hO ?_;intro a H;refine kP H (SR fun _ K1=>ak K1 rfl (SQ fun _ K2=>SR fun _ K3=>Rm rfl (Rm rfl (Kz K3 (SB ?_)))));clear H K1 K3;intro a H;skip;refine fH (ι:=Nat × GH) (Tc:=[(1,_),(7,_)]) (Lc:=[]) (fun gh=>[(8,vi gh.1)]) (fun gh=>[]++B (S gh.1)) (fun gh=>gh.2) (fun gh=>gh.1≤n∧dY (((List.range n).map E).drop gh.1)=kQ E n∧(∀ b o,G b=some o→gh.2 b=some o)) (fun gh=>n - gh.1) ((0,G)) (by exact (H).sub ⟨rfl,rfl,rfl,aC⟩) ?_ ?_
 ·exact ⟨gY _,rfl,fun _ _ h=>h⟩
 clear H;rintro ⟨k,g⟩ a w hI H;dsimp only at hI H;obtain ⟨hk,he,hgm⟩:=hI;dsimp only [lca,bq] at H;refine kP H (SR fun _ K4=>Rc rfl (Kz K4 (SQ fun _ K5=>Cd rfl ?_ ?_))) <;> clear H K4
 ·intro h9 a H
  try have p9:=dT h9
  have hk2:k < n:=by omega
  refine kP H (Kc K5 (SQ fun _ K6=>SB (SR fun _ K7=>Rm rfl (ak K7 rfl (SR fun _ K8=>Rm rfl (Rm rfl ?_))))));clear H K5 K7;intro a H;refine vM (Li:=[]) (L:=B (S k)) H wn rfl rfl (hf k hk2 _ _ hgm (Hp.owns (Li:=[]) H.hp)) rfl ?_;clear H;rintro v13 Ea L13 a w ⟨s3,rfl,rfl,h3⟩ vE H;refine kH H (ak K8 rfl (SR fun _ K9=>Rm rfl (Rc rfl (Kz K9 (Cd rfl ?_ ?_))))) <;> clear H K8 K9
  ·intro iD a H
   try have pR:=dT iD
   have hE:kQ E n=E k:=by rw [FK hk2,au pR] at he;exact he.symm
   exact kP H (SR fun _ aW=>Rm rfl (ak aW rfl (LR results123 rfl fun H=>H.hp.dJ ⟨s3,by rw [hE],rfl,fun h=>absurd (hE.symm.trans h) pR⟩)))
  intro iD a H
  try have pR:=dF iD
  have hS:=h3 (oK.1 pR);subst hS;refine kP H (Kc K6 (SC (Rd rfl (Rm rfl ?_))));clear H K6;intro a H;refine aD ?_;refine dM ((k+1,Ea)) (by exact (H).sub ⟨rfl,rfl,rfl,aC⟩) ?_
  (try dsimp only);exact ⟨by omega,by rw [FK hk2,ah pR] at he;exact he,fun b o h=>vE b o (hgm b o h)⟩
 intro h9 a H
 try have p9:=dF h9
 refine eu ?_;refine K2 _ _ ?_;clear K2;exact kP H (SR fun _ bO=>ak bO rfl (LR results123 rfl fun H=>H.hp.dJ ⟨S n,aB vi (by rw [jm (by simp;omega)] at he;exact he),by rw [show k=n by omega],fun _=>rfl⟩))
abbrev NS (b ms ml mr mb mu:Nat) (L:OL) (s:CS):OL:=gI b ms ml mr mb mu s.n :: (mb,fF (fV s.bK)) :: L
theorem anA {m:Nat} (ih:Ip us m) (hm:m≤4294967296) {G:GH} {L:OL} {st:List cu} {li:List fK} {rv:List dh} {b ms ml mr mb mu:Nat} {s:CS} {l:List ay} {v:aj} {body note:Bool} {t:Int} {x3 x4 x5:Nat}
  (hck:wR us G st li rv ms ml mr mu) (h3:aI G x3 0=some (aK b 0)) (h4:aI G x4 0=some v) (h5:∀ (j:Nat) (u:aj),[.bool body,.bool note,vi t][j]?=some u→aI G x5 (0+j)=some u)
  (hv:av G (.sl 11 (l.map ay.dat)) v) (hz:bV l≤m) (ht0:0≤t) (AQ:t≤4) (hs0:0≤s.n) (hs1:s.n+(bV l:Nat)≤1099511627776) :
  Xk (.func (.func 133) #[] #[(aK x3 0),(aK x4 0),(aK x5 0)]) G l.length (CZ (fJ (bF us st li rv) body note t) l s) (NS b ms ml mr mb mu L) (rQ (fJ (bF us st li rv) body note t) l s):=by
 intro k hk G1 w0 LY hO;refine jI (caps:=[(aK x3 0),(aK x4 0),(aK x5 0)]) aht ?_;replace h3:=aJ LY h3;replace h4:=aJ LY h4;replace h5:=fun j u hj=>aJ LY (h5 j u hj);replace hck:=hck.mono LY;replace hv:=hv.mono LY;obtain ⟨A,c,rfl,hc1,hc2,hg⟩:=hv.slice;rw [aZ] at *;obtain ⟨o,xo,pA,pn,pc,dA,dn,dc,yA,yn,yc,fA,fn,fc,rA,rn,rc,rfl,hrow,hhd,hfl,hrw⟩:=F4 hk hg;obtain ⟨hn0,hn1⟩:=adX (bF us st li rv) body note t l s k (by omega)
 have hdz:bV (l.drop k)=1+bT l[k].dat+bV (l.drop (k+1)):=by
  simp only [bV];rw [oh hk,fO,dV]
 have hzm:=Qw (kN hk)
 have hE:CZ (fJ (bF us st li rv) body note t) l s k=(fJ (bF us st li rv) body note t l[k] (rQ (fJ (bF us st li rv) body note t) l s k)).1:=by unfold CZ;rw [eD hk]
 have hS:rQ (fJ (bF us st li rv) body note t) l s (k+1)=(fJ (bF us st li rv) body note t l[k] (rQ (fJ (bF us st li rv) body note t) l s k)).2:=by rw [rQ,eD hk]
 rw [hE,hS]
 generalize rQ (fJ (bF us st li rv) body note t) l s k=s1 at *
 refine iY (N:=13) (T:=[(0,_),(1,_),(2,_),(3,_)]) func133 rfl ntmps133 rfl rfl hO ?_;intro a H;refine kP H (SR fun _ K1=>ak K1 rfl (SQ fun _ K2=>?_));clear H K1;intro a H;refine dI hmx [[],[],[],[1,2],[1,2,3],[],(ra 0 6),(ra 0 7)] [6,7] (by kernel_rfl) [_,_,_,_,.agg #[vi l[k].kind,vi l[k].code,vi l[k].id,.string l[k].text,.slice pA pn pc,vi l[k].head.marks.ins,vi l[k].head.marks.move,.slice dA dn dc,.slice yA yn yc,.slice fA fn fc,.slice rA rn rc],.agg #[.bool body,.bool note,vi t]] H (aF (X0 rfl fun hG=>Rg JU rfl (aJ hG h3)) (X0 rfl fun hG=>Rg kg rfl (aJ hG h4)) (Z0 rfl (Rm rfl)) (Z2 1 7 2 8 rfl (Ri jk dL rfl rfl)) (aF ?_ ?_ (bQ rfl) (bQ rfl) dz)) ?_
 ·refine eP 3 9 rfl rfl fun _ a w G1 hG HT H fin=>?_;refine bB dL (cs:=[_,_,_,_,_,_,_,_,_,_,_]) H wn rfl rfl (fun j v hj=>H.hp.aI (aJ hG (hrow j v hj))) rfl ?_;clear H;intro a H;exact fin H iJ rfl
 ·refine CU rfl fun _ a w G1 hG HT H fin=>?_;refine bB adI (cs:=[.bool body,.bool note,vi t]) H wn rfl rfl (fun j v hj=>H.hp.aI (aJ hG (h5 j v hj))) rfl ?_;clear H;intro a H;exact fin H iJ rfl
 clear H;intro a w G nA H hv;have H:=H.aM (hv 0 6 rfl rfl) rfl;have H:=H.aM (hv 4 10 rfl rfl) rfl;have H:=H.aM (hv 5 11 rfl rfl) rfl;clear hv;refine gW ahu (Li:=[]) (L:=NS b ms ml mr mb mu L s1) H wn rfl (anB ih hm _ _ _ st li rv b ms ml mr mb mu s1 l[k] _ _ _ _ _ body note t (hck.mono nA) (Hp.owns (Li:=[]) H.hp) (hhd.mono nA) (hfl.mono nA) (hrw.mono nA) (by omega) ht0 AQ (by omega) (by omega)) rfl ?_;clear H;rintro v12 _ _ a w ⟨s3,rfl,rfl,h12⟩ - H;dsimp only [List.nil_append] at H;refine kH H (Ra rfl ?_);clear H;intro a H;refine aD ⟨rfl,?_⟩;refine K2 _ _ ?_;clear K2;refine lr H results133 rfl ?_;exact H.hp.dJ ⟨s3,rfl,rfl,h12⟩
theorem anC {m:Nat} (ih:Ip us m) (hm:m≤4294967296):Ip us (m+1):=by
 intro G L w0 st li rv b ms ml mr mb mu s l v body note t hck hO hv hz ht0 AQ hs0 hs1;obtain ⟨hA1,hA2⟩:=abw (bF us st li rv) body note t l s;refine Calls.afe (R:=fun u G' L'=>Ng b ms ml mr mb mu L (jF (bF us st li rv) body note t l s) u L') ?_ fun _ _ _ h=>h;obtain ⟨A,c,rfl,hc1,hc2,-⟩:=hv.slice;rw [aZ] at *;have hll:=Ih l;refine iY (N:=11) (T:=[(0,_),(1,_),(2,_)]) func72 rfl ntmps72 rfl rfl hO ?_;intro a H;refine bZ (fun _ K1=>?_);refine dZ (cs:=[_]) H wn rfl rfl rfl ?_;clear H;intro b3 a w hb3 H;refine dZ (cs:=[_]) H wn rfl rfl rfl ?_;clear H;intro b4 a w hb4 H;refine dZ (cs:=[_,_,_]) H wn rfl rfl rfl ?_;clear H;intro b5 a w hb5 H;refine kH H (ak K1 rfl (SQ fun _ K2=>?_));clear H K1;intro a H;obtain ⟨Ga5,OV,BZ,H⟩:=H.eH;obtain ⟨Ga4,Jq,Av,H⟩:=H.eH;obtain ⟨Ga,EJ,Au,H⟩:=H.eH;replace BZ:=EJ _ _ (Jq _ _ BZ);replace Av:=EJ _ _ Av;have hma:∀ b o,G b=some o→Ga b=some o:=fun b o h=>EJ _ _ (Jq _ _ (OV _ _ h))
 have g3:aI Ga b3 0=some (aK b 0):=by unfold aI;rw [Au];rfl
 have g4:aI Ga b4 0=some (.slice A l.length c):=by unfold aI;rw [Av];rfl
 have g5:∀ (j:Nat) (u:aj),[.bool body,.bool note,vi t][j]?=some u→aI Ga b5 (0+j)=some u:=by
  intro j u hj;unfold aI;rw [BZ];simpa using hj
 have hcb:=anA (mb:=mb) (L:=L) (s:=s) ih hm (hck.mono hma) g3 g4 g5 (hv.mono hma) (by omega) ht0 AQ hs0 hs1;refine kP H (SC (Rg kg rfl (by assumption) ?_));clear H;intro a H;refine kH H (Rl jk rfl ?_);clear H;intro a H;refine oQ H wn rfl rfl ?_;clear H;intro a H;refine gW IZ (Li:=[]) (L:=NS b ms ml mr mb mu L s) H wn rfl (afb _ _ (NS b ms ml mr mb mu L) (rQ (fJ (bF us st li rv) body note t) l s) l.length (CZ (fJ (bF us st li rv) body note t) l s) _ (Hp.owns (Li:=[]) H.hp) (by omega) hcb) rfl ?_;clear H;rintro v10 _ _ a w ⟨s3,rfl,rfl,h10⟩ - H;dsimp only [List.nil_append] at H;exact kH H (bC K2 rfl (LR results72 rfl fun H=>H.hp.dJ ⟨s3,by rw [hA1],rfl,fun h=>by rw [hA1] at h;exact (h10 h).trans (hA2 (hA1.trans h)).symm⟩))
theorem Pj:∀ m:Nat,m≤4294967297→Ip us m
 | 0,_=>fun _ _ _ _ _ _ _ _ _ _ _ _ _ _ _ _ _ _ _ _ _ h=>absurd h (by omega)
 | m+1,hm=>anC (Pj m (by omega)) (by omega)
end
theorem ajK:dN prog 102 1 1:=⟨by kernel_rfl⟩
theorem ajL:dN prog 102 2 2:=⟨by kernel_rfl⟩
theorem ahq:∀ args w,(callFunc 126 args).run prog w=.ok (.enter 126 args) w:=enters func126 rfl (by kernel_rfl)
theorem ahp:∀ args w,(callFunc 124 args).run prog w=.ok (.enter 124 args) w:=enters func124 rfl (by kernel_rfl)
theorem aqr {G:GH} {bl:Nat} {l:List dh} {A:Option Addr} {n c:Nat} (hb:aI G bl 0=some (.slice A n c)) (hv:av G (.sl 3 (l.map dh.dat)) (.slice A n c)):uS (.func (.func 126) #[] #[(aK bl 0)]) G l.length fun k=>(l[k]?.map dh.id).getD 0:=by
 intro k hk G1 w0 hm hG;refine jI (caps:=[(aK bl 0)]) ahq ?_;replace hb:=aJ hm hb
 obtain rfl:n=l.length:=by have:=hv.len;simpa using this
 obtain ⟨b,o,rfl,hrow⟩:=V5 (hv.mono hm) hk;have hq:=hrow 0 _ rfl;refine eN [(0,_),(1,_)] func126 rfl ntmps126 rfl rfl hG ?_;intro a H;refine kP H (SR fun _ K1=>ak K1 rfl (SR fun _ K2=>Rg yY rfl (by assumption) ?_));clear H K1;intro a H;refine kH H (Rm rfl (Ri pW oU rfl rfl (Rf Sr rfl (Rg aH rfl (by assumption) ?_))));clear H;intro a H;exact kH H (ak K2 rfl (LR results126 rfl fun H=>H.rt (by dsimp only;rw [eD hk];rfl)))
def VT (l:List dh) (i:Nat) (x:dh):Int:=dY [rG (fun k=>(l[k]?.map dh.id).getD 0) i,dx (!yg x.author) 39,dx (!decide (0≤x.time∧x.time≤1099511627776)) 40]
def E5 (l:List dh) (i:Nat):Int:=match l[i]? with|some x=>VT l i x|none=>0
theorem apP {G:GH} {bl:Nat} {l:List dh} {A:Option Addr} {n c:Nat} (hb:aI G bl 0=some (.slice A n c)) (hv:av G (.sl 3 (l.map dh.dat)) (.slice A n c)) (hl:l.length≤4294967296) (ht:∀ x∈l,x.author.size < 4611686018427387904):uS (.func (.func 124) #[] #[(aK bl 0)]) G l.length (E5 l):=by
 intro k hk G1 w0 hm hG;refine jI (caps:=[(aK bl 0)]) ahp ?_;replace hb:=aJ hm hb;replace hv:=hv.mono hm;have hcb:=aqr hb hv
 obtain rfl:n=l.length:=by have:=hv.len;simpa using this
 obtain ⟨b,o,rfl,hrow⟩:=V5 hv hk;have hte:=ht _ (kN hk)
 have he:E5 l k=VT l k l[k]:=by unfold E5;rw [eD hk]
 obtain ⟨x,hx⟩:∃ x,x=l[k]:=⟨_,rfl⟩;rw [← hx] at hrow hte he;refine eN [(0,_),(1,_)] func124 rfl ntmps124 rfl rfl hG ?_;intro a H;refine kP H (SR fun _ K1=>ak K1 rfl (SQ fun _ K2=>?_));clear H K1;intro a H;have H:=H.sub (T':=[(0,_),(1,_)]) ⟨rfl,rfl,aC⟩;refine dI hmx [[],[],[0,1],[],[],[3,4],[3,4,5],(ra 3 4),(ra 0 8),(ra 0 9),(ra 0 10),[],[],[11,12],[11,12,13],(ra 11 4),(ra 0 16),(ra 0 17),(ra 0 18),(ra 0 19),(ra 0 20),(ra 0 21)] [19,20,21] (by kernel_rfl) [_,.func (.func 126) #[] #[(aK bl 0)],vi (rG (fun k=>(l[k]?.map dh.id).getD 0) k),_,_,_,_,_,.bool (yg x.author),_,vi (dx (!yg x.author) 39),_,_,_,_,_,.bool (decide (0≤x.time∧x.time≤1099511627776)),_,vi (dx (!decide (0≤x.time∧x.time≤1099511627776)) 40)] H (aF (Z0 rfl (Rm rfl)) ?_ ?_ (X0 rfl fun hG=>Rg yY rfl (aJ hG hb)) (aF (Z0 rfl (Rm rfl)) (Z2 3 7 4 8 rfl (Ri pW oU rfl rfl)) (Z1 5 9 rfl (Rf ajK rfl)) (X1 6 10 rfl fun hG=>Rg iM rfl (aJ hG (hrow 1 _ rfl))) (aF ?_ (Z1 8 12 rfl (Rn rfl)) ?_ (X0 rfl fun hG=>Rg yY rfl (aJ hG hb)) (aF (Z0 rfl (Rm rfl)) (Z2 11 15 12 16 rfl (Ri pW oU rfl rfl)) (Z1 13 17 rfl (Rf ajL rfl)) (X1 14 18 rfl fun hG=>Rg aH rfl (aJ hG (hrow 2 _ rfl))) (aF ?_ (Z1 16 20 rfl (Rn rfl)) ?_ (bQ rfl) (bM (bQ rfl) (bM (bQ rfl) dz))))))) ?_
 ·refine CU rfl fun _ a w G1 hG HT H fin=>?_;refine oQ H wn rfl rfl ?_;clear H;intro a H;exact fin H iJ rfl
 ·refine dK 0 4 1 5 rfl rfl fun _ a w G1 hG HT H fin=>?_;refine s_call RX H wn rfl (Vd _ _ H.ro k _ _ (by omega) (fun i hi=>(hcb.mono hG) i (by omega))) rfl ?_;clear H;rintro v6 G6 a w rfl iU H;exact fin H iU (rfl)
 ·refine eP 7 11 rfl rfl fun _ a w G1 hG HT H fin=>?_;refine s_call Y2 H wn rfl (XY _ _ H.ro x.author hte) rfl ?_;clear H;rintro v12 D9 a w ⟨rfl,-⟩ oN H;exact fin H oN (rfl)
 ·refine eP 9 13 rfl rfl fun _ a w G1 hG HT H fin=>?_;refine s_call jR H wn rfl (jS _ _ H.ro _ 39) rfl ?_;clear H;rintro v14 ze a w ⟨rfl,-⟩ Dg H;exact fin H Dg (rfl)
 ·refine eP 15 19 rfl rfl fun _ a w G1 hG HT H fin=>?_;refine s_call yw H wn rfl (yP _ _ H.ro x.time 0 1099511627776) rfl ?_;clear H;rintro v20 J8 a w ⟨rfl,-⟩ akF H;exact fin H akF (rfl)
 ·refine eP 17 21 rfl rfl fun _ a w G1 hG HT H fin=>?_;refine s_call jR H wn rfl (jS _ _ H.ro _ 40) rfl ?_;clear H;rintro v22 G22 a w ⟨rfl,-⟩ TA H;exact fin H TA (rfl)
 clear H;intro a w G nA H hv;have H:=H.aM (hv 2 6 rfl rfl) rfl;have H:=H.aM (hv 10 14 rfl rfl) rfl;have H:=H.aM (hv 18 22 rfl rfl) rfl;clear hv;refine ig qU iy [_,_,_] [_,_,_] H wn rfl rfl rfl rfl rfl (by intro i q h;match i,h with|0,h=>exact h|1,h=>exact h|2,h=>exact h|n+3,h=>simp at h) rfl rfl ?_;clear H;intro b23 a w atG H;obtain ⟨Xe,EG,alh,H⟩:=H.eH;refine s_call sj H wn rfl (sD _ _ H.ro _ _ (GZ [rG (fun k=>(l[k]?.map dh.id).getD 0) k,dx (!yg x.author) 39,dx (!decide (0≤x.time∧x.time≤1099511627776)) 40] alh (show 3≤maxLen by decide))) rfl ?_;clear H;rintro v24 _ a w ⟨rfl,rfl⟩ - H;refine kH H (Ra rfl ?_);clear H;intro a H;refine aD ⟨rfl,?_⟩;refine K2 _ _ ?_;clear K2;refine lr H results124 rfl ?_;exact H.rt (by rw [he,VT])
def FQ (l:List dh):Int:=dY [dx (decide (256 < (l.length:Int))) 9,kQ (E5 l) (min l.length 256)]
theorem afQ (G:GH) (w0:World) (hG:Hold G w0) (l:List dh) (v:aj) (hv:av G (.sl 3 (l.map dh.dat)) v) (hl:l.length≤4294967296) (ht:∀ x∈l,x.author.size < 4611686018427387904) :
  Calls prog 68 #[v] w0 (bH w0 G fun u G'=>u=vi (FQ l)):=by
 obtain ⟨A,c,rfl,hc1,hc2,-⟩:=hv.slice;rw [aZ] at *;refine eN [(0,_)] func68 rfl ntmps68 rfl rfl hG ?_;intro a H;refine bZ (fun _ K1=>?_);refine dZ (cs:=[_]) H wn rfl rfl rfl ?_;clear H;intro b1 a w hb1 H;refine kH H (ak K1 rfl (SQ fun _ K2=>?_));clear H K1;intro a H;have H:=H.sub (T':=[(1,_)]) ⟨rfl,aC⟩;obtain ⟨Ga,hma,hb1',H⟩:=H.eH
 have hbl:aI Ga b1 0=some (.slice A l.length c):=by unfold aI;rw [hb1'];rfl
 have hcb:=apP hbl (hv.mono hma) hl ht;refine dI hmx [[],[0],[0,1],[0,1,2],[],[4],[4,5],[],(ra 0 8),(ra 0 9),(ra 0 10),(ra 0 11)] [9,10,11] (by kernel_rfl) [_,_,_,vi (dx (decide (256 < (l.length:Int))) 9),_,_,vi ((min l.length 256:Nat):Int),.func (.func 124) #[] #[(aK b1 0)],vi (kQ (E5 l) (min l.length 256))] H (aF (X0 rfl fun hG=>Rg yY rfl (aJ hG hbl)) (Z1 0 3 rfl (Rl pW rfl)) (Z1 1 4 rfl (Rc rfl)) ?_ (aF (X0 rfl fun hG=>Rg yY rfl (aJ hG hbl)) (Z1 4 7 rfl (Rl pW rfl)) ?_ ?_ (aF ?_ (bQ rfl) (bQ rfl) (bQ rfl) dz))) ?_
 ·refine eP 2 5 rfl rfl fun _ a w G1 hG HT H fin=>?_;refine s_call jR H wn rfl (jS _ _ H.ro _ 9) rfl ?_;clear H;rintro v6 G6 a w ⟨rfl,-⟩ iU H;exact fin H iU (rfl)
 ·refine eP 5 8 rfl rfl fun _ a w G1 hG HT H fin=>?_;refine Qb H wn rfl rfl rfl ?_;clear H;intro a H;exact fin H iJ (aB vi (by omega))
 ·refine CU rfl fun _ a w G1 hG HT H fin=>?_;refine oQ H wn rfl rfl ?_;clear H;intro a H;exact fin H iJ rfl
 ·refine dK 6 9 7 10 rfl rfl fun _ a w G1 hG HT H fin=>?_;refine s_call IZ H wn rfl (Kt _ _ H.ro (min l.length 256) (E5 l) _ (by omega) ((hcb.mono hG).le (Nat.min_le_left _ _))) rfl ?_;clear H;rintro v11 tO a w rfl lW H;exact fin H lW (rfl)
 clear H;intro a w G nA H hv;have H:=H.aM (hv 3 6 rfl rfl) rfl;have H:=H.aM (hv 8 11 rfl rfl) rfl;clear hv;refine ig qU iy [_,_] [_,_] H wn rfl rfl rfl rfl rfl (by intro i q h;match i,h with|0,h=>exact h|1,h=>exact h|n+2,h=>simp at h) rfl rfl ?_;clear H;intro b12 a w Gw H;obtain ⟨D9,Dq,Gx,H⟩:=H.eH;refine s_call sj H wn rfl (sD _ _ H.ro _ _ (zR Gx)) rfl ?_;clear H;rintro v13 _ a w ⟨rfl,rfl⟩ - H;refine kH H (Ra rfl ?_);clear H;intro a H;refine aD ⟨rfl,?_⟩;refine K2 _ _ ?_;clear K2;refine lr H results68 rfl ?_;exact H.rt rfl
theorem mE:∀ {l:List Int},dY l=0→∀ x∈l,x=0
 | [],_,_,h=>by cases h
 | e :: r,h,x,hx=>by
  unfold dY at h
  by_cases he:e=0
  ·rw [ah (fun h'=>h' he)] at h
   rcases kL.1 hx with rfl|hx
   ·exact he
   exact mE h x hx
  rw [au he] at h;exact absurd h he
theorem FL {E:Nat→Int} {n:Nat} (h:kQ E n=0) (i:Nat) (hi:i < n):E i=0:=mE h _ (by simp;exact ⟨i,hi,rfl⟩)
theorem Vb {id:Nat→Int} {i:Nat} (h:rG id i=0):1≤id i∧id i≤1073741824∧(0 < i→id (i - 1) < id i):=by
 unfold rG at h
 by_cases h1:1≤id i∧id i≤1073741824
 ·rw [ah (fun h'=>h' h1)] at h
  by_cases h2:0 < i∧id i=id (i - 1)
  ·rw [au h2] at h;cases h
  rw [ah h2] at h
  by_cases h3:0 < i∧id i < id (i - 1)
  ·rw [au h3] at h;cases h
  exact ⟨h1.1,h1.2,fun h0=>by omega⟩
 rw [au h1] at h;cases h
theorem abr {l:List Int} (h:∀ i (h:i+1 < l.length),l[i] < l[i+1]):CJ l:=by
 have hlt:∀ (j i:Nat) (hj:j < l.length) (hi:i < j),l[i] < l[j]:=by
  intro j
  induction j with
  | zero=>intro i _ hi;omega
  | succ j ih =>
   intro i hj hi;have h1:=h j hj
   by_cases e:i=j
   ·subst e;exact h1
   have:=ih i (by omega) (by omega);omega
 intro k hk hm;obtain ⟨i,hi,he⟩:=List.getElem_of_mem hm;rw [List.length_take] at hi;have:=hlt k i hk (by omega);rw [List.getElem_take] at he
 omega
theorem apQ {l:List dh} (h:FQ l=0):CJ (l.map dh.id):=by
 have h1:=mE h _ (gM);have h2:=mE h _ (iO _ gM)
 have hl:l.length≤256:=by
  unfold dx at h1
  by_cases hd:256 < (l.length:Int)
  ·rw [au (aG hd)] at h1;cases h1
  omega
 refine abr fun i hi=>?_;rw [aZ] at hi;have h3:=FL h2 (i+1) (by omega)
 unfold E5 at h3
 rw [eD hi] at h3;have h4:=(Vb (mE h3 _ gM)).2.2 (by omega);rw [Nat.add_sub_cancel,eD hi,eD (show i < l.length by omega)] at h4
 simpa using h4
theorem anT {l:List fK} (h:KA l=0):CJ (l.map fK.id):=by
 have h1:=mE h _ (gM);have h2:=mE h _ (iO _ gM)
 have hl:l.length≤64:=by
  unfold dx at h1
  by_cases hd:64 < (l.length:Int)
  ·rw [au (aG hd)] at h1;cases h1
  omega
 refine abr fun i hi=>?_;rw [aZ] at hi;have h3:=FL h2 (i+1) (by omega)
 unfold Hl at h3
 have h4:=(Vb (mE h3 _ gM)).2.2 (by omega);rw [Nat.add_sub_cancel,eD hi,eD (show i < l.length by omega)] at h4
 simpa using h4
theorem arY {l:List cu} (h:gZ l=0):CJ (l.map cu.id):=by
 unfold gZ at h
 by_cases h1:128 < l.length
 ·rw [au h1] at h;cases h
 rw [ah h1] at h
 by_cases h2:vg (A9 l) 0 l.length≠0
 ·rw [au h2] at h;exact absurd h h2
 intro k hk;rw [aZ] at hk;have:=acn (oK.1 h2) k hk;rw [← List.map_take,List.getElem_map];exact this
end Go.Proofs.YtdiflmikikiedaaGreat
