/-
  What the claim stands on, part 4: Ro Ri Chn Chk Dsv Mq Nck Cid Mt Hdr Hea Frm Itc Vis Okd Rws Itm Its Rvs.
-/
import Derived.Test.YtdiflmikikiedaaGreatWdc
namespace Go.Proofs.YtdiflmikikiedaaGreat
open Go.Proofs.Tryz
open Go.RowKit
section
section
variable {P:Program} {N:Nat} {D:List Deferred} {w0 w w':World} {F:Nat→Prop} {G0 G G':GH} {L L' Li Lo:OL} {T:List (Nat × aj)} {a a':Act} {Q:Exit→Act→World→Prop}
variable {r:Option Nat} {ops:Array Oper} {rest:List Oper}
def PS (P:Program) (Gi:GH) (B:OL) (gv:aj) (xs:List AP):Prop :=
 ∀ (J:Nat→GH→OL→Prop) (Jx:GH→OL→Prop) (fv:aj) (G:GH) (L:OL) (w:World),fv.cells=#[fv]→(∀ b o,Gi b=some o→G b=some o)→E9 J→Hz Jx→J 0 G L→gD G (B++L) w→Jw P fv G xs J Jx →
  sj P gv [fv] w (fV w G (B++L) fun _ G' L'=>J xs.length G' L'∨Jx G' L')
theorem PS.mono {Gi DR:GH} {B:OL} {gv:aj} {xs:List AP} (h:PS P Gi B gv xs) (hm:∀ b o,Gi b=some o→DR b=some o):PS P DR B gv xs :=
 fun J Jx fv G L w h0 h1=>h J Jx fv G L w h0 fun b o hb=>h1 b o (hm b o hb)
end
end
section
section
variable {P:Program} {N:Nat} {D:List Deferred} {w0 w w':World} {F:Nat→Prop} {G0 G G':GH} {L L' Li Lo:OL} {T:List (Nat × aj)} {a a':Act} {Q:Exit→Act→World→Prop}
variable {r:Option Nat} {ops:Array Oper} {rest:List Oper}
def Hq (P:Program) (Gi:GH) (B:OL) (gv:aj) (xs:List AP) (fin:Bool):Prop :=
 ∀ (J:Nat→GH→OL→Prop) (Jx:GH→OL→Prop) (fv:aj) (G:GH) (L:OL) (w:World),fv.cells=#[fv]→(∀ b o,Gi b=some o→G b=some o)→E9 J→Hz Jx→J 0 G L→gD G (B++L) w→Jw P fv G xs J Jx→(fin=false→∀ g l,¬ J xs.length g l) →
  sj P gv [fv] w (fV w G (B++L) fun _ G' L'=>J xs.length G' L'∨Jx G' L')
theorem Hq.mono {Gi DR:GH} {B:OL} {gv:aj} {xs:List AP} {fin:Bool} (h:Hq P Gi B gv xs fin) (hm:∀ b o,Gi b=some o→DR b=some o):Hq P DR B gv xs fin :=
 fun J Jx fv G L w h0 h1=>h J Jx fv G L w h0 fun b o hb=>h1 b o (hm b o hb)
theorem aes {fin:Bool} {B:OL} {zM:Operand} {ps:List Nat} {assign body:Code} {gf:FuncId} {caps:List aj} {xs:List AP} {Gi:GH}
  (H:St N D w0 F G0 G (B++L) T a w) (hg:ev T zM=some (.func (.func gf) #[] caps.toArray)) (en:∀ args w,(callFunc gf args).run P w=.ok (.enter gf args) w) (hit:Hq P Gi B (.func (.func gf) #[] caps.toArray) xs fin) (hGi:∀ b o,Gi b=some o→G b=some o)
  (hps:ps.all (Nat.blt · N)=true) (hlen:∀ k args g,wG xs k args g→args.length=ps.length)
  (J:Nat→GH→OL→Prop) (Jx:Code→GH→OL→Prop) (hno:fin=false→∀ g l,¬ J xs.length g l) (tJ:E9 J) (hJx:∀ c,Hz (Jx c)) (h0:J 0 G L) (Tx:P7 P N ps assign body T G J Jx xs)
  (hdone:∀ Dk G1 L1 a1 w1,(∀ b o,G b=some o→G1 b=some o)→J xs.length G1 L1→St N ({ target:=.collected Dk,args:=#[] } :: D) w0 F G0 G1 ((Dk,.deferred (some [])) :: L1) T a1 w1→Q .normal a1 w1)
  (hstop:∀ Dk c G1 L1 a1 w1,(∀ b o,G b=some o→G1 b=some o)→Jx c G1 L1→St N ({ target:=.collected Dk,args:=#[] } :: D) w0 F G0 G1 ((Dk,.deferred (some [])) :: L1) T a1 w1→WP none P c Q a1 w1) :
  WP none P (.rangeFunc zM ps.toArray assign body) Q a w:=by
 refine wpIn_rangeFunc ?_
 intro fn _
 have hev:=H.ev hg
 let q:Rec:=⟨fn,a.tmps,ps.toArray,assign,body,w.heap.size⟩
 obtain ⟨W1,hW1⟩:∃ W1,W1=(w.alloc (.deferred (some []))).alloc (q.at .ready none):=⟨_,rfl⟩
 have H1:Hp w0 F G0 G (B++((w.heap.size+1,q.at .ready none) :: (w.heap.size,.deferred (some [])) :: L)) W1:=by
  have:=(H.hp.alloc (.deferred (some []))).alloc (q.at .ready none)
  rw [World.size_alloc] at this
  rw [hW1]
  refine this.perm ?_
  have e:=vw (l₁:=[(w.heap.size+1,q.at .ready none),(w.heap.size,Obj.deferred (some []))]) (l₂:=B)
  have e2:=List.Perm.append_right L e
  rw [iW,iW] at e2
  exact e2
 refine ⟨w.heap.size+1,[{ target:=.collected w.heap.size,args:=#[] }],W1,{ target:=.fn (.func gf) caps.toArray,args:=#[.func (.yield (w.heap.size+1)) #[] #[]] },W1,gf,
  #[.func (.yield (w.heap.size+1)) #[] #[]]++caps.toArray,W1,by rw [hW1];exact run_enterLoop_outer fn a.tmps ps.toArray assign body,?_,fun _ _=>trivial,?_,Md none,?_⟩
 ·simp only [resolve,rangeCall,hev]
  simp [Deferred.ofValue,Act.eval]
 ·simp [invoke,en]
 ·have hcv:=hit (fun k=>Jr (w.heap.size+1) q [(w.heap.size,.deferred (some []))] (J k)) (Mk (w.heap.size+1) q [(w.heap.size,.deferred (some []))] Jx) (.func (.yield (w.heap.size+1)) #[] #[]) G
   ((w.heap.size+1,q.at .ready none) :: (w.heap.size,.deferred (some [])) :: L) W1 rfl hGi (fun k G G' L hm ⟨Lu,e,h⟩=>⟨Lu,e,tJ k G G' Lu hm h⟩) (fun G G' L hm ⟨c,Lu,e,h⟩=>⟨c,Lu,e,hJx c G G' Lu hm h⟩) ⟨L,rfl,h0⟩ (Hp.owns (Li:=[]) H1) (Xj H.nL H.get hps hlen Tx) (fun e g l ⟨Lu,_,h⟩=>hno e g Lu h)
  replace hcv:=hcv.go
  have e:(do let d ← Deferred.ofValue (.func (.func gf) #[] caps.toArray) [Value.func (.yield (w.heap.size+1)) #[] #[]].toArray;invoke d.target d.args:Sem Next).run P W1=.ok (.enter gf (#[.func (.yield (w.heap.size+1)) #[] #[]]++caps.toArray)) W1:=by
   simp [Deferred.ofValue,invoke,en]
  rw [e] at hcv
  refine (Qo hcv).mono ?_
  rintro e w2 ⟨v,G2,L2,rfl,hch,hJ⟩
  have H2:=Hp.change (Li:=[]) H1 hch
  rcases hJ with ⟨Lu,rfl,hJ⟩|⟨c,Lu,rfl,hJ⟩
  ·have hl:=H2.own _ (gJ)
   have H3:=(H2.upd (i:=0) rfl (ES (q.at .exhausted none) hl)).drop (AY _ _)
   exact ⟨none,_,run_endLoop hl (by simp),hdone _ G2 Lu _ _ hch.gm hJ ⟨H.nL,H.get,by simp [H.tu],H3⟩⟩
  ·have hl:=H2.own _ (gJ)
   have H3:=(H2.upd (i:=0) rfl (ES (q.at .exhausted (some c)) hl)).drop (AY _ _)
   exact ⟨some c,_,run_endLoop hl (by simp),hstop _ c G2 Lu _ _ hch.gm hJ ⟨H.nL,H.get,by simp [H.tu],H3⟩⟩
theorem aeu {fin:Bool} {B:OL} {ι κ:Type} {Lc:OL} {zM:Operand} {ps:List Nat} {assign body:Code} {gf:FuncId} {caps:List aj} {xs:List AP} {Gi:GH}
  (Lv:Nat→ι→OL) (Lt:Nat→ι→OL) (inv:Nat→ι→GH→Prop) (cx:κ→Code) (Lx Fj:κ→OL) (Ad:κ→GH→Prop) (i0:ι)
  (H:St N D w0 F G0 G (B++(Lc++Lv 0 i0++Lt 0 i0)) T a w) (hg:ev T zM=some (.func (.func gf) #[] caps.toArray)) (en:∀ args w,(callFunc gf args).run P w=.ok (.enter gf args) w) (hit:Hq P Gi B (.func (.func gf) #[] caps.toArray) xs fin) (hGi:∀ b o,Gi b=some o→G b=some o)
  (hno:fin=false→∀ i g,¬ inv xs.length i g) (hps:ps.all (Nat.blt · N)=true) (hlen:∀ k args g,wG xs k args g→args.length=ps.length) (hinv:∀ k i (G G':GH),(∀ b o,G b=some o→G' b=some o)→inv k i G→inv k i G') (Tf:∀ x (G G':GH),(∀ b o,G b=some o→G' b=some o)→Ad x G→Ad x G') (h0:inv 0 i0 G)
  (round:∀ (l:Nat) (Dm zG:Obj) (bk:OL) (k:Nat) (args:List aj) (i:ι) (G1:GH) (w1:World) (F1:Nat→Prop) (B1:Code→Exit→Act→World→Prop) (a1:Act),wG xs k args G1→(∀ b o,G b=some o→G1 b=some o)→inv k i G1 →
   (∀ T' G2 L2 a2 w2 c,St N [] w1 F1 G1 G2 ((l,Dm) :: L2) T' a2 w2→(∀ w3,St N [] w1 F1 G1 G2 ((l,zG) :: L2) T' a2 w3→WP (some l) P c (B1 c) a2 w3)→Exit.then (fun a2 w2=>∃ w3,(Instr.beginRound l).run P w2=.ok () w3∧c.wpIn (FW (some l)) 0 P (B1 c) a2 w3) (fun _ _ _=>False) .normal a2 w2) →
   (∀ i' T' G2 a2 w2 c,St N [] w1 F1 G1 G2 ((l,zG) :: (Lc++Lv (k+1) i'++(bk++Lt (k+1) i'))) T' a2 w2→inv (k+1) i' G2→B1 c .normal a2 w2) →
   (∀ x T' G2 a2 w2 c,St N [] w1 F1 G1 G2 ((l,zG) :: (Lc++Lx x++(bk++Fj x))) T' a2 w2→Ad x G2→(cx x=.ret→B1 c .ret a2 w2)∧∀ n,cx x=.exit n→B1 c (.exit n) a2 w2) →
   St N [] w1 F1 G1 G1 ((l,Dm) :: (Lc++Lv k i++(bk++Lt k i))) (yS ps args T) a1 w1 →
   WP (some l) P assign (Exit.then (fun a2 w2=>∃ w3,(Instr.beginRound l).run P w2=.ok () w3∧body.wpIn (FW (some l)) 0 P (B1 body) a2 w3) (fun _ _ _=>False)) a1 w1)
  (hdone:∀ Dk i G1 a1 w1,(∀ b o,G b=some o→G1 b=some o)→inv xs.length i G1→St N ({ target:=.collected Dk,args:=#[] } :: D) w0 F G0 G1 ((Dk,.deferred (some [])) :: (Lc++Lv xs.length i++Lt xs.length i)) T a1 w1→Q .normal a1 w1)
  (hstop:∀ Dk x G1 a1 w1,(∀ b o,G b=some o→G1 b=some o)→Ad x G1→St N ({ target:=.collected Dk,args:=#[] } :: D) w0 F G0 G1 ((Dk,.deferred (some [])) :: (Lc++Lx x++Fj x)) T a1 w1→WP none P (cx x) Q a1 w1) :
  WP none P (.rangeFunc zM ps.toArray assign body) Q a w:=by
 refine aes (J:=fun k g L=>∃ i,L=Lc++Lv k i++Lt k i∧inv k i g) (Jx:=fun c g L=>∃ x,c=cx x∧L=Lc++Lx x++Fj x∧Ad x g) H hg en hit hGi hps hlen (hno:=fun e g l ⟨i,_,h⟩=>hno e i g h) (fun k G G' L hm ⟨i,e,h⟩=>⟨i,e,hinv k i G G' hm h⟩) (fun c G G' L hm ⟨x,e1,e2,h⟩=>⟨x,e1,e2,Tf x G G' hm h⟩) ⟨i0,rfl,h0⟩ ?_ ?_ ?_
 ·rintro l q bk k args G1 L1 w1 a1 hk hm ⟨i,rfl,hi⟩ H1
  have pm:∀ A B:OL,(bk++(A++B)).Perm (A++(bk++B)):=fun A B=>by
   rw [← iW,← iW]
   exact List.Perm.append_right B vw
  refine round l (q.at .ready none) (q.at .busy none) bk k args i G1 w1 _ (fun _=>roundPost P l _) a1 hk hm hi ?_ ?_ ?_ (H1.perm (List.Perm.cons _ (pm _ _)))
  ·intro T' G2 L2 a2 w2 c H2 h
   exact Xg H2 h
  ·intro i' T' G2 a2 w2 c H2 h2
   exact I9 none (H2.perm (List.Perm.cons _ (pm _ _).symm)) ⟨_,rfl,i',rfl,h2⟩
  ·intro x T' G2 a2 w2 c H2 h2
   have H3:=H2.perm (List.Perm.cons _ (pm _ _).symm)
   refine ⟨fun e=>?_,fun n e=>?_⟩
   ·exact I9 (some .ret) H3 ⟨_,_,rfl,x,e.symm,rfl,h2⟩
   ·exact I9 (some (.exit n)) H3 ⟨_,_,rfl,x,e.symm,rfl,h2⟩
 ·rintro Dk G1 L1 a1 w1 hm ⟨i,rfl,hi⟩ H1
  exact hdone Dk i G1 a1 w1 hm hi H1
 ·rintro Dk c G1 L1 a1 w1 hm ⟨x,rfl,rfl,hx⟩ H1
  exact hstop Dk x G1 a1 w1 hm hx H1
end
end
theorem GX:prog.underlying 130=some (.map 3 3):=by kernel_rfl
theorem rE:Ty prog 31 1 24 [.slice none 0 0] false:=⟨by kernel_rfl,by kernel_rfl⟩
theorem Q8:dH prog 192 3 3:=⟨by kernel_rfl⟩
theorem Yd:∀ args w,(callFunc 222 args).run prog w=.ok (.enter 222 args) w:=enters func222 rfl (by kernel_rfl)
theorem aaq {x:Int}:∀ {l:List Int} {i n:Nat},vZ x i l=some n→n < i+l.length
 | [],_,_,h=>by cases h
 | k :: r,i,n,h=>by
  rw [vZ] at h;split at h
  ·cases h;simp
  have:=aaq h;simp only [kR];omega
def yT (l:List bV):Nat→Int→List bV
 | 0,_=>[]
 | f+1,id=>if id=0 then [] else match vZ id 0 (l.map bV.id) with|none=>[]|some i=>match l[i]? with|none=>[]|some s=>s :: yT l f s.base
def Ic (l:List bV) (id:Int):List bV:=yT l (l.length+1) id
theorem aeJ {l:List bV} {f:Nat} {id:Int} (h:id=0):yT l f id=[]:=by
 cases f with
 | zero=>rfl
 | succ f=>rw [yT,au h]
theorem aeH {l:List bV} {f:Nat} {id:Int} (h0:¬ id=0) (h:vZ id 0 (l.map bV.id)=none):yT l f id=[]:=by
 cases f with
 | zero=>rfl
 | succ f=>rw [yT,ah h0,h]
theorem aeI {l:List bV} {f i:Nat} {id:Int} (h0:¬ id=0) (h:vZ id 0 (l.map bV.id)=some i) (hi:i < l.length):yT l (f+1) id=l[i] :: yT l f l[i].base:=by
 rw [yT,ah h0,h];dsimp only;rw [eT hi]
def stP (x:bV):AP:=fun args g=>∃ cs,args=[.agg cs.toArray]∧aU g x.dat cs
theorem aco {A:List bV} {k:Nat} {args:List aj} {g:GH} (h:wG (A.map stP) k args g):∃ (hk:k < A.length) (cs:List aj),args=[.agg cs.toArray]∧aU g A[k].dat cs:=by
 obtain ⟨p,hp,hargs⟩:=h;rw [pQ] at hp;obtain ⟨q,hq,rfl⟩:=ou.1 hp;obtain ⟨hk,rfl⟩:=jB.1 hq;obtain ⟨cs,h1,h2⟩:=hargs;exact ⟨hk,cs,h1,h2⟩
abbrev bI (b:Nat) (n:Int):Nat × Obj:=(b,.cells #[vi n] 3 (0,0))
set_option maxHeartbeats 1000000 in
theorem aeK {G:GH} {bl bi:Nat} {l:List bV} {id:Int} {v:aj} (hb:aI G bl 0=some v) (hv:av G (.sl 6 (l.map bV.dat)) v) (hnd:∀ (k:Nat) (h:k < l.length),l[k].id∉(l.take k).map bV.id) :
  Hq prog G [bI bi id] (.func (.func 222) #[] #[(aK bl 0),(aK bi 0)]) ((Ic l id).map stP) (decide ((Ic l id).length≤l.length)):=by
 intro J Jx fv G1 L w0 S9 hGi tJ hJx hJ hO hcb hfin;refine jI (caps:=[(aK bl 0),(aK bi 0)]) Yd ?_;obtain ⟨A,c,rfl,hc1,hc2,-⟩:=hv.slice;have hml:maxLen=9223372036854775807:=rfl;rw [bG] at *;replace hb:=aJ hGi hb;replace hv:=hv.mono hGi;refine iX (N:=46) (T:=[(0,_),(1,_),(2,_)]) func222 rfl ntmps222 rfl rfl hO ?_;intro a H;refine cu (fun _ K1=>?_);refine GQ H wn rfl ?_;clear H;intro bm a w hbm H;refine kH H (ak K1 rfl (SQ fun _ K2=>SR fun _ K3=>Rg rE rfl (by assumption) ?_));clear H K1;intro a H;refine kH H (Rl lV rfl (Rm rfl (Kz K3 (SB ?_))));clear H K3;intro a H;skip;refine eU (ι:=Nat) (Tc:=[(0,_),(1,_),(2,_),(4,_),(10,_),(11,_)]) (Lc:=[(_,_)]) (fun gh=>[(12,vi gh)]) (fun gh=>[aeb bm ((l.take gh).map bV.id)]++L) (fun gh=>G1) (fun gh=>gh≤l.length) (fun gh=>l.length - gh) (0) (by exact (H.dY (Pl:=[_,_]) (dK:=[_,_]) [1,0] (by decide) rfl).sub ⟨rfl,rfl,rfl,rfl,rfl,rfl,rfl,aC⟩) ?_ ?_
 ·exact gW _
 clear H;intro k a w hI H;have hk:=hI;dsimp only [lca,bJ] at H;refine kP H (SR fun _ K4=>Rc rfl (Kz K4 (SQ fun _ K5=>Cd rfl ?_ ?_))) <;> clear H K4
 ·intro gG a H
  try have rz:=dT gG
  have hk2:k < l.length:=by omega
  obtain ⟨b,o,pA,pc,rfl,hrow,hp,hrep⟩:=Dt hv hk2;have alF:=hnd k hk2
  have hlk:((l.take k).map bV.id).length=k:=by rw [bG,List.length_take];omega
  have hnx:(l.take k).map bV.id++[l[k].id]=(l.take (k+1)).map bV.id:=by rw [iU hk2,lY];rfl
  refine kP H (Kc K5 (SQ fun _ K6=>SB (SR fun _ K7=>Rm rfl (Ri lV kr rfl rfl ?_))));clear H K5;intro a H;refine bL kr (cs:=[_,_,_,_,_,_]) H wn rfl rfl (fun j v hj=>H.hp.aI (hrow j v hj)) rfl ?_;clear H;intro a H;refine dS kr H wn rfl ?_;clear H;intro b6 a w hb6 H;refine kH H (Ra rfl ?_);clear H;intro a H;refine bD kr 0 (vs:=[_,_,_,_,_,_]) _ H wn rfl rfl rfl rfl rfl rfl rfl rfl ?_;clear H;intro w H;dsimp only [List.set,setRow] at H;refine K7 _ _ ?_;clear K7;refine kP H (SC (Rm rfl (aY wT aH 0 rfl rfl (Rm rfl ?_))));clear H;intro a H;refine abT (i:=2) (ky:=vi l[k].id) (v:=vi k) GX lu H wn rfl rfl rfl rfl (by trivial) (by rw [List.toList_toArray,Rp,aar alF];rfl) ?_;clear H;intro w H
  have hpush:((yB 0 ((l.take k).map bV.id)).toArray.push ⟨vi l[k].id,vi k,((l.take k).map bV.id).length⟩)=(yB 0 ((l.take (k+1)).map bV.id)).toArray:=by rw [← hnx,← anp,hlk]
  rw [hpush,show ((l.take k).map bV.id).length+1=((l.take (k+1)).map bV.id).length by rw [← hnx];simp] at H;refine kH H (Kn K6 (SC (Rd rfl (Rm rfl ?_))));clear H K6;intro a H;refine aD ?_;refine dD ((k+1)) (by exact (H.dY (Pl:=[_,_,_]) (dK:=[_,_]) [1,2] (by decide) rfl).sub ⟨rfl,rfl,rfl,rfl,rfl,rfl,rfl,aC⟩) ?_
  exact by omega
 intro gG a H
 try have rz:=dF gG
 obtain rfl:k=l.length:=by omega
 rw [xL] at H;refine dV ?_;refine K2 _ _ ?_;clear K2;refine Cn ?_;skip;refine eU (ι:=Int × Nat × Nat × OL × GH) (Tc:=[(0,_),(1,_),(2,_),(4,_)]) (Lc:=[(_,_)]) (fun gh=>[]) (fun gh=>[bI bi gh.1]++gh.2.2.2.1) (fun gh=>gh.2.2.2.2) (fun gh=>(∀ b o,G1 b=some o→gh.2.2.2.2 b=some o)∧Now ((Ic l id).map stP) stP J (Ic l id).length gh.2.2.1 (yT l gh.2.1 gh.1) gh.2.2.2.2 gh.2.2.2.1∧gh.2.2.1+gh.2.1=l.length+1) (fun gh=>gh.2.1) ((id,l.length+1,0,L,G1)) (by exact (H.dY (Pl:=[_,_]) (dK:=[_,_]) [1,0] (by decide) rfl).sub ⟨rfl,rfl,rfl,rfl,aC⟩) ?_ ?_
 ·exact ⟨fun _ _ h=>h,⟨hJ,fun i a h=>by rw [gI,pQ];rw [show yT l (l.length+1) id=Ic l id from rfl] at h;rw [h];rfl,gI _⟩,gI _⟩
 clear H;rintro ⟨i,f,j1,Lt,g⟩ a w hI H;dsimp only at hI H;obtain ⟨hgm,eP,hjf⟩:=hI;have hbg:=aJ hgm hb;dsimp only [lca,bJ] at H;refine kP H (SQ fun _ K8=>SR fun _ K9=>Ro aH 1 rfl (Rc rfl (Kz K9 (Cd rfl ?_ ?_)))) <;> clear H K9
 ·intro h23 a H
  try have BI:=dT h23
  have h0:¬ i=0:=by simpa using h23
  obtain ⟨an,han⟩:∃ an,an=vZ i 0 (l.map bV.id):=⟨_,rfl⟩;have hfn:=Rp i 0 0 (l.map bV.id);rw [← han] at hfn;refine kP H (Kc K8 (SB (SR fun _ aR=>Rm rfl (Ro aH 1 rfl ?_))));clear H K8;intro a H;refine apI (i:=0) (zv:=vi 0) _ GX lu (by kernel_rfl) H wn rfl rfl rfl (by trivial) (by simpa using hfn) rfl ?_;clear H;intro a H;refine kH H (Rm rfl ?_);clear H;intro a H;(iterate 2 refine lq H wn rfl rfl rfl ?_;clear H;intro a H);refine kH H (Ra rfl (ak aR rfl (SQ fun _ bQ=>SR fun _ bY=>Rm rfl (Rn rfl (Rm rfl (Sp 32 rfl ?_ ?_)))))) <;> clear H aR
  ·intro h32 a H
   try have p32:=dT h32
   obtain rfl:an=none:=by
    cases an with
    | none=>rfl
    | some n=>simp [Dg] at h32
   rw [aeH h0 han.symm] at eP;refine kH H (bF h32 rfl (aQ h32 rfl (aQ h32 rfl (Pt h32 rfl (Kz bY (Ct rfl rfl ?_))))));clear H bY;intro a H;refine bW ?_;refine (leave0 H results222 ?_).1;refine H.hp.iq (L':=Lt) (by repeat (first|exact gT _|apply List.Sublist.cons)) (.inl ?_);have h:=eP.len
   simp only [List.length_nil,uy] at h
   rw [← h];exact eP.now
  intro h32 a H
  try have p32:=dF h32
  obtain ⟨n,rfl⟩:∃ n,an=some n:=by
   cases an with
   | none=>simp [Dg] at h32
   | some n=>exact ⟨n,rfl⟩
  have hnl:n < l.length:=by have:=aaq han.symm;simpa using this
  obtain ⟨f',rfl⟩:∃ f',f=f'+1:=by
   cases f with
   | succ f'=>exact ⟨f',rfl⟩
   | zero =>
    exfalso
    have hl:=eP.len
    simp only [yT,List.length_nil,uy] at hl
    refine hfin (jY (by omega)) g Lt ?_;rw [← hl];exact eP.now
  rw [aeI h0 han.symm hnl] at eP;dsimp only [Dg,Option.map_some] at H;obtain ⟨b,o,pA,pc,rfl,hrow,hp,hrep⟩:=Dt (hv.mono hgm) hnl;refine kH H (YM h32 rfl (YR rE h32 rfl (by assumption) ?_));clear H;intro a H;refine kH H (YM h32 rfl (YI lV kr h32 rfl rfl ?_));clear H;intro a H;refine bL kr (cs:=[_,_,_,_,_,_]) H (wg H rfl rfl h32) rfl rfl (fun j v hj=>H.hp.aI (hrow j v hj)) rfl ?_;clear H;intro a H;refine Aj (Li:=[_,_]) (L:=Lt) H (wg H rfl rfl h32) rfl rfl (hcb j1 _ _ _ _ ⟨_,eP.head,_,rfl,hrep⟩ hgm eP.now (Hp.owns (Li:=[_,_]) H.hp)) rfl ?_;clear H;rintro v38 PK WG a w ⟨b38,rfl,hb1,hb2⟩ IE H;have hbg:=aJ IE hbg;have r3:=aJ IE (hrow 3 _ rfl);refine kH H (YN h32 rfl (Pf h32 rfl (Kz bY (Cd rfl ?_ ?_)))) <;> clear H bY
  ·intro kE a H
   try have p40:=dT kE
   refine bW ?_;refine (leave0 H results222 ?_).1;exact H.hp.iq (L':=WG) (by repeat (first|exact gT _|apply List.Sublist.cons)) (.inr (hb2 (by simpa using kE)))
  intro kE a H
  try have p40:=dF kE
  refine kP H (Kc bQ (SC (Rg rE rfl (by assumption) ?_)));clear H bQ;intro a H;refine kH H (Rm rfl (Ri lV kr rfl rfl (Rf Q8 rfl (Rg aH rfl (by assumption) ?_))));clear H;intro a H;refine bD aH 1 (vs:=[_]) _ H wn rfl rfl rfl rfl rfl rfl rfl rfl ?_;clear H;intro w H;dsimp only [List.set,setRow] at H;refine aD ?_;refine dD ((l[n].base,f',j1+1,WG,PK)) (by exact (H).sub ⟨rfl,rfl,rfl,rfl,aC⟩) ?_
  (try dsimp only);exact ⟨fun b o h=>IE b o (hgm b o h),eP.step (hb1 (by simpa using kE)),by omega⟩
 intro h23 a H
 try have BI:=dF h23
 refine dV ?_;refine (leave0 H results222 ?_).2;rw [aeJ (by simpa using h23)] at eP;refine H.hp.iq (L':=Lt) (by repeat (first|exact gT _|apply List.Sublist.cons)) (.inl ?_);have h:=eP.len
 simp only [List.length_nil,uy] at h
 rw [← h];exact eP.now
theorem ahg:∀ args w,(callFunc 182 args).run prog w=.ok (.enter 182 args) w:=enters func182 rfl (by kernel_rfl)
theorem ahf:∀ args w,(callFunc 180 args).run prog w=.ok (.enter 180 args) w:=enters func180 rfl (by kernel_rfl)
theorem QL:∀ args w,(callFunc 181 args).run prog w=.ok (.enter 181 args) w:=enters func181 rfl (by kernel_rfl)
theorem M9:dH prog 192 4 4:=⟨by kernel_rfl⟩
theorem aeL {G:GH} {w0:World} (hO:gD G [] w0) (l:List bV) (id:Int) (v:aj) (hv:av G (.sl 6 (l.map bV.dat)) v) :
  Calls prog 182 #[v,vi id] w0 (fV w0 G [] fun u G' L'=>∃ bl bi,u=.func (.func 222) #[] #[(aK bl 0),(aK bi 0)]∧L'=[bI bi id]∧aI G' bl 0=some v):=by
 obtain ⟨A,c,rfl,hc1,hc2,-⟩:=hv.slice;refine iX (N:=6) (T:=[(0,_),(1,_)]) func182 rfl ntmps182 rfl rfl hO ?_;intro a H;refine cu (fun _ K1=>?_);refine dQ (cs:=[_]) H wn rfl rfl rfl ?_;clear H;intro b2 a w hb2 H;refine dQ (cs:=[_]) H wn rfl rfl rfl ?_;clear H;intro b3 a w hb3 H;refine kH H (ak K1 rfl (SR fun _ K2=>?_));clear H K1;intro a H;refine oZ H wn rfl rfl ?_;clear H;intro a H;refine kH H (ak K2 rfl ?_);clear H K2;intro a H;refine lr H results182 rfl ?_;have H:=H.dY (Pl:=[_,_]) (dK:=[_,_]) [1,0] (by decide) rfl;obtain ⟨Ga,hma,hb2',H⟩:=H.eH;exact H.hp.dx ⟨b2,b3,rfl,rfl,by unfold aI;rw [hb2'];rfl⟩
def uL (p:Nat→Int):Nat→Nat→Int
 | _,0=>0
 | k,n+1=>if p k=0 then uL p (k+1) n else p k
theorem aiQ {p:Nat→Int} {k m:Nat} (h:k < m):uL p k (m - k)=if p k=0 then uL p (k+1) (m - (k+1)) else p k:=by
 obtain ⟨n,hn⟩:∃ n,m - k=n+1:=⟨m - k - 1,by omega⟩;rw [hn,uL,show m - (k+1)=n by omega]
theorem aiP {p:Nat→Int} {k m:Nat} (h:m≤k):uL p k (m - k)=0:=by rw [show m - k=0 by omega];rfl
theorem Yu {p:Nat→Int}:∀ {n k:Nat},uL p k n=0→∀ j,k≤j→j < k+n→p j=0
 | 0,k,_,j,h1,h2=>by omega
 | n+1,k,h,j,h1,h2=>by
  rw [uL] at h;split at h
  ·rename_i hp
   by_cases e:j=k
   ·rw [e];exact hp
   exact Yu h j (by omega) (by omega)
  rename_i hp;exact absurd h hp
def Af (l:List bV) (k:Nat):Int:=match l[k]? with|some s=>jl l k s|none=>0
theorem abk {l:List bV} {k:Nat} (h:k < l.length):Af l k=jl l k l[k]:=by unfold Af;rw [eT h]
def uH (l:List bV) (s:bV):Bool:=(decide (s.base≠0) && !Gm l s.kind s.base) || (decide (s.next≠0) && (decide (s.kind=2) || !Gm l 1 s.next))
def QB (l:List bV) (s:bV):Bool:=decide (l.length < (Ic l s.id).length)
def ig (l:List bV):Int:=if 128 < l.length then 9 else if uL (Af l) 0 l.length≠0 then uL (Af l) 0 l.length else if l.any (uH l)=true then 25 else if l.any (QB l)=true then 16 else 0
theorem aob {l:List bV} (h:uL (Af l) 0 l.length=0) {k:Nat} (hk:k+1 < l.length):l[k].id < l[k+1].id:=by
 have h1:=Yu h (k+1) (gW _) (by omega);rw [abk hk,jl,mR] at h1
 have hp:ze l (k+1)=some l[k].id:=by rw [ze,ah (by omega),Nat.add_sub_cancel,eT (by omega)];rfl
 rw [hp] at h1
 split at h1
 ·cases h1
 split at h1
 ·cases h1
 split at h1
 ·cases h1
 rename_i _ h2 h3
 have h2':¬ l[k].id=l[k+1].id:=fun e=>h2 (by rw [e]);have h3':¬ l[k+1].id < l[k].id:=fun e=>h3 (aG e)
 omega
theorem abl {l:List bV} (h:uL (Af l) 0 l.length=0):∀ {k j:Nat} (hk:k < l.length) (hj:j < k),l[j].id < l[k].id
 | k+1,j,hk,hj=>by
  have h1:=aob h hk
  by_cases e:j=k
  ·subst e;exact h1
  have:=abl h (k:=k) (j:=j) (by omega) (by omega)
  omega
theorem abm {l:List bV} (h:uL (Af l) 0 l.length=0) (k:Nat) (hk:k < l.length):l[k].id∉(l.take k).map bV.id:=by
 intro hm;obtain ⟨x,hx1,hx2⟩:=List.mem_map.1 hm;obtain ⟨j,hj,rfl⟩:=List.getElem_of_mem hx1;rw [List.getElem_take] at hx2;rw [List.length_take] at hj;have:=abl h hk (j:=j) (by omega)
 omega
theorem JH {α:Type} {p:α→Bool} {l:List α} {k:Nat} (hk:k < l.length) (h:(l.take k).any p=false) (hp:p l[k]=false):(l.take (k+1)).any p=false:=by
 rw [iU hk,List.any_append,h];simp [hp]
theorem wM {α:Type} {p:α→Bool} {l:List α} {k:Nat} (hk:k < l.length) (hp:p l[k]=true):l.any p=true:=List.any_eq_true.2 ⟨_,kS hk,hp⟩
theorem AZ {α:Type} {p:α→Bool} {l:List α} {k:Nat} (hk:l.length≤k) (h:(l.take k).any p=false):¬ l.any p=true:=by
 rw [iC hk] at h;rw [h];decide
set_option maxHeartbeats 1000000 in
theorem aeU (G:GH) (w0:World) (hG:Hold G w0) (l:List bV) (v:aj) (hv:av G (.sl 6 (l.map bV.dat)) v) (hN:∀ s∈l,s.name.size≤4611686018427387904) :
  Calls prog 119 #[v] w0 (aZ w0 G fun u G'=>u=vi (ig l)):=by
 obtain ⟨A,c,rfl,hc1,hc2,-⟩:=hv.slice;have hml:maxLen=9223372036854775807:=rfl;rw [bG] at *;refine eN [(0,_)] func119 rfl ntmps119 rfl rfl hG ?_;intro a H;refine cu (fun _ K1=>?_);refine dQ (cs:=[_]) H wn rfl rfl rfl ?_;clear H;intro b1 a w hb1 H;refine dS iA H wn rfl ?_;clear H;intro b2 a w hb2 H;refine K1 _ _ ?_;clear K1;refine kP H (SQ fun _ K2=>SR fun _ K3=>Ro rE 1 rfl (Rl lV rfl (Rc rfl (Kz K3 (Cd rfl ?_ ?_))))) <;> clear H K3
 ·intro h12 a H
  try have qb:=dT h12
  refine cu (fun _ K4=>?_);refine bD iA 0 (vs:=[_]) _ H wn rfl rfl rfl rfl rfl rfl rfl rfl ?_;clear H;intro w H;dsimp only [List.set,setRow] at H;refine K4 _ _ ?_;clear K4;refine bW ?_;refine (leave1 H results119 (.cons (yG iA H rfl (H.hp.oW 0 rfl rfl)) .nil) ?_).1
  first
   | exact H.rt (aB vi (by rw [ig,au (by omega)]))
   | exact H.rt (aB vi (by rw [ah (by simpa using iZ)] at heq;rw [ig,ah (by omega),← heq,au (by simpa using iZ)]))
   | exact H.rt (aB vi (by rw [ig,ah (by omega),ah (by rw [hok];decide),au hbad]))
   | exact H.rt (aB vi (by rw [ig,ah (by omega),ah (by rw [hok];decide),ah hbad,au (wM hj2 hI)]))
   | exact H.rt (aB vi (by rw [ig,ah (by omega),ah (by rw [hok];decide),ah hbad,ah (AZ (by omega) hnc)]))
 intro h12 a H
 try have qb:=dF h12
 refine kP H (Kc K2 (SQ fun _ K5=>SR fun _ K6=>Ro rE 1 rfl (Rl lV rfl (Rm rfl (Kz K6 (SB ?_))))));clear H K2 K6;intro a H;skip;refine eU (ι:=Nat × GH) (Tc:=[(1,_),(2,_),(14,_)]) (Lc:=[(_,_),(_,_)]) (fun gh=>[(15,vi gh.1)]) (fun gh=>[]) (fun gh=>gh.2) (fun gh=>gh.1≤l.length∧uL (Af l) gh.1 (l.length - gh.1)=uL (Af l) 0 l.length∧(∀ b o,G b=some o→gh.2 b=some o)) (fun gh=>l.length - gh.1) ((0,G)) (by exact (H).sub ⟨rfl,rfl,rfl,rfl,aC⟩) ?_ ?_
 ·exact ⟨gW _,rfl,fun _ _ h=>h⟩
 clear H;rintro ⟨k,g⟩ a w hI H;dsimp only at hI H;obtain ⟨hk,heq,hgm⟩:=hI;dsimp only [lca,bJ] at H;refine kP H (SR fun _ K7=>Rc rfl (Kz K7 (SQ fun _ K8=>Cd rfl ?_ ?_))) <;> clear H K7
 ·intro h16 a H
  try have p16:=dT h16
  have hk2:k < l.length:=by omega
  rw [aiQ hk2,abk hk2] at heq;refine kP H (Kc K8 (SQ fun _ K9=>SB (SR fun _ aR=>Rm rfl (ak aR rfl (SR fun _ bQ=>Ro rE 1 rfl (Rm rfl ?_))))));clear H K8 aR;intro a H;refine s_call ahf H wn rfl (aoc _ _ H.ro l k _ (hv.mono hgm) hk2 (hN _ (kS hk2))) rfl ?_;clear H;rintro v20 EZ a w rfl qB H;refine kH H (ak bQ rfl (SR fun _ bY=>Rm rfl (Rc rfl (Kz bY (Cd rfl ?_ ?_))))) <;> clear H bQ bY
  ·intro h22 a H
   try have iZ:=dT h22
   refine kP H (SR fun _ cZ=>Rm rfl ?_);clear H;intro a H;refine bD iA 0 (vs:=[_]) _ H wn rfl rfl rfl rfl rfl rfl rfl rfl ?_;clear H;intro w H;dsimp only [List.set,setRow] at H;refine cZ _ _ ?_;clear cZ;refine bW ?_;refine (leave1 H results119 (.cons (yG iA H rfl (H.hp.oW 0 rfl rfl)) .nil) ?_).1
   first
    | exact H.rt (aB vi (by rw [ig,au (by omega)]))
    | exact H.rt (aB vi (by rw [ah (by simpa using iZ)] at heq;rw [ig,ah (by omega),← heq,au (by simpa using iZ)]))
    | exact H.rt (aB vi (by rw [ig,ah (by omega),ah (by rw [hok];decide),au hbad]))
    | exact H.rt (aB vi (by rw [ig,ah (by omega),ah (by rw [hok];decide),ah hbad,au (wM hj2 hI)]))
    | exact H.rt (aB vi (by rw [ig,ah (by omega),ah (by rw [hok];decide),ah hbad,ah (AZ (by omega) hnc)]))
  intro h22 a H
  try have iZ:=dF h22
  refine kP H (Kc K9 (SC (Rd rfl (Rm rfl ?_))));clear H K9;intro a H;refine aD ?_;refine dD ((k+1,EZ)) (by exact (H).sub ⟨rfl,rfl,rfl,rfl,aC⟩) ?_
  (try dsimp only);exact ⟨by omega,by rw [au (by simpa using iZ)] at heq;exact heq,fun b o h=>qB b o (hgm b o h)⟩
 intro h16 a H
 try have p16:=dF h16
 have hok:uL (Af l) 0 l.length=0:=by rw [← heq];exact aiP (by omega)
 clear heq;have BA:=hv.mono hgm;refine dV ?_;refine K5 _ _ ?_;clear K5;refine kP H (SQ fun _ dG=>SR fun _ dZ=>Ro rE 1 rfl (Rl lV rfl (Rm rfl (Kz dZ (SB ?_)))));clear H dZ;intro a H;skip;refine eU (ι:=Nat × GH) (Tc:=[(1,_),(2,_),(25,_),(26,_)]) (Lc:=[(_,_),(_,_)]) (fun gh=>[(27,vi gh.1)]) (fun gh=>[]) (fun gh=>gh.2) (fun gh=>gh.1≤l.length∧(l.take gh.1).any (uH l)=false∧(∀ b o,g b=some o→gh.2 b=some o)) (fun gh=>l.length - gh.1) ((0,g)) (by exact (H).sub ⟨rfl,rfl,rfl,rfl,rfl,aC⟩) ?_ ?_
 ·exact ⟨gW _,rfl,fun _ _ h=>h⟩
 clear H;rintro ⟨k,g2⟩ a w hI H;dsimp only at hI H;obtain ⟨hk3,hno,iM⟩:=hI;have Ab:=BA.mono iM;dsimp only [lca,bJ] at H;refine kP H (SR fun _ eB=>Rc rfl (Kz eB (SQ fun _ dW=>Cd rfl ?_ ?_))) <;> clear H eB
 ·intro fQ a H
  try have p28:=dT fQ
  have hk4:k < l.length:=by omega
  obtain ⟨b,o,pA,pc,rfl,hrow,hp,hrep⟩:=Dt Ab hk4;refine kP H (Kc dW (SQ fun _ fC=>SB (SR fun _ gQ=>Ri lV kr rfl rfl ?_)));clear H dW;intro a H;refine bL kr (cs:=[_,_,_,_,_,_]) H wn rfl rfl (fun j v hj=>H.hp.aI (hrow j v hj)) rfl ?_;clear H;intro a H;refine dS kr H wn rfl ?_;clear H;intro b6 a w hb6 H;refine bD kr 0 (vs:=[_,_,_,_,_,_]) _ H wn rfl rfl rfl rfl rfl rfl rfl rfl ?_;clear H;intro w H;dsimp only [List.set,setRow] at H;refine gQ _ _ ?_;clear gQ;refine kP H (SR fun _ fM=>aY Q8 aH 0 rfl rfl (Rc rfl (Rm rfl (Sp 34 rfl ?_ ?_)))) <;> clear H
  ·intro fZ a H
   try have p34:=dT fZ
   refine kH H (YO rE 2 fZ rfl (YF yV fZ rfl (YO aH 0 fZ rfl (YF Q8 fZ rfl (YO aH 0 fZ rfl ?_)))));clear H;intro a H;refine s_call QL H (wg H rfl rfl fZ) rfl (TY _ _ H.ro l l[k].kind l[k].base _ Ab) rfl ?_;clear H;rintro v40 g2 a w rfl CW H;replace iM:=fun b o (h:g b=some o)=>CW b o (iM b o h);replace Ab:=Ab.mono CW;refine kH H (YN fZ rfl (Pt fZ rfl (Rm rfl (Sp 43 rfl ?_ ?_)))) <;> clear H
   ·intro h43 a H
    try have p43:=dT h43
    refine kH H (aQ h43 rfl (aQ h43 rfl (Ku rfl (Ku rfl (Ku rfl (Ku rfl (Ku rfl (Ku rfl (Ku rfl (Ku rfl (Ku rfl (Ku rfl (Ks h43 rfl (Pt h43 rfl (Kz fM (Ct rfl rfl (SQ fun _ gV=>?_)))))))))))))))));clear H fM;intro a H;have hbad:l.any (uH l)=true:=wM hk4 (by unfold uH;simp_all);refine pR ?_;refine bD iA 1 (vs:=[_]) _ H wn rfl rfl rfl rfl rfl rfl rfl rfl ?_;clear H;intro w H;dsimp only [List.set,setRow] at H;refine aD ?_;refine gV _ _ ?_;clear gV;refine bW ?_;refine (leave1 H results119 (.cons (yG iA H rfl (H.hp.oW 1 rfl rfl)) .nil) ?_).1
    first
     | exact H.rt (aB vi (by rw [ig,au (by omega)]))
     | exact H.rt (aB vi (by rw [ah (by simpa using iZ)] at heq;rw [ig,ah (by omega),← heq,au (by simpa using iZ)]))
     | exact H.rt (aB vi (by rw [ig,ah (by omega),ah (by rw [hok];decide),au hbad]))
     | exact H.rt (aB vi (by rw [ig,ah (by omega),ah (by rw [hok];decide),ah hbad,au (wM hj2 hI)]))
     | exact H.rt (aB vi (by rw [ig,ah (by omega),ah (by rw [hok];decide),ah hbad,ah (AZ (by omega) hnc)]))
   intro h43 a H
   try have p43:=dF h43
   refine kH H (YF M9 h43 rfl (YO aH 0 h43 rfl (YC h43 rfl (YM h43 rfl (Sp 47 rfl ?_ ?_))))) <;> clear H
   ·intro h47 a H
    try have p47:=dT h47
    refine kH H (YF yV h47 rfl (YO aH 0 h47 rfl (YC h47 rfl (YM h47 rfl (Sp 51 rfl ?_ ?_))))) <;> clear H
    ·intro kT a H
     try have p51:=dT kT
     refine kH H (bF kT rfl (aQ kT rfl (PT h47 kT rfl (PT h43 h47 rfl (Pf h43 rfl (Kz fM (Ct rfl rfl (SQ fun _ jo=>?_))))))));clear H fM;intro a H;have hbad:l.any (uH l)=true:=wM hk4 (by unfold uH;simp_all);refine pR ?_;refine bD iA 1 (vs:=[_]) _ H wn rfl rfl rfl rfl rfl rfl rfl rfl ?_;clear H;intro w H;dsimp only [List.set,setRow] at H;refine aD ?_;refine jo _ _ ?_;clear jo;refine bW ?_;refine (leave1 H results119 (.cons (yG iA H rfl (H.hp.oW 1 rfl rfl)) .nil) ?_).1
     first
      | exact H.rt (aB vi (by rw [ig,au (by omega)]))
      | exact H.rt (aB vi (by rw [ah (by simpa using iZ)] at heq;rw [ig,ah (by omega),← heq,au (by simpa using iZ)]))
      | exact H.rt (aB vi (by rw [ig,ah (by omega),ah (by rw [hok];decide),au hbad]))
      | exact H.rt (aB vi (by rw [ig,ah (by omega),ah (by rw [hok];decide),ah hbad,au (wM hj2 hI)]))
      | exact H.rt (aB vi (by rw [ig,ah (by omega),ah (by rw [hok];decide),ah hbad,ah (AZ (by omega) hnc)]))
    intro kT a H
    try have p51:=dF kT
    refine kH H (YO rE 2 kT rfl (YF M9 kT rfl (YO aH 0 kT rfl ?_)));clear H;intro a H;refine s_call QL H (wg H rfl rfl kT) rfl (TY _ _ H.ro l 1 l[k].next _ Ab) rfl ?_;clear H;rintro v55 g2 a w rfl vU H;replace iM:=fun b o (h:g b=some o)=>vU b o (iM b o h);replace Ab:=Ab.mono vU;refine kH H (YN kT rfl (PF h47 kT rfl (PT h43 h47 rfl (Pf h43 rfl (Kz fM (Cd rfl ?_ ?_)))))) <;> clear H fM
    ·intro iK a H
     try have p59:=dT iK
     refine bN (fun _ lD=>?_);have hbad:l.any (uH l)=true:=wM hk4 (by unfold uH;simp_all);refine pR ?_;refine bD iA 1 (vs:=[_]) _ H wn rfl rfl rfl rfl rfl rfl rfl rfl ?_;clear H;intro w H;dsimp only [List.set,setRow] at H;refine aD ?_;refine lD _ _ ?_;clear lD;refine bW ?_;refine (leave1 H results119 (.cons (yG iA H rfl (H.hp.oW 1 rfl rfl)) .nil) ?_).1
     first
      | exact H.rt (aB vi (by rw [ig,au (by omega)]))
      | exact H.rt (aB vi (by rw [ah (by simpa using iZ)] at heq;rw [ig,ah (by omega),← heq,au (by simpa using iZ)]))
      | exact H.rt (aB vi (by rw [ig,ah (by omega),ah (by rw [hok];decide),au hbad]))
      | exact H.rt (aB vi (by rw [ig,ah (by omega),ah (by rw [hok];decide),ah hbad,au (wM hj2 hI)]))
      | exact H.rt (aB vi (by rw [ig,ah (by omega),ah (by rw [hok];decide),ah hbad,ah (AZ (by omega) hnc)]))
    intro iK a H
    try have p59:=dF iK
    refine kP H (Kc fC (SC (Rd rfl (Rm rfl ?_))));clear H fC;intro a H;refine aD ?_;refine dD ((k+1,g2)) (by exact (H.dY (Pl:=[_,_,_]) (dK:=[_,_]) [1,2] (by decide) rfl).sub ⟨rfl,rfl,rfl,rfl,rfl,aC⟩) ?_
    (try dsimp only);exact ⟨by omega,JH hk4 hno (by unfold uH;simp_all),iM⟩
   intro h47 a H
   try have p47:=dF h47
   refine kH H (aQ h47 rfl (aQ h47 rfl (Ku rfl (Ku rfl (Ku rfl (Ku rfl (Ku rfl (Ks h47 rfl (PF h43 h47 rfl (Pf h43 rfl (Kz fM (Cf rfl rfl (Kc fC (SC (Rd rfl (Rm rfl ?_))))))))))))))));clear H fM fC;intro a H;refine aD ?_;refine dD ((k+1,g2)) (by exact (H.dY (Pl:=[_,_,_]) (dK:=[_,_]) [1,2] (by decide) rfl).sub ⟨rfl,rfl,rfl,rfl,rfl,aC⟩) ?_
   (try dsimp only);exact ⟨by omega,JH hk4 hno (by unfold uH;simp_all),iM⟩
  intro fZ a H
  try have p34:=dF fZ
  refine kH H (bF fZ rfl (aQ fZ rfl (aQ fZ rfl (Pf fZ rfl (Rm rfl ?_)))));clear H;intro a H;refine Je M9 H (wg H rfl rfl rfl) rfl rfl ?_;clear H;intro a H;refine rC aH H (wg H rfl rfl rfl) rfl (H.hp.oW 0 rfl rfl) rfl ?_;clear H;intro a H;refine Jd H (wg H rfl rfl rfl) rfl rfl rfl rfl ?_;clear H;intro a H;refine Jf H (wg H rfl rfl rfl) rfl rfl ?_;clear H;intro a H;refine U4 H 47 rfl ?_ ?_
  ·intro h47
   try have p47:=dT h47
   refine kH H (YF yV h47 rfl (YO aH 0 h47 rfl (YC h47 rfl (YM h47 rfl (Sp 51 rfl ?_ ?_))))) <;> clear H
   ·intro kT a H
    try have p51:=dT kT
    refine kH H (bF kT rfl (aQ kT rfl (PT h47 kT rfl ?_)));clear H;intro a H;refine Ll H (wg H rfl rfl rfl) rfl h47 rfl rfl ?_;clear H;intro a H;refine kH H (Pf rfl rfl (Kz fM (Ct rfl rfl (SQ fun _ kX=>?_))));clear H fM;intro a H;have hbad:l.any (uH l)=true:=wM hk4 (by unfold uH;simp_all);refine pR ?_;refine bD iA 1 (vs:=[_]) _ H wn rfl rfl rfl rfl rfl rfl rfl rfl ?_;clear H;intro w H;dsimp only [List.set,setRow] at H;refine aD ?_;refine kX _ _ ?_;clear kX;refine bW ?_;refine (leave1 H results119 (.cons (yG iA H rfl (H.hp.oW 1 rfl rfl)) .nil) ?_).1
    first
     | exact H.rt (aB vi (by rw [ig,au (by omega)]))
     | exact H.rt (aB vi (by rw [ah (by simpa using iZ)] at heq;rw [ig,ah (by omega),← heq,au (by simpa using iZ)]))
     | exact H.rt (aB vi (by rw [ig,ah (by omega),ah (by rw [hok];decide),au hbad]))
     | exact H.rt (aB vi (by rw [ig,ah (by omega),ah (by rw [hok];decide),ah hbad,au (wM hj2 hI)]))
     | exact H.rt (aB vi (by rw [ig,ah (by omega),ah (by rw [hok];decide),ah hbad,ah (AZ (by omega) hnc)]))
   intro kT a H
   try have p51:=dF kT
   refine kH H (YO rE 2 kT rfl (YF M9 kT rfl (YO aH 0 kT rfl ?_)));clear H;intro a H;refine s_call QL H (wg H rfl rfl kT) rfl (TY _ _ H.ro l 1 l[k].next _ Ab) rfl ?_;clear H;rintro v55 g2 a w rfl vU H;replace iM:=fun b o (h:g b=some o)=>vU b o (iM b o h);replace Ab:=Ab.mono vU;refine kH H (YN kT rfl (PF h47 kT rfl ?_));clear H;intro a H;refine Ll H (wg H rfl rfl rfl) rfl h47 rfl rfl ?_;clear H;intro a H;refine kH H (Pf rfl rfl (Kz fM (Cd rfl ?_ ?_))) <;> clear H fM
   ·intro iK a H
    try have p59:=dT iK
    refine bN (fun _ kC=>?_);have hbad:l.any (uH l)=true:=wM hk4 (by unfold uH;simp_all);refine pR ?_;refine bD iA 1 (vs:=[_]) _ H wn rfl rfl rfl rfl rfl rfl rfl rfl ?_;clear H;intro w H;dsimp only [List.set,setRow] at H;refine aD ?_;refine kC _ _ ?_;clear kC;refine bW ?_;refine (leave1 H results119 (.cons (yG iA H rfl (H.hp.oW 1 rfl rfl)) .nil) ?_).1
    first
     | exact H.rt (aB vi (by rw [ig,au (by omega)]))
     | exact H.rt (aB vi (by rw [ah (by simpa using iZ)] at heq;rw [ig,ah (by omega),← heq,au (by simpa using iZ)]))
     | exact H.rt (aB vi (by rw [ig,ah (by omega),ah (by rw [hok];decide),au hbad]))
     | exact H.rt (aB vi (by rw [ig,ah (by omega),ah (by rw [hok];decide),ah hbad,au (wM hj2 hI)]))
     | exact H.rt (aB vi (by rw [ig,ah (by omega),ah (by rw [hok];decide),ah hbad,ah (AZ (by omega) hnc)]))
   intro iK a H
   try have p59:=dF iK
   refine kP H (Kc fC (SC (Rd rfl (Rm rfl ?_))));clear H fC;intro a H;refine aD ?_;refine dD ((k+1,g2)) (by exact (H.dY (Pl:=[_,_,_]) (dK:=[_,_]) [1,2] (by decide) rfl).sub ⟨rfl,rfl,rfl,rfl,rfl,aC⟩) ?_
   (try dsimp only);exact ⟨by omega,JH hk4 hno (by unfold uH;simp_all),iM⟩
  intro h47
  try have p47:=dF h47
  refine kH H (aQ h47 rfl (aQ h47 rfl (Ku rfl (Ku rfl (Ku rfl (Ku rfl (Ku rfl (Ks h47 rfl ?_))))))));clear H;intro a H;refine OQ H (wg H rfl rfl rfl) rfl h47 rfl rfl ?_;clear H;intro a H;refine kH H (Pf rfl rfl (Kz fM (Cf rfl rfl (Kc fC (SC (Rd rfl (Rm rfl ?_)))))));clear H fM fC;intro a H;refine aD ?_;refine dD ((k+1,g2)) (by exact (H.dY (Pl:=[_,_,_]) (dK:=[_,_]) [1,2] (by decide) rfl).sub ⟨rfl,rfl,rfl,rfl,rfl,aC⟩) ?_
  (try dsimp only);exact ⟨by omega,JH hk4 hno (by unfold uH;simp_all),iM⟩
 intro fQ a H
 try have p28:=dF fQ
 have hbad:=AZ (by omega) hno;refine dV ?_;refine dG _ _ ?_;clear dG;refine kP H (SQ fun _ lK=>SR fun _ lM=>Ro rE 1 rfl (Rl lV rfl (Rm rfl (Kz lM (SB ?_)))));clear H lM;intro a H;skip;refine aep (ι:=Nat × GH × List Nat) (Tc:=[(1,_),(2,_),(61,_),(62,_)]) (Lc:=[(_,_),(_,_)]) (fun gh=>Uq gh.2.2) (fun gh=>[(63,vi gh.1)]) (fun gh=>[]++(Gx gh.2.2++[])) (fun gh=>gh.2.1) (fun gh=>gh.1≤l.length∧(l.take gh.1).any (QB l)=false∧(∀ b o,g2 b=some o→gh.2.1 b=some o)) (fun gh=>l.length - gh.1) ((0,g2,[])) (by exact (H).sub ⟨rfl,rfl,rfl,rfl,rfl,aC⟩) ?_ ?_
 ·exact ⟨gW _,rfl,fun _ _ h=>h⟩
 clear H;rintro ⟨j,g3,ds⟩ a w hI H;dsimp only at hI H;obtain ⟨hj,hnc,sK⟩:=hI;have TN:=Ab.mono sK;dsimp only [lca,bJ] at H;refine kP H (SR fun _ jL=>Rc rfl (Kz jL (SQ fun _ oL=>Cd rfl ?_ ?_))) <;> clear H jL
 ·intro h64 a H
  try have p64:=dT h64
  have hj2:j < l.length:=by omega
  obtain ⟨b,o,pA,pc,rfl,hrow,hp,hrep⟩:=Dt TN hj2;refine kP H (Kc oL (SQ fun _ pI=>SB (SR fun _ qm=>Ri lV kr rfl rfl ?_)));clear H oL;intro a H;refine bL kr (cs:=[_,_,_,_,_,_]) H wn rfl rfl (fun j v hj=>H.hp.aI (hrow j v hj)) rfl ?_;clear H;intro a H;refine dS kr H wn rfl ?_;clear H;intro b8 a w Ns H;refine bD kr 0 (vs:=[_,_,_,_,_,_]) _ H wn rfl rfl rfl rfl rfl rfl rfl rfl ?_;clear H;intro w H;dsimp only [List.set,setRow] at H;refine qm _ _ ?_;clear qm;refine cu (fun _ qJ=>?_);refine dS aH H wn rfl ?_;clear H;intro b9 a w Bo H;refine bD aH 0 (vs:=[_]) _ H wn rfl rfl rfl rfl rfl rfl rfl rfl ?_;clear H;intro w H;dsimp only [List.set,setRow] at H;refine qJ _ _ ?_;clear qJ;refine kP H (SR fun _ qo=>Ro rE 3 rfl (aY wT aH 1 rfl rfl ?_));clear H;intro a H;refine gH ahg (Li:=[_,_,_,_]++Gx ds) (L:=[]) (St.un (A:=[_,_,_,_]) H) wn rfl (aeL (Hp.owns (Li:=[_,_,_,_]++Gx ds) (St.un (A:=[_,_,_,_]) H).hp) l l[j].id _ TN) rfl ?_;clear H;rintro v70 g4 L70 a w ⟨bl,bi,rfl,rfl,hbl⟩ ZI H;have H:=(St.I4 (A:=[_,_,_,_,_]) (B:=Gx ds) (H.perm vw));dsimp only [lca,bJ] at H;have hit:=aeK (l:=l) (id:=l[j].id) (bi:=bi) hbl (TN.mono ZI) (abm hok);refine qo _ _ ?_;clear qo;refine Cn ?_;skip;refine aeu (B:=[(_,_)]) (ι:=Unit) (κ:=Int) (Lc:=[(_,_),(_,_)]) (fun (k:Nat) (gh:Unit)=>[(b9,.cells #[vi k] 3 (0,0)),(b2,.cells #[vi 0] 49 (0,0))]) (fun (k:Nat) (gh:Unit)=>(Gx ds++[])) (fun (k:Nat) (gh:Unit) (g:GH)=>k≤l.length) (fun (gx:Int)=>Code.ret) (fun (gx:Int)=>[(b9,.cells #[vi gx] 3 (0,0)),(b2,.cells #[vi 16] 49 (0,0))]) (fun (gx:Int)=>(Gx ds++[])) (fun (gx:Int) (g:GH)=>QB l l[j]=true) (()) (by exact H.dY (Pl:=[_,_,_,_,_]) (dK:=[_,_,_,_,_]) [0,2,4,1,3] (by decide) rfl) rfl Yd (hit) (fun _ _ h=>h) (fun e i g h=>absurd (of_decide_eq_false e) (by rw [bG] at h;omega)) rfl (fun k args g h=>by obtain ⟨_,_,rfl,_⟩:=aco h;rfl) (fun _ _ _ _ _ h=>h) (fun _ _ _ _ h=>h) (gW _) ?_ ?_ ?_
  ·clear H;intro l21 Dm zG bk k args gh Me w21 F21 B21 a ZB yg hI akE alE amj H;obtain ⟨ZB,asL,rfl,atC⟩:=aco ZB;dsimp only [yS,List.cons_append,List.nil_append] at H;refine gU ?_;refine akE _ _ _ _ _ _ (by exact H) ?_;clear H;intro w H;refine kP H (SB (SR fun _ qK=>Ro aH 3 rfl (Rd rfl ?_)));clear H;intro a H;refine bD aH 3 (vs:=[_]) _ H wn rfl rfl rfl rfl rfl rfl rfl rfl ?_;clear H;intro w H;dsimp only [List.set,setRow] at H;refine qK _ _ ?_;clear qK;refine kP H (SR fun _ uw=>Ro aH 3 rfl (Ro rE 2 rfl (Rl lV rfl (Rc rfl (Kz uw (Cd rfl ?_ ?_)))))) <;> clear H uw
   ·intro FQ a H
    try have I7:=dT FQ
    refine cu (fun _ rH=>?_);refine bD iA 4 (vs:=[_]) _ H wn rfl rfl rfl rfl rfl rfl rfl rfl ?_;clear H;intro w H;dsimp only [List.set,setRow] at H;refine rH _ _ ?_;clear rH;refine bW ?_;refine (amj ((k:Int)+1) _ _ _ _ _ (by exact H) ?_).1 rfl;exact jM (by omega)
   intro FQ a H
   try have I7:=dF FQ
   refine gU ?_;refine alE (()) _ _ _ _ _ (by exact H) ?_
   omega
  ·clear H;intro VK gh V6 a w yg hI H;dsimp only [lca,bJ] at H;refine pI _ _ ?_;clear pI;refine kP H (SC (Rd rfl (Rm rfl ?_)));clear H;intro a H;refine aD ?_;refine ang ((j+1,V6,VK :: ds)) (by exact (H.dY (Pl:=[_,_,_,_,_]) (dK:=[_,_,_]) [4,2,0] (by decide) rfl).sub ⟨rfl,rfl,rfl,rfl,rfl,aC⟩) ?_ ?_
   ·(try dsimp only);exact ⟨by omega,JH hj2 hnc (jY (by rw [bG] at hI;omega)),fun b o h=>yg b o (ZI b o (sK b o h))⟩
   first|omega|(dsimp only;omega)
  clear H;intro VK x V6 a w yg hI H;dsimp only [lca,bJ] at H;refine bW ?_;refine (IX H 0 rfl ?_).1;clear H;intro a w H;dsimp only [List.eraseIdx_cons_succ,List.eraseIdx_cons_zero] at H;refine (Ug (Lh:=[_,_,_,_]) _ H ?_).1;clear H;intro a w H;dsimp only [lca,bJ] at H;refine (leave1 H results119 (.cons (yG iA H rfl (H.hp.oW 3 rfl rfl)) .nil) ?_).1
  first
   | exact H.rt (aB vi (by rw [ig,au (by omega)]))
   | exact H.rt (aB vi (by rw [ah (by simpa using iZ)] at heq;rw [ig,ah (by omega),← heq,au (by simpa using iZ)]))
   | exact H.rt (aB vi (by rw [ig,ah (by omega),ah (by rw [hok];decide),au hbad]))
   | exact H.rt (aB vi (by rw [ig,ah (by omega),ah (by rw [hok];decide),ah hbad,au (wM hj2 hI)]))
   | exact H.rt (aB vi (by rw [ig,ah (by omega),ah (by rw [hok];decide),ah hbad,ah (AZ (by omega) hnc)]))
 intro h64 a H
 try have p64:=dF h64
 refine dV ?_;refine lK _ _ ?_;clear lK;refine cu (fun _ wI=>?_);refine bD iA 0 (vs:=[_]) _ H wn rfl rfl rfl rfl rfl rfl rfl rfl ?_;clear H;intro w H;dsimp only [List.set,setRow] at H;refine wI _ _ ?_;clear wI;refine bW ?_;refine (Ug (Lh:=[_,_]) _ H ?_).1;clear H;intro a w H;dsimp only [lca,bJ] at H;refine (leave1 H results119 (.cons (yG iA H rfl (H.hp.oW 0 rfl rfl)) .nil) ?_).1
 first
  | exact H.rt (aB vi (by rw [ig,au (by omega)]))
  | exact H.rt (aB vi (by rw [ah (by simpa using iZ)] at heq;rw [ig,ah (by omega),← heq,au (by simpa using iZ)]))
  | exact H.rt (aB vi (by rw [ig,ah (by omega),ah (by rw [hok];decide),au hbad]))
  | exact H.rt (aB vi (by rw [ig,ah (by omega),ah (by rw [hok];decide),ah hbad,au (wM hj2 hI)]))
  | exact H.rt (aB vi (by rw [ig,ah (by omega),ah (by rw [hok];decide),ah hbad,ah (AZ (by omega) hnc)]))
theorem yK:Ty prog 34 1 24 [.slice none 0 0] false:=⟨by kernel_rfl,by kernel_rfl⟩
theorem wE:prog.underlying 34=some (.slice 110):=by kernel_rfl
theorem Ao:Ty prog 110 2 32 [.string ⟨#[]⟩,.string ⟨#[]⟩] true:=⟨by kernel_rfl,by kernel_rfl⟩
theorem Ij:dH prog 110 0 0:=⟨by kernel_rfl⟩
theorem QN:∀ args w,(callFunc 192 args).run prog w=.ok (.enter 192 args) w:=enters func192 rfl (by kernel_rfl)
theorem YB:dH prog 110 1 1:=⟨by kernel_rfl⟩
theorem FH:dH prog 36 0 0:=⟨by kernel_rfl⟩
theorem agp:∀ args w,(callFunc 119 args).run prog w=.ok (.enter 119 args) w:=enters func119 rfl (by kernel_rfl)
theorem FI:dH prog 36 1 1:=⟨by kernel_rfl⟩
theorem agq:∀ args w,(callFunc 120 args).run prog w=.ok (.enter 120 args) w:=enters func120 rfl (by kernel_rfl)
theorem Rb:dH prog 36 2 2:=⟨by kernel_rfl⟩
theorem agr:∀ args w,(callFunc 121 args).run prog w=.ok (.enter 121 args) w:=enters func121 rfl (by kernel_rfl)
theorem Rh:dH prog 36 3 3:=⟨by kernel_rfl⟩
theorem ags:∀ args w,(callFunc 122 args).run prog w=.ok (.enter 122 args) w:=enters func122 rfl (by kernel_rfl)
theorem aho:∀ args w,(callFunc 191 args).run prog w=.ok (.enter 191 args) w:=enters func191 rfl (by kernel_rfl)
theorem acT {G:GH} {l:List lX} {A:Option Addr} {n c k:Nat} (hv:av G (.sl 2 (l.map lX.dat)) (.slice A n c)) (hk:k < l.length):∃ b o,A=some ⟨b,o,none⟩∧(∀ j u,l[k].cells[j]?=some u→aI G b (o+k*2+j)=some u):=by
 obtain ⟨A',c',he,_,_,hg⟩:=hv.slice
 injection he with e1 e2 e3
 subst e1;obtain ⟨b,o,cs,h1,h2,h3,h4⟩:=hg k l[k].dat (by simp [hk]);have:=arO h4;subst this;exact ⟨b,o,h1,h3⟩
def acS (k:Nat) (x:lX) (pn:ByteArray):Int:=dR [dw (!sH x.name) 13,dw (decide (0 < (k:Int)) && (x.name.toList == pn.toList)) 7,dw (decide (0 < (k:Int)) && Op.bytesLess x.name.toList pn.toList) 6,Dw x.value]
def Js (l:List lX) (k:Nat):Int:=match l[k]? with|some x=>acS k x ((l[k - 1]?.map lX.name).getD ⟨#[]⟩)|none=>0
set_option maxHeartbeats 2000000 in
theorem arN {G:GH} {bl:Nat} {l:List lX} {A:Option Addr} {n c:Nat} (hb:aI G bl 0=some (.slice A n c)) (hv:av G (.sl 2 (l.map lX.dat)) (.slice A n c)) (hl:l.length≤4294967296) (ht:∀ x∈l,x.name.size < 4611686018427387904∧x.value.size < 4611686018427387904):uq (.func (.func 191) #[] #[(aK bl 0)]) G l.length (Js l):=by
 intro k hk G1 w0 hm hG;refine jI (caps:=[(aK bl 0)]) aho ?_;replace hb:=aJ hm hb;replace hv:=hv.mono hm
 obtain rfl:n=l.length:=by have:=hv.len;simpa using this
 obtain ⟨b,o,rfl,hrow⟩:=acT hv hk
 have hk1:k - 1 < l.length:=by omega
 obtain ⟨b',o',he',hrow'⟩:=acT hv hk1
 injection he' with he'
 injection he' with e1 e2
 subst e1;subst e2;have hte:=ht _ (kS hk)
 have he:Js l k=acS k l[k] l[k - 1].name:=by unfold Js;rw [eT hk,eT hk1];rfl
 obtain ⟨x,hx⟩:∃ x,x=l[k]:=⟨_,rfl⟩;obtain ⟨y,hy⟩:∃ y,y=l[k - 1]:=⟨_,rfl⟩;rw [← hx] at hrow hte he;rw [← hy] at hrow' he;refine eN [(0,_),(1,_)] func191 rfl ntmps191 rfl rfl hG ?_;intro a H;refine kP H (SR fun _ K1=>ak K1 rfl (SQ fun _ K2=>?_));clear H K1;intro a H;have H:=H.sub (T':=[(0,_),(1,_)]) ⟨rfl,rfl,aC⟩
 by_cases c0:0 < (k:Int)
 ·skip;refine dI hmx [[],[],[0,1],[0,1,2],(ra 0 4),(ra 0 5),(ra 0 6),(ra 0 7),[],[8],(ra 0 10),(ra 0 11),(ra 0 11),(ra 0 13),(ra 0 14),(ra 0 15),(ra 0 11),(ra 0 11),(ra 0 11++[17]),(ra 0 11++[17,18]),(ra 0 11++ra 16 4),(ra 0 11++ra 16 5),(ra 0 11++ra 16 6),(ra 0 23),(ra 0 24),(ra 0 25),[],[26],(ra 0 28),(ra 0 29),(ra 0 29),(ra 0 31),(ra 0 32),(ra 0 33),(ra 0 29),(ra 0 29),(ra 0 29++[35]),(ra 0 29++[35,36]),(ra 0 29++ra 34 4),(ra 0 29++ra 34 5),(ra 0 29++ra 34 6),(ra 0 41),(ra 0 42),(ra 0 43),[],[],[44,45],[44,45,46],(ra 44 4),(ra 0 49),(ra 0 50),(ra 0 51),(ra 0 52)] [50,51,52] (by kernel_rfl) [_,_,_,_,_,.bool (sH x.name),_,vi (dw (!sH x.name) 13),_,_,_,_,_,_,_,_,_,_,vi ((max k 1:Nat):Int),vi ((k - 1:Nat):Int),_,_,_,.bool (x.name.toList == y.name.toList),.bool (decide (0 < (k:Int)) && (x.name.toList == y.name.toList)),vi (dw (decide (0 < (k:Int)) && (x.name.toList == y.name.toList)) 7),_,_,_,_,_,_,_,_,_,_,vi ((max k 1:Nat):Int),vi ((k - 1:Nat):Int),_,_,_,.bool (Op.bytesLess x.name.toList y.name.toList),.bool (decide (0 < (k:Int)) && Op.bytesLess x.name.toList y.name.toList),vi (dw (decide (0 < (k:Int)) && Op.bytesLess x.name.toList y.name.toList) 6),_,_,_,_,_,vi (Dw x.value)] H (aF (X0 rfl fun hG=>Rg yK rfl (aJ hG hb)) (Z0 rfl (Rm rfl)) (Z2 0 4 1 5 rfl (Ri wE Ao rfl rfl)) (Z1 2 6 rfl (Rf Ij rfl)) (aF (X1 3 7 rfl fun hG=>Rg iN rfl (aJ hG (hrow 0 _ rfl))) ?_ (Z1 5 9 rfl (Rn rfl)) ?_ (aF (Z0 rfl (Rm rfl)) (Z1 8 12 rfl (Rc rfl)) (Z1 9 13 rfl (Rm rfl)) (X1 10 14 rfl fun hG=>YR yK (aG c0) rfl (aJ hG hb)) (aF (Z1 10 14 rfl (YM (aG c0) rfl)) (Z3 11 15 12 16 10 14 rfl (YI wE Ao (aG c0) rfl rfl)) (Z2 13 17 10 14 rfl (YF Ij (aG c0) rfl)) (X2 14 18 10 14 rfl fun hG=>YR iN (aG c0) rfl (aJ hG (hrow 0 _ rfl))) (aF (X1 10 14 rfl fun hG=>YR yK (aG c0) rfl (aJ hG hb)) (Z1 10 14 rfl (YM (aG c0) rfl)) ?_ ?_ (aF (Z3 16 20 19 23 10 14 rfl (YI wE Ao (aG c0) rfl rfl)) (Z2 20 24 10 14 rfl (YF Ij (aG c0) rfl)) (X2 21 25 10 14 rfl fun hG=>YR iN (aG c0) rfl (aJ hG (hrow' 0 _ rfl))) ?_ (aF ?_ ?_ (Z0 rfl (Rm rfl)) (Z1 26 30 rfl (Rc rfl)) (aF (Z1 27 31 rfl (Rm rfl)) (X1 28 32 rfl fun hG=>YR yK (aG c0) rfl (aJ hG hb)) (Z1 28 32 rfl (YM (aG c0) rfl)) (Z3 29 33 30 34 28 32 rfl (YI wE Ao (aG c0) rfl rfl)) (aF (Z2 31 35 28 32 rfl (YF Ij (aG c0) rfl)) (X2 32 36 28 32 rfl fun hG=>YR iN (aG c0) rfl (aJ hG (hrow 0 _ rfl))) (X1 28 32 rfl fun hG=>YR yK (aG c0) rfl (aJ hG hb)) (Z1 28 32 rfl (YM (aG c0) rfl)) (aF ?_ ?_ (Z3 34 38 37 41 28 32 rfl (YI wE Ao (aG c0) rfl rfl)) (Z2 38 42 28 32 rfl (YF Ij (aG c0) rfl)) (aF (X2 39 43 28 32 rfl fun hG=>YR iN (aG c0) rfl (aJ hG (hrow' 0 _ rfl))) ?_ ?_ ?_ (aF (X0 rfl fun hG=>Rg yK rfl (aJ hG hb)) (Z0 rfl (Rm rfl)) (Z2 44 48 45 49 rfl (Ri wE Ao rfl rfl)) (Z1 46 50 rfl (Rf YB rfl)) (aF (X1 47 51 rfl fun hG=>Rg iN rfl (aJ hG (hrow 1 _ rfl))) ?_ (bS rfl) (bS rfl) (bR (bS rfl) dz)))))))))))))) ?_
  ·refine fq 4 8 rfl rfl fun _ a w G1 hG HT H fin=>?_;refine s_call QN H wn rfl (Qy _ _ H.ro x.name hte.1) rfl ?_;clear H;rintro v9 G9 a w ⟨rfl,-⟩ Sl H;exact fin H Sl (rfl)
  ·refine fq 6 10 rfl rfl fun _ a w G1 hG HT H fin=>?_;refine s_call jO H wn rfl (jQ _ _ H.ro _ 13) rfl ?_;clear H;rintro v11 sw a w ⟨rfl,-⟩ lQ H;exact fin H lQ (rfl)
  ·refine dJ 17 21 10 14 rfl rfl fun _ a w G1 hG HT H fin=>?_;refine OO H (wg H rfl rfl (aG c0)) rfl rfl rfl ?_;clear H;intro a H;exact fin H iJ (by show _=_;first|rfl|exact aB vi (by omega))
  ·refine dJ 18 22 10 14 rfl rfl fun _ a w G1 hG HT H fin=>?_;refine nS _ H (wg H rfl rfl (aG c0)) rfl rfl rfl (by omega) (by omega) rfl ?_;clear H;intro a H;exact fin H iJ (by show _=_;first|rfl|exact aB vi (by omega))
  ·refine yN 15 19 22 26 10 14 rfl rfl fun _ a w G1 hG HT H fin=>?_;refine EJ H (wg H rfl rfl (aG c0)) rfl rfl rfl ?_;clear H;intro a H;exact fin H iJ rfl
  ·refine dJ 10 14 23 27 rfl rfl fun _ a w G1 hG HT H fin=>?_;refine kH H (Pt (aG c0) rfl ?_);clear H;intro a H;exact fin H iJ (dL (by first|(rw [jM c0,D7];done)|(rw [jY c0,uG];done)))
  ·refine fq 24 28 rfl rfl fun _ a w G1 hG HT H fin=>?_;refine s_call jO H wn rfl (jQ _ _ H.ro _ 7) rfl ?_;clear H;rintro v29 VR a w ⟨rfl,-⟩ R8 H;exact fin H R8 (rfl)
  ·refine dJ 35 39 28 32 rfl rfl fun _ a w G1 hG HT H fin=>?_;refine OO H (wg H rfl rfl (aG c0)) rfl rfl rfl ?_;clear H;intro a H;exact fin H iJ (by show _=_;first|rfl|exact aB vi (by omega))
  ·refine dJ 36 40 28 32 rfl rfl fun _ a w G1 hG HT H fin=>?_;refine nS _ H (wg H rfl rfl (aG c0)) rfl rfl rfl (by omega) (by omega) rfl ?_;clear H;intro a H;exact fin H iJ (by show _=_;first|rfl|exact aB vi (by omega))
  ·refine yN 33 37 40 44 28 32 rfl rfl fun _ a w G1 hG HT H fin=>?_;refine apJ H (wg H rfl rfl (aG c0)) rfl rfl rfl ?_;clear H;intro a H;exact fin H iJ rfl
  ·refine dJ 28 32 41 45 rfl rfl fun _ a w G1 hG HT H fin=>?_;refine kH H (Pt (aG c0) rfl ?_);clear H;intro a H;exact fin H iJ (dL (by first|(rw [jM c0,D7];done)|(rw [jY c0,uG];done)))
  ·refine fq 42 46 rfl rfl fun _ a w G1 hG HT H fin=>?_;refine s_call jO H wn rfl (jQ _ _ H.ro _ 6) rfl ?_;clear H;rintro v47 VY a w ⟨rfl,-⟩ Sd H;exact fin H Sd (rfl)
  ·refine fq 48 52 rfl rfl fun _ a w G1 hG HT H fin=>?_;refine s_call QM H wn rfl (Vj _ _ H.ro x.value hte.2) rfl ?_;clear H;rintro v53 V3 a w rfl Kk H;exact fin H Kk (rfl)
  clear H;intro a w G nu H hv;have H:=H.aM (hv 7 11 rfl rfl) rfl;have H:=H.aM (hv 25 29 rfl rfl) rfl;have H:=H.aM (hv 43 47 rfl rfl) rfl;have H:=H.aM (hv 49 53 rfl rfl) rfl;clear hv;refine iE qI iA [_,_,_,_] [_,_,_,_] H wn rfl rfl rfl rfl rfl (by intro i q h;match i,h with|0,h=>exact h|1,h=>exact h|2,h=>exact h|3,h=>exact h|n+4,h=>simp at h) rfl rfl ?_;clear H;intro A9 a w Zl H;obtain ⟨G54,als,SA,H⟩:=H.eH;refine s_call rQ H wn rfl (rT _ _ H.ro _ _ (Gj [dw (!sH x.name) 13,dw (decide (0 < (k:Int)) && (x.name.toList == y.name.toList)) 7,dw (decide (0 < (k:Int)) && Op.bytesLess x.name.toList y.name.toList) 6,Dw x.value] SA (show 4≤maxLen by decide))) rfl ?_;clear H;rintro v55 _ a w ⟨rfl,rfl⟩ - H;refine kH H (Ra rfl ?_);clear H;intro a H;refine aD ⟨rfl,?_⟩;refine K2 _ _ ?_;clear K2;refine lr H results191 rfl ?_;exact H.rt (by rw [he];rfl)
 skip;refine dI hmx [[],[],[0,1],[0,1,2],(ra 0 4),(ra 0 5),(ra 0 6),(ra 0 7),[],[8],(ra 0 10),(ra 0 11),(ra 0 11),(ra 0 13),(ra 0 14),(ra 0 15),(ra 0 11),(ra 0 11),(ra 0 11++[17]),(ra 0 11++[17,18]),(ra 0 11++ra 16 4),(ra 0 11++ra 16 5),(ra 0 11++ra 16 6),(ra 0 23),(ra 0 24),(ra 0 25),[],[26],(ra 0 28),(ra 0 29),(ra 0 29),(ra 0 31),(ra 0 32),(ra 0 33),(ra 0 29),(ra 0 29),(ra 0 29++[35]),(ra 0 29++[35,36]),(ra 0 29++ra 34 4),(ra 0 29++ra 34 5),(ra 0 29++ra 34 6),(ra 0 41),(ra 0 42),(ra 0 43),[],[],[44,45],[44,45,46],(ra 44 4),(ra 0 49),(ra 0 50),(ra 0 51),(ra 0 52)] [50,51,52] (by kernel_rfl) [_,_,_,_,_,.bool (sH x.name),_,vi (dw (!sH x.name) 13),_,_,_,undef,undef,undef,undef,undef,undef,undef,undef,undef,undef,undef,undef,undef,.bool (decide (0 < (k:Int)) && (x.name.toList == y.name.toList)),vi (dw (decide (0 < (k:Int)) && (x.name.toList == y.name.toList)) 7),_,_,_,undef,undef,undef,undef,undef,undef,undef,undef,undef,undef,undef,undef,undef,.bool (decide (0 < (k:Int)) && Op.bytesLess x.name.toList y.name.toList),vi (dw (decide (0 < (k:Int)) && Op.bytesLess x.name.toList y.name.toList) 6),_,_,_,_,_,vi (Dw x.value)] H (aF (X0 rfl fun hG=>Rg yK rfl (aJ hG hb)) (Z0 rfl (Rm rfl)) (Z2 0 4 1 5 rfl (Ri wE Ao rfl rfl)) (Z1 2 6 rfl (Rf Ij rfl)) (aF (X1 3 7 rfl fun hG=>Rg iN rfl (aJ hG (hrow 0 _ rfl))) ?_ (Z1 5 9 rfl (Rn rfl)) ?_ (aF (Z0 rfl (Rm rfl)) (Z1 8 12 rfl (Rc rfl)) (Z1 9 13 rfl (Rm rfl)) (aV 10 (aS c0) rfl rfl) (aF (aV 10 (aS c0) rfl rfl) (aV 10 (aS c0) rfl rfl) (aV 10 (aS c0) rfl rfl) (aV 10 (aS c0) rfl rfl) (aF (aV 10 (aS c0) rfl rfl) (aV 10 (aS c0) rfl rfl) (aV 10 (aS c0) rfl rfl) (aV 10 (aS c0) rfl rfl) (aF (aV 10 (aS c0) rfl rfl) (aV 10 (aS c0) rfl rfl) (aV 10 (aS c0) rfl rfl) (aV 10 (aS c0) rfl rfl) (aF ?_ ?_ (Z0 rfl (Rm rfl)) (Z1 26 30 rfl (Rc rfl)) (aF (Z1 27 31 rfl (Rm rfl)) (aV 28 (aS c0) rfl rfl) (aV 28 (aS c0) rfl rfl) (aV 28 (aS c0) rfl rfl) (aF (aV 28 (aS c0) rfl rfl) (aV 28 (aS c0) rfl rfl) (aV 28 (aS c0) rfl rfl) (aV 28 (aS c0) rfl rfl) (aF (aV 28 (aS c0) rfl rfl) (aV 28 (aS c0) rfl rfl) (aV 28 (aS c0) rfl rfl) (aV 28 (aS c0) rfl rfl) (aF (aV 28 (aS c0) rfl rfl) (aV 28 (aS c0) rfl rfl) ?_ ?_ (aF (X0 rfl fun hG=>Rg yK rfl (aJ hG hb)) (Z0 rfl (Rm rfl)) (Z2 44 48 45 49 rfl (Ri wE Ao rfl rfl)) (Z1 46 50 rfl (Rf YB rfl)) (aF (X1 47 51 rfl fun hG=>Rg iN rfl (aJ hG (hrow 1 _ rfl))) ?_ (bS rfl) (bS rfl) (bR (bS rfl) dz)))))))))))))) ?_
 ·refine fq 4 8 rfl rfl fun _ a w G1 hG HT H fin=>?_;refine s_call QN H wn rfl (Qy _ _ H.ro x.name hte.1) rfl ?_;clear H;rintro v9 G9 a w ⟨rfl,-⟩ Sl H;exact fin H Sl (rfl)
 ·refine fq 6 10 rfl rfl fun _ a w G1 hG HT H fin=>?_;refine s_call jO H wn rfl (jQ _ _ H.ro _ 13) rfl ?_;clear H;rintro v11 sw a w ⟨rfl,-⟩ lQ H;exact fin H lQ (rfl)
 ·refine dJ 10 14 23 27 rfl rfl fun _ a w G1 hG HT H fin=>?_;refine kH H (Pf (aS c0) rfl ?_);clear H;intro a H;exact fin H iJ (dL (by first|(rw [jM c0,D7];done)|(rw [jY c0,uG];done)))
 ·refine fq 24 28 rfl rfl fun _ a w G1 hG HT H fin=>?_;refine s_call jO H wn rfl (jQ _ _ H.ro _ 7) rfl ?_;clear H;rintro v29 VR a w ⟨rfl,-⟩ R8 H;exact fin H R8 (rfl)
 ·refine dJ 28 32 41 45 rfl rfl fun _ a w G1 hG HT H fin=>?_;refine kH H (Pf (aS c0) rfl ?_);clear H;intro a H;exact fin H iJ (dL (by first|(rw [jM c0,D7];done)|(rw [jY c0,uG];done)))
 ·refine fq 42 46 rfl rfl fun _ a w G1 hG HT H fin=>?_;refine s_call jO H wn rfl (jQ _ _ H.ro _ 6) rfl ?_;clear H;rintro v47 VY a w ⟨rfl,-⟩ Sd H;exact fin H Sd (rfl)
 ·refine fq 48 52 rfl rfl fun _ a w G1 hG HT H fin=>?_;refine s_call QM H wn rfl (Vj _ _ H.ro x.value hte.2) rfl ?_;clear H;rintro v53 V3 a w rfl Kk H;exact fin H Kk (rfl)
 clear H;intro a w G nu H hv;have H:=H.aM (hv 7 11 rfl rfl) rfl;have H:=H.aM (hv 25 29 rfl rfl) rfl;have H:=H.aM (hv 43 47 rfl rfl) rfl;have H:=H.aM (hv 49 53 rfl rfl) rfl;clear hv;refine iE qI iA [_,_,_,_] [_,_,_,_] H wn rfl rfl rfl rfl rfl (by intro i q h;match i,h with|0,h=>exact h|1,h=>exact h|2,h=>exact h|3,h=>exact h|n+4,h=>simp at h) rfl rfl ?_;clear H;intro A9 a w Zl H;obtain ⟨G54,als,SA,H⟩:=H.eH;refine s_call rQ H wn rfl (rT _ _ H.ro _ _ (Gj [dw (!sH x.name) 13,dw (decide (0 < (k:Int)) && (x.name.toList == y.name.toList)) 7,dw (decide (0 < (k:Int)) && Op.bytesLess x.name.toList y.name.toList) 6,Dw x.value] SA (show 4≤maxLen by decide))) rfl ?_;clear H;rintro v55 _ a w ⟨rfl,rfl⟩ - H;refine kH H (Ra rfl ?_);clear H;intro a H;refine aD ⟨rfl,?_⟩;refine K2 _ _ ?_;clear K2;refine lr H results191 rfl ?_;exact H.rt (by rw [he];rfl)
def MJ (l:List lX):Int:=dR [dw (decide (128 < (l.length:Int))) 9,kK (Js l) (min l.length 128)]
theorem aeS (G:GH) (w0:World) (hG:Hold G w0) (l:List lX) (v:aj) (hv:av G (.sl 2 (l.map lX.dat)) v) (hl:l.length≤4294967296) (ht:∀ x∈l,x.name.size < 4611686018427387904∧x.value.size < 4611686018427387904) :
  Calls prog 122 #[v] w0 (aZ w0 G fun u G'=>u=vi (MJ l)):=by
 obtain ⟨A,c,rfl,hc1,hc2,-⟩:=hv.slice;rw [bG] at *;refine eN [(0,_)] func122 rfl ntmps122 rfl rfl hG ?_;intro a H;refine cu (fun _ K1=>?_);refine dQ (cs:=[_]) H wn rfl rfl rfl ?_;clear H;intro b1 a w hb1 H;refine kH H (ak K1 rfl (SQ fun _ K2=>?_));clear H K1;intro a H;have H:=H.sub (T':=[(1,_)]) ⟨rfl,aC⟩;obtain ⟨Ga,hma,hb1',H⟩:=H.eH
 have hbl:aI Ga b1 0=some (.slice A l.length c):=by unfold aI;rw [hb1'];rfl
 have hcb:=arN hbl (hv.mono hma) hl ht;refine dI hmx [[],[0],[0,1],[0,1,2],[],[4],[4,5],[],(ra 0 8),(ra 0 9),(ra 0 10),(ra 0 11)] [9,10,11] (by kernel_rfl) [_,_,_,vi (dw (decide (128 < (l.length:Int))) 9),_,_,vi ((min l.length 128:Nat):Int),.func (.func 191) #[] #[(aK b1 0)],vi (kK (Js l) (min l.length 128))] H (aF (X0 rfl fun hG=>Rg yK rfl (aJ hG hbl)) (Z1 0 3 rfl (Rl wE rfl)) (Z1 1 4 rfl (Rc rfl)) ?_ (aF (X0 rfl fun hG=>Rg yK rfl (aJ hG hbl)) (Z1 4 7 rfl (Rl wE rfl)) ?_ ?_ (aF ?_ (bS rfl) (bS rfl) (bS rfl) dz))) ?_
 ·refine fq 2 5 rfl rfl fun _ a w G1 hG HT H fin=>?_;refine s_call jO H wn rfl (jQ _ _ H.ro _ 9) rfl ?_;clear H;rintro v6 G6 a w ⟨rfl,-⟩ iL H;exact fin H iL (rfl)
 ·refine fq 5 8 rfl rfl fun _ a w G1 hG HT H fin=>?_;refine OP H wn rfl rfl rfl ?_;clear H;intro a H;exact fin H iJ (aB vi (by omega))
 ·refine Ci rfl fun _ a w G1 hG HT H fin=>?_;refine oZ H wn rfl rfl ?_;clear H;intro a H;exact fin H iJ rfl
 ·refine dJ 6 9 7 10 rfl rfl fun _ a w G1 hG HT H fin=>?_;refine s_call Ih H wn rfl (JG _ _ H.ro (min l.length 128) (Js l) _ (by omega) ((hcb.mono hG).le (Nat.min_le_left _ _))) rfl ?_;clear H;rintro v11 sw a w rfl lQ H;exact fin H lQ (rfl)
 clear H;intro a w G nu H hv;have H:=H.aM (hv 3 6 rfl rfl) rfl;have H:=H.aM (hv 8 11 rfl rfl) rfl;clear hv;refine iE qI iA [_,_] [_,_] H wn rfl rfl rfl rfl rfl (by intro i q h;match i,h with|0,h=>exact h|1,h=>exact h|n+2,h=>simp at h) rfl rfl ?_;clear H;intro b12 a w FU H;obtain ⟨DL,CU,FV,H⟩:=H.eH;refine s_call rQ H wn rfl (rT _ _ H.ro _ _ (zu FV)) rfl ?_;clear H;rintro v13 _ a w ⟨rfl,rfl⟩ - H;refine kH H (Ra rfl ?_);clear H;intro a H;refine aD ⟨rfl,?_⟩;refine K2 _ _ ?_;clear K2;refine lr H results122 rfl ?_;exact H.rt rfl
structure AU where
 styles:List bV
 lists:List fI
 comments:List iT
 vars:List lX
structure zF (G:GH) (s:AU) (a b c d:aj):Prop where
 st:av G (.sl 6 (s.styles.map bV.dat)) a
 li:av G (.sl 2 (s.lists.map fI.dat)) b
 cm:av G (.sl 6 (s.comments.map iT.dat)) c
 va:av G (.sl 2 (s.vars.map lX.dat)) d
structure Qb (s:AU):Prop where
 sn:∀ x∈s.styles,x.name.size≤4611686018427387904
 ln:s.lists.length≤4294967296
 lt:∀ x∈s.lists,∀ y∈x.levels,y.Al.size < 4611686018427387904
 cn:s.comments.length≤4294967296
 ct:∀ x∈s.comments,x.author.size < 4611686018427387904∧x.text.size < 4611686018427387904
 vn:s.vars.length≤4294967296
 vt:∀ x∈s.vars,x.name.size < 4611686018427387904∧x.value.size < 4611686018427387904
 pl:∀ x∈s.styles,x.props.length≤4294967296
 ll:∀ x∈s.lists,x.levels.length≤4294967296
def JL (s:AU):Int:=dR [ig s.styles,JK s.lists,MI s.comments,MJ s.vars]
theorem aeR (G:GH) (w0:World) (hG:Hold G w0) (s:AU) (a b c d:aj) (hR:zF G s a b c d) (hz:Qb s) :
  Calls prog 67 #[.agg #[a,b,c,d]] w0 (aZ w0 G fun u G'=>u=vi (JL s)):=by
 obtain ⟨sA,sn,sc,rfl⟩:=hR.st.form;obtain ⟨lA,ln,lc,rfl⟩:=hR.li.form;obtain ⟨cA,cn,cc,rfl⟩:=hR.cm.form;obtain ⟨vA,vn,vc,rfl⟩:=hR.va.form;refine eN [(0,_)] func67 rfl ntmps67 rfl rfl hG ?_;intro a H;refine cu (fun _ K1=>?_);refine dQ (cs:=[_,_,_,_]) H wn rfl rfl rfl ?_;clear H;intro b1 a w hb1 H;refine kH H (ak K1 rfl (SQ fun _ K2=>?_));clear H K1;intro a H;have H:=H.sub (T':=[(1,_)]) ⟨rfl,aC⟩;obtain ⟨Ga,hma,hb1',H⟩:=H.eH
 have hc0:aI Ga b1 0=some (.slice sA sn sc):=by unfold aI;rw [hb1'];rfl
 have hc1:aI Ga b1 1=some (.slice lA ln lc):=by unfold aI;rw [hb1'];rfl
 have hc2:aI Ga b1 2=some (.slice cA cn cc):=by unfold aI;rw [hb1'];rfl
 have hc3:aI Ga b1 3=some (.slice vA vn vc):=by unfold aI;rw [hb1'];rfl
 refine dI hmx [[],[0],[0,1],[],[3],(ra 0 5),[],[6],(ra 0 8),[],[9],(ra 0 11),(ra 0 12),(ra 0 13),(ra 0 14)] [12,13,14] (by kernel_rfl) [_,_,vi (ig s.styles),_,_,vi (JK s.lists),_,_,vi (MI s.comments),_,_,vi (MJ s.vars)] H (aF (Z0 rfl (Rf FH rfl)) (X1 0 3 rfl fun hG=>Rg rE rfl (aJ hG hc0)) ?_ (Z0 rfl (Rf FI rfl)) (aF (X1 3 6 rfl fun hG=>Rg Aq rfl (aJ hG hc1)) ?_ (Z0 rfl (Rf Rb rfl)) (X1 6 9 rfl fun hG=>Rg EP rfl (aJ hG hc2)) (aF ?_ (Z0 rfl (Rf Rh rfl)) (X1 9 12 rfl fun hG=>Rg yK rfl (aJ hG hc3)) ?_ (bR (bS rfl) (bR (bS rfl) (bR (bS rfl) dz)))))) ?_
 ·refine fq 1 4 rfl rfl fun _ a w G1 hG HT H fin=>?_;refine s_call agp H wn rfl (aeU _ _ H.ro s.styles _ ((hR.st.mono hma).mono hG) hz.sn) rfl ?_;clear H;rintro v5 G5 a w rfl mK H;exact fin H mK (rfl)
 ·refine fq 4 7 rfl rfl fun _ a w G1 hG HT H fin=>?_;refine s_call agq H wn rfl (aeP _ _ H.ro s.lists _ ((hR.li.mono hma).mono hG) hz.ln hz.lt) rfl ?_;clear H;rintro v8 G8 a w rfl pV H;exact fin H pV (rfl)
 ·refine fq 7 10 rfl rfl fun _ a w G1 hG HT H fin=>?_;refine s_call agr H wn rfl (aeN _ _ H.ro s.comments _ ((hR.cm.mono hma).mono hG) hz.cn hz.ct) rfl ?_;clear H;rintro v11 sw a w rfl lQ H;exact fin H lQ (rfl)
 ·refine fq 10 13 rfl rfl fun _ a w G1 hG HT H fin=>?_;refine s_call ags H wn rfl (aeS _ _ H.ro s.vars _ ((hR.va.mono hma).mono hG) hz.vn hz.vt) rfl ?_;clear H;rintro v14 Aw a w rfl CB H;exact fin H CB (rfl)
 clear H;intro a w G nu H hv;have H:=H.aM (hv 2 5 rfl rfl) rfl;have H:=H.aM (hv 5 8 rfl rfl) rfl;have H:=H.aM (hv 8 11 rfl rfl) rfl;have H:=H.aM (hv 11 14 rfl rfl) rfl;clear hv;refine iE qI iA [_,_,_,_] [_,_,_,_] H wn rfl rfl rfl rfl rfl (by intro i q h;match i,h with|0,h=>exact h|1,h=>exact h|2,h=>exact h|3,h=>exact h|n+4,h=>simp at h) rfl rfl ?_;clear H;intro b15 a w akq H;obtain ⟨EY,CV,akr,H⟩:=H.eH;refine s_call rQ H wn rfl (rT _ _ H.ro _ _ (Gj [ig s.styles,JK s.lists,MI s.comments,MJ s.vars] akr (show 4≤maxLen by decide))) rfl ?_;clear H;rintro v16 _ a w ⟨rfl,rfl⟩ - H;refine kH H (Ra rfl ?_);clear H;intro a H;refine aD ⟨rfl,?_⟩;refine K2 _ _ ?_;clear K2;refine lr H results67 rfl ?_;exact H.rt rfl
section
def iV:Nat→List (Int × aj)→List MapEntry
 | _,[]=>[]
 | i,(k,v) :: r=>⟨.int .i64 k,v,i⟩ :: iV (i+1) r
theorem aaO (x:Int × aj):∀ (i:Nat) (l:List (Int × aj)),iV i (l++[x])=iV i l++[⟨.int .i64 x.1,x.2,i+l.length⟩]
 | _,[]=>rfl
 | i,k :: r=>by
  rw [nJ,iV,aaO x (i+1) r,iV,nJ,kR,show i+1+r.length=i+(r.length+1) by omega]
def uT (x:Int):List (Int × aj)→Option aj
 | []=>none
 | (k,v) :: r=>if k=x then some v else uT x r
theorem KY {x:Int}:∀ {l:List (Int × aj)},x∉l.map (·.1)→uT x l=none
 | [],_=>rfl
 | (k,v) :: r,h=>by
  rw [uT,ah (fun e=>h (by simp [e])),KY (fun hm=>h (iQ _ hm))]
theorem Rq (x:Int):∀ (i j:Nat) (l:List (Int × aj)),∃ an,Instr.findNow (.int .i64) (.int .i64 x) (iV i l) j=some an∧an.map (·.2)=uT x l
 | _,_,[]=>⟨none,rfl,rfl⟩
 | i,j,(k,v) :: r=>by
  obtain ⟨an,h1,h2⟩:=Rq x (i+1) (j+1) r
  by_cases e:k=x
  ·subst e
   exact ⟨some (j,v),by simp only [iV,Instr.findNow,Instr.sameNow,au,beq_self_eq_true],by rw [uT,au rfl];rfl⟩
  ·have hb:(x == k)=false:=by simp;exact fun h=>e h.symm
   exact ⟨an,by simpa only [iV,Instr.findNow,Instr.sameNow,au,hb] using h1,by rw [uT,ah e];exact h2⟩
abbrev fD (l:List (Int × aj)):Obj:=.map (iV 0 l).toArray l.length
section
variable {N:Nat} {D:List Deferred} {w0:World} {F:Nat→Prop} {G0 G:GH} {L:OL} {T:List (Nat × aj)}
variable {r:Option Nat} {P:Program} {ops:Array Oper} {Q:Exit→Act→World→Prop} {rest:List Oper} {a:Act} {w:World}
variable {d:Nat} {ty:TypeId} {pos:String} {aL:Array Edge} {g:Option (Nat × Bool)}
theorem Ak {t kt et:TypeId} {x y:Operand} {b:Nat} {l:List (Int × aj)} {ky:Int} {zv:aj} (hm:P.underlying t=some (.map kt et)) (hk:P.underlying kt=some (.int .i64)) (hz:(P.info? et).map (fun i=>i.zero)=some (some zv)) (H:St N D w0 F G0 G L T a w)
  (hw:Region.wanted ⟨some d,.lookup t x y false,ty,pos,aL,g⟩ (yielded ops a.tmps)=true) (hx:ev T x=some (.map (some b))) (hy:ev T y=some (.int .i64 ky)) (hb:w.heap[b]?=some (fD l)) (hd:Nat.blt d N=true)
  (k:∀ a',St N D w0 F G0 G L ((d,(uT ky l).getD zv) :: T) a' w→WL r P ops Q rest a' w):WL r P ops Q (⟨some d,.lookup t x y false,ty,pos,aL,g⟩ :: rest) a w:=by
 obtain ⟨an,hf,han⟩:=Rq ky 0 0 l
 obtain ⟨inf,hi1,hi2⟩:=ou.1 hz
 refine fO (v:=(uT ky l).getD zv) (w':=w) hw rfl ?_ (k _ (H.put hd _ H.hp))
 have hkey:MapKept.IsKey (.int .i64) (.int .i64 ky):=by trivial
 have hf2:Instr.findNow (.int .i64) (.int .i64 ky) (iV 0 l).toArray.toList 0=some an:=by simpa using hf
 replace hb:w.heap[b]?=some (.map (iV 0 l).toArray l.length):=hb
 generalize (iV 0 l).toArray=es at hb hf2
 have h1:=MapKept.run_checkKey (P:=P) (w:=w) hk hkey es.isEmpty 9999
 have h2:=MapKept.run_findKey (P:=P) (w:=w) hk hf2
 rw [← han]
 cases an with
 | none=>simp [execOp,Instr.lookup,H.ev hx,H.ev hy,dO,mW hm,MapKept.run_getObj_map hb,h1,h2,Result.andThen,zeroValue,EI hi1,hi2]
 | some q=>simp [execOp,Instr.lookup,H.ev hx,H.ev hy,dO,mW hm,MapKept.run_getObj_map hb,h1,h2,Result.andThen]
theorem Lm {t kt et:TypeId} {x y z:Operand} {b i:Nat} {l:List (Int × aj)} {ky:Int} {v:aj} (hm:P.underlying t=some (.map kt et)) (hk:P.underlying kt=some (.int .i64)) (H:St N D w0 F G0 G L T a w)
  (hw:Region.wanted ⟨none,.mapUpdate t x y z,ty,pos,aL,g⟩ (yielded ops a.tmps)=true) (hx:ev T x=some (.map (some b))) (hy:ev T y=some (.int .i64 ky)) (hzv:ev T z=some v) (hi:L[i]?=some (b,fD l)) (hn:uT ky l=none)
  (k:∀ w',St N D w0 F G0 G (L.set i (b,fD (l++[(ky,v)]))) T a w'→WL r P ops Q rest a w'):WL r P ops Q (⟨none,.mapUpdate t x y z,ty,pos,aL,g⟩ :: rest) a w:=by
 obtain ⟨an,hf,han⟩:=Rq ky 0 0 l
 have hnone:an=none:=by
  rw [hn] at han
  cases an with
  | none=>rfl
  | some q=>cases han
 subst hnone
 refine abT (i:=i) hm hk H hw hx hy hzv hi (by trivial) (by simpa using hf) ?_
 intro w' H'
 have e:(iV 0 l).toArray.push ⟨.int .i64 ky,v,l.length⟩=(iV 0 (l++[(ky,v)])).toArray:=by
  rw [aaO,List.push_toArray,gI]
 refine k w' ?_
 rw [e] at H'
 rw [fD,iI]
 exact H'
end
end
theorem xG:prog.underlying 131=some (.map 3 4):=by kernel_rfl
theorem oH:Ty prog 102 3 32 [.int .i64 0,.string ⟨#[]⟩,.int .i64 0] true:=⟨by kernel_rfl,by kernel_rfl⟩
theorem aqR:pK prog 133 [(0,1),(1,1),(2,1),(3,1),(4,1),(5,1)] [.map none,.map none,.map none,.map none,.map none,.int .i64 0]:=⟨by kernel_rfl,by kernel_rfl⟩
theorem J6:dH prog 38 3 7:=⟨by kernel_rfl⟩
theorem JZ:dH prog 133 0 0:=⟨by kernel_rfl⟩
theorem LC:Ty prog 130 1 8 [.map none] false:=⟨by kernel_rfl,by kernel_rfl⟩
theorem YD:dH prog 133 1 1:=⟨by kernel_rfl⟩
theorem uj:Ty prog 131 1 8 [.map none] false:=⟨by kernel_rfl,by kernel_rfl⟩
theorem Ee:dH prog 38 2 6:=⟨by kernel_rfl⟩
theorem yJ:Ty prog 30 1 24 [.slice none 0 0] false:=⟨by kernel_rfl,by kernel_rfl⟩
theorem pz:prog.underlying 30=some (.slice 102):=by kernel_rfl
theorem J2:dH prog 133 2 2:=⟨by kernel_rfl⟩
theorem Q6:dH prog 102 0 0:=⟨by kernel_rfl⟩
structure dh where
 id:Int
 author:ByteArray
 time:Int
def dh.dat (x:dh):List Dat:=[li x.id,.lf (.string x.author),li x.time]
abbrev dh.cells (x:dh):List aj:=[vi x.id,.string x.author,vi x.time]
theorem UZ {G:GH} {x:dh} {cs:List aj} (h:aU G x.dat cs):cs=x.cells:=by
 simp only [dh.dat,aU,av] at h
 obtain ⟨_,_,rfl,⟨rfl,_⟩,_,_,rfl,⟨rfl,_⟩,_,_,rfl,⟨rfl,_⟩,rfl⟩:=h
 rfl
theorem UY {G:GH} {l:List dh} {A:Option Addr} {n c k:Nat} (hv:av G (.sl 3 (l.map dh.dat)) (.slice A n c)) (hk:k < l.length):∃ b o,A=some ⟨b,o,none⟩∧(∀ j u,l[k].cells[j]?=some u→aI G b (o+k*3+j)=some u):=by
 obtain ⟨A',c',he,_,_,hg⟩:=hv.slice
 injection he with e1 e2 e3
 subst e1;obtain ⟨b,o,cs,h1,h2,h3,h4⟩:=hg k l[k].dat (by simp [hk]);have:=UZ h4;subst this;exact ⟨b,o,h1,h3⟩
abbrev gB (b ms ml mr mb mu:Nat) (n:Int):Nat × Obj:=(b,.cells #[.map (some ms),.map (some ml),.map (some mr),.map (some mb),.map (some mu),vi n] 133 (0,0))
def Ae (l:List bV):List (Int × aj):=l.map fun s=>(s.id,vi s.kind)
def fU (l:List Int):List (Int × aj):=l.map fun k=>(k,.bool true)
structure wH (us:List Int) (G:GH) (st:List bV) (li:List fI) (rv:List dh) (ms ml mr mu:Nat):Prop where
 sty:G ms=some (fD (Ae st))
 wh:G ml=some (fD (fU (li.map fI.id)))
 rev:G mr=some (fD (fU (rv.map dh.id)))
 use:G mu=some (fD (fU us))
theorem wH.mono {us:List Int} {G G':GH} {st:List bV} {li:List fI} {rv:List dh} {ms ml mr mu:Nat} (h:wH us G st li rv ms ml mr mu) (hm:∀ b o,G b=some o→G' b=some o):wH us G' st li rv ms ml mr mu:=⟨hm _ _ h.sty,hm _ _ h.wh,hm _ _ h.rev,hm _ _ h.use⟩
structure PD (G:GH) (st:List bV) (li:List fI) (rv:List dh) (ms ml mr:Nat):Prop where
 sty:G ms=some (fD (Ae st))
 wh:G ml=some (fD (fU (li.map fI.id)))
 rev:G mr=some (fD (fU (rv.map dh.id)))
theorem PD.with {us:List Int} {G G':GH} {st:List bV} {li:List fI} {rv:List dh} {ms ml mr mu:Nat} (h:PD G st li rv ms ml mr) (hm:∀ b o,G b=some o→G' b=some o) (hu:G' mu=some (fD (fU us))):wH us G' st li rv ms ml mr mu:=⟨hm _ _ h.sty,hm _ _ h.wh,hm _ _ h.rev,hu⟩
def Cc (l:List Int):Prop:=∀ (k:Nat) (h:k < l.length),l[k]∉l.take k
theorem ano {l:List bV} {k:Nat} (h:k < l.length):Ae (l.take (k+1))=Ae (l.take k)++[(l[k].id,vi l[k].kind)]:=by rw [Ae,iU h,lY];rfl
theorem aaL {l:List Int} {k:Nat} (h:k < l.length):fU (l.take (k+1))=fU (l.take k)++[(l[k],.bool true)]:=by rw [fU,iU h,lY];rfl
theorem anm {l:List bV} {k:Nat} (f:Cc (l.map bV.id)) (h:k < l.length):uT l[k].id (Ae (l.take k))=none:=by
 refine KY ?_;have:=f k (by simpa using h)
 simpa [Ae,List.map_take,List.map_map,Function.comp_def] using this
theorem aaK {l:List Int} {k:Nat} (f:Cc l) (h:k < l.length):uT l[k] (fU (l.take k))=none:=by
 refine KY ?_;have:=f k h
 simpa [fU,List.map_map,Function.comp_def] using this
theorem anI (G:GH) (w0:World) (hO:gD G [] w0) (D:jV) (st:List bV) (li:List fI) (rv:List dh) (hst:av G (.sl 6 (st.map bV.dat)) (cB D.s1)) (KA:av G (.sl 2 (li.map fI.dat)) (cB D.s2)) (oV:av G (.sl 3 (rv.map dh.dat)) (cB D.r))
  (f1:Cc (st.map bV.id)) (f2:Cc (li.map fI.id)) (f3:Cc (rv.map dh.id)) (z1:st.length≤4294967296) (z2:li.length≤4294967296) (z3:rv.length≤4294967296) :
  Calls prog 69 #[D.val] w0 (fV w0 G [] fun u G' L'=>∃ b ms ml mr mb mu,u=(aK b 0)∧L'=[gB b ms ml mr mb mu 0,(mb,fD []),(mu,fD [])]∧PD G' st li rv ms ml mr):=by
 obtain ⟨df,dp,dd,dy,⟨rA,rn,rc⟩,⟨sA,sn,sc⟩,⟨lA,ln,lc⟩,d3,d4,ins,mv⟩:=D;dsimp only at hst KA oV
 obtain rfl:sn=st.length:=by have:=hst.len;simpa using this
 obtain rfl:ln=li.length:=by have:=KA.len;simpa using this
 obtain rfl:rn=rv.length:=by have:=oV.len;simpa using this
 have hml:maxLen=9223372036854775807:=rfl;refine iX (N:=64) (T:=[(0,_)]) func69 rfl ntmps69 rfl rfl hO ?_;intro a H;refine cu (fun _ K1=>?_);refine dQ (cs:=[_,_,_,_,_,_,_,_,_,_,_]) H wn rfl rfl rfl ?_;clear H;intro b1 a w hb1 H;refine kH H (ak K1 rfl (SQ fun _ K2=>?_));clear H K1;intro a H;obtain ⟨Ga,hma,hb1',H⟩:=H.eH
 have hc7:aI Ga b1 7=some (.slice sA st.length sc):=by unfold aI;rw [hb1'];rfl
 have hc8:aI Ga b1 8=some (.slice lA li.length lc):=by unfold aI;rw [hb1'];rfl
 have hc6:aI Ga b1 6=some (.slice rA rv.length rc):=by unfold aI;rw [hb1'];rfl
 replace hst:=hst.mono hma;replace KA:=KA.mono hma;replace oV:=oV.mono hma;refine pR ?_;refine GQ H wn rfl ?_;clear H;intro b10 a w Zj H;refine GQ H wn rfl ?_;clear H;intro b11 a w Kw H;refine GQ H wn rfl ?_;clear H;intro b12 a w FU H;refine GQ H wn rfl ?_;clear H;intro b13 a w Nn H;refine GQ H wn rfl ?_;clear H;intro b14 a w Np H;refine jm aqR [_,_,_,_,_,_] H wn rfl rfl rfl rfl ?_;clear H;intro a H;refine dQ (cs:=[_,_,_,_,_,_]) H wn rfl rfl rfl ?_;clear H;intro b16 a w aks H;refine kH H (bq K2 rfl (SQ fun _ K3=>SR fun _ K4=>Rf J6 rfl (Rf FH rfl (Rg rE rfl (by assumption) ?_))));clear H K2;intro a H;refine kH H (Rl lV rfl (Rm rfl (Kz K4 (SB ?_))));clear H K4;intro a H;skip;refine eU (ι:=Nat × GH) (Tc:=[(1,_),(3,_),(19,_),(20,_)]) (Lc:=[(_,_),(_,_),(_,_),(_,_),(_,_)]) (fun gh=>[(21,vi gh.1)]) (fun gh=>[(b10,fD (Ae (st.take gh.1)))]) (fun gh=>gh.2) (fun gh=>gh.1≤st.length∧(∀ b o,Ga b=some o→gh.2 b=some o)) (fun gh=>st.length - gh.1) ((0,Ga)) (by exact (H).sub ⟨rfl,rfl,rfl,rfl,rfl,aC⟩) ?_ ?_
 ·exact ⟨gW _,fun _ _ h=>h⟩
 clear H;rintro ⟨k,g1⟩ a w hI H;dsimp only at hI H;obtain ⟨hk,IJ⟩:=hI;dsimp only [lca,bJ] at H;refine kP H (SR fun _ K5=>Rc rfl (Kz K5 (SQ fun _ K6=>Cd rfl ?_ ?_))) <;> clear H K5
 ·intro h22 a H
  try have iZ:=dT h22
  have hk2:k < st.length:=by omega
  obtain ⟨xb,xo,pA,pc,rfl,hrow,-,-⟩:=Dt (hst.mono IJ) hk2;have hnew:=anm f1 hk2;refine kP H (Kc K6 (SQ fun _ K7=>SB (SR fun _ K8=>Ri lV kr rfl rfl ?_)));clear H K6;intro a H;refine bL kr (cs:=_) H wn rfl rfl (fun j v hj=>H.hp.aI (hrow j v hj)) rfl ?_;clear H;intro a H;refine dS kr H wn rfl ?_;clear H;intro b5 a w hb5 H;refine bD kr 0 (vs:=[_,_,_,_,_,_]) _ H wn rfl rfl rfl rfl rfl rfl rfl rfl ?_;clear H;intro w H;dsimp only [List.set,setRow] at H;refine K8 _ _ ?_;clear K8;refine dI hmx [[],[0],[0,1],[0,1,2],[],[4],[],[6],(ra 0 8)] [8] (by kernel_rfl) [_,_,_,.map (some b10),_,vi st[k].id,_,vi st[k].kind] H (aF (Z0 rfl (Rm rfl)) (Z1 0 25 rfl (Rk rfl)) (Z1 1 26 rfl (Rf JZ rfl)) (Z1 2 27 rfl (Ro LC 1 rfl)) (aF (Z0 rfl (Rf wT rfl)) (Z1 4 29 rfl (Ro aH 0 rfl)) (Z0 rfl (Rf yV rfl)) (Z1 6 31 rfl (Ro aH 0 rfl)) (bR (bS rfl) dz))) ?_
  clear H;intro a w G mK H hv;have H:=H.aM (hv 3 28 rfl rfl) rfl;have H:=H.aM (hv 5 30 rfl rfl) rfl;have H:=H.aM (hv 7 32 rfl rfl) rfl;clear hv;refine Lm (i:=6) GX lu H wn rfl rfl rfl rfl hnew ?_;clear H;intro w H;dsimp only [List.set,List.append,lca,bJ] at H;rw [← ano hk2] at H;refine aD ⟨rfl,?_⟩;refine K7 _ _ ?_;clear K7;refine kP H (SC (Rd rfl (Rm rfl ?_)));clear H;intro a H;refine aD ?_;refine dD ((k+1,G)) (by exact (H.dY (Pl:=[_,_,_,_,_,_,_]) (dK:=[_,_,_,_,_,_]) [1,2,3,4,5,6] (by decide) rfl).sub ⟨rfl,rfl,rfl,rfl,rfl,aC⟩) ?_
  (try dsimp only);exact ⟨by omega,fun b o h=>mK b o (IJ b o h)⟩
 intro h22 a H
 try have iZ:=dF h22
 obtain rfl:k=st.length:=by omega
 rw [xL] at H;have atf:=aJ IJ hc8;refine dV ?_;refine K3 _ _ ?_;clear K3;refine kP H (SQ fun _ K9=>SR fun _ aR=>Rf J6 rfl (Rf FI rfl (Rg Aq rfl (by assumption) ?_)));clear H;intro a H;refine kH H (Rl xH rfl (Rm rfl (Kz aR (SB ?_))));clear H aR;intro a H;skip;refine eU (ι:=Nat × GH) (Tc:=[(1,_),(3,_),(36,_),(37,_)]) (Lc:=[(_,_),(_,_),(_,_),(_,_),(_,_)]) (fun gh=>[(38,vi gh.1)]) (fun gh=>[(b11,fD (fU ((li.map fI.id).take gh.1)))]) (fun gh=>gh.2) (fun gh=>gh.1≤li.length∧(∀ b o,g1 b=some o→gh.2 b=some o)) (fun gh=>li.length - gh.1) ((0,g1)) (by exact (H.dY (Pl:=[_,_,_,_,_,_]) (dK:=[_,_,_,_,_,_]) [0,1,2,3,5,4] (by decide) rfl).sub ⟨rfl,rfl,rfl,rfl,rfl,aC⟩) ?_ ?_
 ·exact ⟨gW _,fun _ _ h=>h⟩
 clear H;rintro ⟨k,g2⟩ a w hI H;dsimp only at hI H;obtain ⟨hk,NK⟩:=hI;dsimp only [lca,bJ] at H;refine kP H (SR fun _ bQ=>Rc rfl (Kz bQ (SQ fun _ bY=>Cd rfl ?_ ?_))) <;> clear H bQ
 ·intro jv a H
  try have p39:=dT jv
  have hk2:k < li.length:=by omega
  obtain ⟨xb,xo,B,d,rfl,hrow,-⟩:=Uj ((KA.mono IJ).mono NK) hk2
  have hk3:k < (li.map fI.id).length:=by simpa using hk2
  have hnew:=aaK f2 hk3
  have pX:(li.map fI.id)[k]=li[k].id:=by simp
  rw [pX] at hnew;refine kP H (Kc bY (SQ fun _ cZ=>SB (SR fun _ dG=>Ri xH Au rfl rfl ?_)));clear H bY;intro a H;refine bL Au (cs:=_) H wn rfl rfl (fun j v hj=>H.hp.aI (hrow j v hj)) rfl ?_;clear H;intro a H;refine dS Au H wn rfl ?_;clear H;intro b7 a w CO H;refine bD Au 0 (vs:=[_,_]) _ H wn rfl rfl rfl rfl rfl rfl rfl rfl ?_;clear H;intro w H;dsimp only [List.set,setRow] at H;refine dG _ _ ?_;clear dG;refine dI hmx [[],[0],[0,1],[0,1,2],[],[4],(ra 0 6)] [6] (by kernel_rfl) [_,_,_,.map (some b11),_,vi li[k].id] H (aF (Z0 rfl (Rm rfl)) (Z1 0 42 rfl (Rk rfl)) (Z1 1 43 rfl (Rf YD rfl)) (Z1 2 44 rfl (Ro uj 1 rfl)) (bR (Z0 rfl (Rf YJ rfl)) (bR (Z1 4 46 rfl (Ro aH 0 rfl)) (bR (bS rfl) dz)))) ?_
  clear H;intro a w G qU H hv;have H:=H.aM (hv 3 45 rfl rfl) rfl;have H:=H.aM (hv 5 47 rfl rfl) rfl;clear hv;refine Lm (i:=6) xG lu H wn rfl rfl rfl rfl hnew ?_;clear H;intro w H;dsimp only [List.set,List.append,lca,bJ] at H;rw [← pX,← aaL hk3] at H;refine aD ⟨rfl,?_⟩;refine cZ _ _ ?_;clear cZ;refine kP H (SC (Rd rfl (Rm rfl ?_)));clear H;intro a H;refine aD ?_;refine dD ((k+1,G)) (by exact (H.dY (Pl:=[_,_,_,_,_,_,_]) (dK:=[_,_,_,_,_,_]) [1,2,3,4,5,6] (by decide) rfl).sub ⟨rfl,rfl,rfl,rfl,rfl,aC⟩) ?_
  (try dsimp only);exact ⟨by omega,fun b o h=>qU b o (NK b o h)⟩
 intro jv a H
 try have p39:=dF jv
 obtain rfl:k=li.length:=by omega
 rw [iC (by simp)] at H;have ate:=aJ NK (aJ IJ hc6);refine dV ?_;refine K9 _ _ ?_;clear K9;refine kP H (SQ fun _ dZ=>SR fun _ eB=>Rf Ee rfl (Rg yJ rfl (by assumption) ?_));clear H;intro a H;refine kH H (Rl pz rfl (Rm rfl (Kz eB (SB ?_))));clear H eB;intro a H;skip;refine eU (ι:=Nat × GH) (Tc:=[(3,_),(50,_),(51,_)]) (Lc:=[(_,_),(_,_),(_,_),(_,_),(_,_)]) (fun gh=>[(52,vi gh.1)]) (fun gh=>[(b12,fD (fU ((rv.map dh.id).take gh.1)))]) (fun gh=>gh.2) (fun gh=>gh.1≤rv.length∧(∀ b o,g2 b=some o→gh.2 b=some o)) (fun gh=>rv.length - gh.1) ((0,g2)) (by exact (H.dY (Pl:=[_,_,_,_,_,_]) (dK:=[_,_,_,_,_,_]) [0,1,2,4,5,3] (by decide) rfl).sub ⟨rfl,rfl,rfl,rfl,aC⟩) ?_ ?_
 ·exact ⟨gW _,fun _ _ h=>h⟩
 clear H;rintro ⟨k,g3⟩ a w hI H;dsimp only at hI H;obtain ⟨hk,ZK⟩:=hI;dsimp only [lca,bJ] at H;refine kP H (SR fun _ dW=>Rc rfl (Kz dW (SQ fun _ fC=>Cd rfl ?_ ?_))) <;> clear H dW
 ·intro RQ a H
  try have p53:=dT RQ
  have hk2:k < rv.length:=by omega
  obtain ⟨xb,xo,rfl,hrow⟩:=UY (((oV.mono IJ).mono NK).mono ZK) hk2
  have hk3:k < (rv.map dh.id).length:=by simpa using hk2
  have hnew:=aaK f3 hk3
  have pX:(rv.map dh.id)[k]=rv[k].id:=by simp
  rw [pX] at hnew;refine kP H (Kc fC (SQ fun _ gQ=>SB (SR fun _ fM=>Ri pz oH rfl rfl ?_)));clear H fC;intro a H;refine bL oH (cs:=_) H wn rfl rfl (fun j v hj=>H.hp.aI (hrow j v hj)) rfl ?_;clear H;intro a H;refine dS oH H wn rfl ?_;clear H;intro b9 a w Bo H;refine bD oH 0 (vs:=[_,_,_]) _ H wn rfl rfl rfl rfl rfl rfl rfl rfl ?_;clear H;intro w H;dsimp only [List.set,setRow] at H;refine fM _ _ ?_;clear fM;refine dI hmx [[],[0],[0,1],[0,1,2],[],[4],(ra 0 6)] [6] (by kernel_rfl) [_,_,_,.map (some b12),_,vi rv[k].id] H (aF (Z0 rfl (Rm rfl)) (Z1 0 56 rfl (Rk rfl)) (Z1 1 57 rfl (Rf J2 rfl)) (Z1 2 58 rfl (Ro uj 1 rfl)) (bR (Z0 rfl (Rf Q6 rfl)) (bR (Z1 4 60 rfl (Ro aH 0 rfl)) (bR (bS rfl) dz)))) ?_
  clear H;intro a w G CF H hv;have H:=H.aM (hv 3 59 rfl rfl) rfl;have H:=H.aM (hv 5 61 rfl rfl) rfl;clear hv;refine Lm (i:=6) xG lu H wn rfl rfl rfl rfl hnew ?_;clear H;intro w H;dsimp only [List.set,List.append,lca,bJ] at H;rw [← pX,← aaL hk3] at H;refine aD ⟨rfl,?_⟩;refine gQ _ _ ?_;clear gQ;refine kP H (SC (Rd rfl (Rm rfl ?_)));clear H;intro a H;refine aD ?_;refine dD ((k+1,G)) (by exact (H.dY (Pl:=[_,_,_,_,_,_,_]) (dK:=[_,_,_,_,_,_]) [1,2,3,4,5,6] (by decide) rfl).sub ⟨rfl,rfl,rfl,rfl,aC⟩) ?_
  (try dsimp only);exact ⟨by omega,fun b o h=>CF b o (ZK b o h)⟩
 intro RQ a H
 try have p53:=dF RQ
 obtain rfl:k=rv.length:=by omega
 rw [iC (by simp)] at H;refine dV ?_;refine dZ _ _ ?_;clear dZ;refine kP H (SR fun _ gV=>Rm rfl (ak gV rfl ?_));clear H gV;intro a H;refine bW ?_;have H:=H.dY (Pl:=[_,_,_,_,_,_]) (dK:=[_,_,_,_,_,_]) [3,4,5,0,2,1] (by decide) rfl;obtain ⟨Gs,hms,hs,H⟩:=H.eH;obtain ⟨Gl,Tj,hl,H⟩:=H.eH;obtain ⟨Gr,hmr,hr,H⟩:=H.eH;refine lv H results69 rfl ?_;exact H.hp.dx ⟨b16,b10,b11,b12,b13,b14,rfl,rfl,⟨hmr _ _ (Tj _ _ hs),hmr _ _ hl,hr⟩⟩
section
theorem ajc:dH prog 133 4 4:=⟨by kernel_rfl⟩
theorem YE:dH prog 133 3 3:=⟨by kernel_rfl⟩
variable {us:List Int}
theorem EB (x:Int):∀ l:List Int,(uT x (fU l)).getD (.bool false)=.bool (decide (x∈l))
 | []=>rfl
 | k :: r=>by
  have ih:=EB x r;rw [fU,fK,uT]
  by_cases e:k=x
  ·subst e;simp
  rw [ah e,show (r.map fun k=>(k,Value.bool true))=fU r from rfl,ih]
  simp [show x≠k from fun h=>e h.symm]
def OW (st:List bV) (v:Int):Int:=((st.find? fun s=>decide (s.id=v)).map bV.kind).getD 0
theorem KZ (x:Int):∀ l:List bV,(uT x (Ae l)).getD (vi 0)=vi (OW l x)
 | []=>rfl
 | s :: r=>by
  have ih:=KZ x r;rw [Ae,fK,uT]
  by_cases e:s.id=x
  ·subst e;simp [OW]
  rw [ah e,show (r.map fun s=>(s.id,vi s.kind))=Ae r from rfl,ih]
  simp [OW,e]
def qE (us bH:List Int) (x:Int):Int:=if ¬ (1≤x∧x≤1073741824)∨x∈us then 18 else if x∈bH then 7 else 0
def kL (us bH:List Int) (x:Int):List Int:=if qE us bH x=0 then bH++[x] else bH
theorem anl (l:List Int) (x:Int):fU (l++[x])=fU l++[(x,.bool true)]:=by simp [fU]
theorem Qs (G:GH) (L:OL) (w0:World) (st:List bV) (li:List fI) (rv:List dh) (b ms ml mr mb mu:Nat) (n:Int) (bH:List Int) (x:Int) (hck:wH us G st li rv ms ml mr mu) (hO:gD G (gB b ms ml mr mb mu n :: (mb,fD (fU bH)) :: L) w0) :
  Calls prog 198 #[(aK b 0),vi x] w0 (fV w0 G (gB b ms ml mr mb mu n :: (mb,fD (fU bH)) :: L) fun u G' L'=>u=vi (qE us bH x)∧L'=gB b ms ml mr mb mu n :: (mb,fD (fU (kL us bH x))) :: L∧G=G'):=by
 refine iX (N:=29) (T:=[(0,_),(1,_)]) func198 rfl ntmps198 rfl rfl hO ?_;intro a H;refine kP H (SR fun _ K1=>ak K1 rfl (SQ fun _ K2=>SB (SR fun _ K3=>Rm rfl ?_)));clear H K1;intro a H;refine s_call xS H wn rfl (yw _ _ H.ro x 1 1073741824) rfl ?_;clear H;rintro v7 _ a w ⟨rfl,rfl⟩ - H;refine kH H (Rn rfl (Rm rfl (Sp 9 rfl ?_ ?_))) <;> clear H
 ·intro h9 a H
  try have p9:=dT h9
  refine kH H (bF h9 rfl (bF h9 rfl (Pt h9 rfl (ak K3 rfl (Ct rfl rfl (SQ fun _ K4=>?_))))));clear H K3;intro a H
  have e:qE us bH x=18:=by rw [qE,au (by first|(simp_all;done)|(simp_all;omega))]
  refine kP H (SC (bq K4 rfl ?_));clear H K4;intro a H;refine lr H results198 rfl ?_
  first
   | exact H.hp.dx ⟨by rw [e],by rw [kL,au e],rfl⟩
   | exact H.hp.dx ⟨by rw [e],by rw [kL,ah (by rw [e];decide)],rfl⟩
 intro h9 a H
 try have p9:=dF h9
 refine kH H (YM h9 rfl ?_);clear H;intro a H;refine uV H (wg H rfl rfl h9) rfl rfl ?_;clear H;intro a H;refine kH H (YF ajc h9 rfl (YO uj 0 h9 rfl (YM h9 rfl ?_)));clear H;intro a H;refine Ak (zv:=.bool false) xG lu (by kernel_rfl) H (wg H rfl rfl h9) rfl rfl (H.ro _ _ hck.use) rfl ?_;clear H;intro a H;rw [EB] at H;refine kH H (Pf h9 rfl (ak K3 rfl (Cd rfl ?_ ?_))) <;> clear H K3
 ·intro h5 a H
  try have p5:=dT h5
  refine bN (fun _ K5=>?_)
  have e:qE us bH x=18:=by rw [qE,au (by first|(simp_all;done)|(simp_all;omega))]
  refine kP H (SC (bq K5 rfl ?_));clear H K5;intro a H;refine lr H results198 rfl ?_
  first
   | exact H.hp.dx ⟨by rw [e],by rw [kL,au e],rfl⟩
   | exact H.hp.dx ⟨by rw [e],by rw [kL,ah (by rw [e];decide)],rfl⟩
 intro h5 a H
 try have p5:=dF h5
 have hin:¬ (¬ (1≤x∧x≤1073741824)∨x∈us):=by first|(simp_all;done)|(simp_all;omega)
 refine kP H (SR fun _ K6=>Rm rfl (Rk rfl (aY YE uj 0 rfl rfl (Rm rfl ?_))));clear H;intro a H;refine Ak (zv:=.bool false) xG lu (by kernel_rfl) H wn rfl rfl (H.hp.own _ (iQ _ gJ)) rfl ?_;clear H;intro a H;rw [EB] at H;refine kH H (ak K6 rfl (Cd rfl ?_ ?_)) <;> clear H K6
 ·intro eX a H
  refine bN (fun _ K7=>?_)
  have e:qE us bH x=7:=by rw [qE,ah hin,au (nK eX)]
  refine kP H (SC (bq K7 rfl ?_));clear H K7;intro a H;refine lr H results198 rfl ?_
  first
   | exact H.hp.dx ⟨by rw [e],by rw [kL,au e],rfl⟩
   | exact H.hp.dx ⟨by rw [e],by rw [kL,ah (by rw [e];decide)],rfl⟩
 intro eX a H
 have hx:x∉bH:=of_decide_eq_false eX;have hnew:uT x (fU bH)=none:=KY (by simpa [fU,List.map_map,Function.comp_def] using hx)
 have e:qE us bH x=0:=by rw [qE,ah hin,ah hx]
 refine kP H (Kc K2 (SR fun _ K8=>Rm rfl (Rk rfl (aY YE uj 0 rfl rfl (Rm rfl ?_)))));clear H K2;intro a H;refine Lm (i:=1) xG lu H wn rfl rfl rfl rfl hnew ?_;clear H;intro w H;dsimp only [List.set] at H;rw [← anl] at H;refine K8 _ _ ?_;clear K8;refine kP H (SR fun _ K9=>ak K9 rfl ?_);clear H K9;intro a H;refine lr H results198 rfl ?_
 first
  | exact H.hp.dx ⟨by rw [e],by rw [kL,au e],rfl⟩
  | exact H.hp.dx ⟨by rw [e],by rw [kL,ah (by rw [e];decide)],rfl⟩
def oF (st:List bV) (wh:List Int) (key v:Int):Int :=
 if key=20∨key=1 then dw (decide (v≠0∧OW st v≠(if key=1 then 2 else 1))) 25 else if key=33 then dw (decide (v≠0∧v∉wh)) 26 else 0
theorem Qt (G:GH) (w0:World) (hG:Hold G w0) (st:List bV) (li:List fI) (rv:List dh) (b ms ml mr mb mu:Nat) (n:Int) (key v:Int) (hck:wH us G st li rv ms ml mr mu) (hb:G b=some (gB b ms ml mr mb mu n).2) :
  Calls prog 130 #[(aK b 0),vi key,vi v] w0 (aZ w0 G fun u G'=>u=vi (oF st (li.map fI.id) key v)∧G=G'):=by
 have hc0:aI G b 0=some (.map (some ms)):=by unfold aI;rw [hb];rfl
 have hc1:aI G b 1=some (.map (some ml)):=by unfold aI;rw [hb];rfl
 refine eN [(0,_),(1,_),(2,_)] func130 rfl ntmps130 rfl rfl hG ?_;intro a H;refine kP H (SR fun _ K1=>ak K1 rfl (SQ fun _ K2=>SR fun _ K3=>Rm rfl (Kz K3 (SB (SQ fun _ K4=>SR fun _ K5=>Rc rfl (ak K5 rfl (Cd rfl ?_ ?_))))))) <;> clear H K1 K3 K5
 ·intro h9 a H
  try have p9:=dT h9
  refine kP H (Kc K4 (Ct rfl h9 (SR fun _ K6=>ak K6 rfl (SQ fun _ K7=>SR fun _ K8=>Rm rfl (Rc rfl (Kz K8 (Cd rfl ?_ ?_))))))) <;> clear H K4 K6 K8
  ·intro gG a H
   try have rz:=dT gG
   refine kP H (SC (bq K7 rfl (SR fun _ K9=>Rm rfl (Rc rfl (Rm rfl (Sp 16 rfl ?_ ?_)))))) <;> clear H K7
   ·intro h16 a H
    try have p16:=dT h16
    refine kH H (YM h16 rfl ?_);clear H;intro a H;refine uV H (wg H rfl rfl h16) rfl rfl ?_;clear H;intro a H;refine kH H (YF JZ h16 rfl (YR LC h16 rfl (by assumption) ?_));clear H;intro a H;refine kH H (YM h16 rfl ?_);clear H;intro a H;refine Ak (zv:=vi 0) GX lu (by kernel_rfl) H (wg H rfl rfl h16) rfl rfl (H.ro _ _ hck.sty) rfl ?_;clear H;intro a H;rw [KZ] at H;refine kH H (YM h16 rfl (YC h16 rfl (Pt h16 rfl ?_)));clear H;intro a H;refine s_call jO H wn rfl (jQ _ _ H.ro _ 25) rfl ?_;clear H;rintro v26 _ a w ⟨rfl,rfl⟩ - H;refine kH H (ak K9 rfl ?_);clear H K9;intro a H;refine lr H results130 rfl ?_
    exact H.rt ⟨aB vi (by unfold oF;(repeat' split) <;> first|rfl|(simp_all;done)|(exfalso;simp_all;done)|(congr 1;rw [sG];simp only [wL,ni,mH];exact ⟨fun h=>⟨p31,h⟩,fun h=>h.2⟩)),rfl⟩
   intro h16 a H
   try have p16:=dF h16
   refine kH H (bF h16 rfl (bF h16 rfl (aQ h16 rfl (Pf h16 rfl ?_))));clear H;intro a H;refine s_call jO H wn rfl (jQ _ _ H.ro _ 25) rfl ?_;clear H;rintro v26 _ a w ⟨rfl,rfl⟩ - H;refine kH H (ak K9 rfl ?_);clear H K9;intro a H;refine lr H results130 rfl ?_
   exact H.rt ⟨aB vi (by unfold oF;(repeat' split) <;> first|rfl|(simp_all;done)|(exfalso;simp_all;done)|(congr 1;rw [sG];simp only [wL,ni,mH];exact ⟨fun h=>⟨p31,h⟩,fun h=>h.2⟩)),rfl⟩
  intro gG a H
  try have rz:=dF gG
  refine kP H (Kc K7 (SR fun _ aR=>Rm rfl (Rc rfl (Rm rfl (Sp 16 rfl ?_ ?_))))) <;> clear H K7
  ·intro h16 a H
   try have p16:=dT h16
   refine kH H (YM h16 rfl ?_);clear H;intro a H;refine uV H (wg H rfl rfl h16) rfl rfl ?_;clear H;intro a H;refine kH H (YF JZ h16 rfl (YR LC h16 rfl (by assumption) ?_));clear H;intro a H;refine kH H (YM h16 rfl ?_);clear H;intro a H;refine Ak (zv:=vi 0) GX lu (by kernel_rfl) H (wg H rfl rfl h16) rfl rfl (H.ro _ _ hck.sty) rfl ?_;clear H;intro a H;rw [KZ] at H;refine kH H (YM h16 rfl (YC h16 rfl (Pt h16 rfl ?_)));clear H;intro a H;refine s_call jO H wn rfl (jQ _ _ H.ro _ 25) rfl ?_;clear H;rintro v26 _ a w ⟨rfl,rfl⟩ - H;refine kH H (ak aR rfl ?_);clear H aR;intro a H;refine lr H results130 rfl ?_
   exact H.rt ⟨aB vi (by unfold oF;(repeat' split) <;> first|rfl|(simp_all;done)|(exfalso;simp_all;done)|(congr 1;rw [sG];simp only [wL,ni,mH];exact ⟨fun h=>⟨p31,h⟩,fun h=>h.2⟩)),rfl⟩
  intro h16 a H
  try have p16:=dF h16
  refine kH H (bF h16 rfl (bF h16 rfl (aQ h16 rfl (Pf h16 rfl ?_))));clear H;intro a H;refine s_call jO H wn rfl (jQ _ _ H.ro _ 25) rfl ?_;clear H;rintro v26 _ a w ⟨rfl,rfl⟩ - H;refine kH H (ak aR rfl ?_);clear H aR;intro a H;refine lr H results130 rfl ?_
  exact H.rt ⟨aB vi (by unfold oF;(repeat' split) <;> first|rfl|(simp_all;done)|(exfalso;simp_all;done)|(congr 1;rw [sG];simp only [wL,ni,mH];exact ⟨fun h=>⟨p31,h⟩,fun h=>h.2⟩)),rfl⟩
 intro h9 a H
 try have p9:=dF h9
 refine kP H (SC (Rc rfl (bq K4 rfl (Cd rfl ?_ ?_)))) <;> clear H K4
 ·intro h9 a H
  try have p9:=dT h9
  refine kP H (SR fun _ bQ=>ak bQ rfl (SQ fun _ bY=>SR fun _ cZ=>Rm rfl (Rc rfl (Kz cZ (Cd rfl ?_ ?_))))) <;> clear H bQ cZ
  ·intro gG a H
   try have rz:=dT gG
   refine kP H (SC (bq bY rfl (SR fun _ dG=>Rm rfl (Rc rfl (Rm rfl (Sp 16 rfl ?_ ?_)))))) <;> clear H bY
   ·intro h16 a H
    try have p16:=dT h16
    refine kH H (YM h16 rfl ?_);clear H;intro a H;refine uV H (wg H rfl rfl h16) rfl rfl ?_;clear H;intro a H;refine kH H (YF JZ h16 rfl (YR LC h16 rfl (by assumption) ?_));clear H;intro a H;refine kH H (YM h16 rfl ?_);clear H;intro a H;refine Ak (zv:=vi 0) GX lu (by kernel_rfl) H (wg H rfl rfl h16) rfl rfl (H.ro _ _ hck.sty) rfl ?_;clear H;intro a H;rw [KZ] at H;refine kH H (YM h16 rfl (YC h16 rfl (Pt h16 rfl ?_)));clear H;intro a H;refine s_call jO H wn rfl (jQ _ _ H.ro _ 25) rfl ?_;clear H;rintro v26 _ a w ⟨rfl,rfl⟩ - H;refine kH H (ak dG rfl ?_);clear H dG;intro a H;refine lr H results130 rfl ?_
    exact H.rt ⟨aB vi (by unfold oF;(repeat' split) <;> first|rfl|(simp_all;done)|(exfalso;simp_all;done)|(congr 1;rw [sG];simp only [wL,ni,mH];exact ⟨fun h=>⟨p31,h⟩,fun h=>h.2⟩)),rfl⟩
   intro h16 a H
   try have p16:=dF h16
   refine kH H (bF h16 rfl (bF h16 rfl (aQ h16 rfl (Pf h16 rfl ?_))));clear H;intro a H;refine s_call jO H wn rfl (jQ _ _ H.ro _ 25) rfl ?_;clear H;rintro v26 _ a w ⟨rfl,rfl⟩ - H;refine kH H (ak dG rfl ?_);clear H dG;intro a H;refine lr H results130 rfl ?_
   exact H.rt ⟨aB vi (by unfold oF;(repeat' split) <;> first|rfl|(simp_all;done)|(exfalso;simp_all;done)|(congr 1;rw [sG];simp only [wL,ni,mH];exact ⟨fun h=>⟨p31,h⟩,fun h=>h.2⟩)),rfl⟩
  intro gG a H
  try have rz:=dF gG
  refine kP H (Kc bY (SR fun _ dZ=>Rm rfl (Rc rfl (Rm rfl (Sp 16 rfl ?_ ?_))))) <;> clear H bY
  ·intro h16 a H
   try have p16:=dT h16
   refine kH H (YM h16 rfl ?_);clear H;intro a H;refine uV H (wg H rfl rfl h16) rfl rfl ?_;clear H;intro a H;refine kH H (YF JZ h16 rfl (YR LC h16 rfl (by assumption) ?_));clear H;intro a H;refine kH H (YM h16 rfl ?_);clear H;intro a H;refine Ak (zv:=vi 0) GX lu (by kernel_rfl) H (wg H rfl rfl h16) rfl rfl (H.ro _ _ hck.sty) rfl ?_;clear H;intro a H;rw [KZ] at H;refine kH H (YM h16 rfl (YC h16 rfl (Pt h16 rfl ?_)));clear H;intro a H;refine s_call jO H wn rfl (jQ _ _ H.ro _ 25) rfl ?_;clear H;rintro v26 _ a w ⟨rfl,rfl⟩ - H;refine kH H (ak dZ rfl ?_);clear H dZ;intro a H;refine lr H results130 rfl ?_
   exact H.rt ⟨aB vi (by unfold oF;(repeat' split) <;> first|rfl|(simp_all;done)|(exfalso;simp_all;done)|(congr 1;rw [sG];simp only [wL,ni,mH];exact ⟨fun h=>⟨p31,h⟩,fun h=>h.2⟩)),rfl⟩
  intro h16 a H
  try have p16:=dF h16
  refine kH H (bF h16 rfl (bF h16 rfl (aQ h16 rfl (Pf h16 rfl ?_))));clear H;intro a H;refine s_call jO H wn rfl (jQ _ _ H.ro _ 25) rfl ?_;clear H;rintro v26 _ a w ⟨rfl,rfl⟩ - H;refine kH H (ak dZ rfl ?_);clear H dZ;intro a H;refine lr H results130 rfl ?_
  exact H.rt ⟨aB vi (by unfold oF;(repeat' split) <;> first|rfl|(simp_all;done)|(exfalso;simp_all;done)|(congr 1;rw [sG];simp only [wL,ni,mH];exact ⟨fun h=>⟨p31,h⟩,fun h=>h.2⟩)),rfl⟩
 intro h9 a H
 try have p9:=dF h9
 refine kP H (SR fun _ eB=>Rc rfl (ak eB rfl (Cd rfl ?_ ?_))) <;> clear H eB
 ·intro h27 a H
  try have p27:=dT h27
  refine kP H (SR fun _ dW=>Rm rfl (Rc rfl (Rm rfl (Sp 31 rfl ?_ ?_)))) <;> clear H
  ·intro h31 a H
   try have p31:=dT h31
   refine kH H (YM h31 rfl ?_);clear H;intro a H;refine uV H (wg H rfl rfl h31) rfl rfl ?_;clear H;intro a H;refine kH H (YF YD h31 rfl (YR uj h31 rfl (by assumption) ?_));clear H;intro a H;refine kH H (YM h31 rfl ?_);clear H;intro a H;refine Ak (zv:=.bool false) xG lu (by kernel_rfl) H (wg H rfl rfl h31) rfl rfl (H.ro _ _ hck.wh) rfl ?_;clear H;intro a H;rw [EB] at H;refine kH H (YN h31 rfl (Pt h31 rfl ?_));clear H;intro a H;refine s_call jO H wn rfl (jQ _ _ H.ro _ 26) rfl ?_;clear H;rintro v40 _ a w ⟨rfl,rfl⟩ - H;refine kH H (ak dW rfl ?_);clear H dW;intro a H;refine lr H results130 rfl ?_
   exact H.rt ⟨aB vi (by unfold oF;(repeat' split) <;> first|rfl|(simp_all;done)|(exfalso;simp_all;done)|(congr 1;rw [sG];simp only [wL,ni,mH];exact ⟨fun h=>⟨p31,h⟩,fun h=>h.2⟩)),rfl⟩
  intro h31 a H
  try have p31:=dF h31
  refine kH H (bF h31 rfl (aQ h31 rfl (aQ h31 rfl (Pf h31 rfl ?_))));clear H;intro a H;refine s_call jO H wn rfl (jQ _ _ H.ro _ 26) rfl ?_;clear H;rintro v40 _ a w ⟨rfl,rfl⟩ - H;refine kH H (ak dW rfl ?_);clear H dW;intro a H;refine lr H results130 rfl ?_
  exact H.rt ⟨aB vi (by unfold oF;(repeat' split) <;> first|rfl|(simp_all;done)|(exfalso;simp_all;done)|(congr 1;rw [sG];simp only [wL,ni,mH];exact ⟨fun h=>⟨p31,h⟩,fun h=>h.2⟩)),rfl⟩
 intro h27 a H
 try have p27:=dF h27
 refine kP H (Kc K2 (SR fun _ fC=>ak fC rfl ?_));clear H K2 fC;intro a H;refine lr H results130 rfl ?_
 exact H.rt ⟨aB vi (by unfold oF;(repeat' split) <;> first|rfl|(simp_all;done)|(exfalso;simp_all;done)|(congr 1;rw [sG];simp only [wL,ni,mH];exact ⟨fun h=>⟨p31,h⟩,fun h=>h.2⟩)),rfl⟩
end
section
section
variable {N:Nat} {D:List Deferred} {w0:World} {F:Nat→Prop} {G0 G G':GH} {L L':OL} {T:List (Nat × aj)}
variable {r:Option Nat} {P:Program} {ops:Array Oper} {Q:Exit→Act→World→Prop} {rest:List Oper} {a:Act} {w w':World}
theorem DF {ι:Type} {Tc:List (Nat × aj)} {l:List Oper} (k:Nat) (Tv:ι→List (Nat × aj)) (Pr:ι→Prop) (_:St N D w0 F G0 G L Tc a w)
  (h1:(∀ i a w,Pr i→St N D w0 F G0 G L (Tv i++Tc) a w→WL r P ops Q (l.drop k) a w)→WL r P ops Q l a w)
  (h2:∀ i a w,Pr i→St N D w0 F G0 G L (Tv i++Tc) a w→WL r P ops Q (l.drop k) a w):WL r P ops Q l a w:=h1 h2
theorem Change.back (h:Change w w' G G' L L'):Change w w' G G L L' :=
 ⟨h.os,h.tape,h.output,h.size,h.fr,fun _ _ h=>h,fun _ _ h=>.inl h,⟨fun k o hk=>h.owns.ro k o (h.gm k o hk),h.owns.own,fun p hp=>(by
  have hs:=h.owns.sep p hp
  cases hg:G p.1 with
  | none=>rfl
  | some o=>have:=h.gm _ _ hg;rw [hs] at this;cases this),h.owns.nd⟩,h.lx⟩
theorem fV.back {R:aj→GH→OL→Prop} {R':aj→OL→Prop} (hR:∀ v G' L',R v G' L'→R' v L') {e:Ending} (h:fV w G L R e w'):fV w G L (fun v G' L'=>G=G'∧R' v L') e w':=by
 obtain ⟨v,G',L',rfl,hc,hr⟩:=h
 exact ⟨v,G,L',rfl,hc.back,rfl,hR _ _ _ hr⟩
theorem Calls.aec {f:FuncId} {args:Array aj} {R:aj→GH→OL→Prop} {R':aj→OL→Prop} (h:Calls P f args w (fV w G L R)) (hR:∀ v G' L',R v G' L'→R' v L'):Calls P f args w (fV w G L fun v G' L'=>G=G'∧R' v L') :=
 h.mono fun _ _=>fV.back hR
theorem aZ.back {R:aj→GH→Prop} {e:Ending} (h:aZ w G R e w'):aZ w G (fun v G'=>(∃ g,R v g)∧G=G') e w':=by
 obtain ⟨v,G',rfl,hb,hX,hr⟩:=h
 exact ⟨v,G,rfl,hb,⟨fun _ _ h=>h,fun _ _ h=>.inl h,fun k o hk=>hX.2.2 k o (hX.1 k o hk)⟩,⟨G',hr⟩,rfl⟩
theorem W9 {f:FuncId} {args:Array aj} {R:aj→GH→Prop} (h:Calls P f args w (aZ w G R)):Calls P f args w (aZ w G fun v G'=>(∃ g,R v g)∧G=G'):=h.mono fun _ _=>aZ.back
theorem gD.add {b:Nat} {o:Obj} (h:gD G ((b,o) :: L) w):Hold (G.add b o) w:=fun k o' hk=>by
 unfold GH.add at hk
 split at hk
 ·next e=>cases hk;subst e;exact h.own _ gJ
 ·exact h.ro k o' hk
theorem aoV {b:Nat} {o:Obj} {R:aj→GH→Prop} {R':aj→Prop} (hO:gD G ((b,o) :: L) w) (hR:∀ v G',R v G'→R' v) {e:Ending} (h:aZ w (G.add b o) R e w'):fV w G ((b,o) :: L) (fun v G' L'=>G=G'∧L'=(b,o) :: L∧R' v) e w':=by
 obtain ⟨v,G',rfl,hb,hX,hr⟩:=h
 exact ⟨v,G,_,rfl,(hO.hp.below hb).acy,rfl,rfl,hR _ _ hr⟩
end
end
section
theorem M6:dH prog 161 0 0:=⟨by kernel_rfl⟩
theorem xV:dH prog 161 1 1:=⟨by kernel_rfl⟩
theorem M7:dH prog 161 3 3:=⟨by kernel_rfl⟩
theorem Ec:dH prog 161 2 2:=⟨by kernel_rfl⟩
theorem QI:∀ args w,(callFunc 130 args).run prog w=.ok (.enter 130 args) w:=enters func130 rfl (by kernel_rfl)
variable {us:List Int}
structure bO where
 st:List bV
 wh:List Int
 Ai:List Int
 us:List Int
abbrev bC (us:List Int) (st:List bV) (li:List fI) (rv:List dh):bO:=⟨st,li.map fI.id,rv.map dh.id,us⟩
theorem EA {G:GH} {l:List cK} {A:Option Addr} {n c k:Nat} (hv:av G (.sl 4 (l.map cK.dat)) (.slice A n c)) (hk:k < l.length):∃ b o,A=some ⟨b,o,none⟩∧(∀ j u,l[k].cells[j]?=some u→aI G b (o+k*4+j)=some u):=by
 obtain ⟨A',c',he,_,_,hg⟩:=hv.slice
 injection he with e1 e2 e3
 subst e1;obtain ⟨b,o,cs,h1,h2,h3,h4⟩:=hg k l[k].dat (by simp [hk]);have:=Uf h4;subst this;exact ⟨b,o,h1,h3⟩
theorem MW {G:GH} {l:List gq} {A:Option Addr} {n c k:Nat} (hv:av G (.sl 2 (l.map gq.dat)) (.slice A n c)) (hk:k < l.length):∃ b o,A=some ⟨b,o,none⟩∧(∀ j u,l[k].cells[j]?=some u→aI G b (o+k*2+j)=some u):=by
 obtain ⟨A',c',he,_,_,hg⟩:=hv.slice
 injection he with e1 e2 e3
 subst e1;obtain ⟨b,o,cs,h1,h2,h3,h4⟩:=hg k l[k].dat (by simp [hk]);have:=JV h4;subst this;exact ⟨b,o,h1,h3⟩
def xq (C:bO) (e:Int) (k:Nat) (x:cK) (pk:Int):Int :=
 if x.rev∉C.Ai then 22 else if vK e x.key=false then 4 else if 0 < k∧x.key < pk then 6 else if x.had=false then dw (decide (x.before≠0)) 21 else dR [sZ x.key x.before,oF C.st C.wh x.key x.before]
def za (C:bO) (e:Int) (l:List cK) (k:Nat):Int:=match l[k]? with|some x=>xq C e k x ((l[k - 1]?.map cK.key).getD 0)|none=>0
theorem amX (G:GH) (w0:World) (hG:Hold G w0) (st:List bV) (li:List fI) (rv:List dh) (b ms ml mr mb mu:Nat) (n:Int) (hck:wH us G st li rv ms ml mr mu) (hb:G b=some (gB b ms ml mr mb mu n).2)
  (e:Int) (l:List cK) (v:aj) (hv:av G (.sl 4 (l.map cK.dat)) v) (k:Nat) (hk:k < l.length) :
  Calls prog 132 #[(aK b 0),vi e,v,vi k] w0 (aZ w0 G fun u G'=>u=vi (za (bC us st li rv) e l k)):=by
 have hc2:aI G b 2=some (.map (some mr)):=by unfold aI;rw [hb];rfl
 obtain ⟨A,c,rfl,hl1,hl2,-⟩:=hv.slice;have hml:maxLen=9223372036854775807:=rfl;rw [bG] at *;obtain ⟨xb,xo,rfl,hrow⟩:=EA hv hk
 have hk1:k - 1 < l.length:=by omega
 obtain ⟨b',o',he',hrow'⟩:=EA hv hk1
 injection he' with he'
 injection he' with e1 e2
 subst e1;subst e2
 have he:za (bC us st li rv) e l k=xq (bC us st li rv) e k l[k] l[k - 1].key:=by unfold za;rw [eT hk,eT hk1];rfl
 obtain ⟨x,hx⟩:∃ x,x=l[k]:=⟨_,rfl⟩;obtain ⟨y,hy⟩:∃ y,y=l[k - 1]:=⟨_,rfl⟩;rw [← hx] at hrow he;rw [← hy] at hrow' he;have hq:=hrow' 1 _ rfl;refine eN [(0,_),(1,_),(2,_),(3,_)] func132 rfl ntmps132 rfl rfl hG ?_;intro a H;refine kP H (SR fun _ K1=>ak K1 rfl (SR fun _ K2=>Rm rfl (Rm rfl (Ri ku jk rfl rfl ?_))));clear H K1;intro a H;refine bL jk (cs:=x.cells) H wn rfl rfl (fun j v hj=>H.hp.aI (hrow j v hj)) rfl ?_;clear H;intro a H;refine dS jk H wn rfl ?_;clear H;intro b9 a w Bo H;refine bD jk 0 (vs:=[_,_,_,_]) _ H wn rfl rfl rfl rfl rfl rfl rfl rfl ?_;clear H;intro w H;dsimp only [List.set,setRow] at H;refine K2 _ _ ?_;clear K2;refine kP H (SQ fun _ K3=>SB (SQ fun _ K4=>?_));clear H;intro a H;refine dI hmx [[],[0],[0,1],[0,1,2],[],[4],(ra 0 6),(ra 0 7),(ra 0 8)] [8] (by kernel_rfl) [_,_,_,_,_,vi x.rev,.bool (decide (x.rev∈rv.map dh.id)),_] H (aF (Z0 rfl (Rm rfl)) (Z1 0 15 rfl (Rk rfl)) (Z1 1 16 rfl (Rf J2 rfl)) (X1 2 17 rfl fun hG=>Rg uj rfl (aJ hG hc2)) (aF (Z0 rfl (Rf M6 rfl)) (Z1 4 19 rfl (Ro aH 0 rfl)) ?_ (Z1 6 21 rfl (Rn rfl)) (bR (bS rfl) dz))) ?_
 ·refine dJ 3 18 5 20 rfl rfl fun _ a w G1 hG HT H fin=>?_;refine Ak (zv:=.bool false) xG lu (by kernel_rfl) H wn rfl rfl (H.ro _ _ (hG _ _ hck.rev)) rfl ?_;clear H;intro a H;rw [EB] at H;exact fin H iJ rfl
 clear H;intro a w G CG H hv;have H:=H.aM (hv 7 22 rfl rfl) rfl;clear hv;refine kH H (Ra rfl ?_);clear H;intro a H;refine aD ⟨rfl,?_⟩;refine K4 _ _ ?_;clear K4;refine jD H rfl ?_ ?_
 ·intro gX
  try have sP:=dT gX
  refine kP H (SR fun _ K5=>ak K5 rfl ?_);clear H K5;intro a H;refine lr H results132 rfl ?_
  exact H.rt (by rw [he];refine aB vi ?_;clear he hrow hrow' hq hx hy;unfold xq;(repeat' split) <;> first|rfl|(simp_all;done)|(exfalso;simp_all;done))
 intro gX
 try have sP:=dF gX
 refine kP H (SR fun _ K6=>Rm rfl (aY xV aH 0 rfl rfl ?_));clear H;intro a H;refine s_call X9 H wn rfl (W9 (YU _ _ H.ro e x.key)) rfl ?_;clear H;rintro v27 _ a w ⟨⟨_,rfl⟩,rfl⟩ - H;refine kH H (Rn rfl (ak K6 rfl (Cd rfl ?_ ?_))) <;> clear H K6
 ·intro h23 a H
  try have BI:=dT h23
  refine kP H (SR fun _ K7=>ak K7 rfl ?_);clear H K7;intro a H;refine lr H results132 rfl ?_
  exact H.rt (by rw [he];refine aB vi ?_;clear he hrow hrow' hq hx hy;unfold xq;(repeat' split) <;> first|rfl|(simp_all;done)|(exfalso;simp_all;done))
 intro h23 a H
 try have BI:=dF h23
 refine bN (fun _ K8=>?_);replace hq:=aJ CG hq
 by_cases c0:0 < (k:Int)
 ·skip
  by_cases c1:x.key < y.key
  ·skip;refine dI hmx [[],[0],[0,1],[0,1,2],(ra 0 4),[0,1,2],[0,1,2],[0,1,2,6],[0,1,2,5,6,7],[0,1,2,5,6,7,8],[0,1,2,5,6,7,8,9],(ra 0 11),(ra 0 12),(ra 0 13)] [13] (by kernel_rfl) [_,_,_,_,vi x.key,_,_,vi ((k - 1:Nat):Int),_,_,_,_,_] H (aF (Z0 rfl (Rm rfl)) (Z1 0 30 rfl (Rc rfl)) (Z1 1 31 rfl (Rm rfl)) (Z1 2 32 rfl (YF xV (aG c0) rfl)) (aF (Z2 3 33 2 32 rfl (YO aH 0 (aG c0) rfl)) (Z1 2 32 rfl (YM (aG c0) rfl)) (Z1 2 32 rfl (YM (aG c0) rfl)) ?_ (aF (Z3 5 35 7 37 2 32 rfl (YI ku jk (aG c0) rfl rfl)) (Z2 8 38 2 32 rfl (YF xV (aG c0) rfl)) (X2 9 39 2 32 rfl fun hG=>YR aH (aG c0) rfl (aJ hG hq)) (Z3 4 34 10 40 2 32 rfl (YC (aG c0) rfl)) (bR (Z2 2 32 11 41 rfl (Pt (aG c0) rfl)) (bR (bS rfl) dz))))) ?_
   ·refine dJ 6 36 2 32 rfl rfl fun _ a w G1 hG HT H fin=>?_;refine nS _ H (wg H rfl rfl (aG c0)) rfl rfl rfl (by omega) (by omega) rfl ?_;clear H;intro a H;exact fin H iJ (by show _=_;first|rfl|exact aB vi (by omega))
   clear H;intro a w G iL H hv;have H:=H.aM (hv 12 42 rfl rfl) rfl;clear hv;refine kH H (Ra rfl ?_);clear H;intro a H;refine aD ⟨rfl,?_⟩;refine K8 _ _ ?_;clear K8;refine Ba H rfl (aG c1) ?_;refine bN (fun _ K9=>?_);have hz:0 < k∧x.key < y.key:=⟨by omega,c1⟩;refine kP H (SC (bq K9 rfl ?_));clear H K9;intro a H;refine lr H results132 rfl ?_
   exact H.rt (by rw [he];refine aB vi ?_;clear he hrow hrow' hq hx hy;unfold xq;(repeat' split) <;> first|rfl|(simp_all;done)|(exfalso;simp_all;done))
  skip;refine dI hmx [[],[0],[0,1],[0,1,2],(ra 0 4),[0,1,2],[0,1,2],[0,1,2,6],[0,1,2,5,6,7],[0,1,2,5,6,7,8],[0,1,2,5,6,7,8,9],(ra 0 11),(ra 0 12),(ra 0 13)] [13] (by kernel_rfl) [_,_,_,_,vi x.key,_,_,vi ((k - 1:Nat):Int),_,_,_,_,_] H (aF (Z0 rfl (Rm rfl)) (Z1 0 30 rfl (Rc rfl)) (Z1 1 31 rfl (Rm rfl)) (Z1 2 32 rfl (YF xV (aG c0) rfl)) (aF (Z2 3 33 2 32 rfl (YO aH 0 (aG c0) rfl)) (Z1 2 32 rfl (YM (aG c0) rfl)) (Z1 2 32 rfl (YM (aG c0) rfl)) ?_ (aF (Z3 5 35 7 37 2 32 rfl (YI ku jk (aG c0) rfl rfl)) (Z2 8 38 2 32 rfl (YF xV (aG c0) rfl)) (X2 9 39 2 32 rfl fun hG=>YR aH (aG c0) rfl (aJ hG hq)) (Z3 4 34 10 40 2 32 rfl (YC (aG c0) rfl)) (bR (Z2 2 32 11 41 rfl (Pt (aG c0) rfl)) (bR (bS rfl) dz))))) ?_
  ·refine dJ 6 36 2 32 rfl rfl fun _ a w G1 hG HT H fin=>?_;refine nS _ H (wg H rfl rfl (aG c0)) rfl rfl rfl (by omega) (by omega) rfl ?_;clear H;intro a H;exact fin H iJ (by show _=_;first|rfl|exact aB vi (by omega))
  clear H;intro a w G iL H hv;have H:=H.aM (hv 12 42 rfl rfl) rfl;clear hv;refine kH H (Ra rfl ?_);clear H;intro a H;refine aD ⟨rfl,?_⟩;refine K8 _ _ ?_;clear K8;refine rP H rfl (aS c1) ?_;refine bN (fun _ aR=>?_)
  have hz:¬ (0 < k∧x.key < y.key):=by first|exact fun h=>c1 h.2|exact fun h=>c0 (by omega)
  refine kP H (SC (aY M7 oI 0 rfl rfl (Rn rfl (bq aR rfl (Cd rfl ?_ ?_))))) <;> clear H aR
  ·intro h43 a H
   try have p43:=dT h43
   refine kP H (SR fun _ bQ=>aY Ec aH 0 rfl rfl (Rc rfl ?_));clear H;intro a H;refine s_call jO H wn rfl (jQ _ _ H.ro _ 21) rfl ?_;clear H;rintro v50 _ a w ⟨rfl,rfl⟩ - H;refine kH H (ak bQ rfl ?_);clear H bQ;intro a H;refine lr H results132 rfl ?_
   exact H.rt (by rw [he];refine aB vi ?_;clear he hrow hrow' hq hx hy;unfold xq;(repeat' split) <;> first|rfl|(simp_all;done)|(exfalso;simp_all;done))
  intro h43 a H
  try have p43:=dF h43
  refine gU ?_;refine K3 _ _ ?_;clear K3;refine bN (fun _ bY=>?_);replace hck:=(hck.mono CG).mono iL;replace hb:=iL _ _ (CG _ _ hb);refine dI hmx [[],[0],[],[2],(ra 0 4),[],[],[6],[],[8],(ra 0 10),(ra 0 11),(ra 0 12),(ra 0 13)] [11,12,13] (by kernel_rfl) [_,vi x.key,_,vi x.before,vi (sZ x.key x.before),_,_,vi x.key,_,vi x.before,vi (oF st (li.map fI.id) x.key x.before)] H (aF (Z0 rfl (Rf xV rfl)) (Z1 0 51 rfl (Ro aH 0 rfl)) (Z0 rfl (Rf Ec rfl)) (Z1 2 53 rfl (Ro aH 0 rfl)) (aF ?_ (Z0 rfl (Rm rfl)) (Z0 rfl (Rf xV rfl)) (Z1 6 57 rfl (Ro aH 0 rfl)) (aF (Z0 rfl (Rf Ec rfl)) (Z1 8 59 rfl (Ro aH 0 rfl)) ?_ (bS rfl) (bR (bS rfl) (bR (bS rfl) dz))))) ?_
  ·refine dJ 1 52 3 54 rfl rfl fun _ a w G1 hG HT H fin=>?_;refine s_call QO H wn rfl (Qq _ _ H.ro x.key x.before) rfl ?_;clear H;rintro v55 Jz a w rfl Sg H;exact fin H Sg (rfl)
  ·refine yN 5 56 7 58 9 60 rfl rfl fun _ a w G1 hG HT H fin=>?_;refine s_call QI H wn rfl (Qt _ _ H.ro st li rv b ms ml mr mb mu n x.key x.before (hck.mono hG) (hG _ _ hb)) rfl ?_;clear H;rintro v61 G61 a w ⟨rfl,-⟩ Si H;exact fin H Si (rfl)
  clear H;intro a w G qU H hv;have H:=H.aM (hv 4 55 rfl rfl) rfl;have H:=H.aM (hv 10 61 rfl rfl) rfl;clear hv;refine iE qI iA [_,_] [_,_] H wn rfl rfl rfl rfl rfl (by intro i q h;match i,h with|0,h=>exact h|1,h=>exact h|n+2,h=>simp at h) rfl rfl ?_;clear H;intro b62 a w akA H;obtain ⟨G62,alv,SF,H⟩:=H.eH;refine s_call rQ H wn rfl (rT _ _ H.ro _ _ (zu SF)) rfl ?_;clear H;rintro v63 _ a w ⟨rfl,rfl⟩ - H;refine kH H (Ra rfl ?_);clear H;intro a H;refine aD ⟨rfl,?_⟩;refine bY _ _ ?_;clear bY;refine lr H results132 rfl ?_
  exact H.rt (by rw [he];refine aB vi ?_;clear he hrow hrow' hq hx hy;unfold xq;(repeat' split) <;> first|rfl|(simp_all;done)|(exfalso;simp_all;done))
 skip;refine dI hmx [[],[0],[0,1],[0,1,2],(ra 0 4),[0,1,2],[0,1,2],[0,1,2,6],[0,1,2,5,6,7],[0,1,2,5,6,7,8],[0,1,2,5,6,7,8,9],(ra 0 11),(ra 0 12),(ra 0 13)] [13] (by kernel_rfl) [_,_,_,undef,undef,undef,undef,undef,undef,undef,undef,undef,_] H (aF (Z0 rfl (Rm rfl)) (Z1 0 30 rfl (Rc rfl)) (Z1 1 31 rfl (Rm rfl)) (aV 2 (aS c0) rfl rfl) (aF (aV 2 (aS c0) rfl rfl) (aV 2 (aS c0) rfl rfl) (aV 2 (aS c0) rfl rfl) (aV 2 (aS c0) rfl rfl) (aF (aV 2 (aS c0) rfl rfl) (aV 2 (aS c0) rfl rfl) (aV 2 (aS c0) rfl rfl) (aV 2 (aS c0) rfl rfl) (bR (Z2 2 32 11 41 rfl (Pf (aS c0) rfl)) (bR (bS rfl) dz))))) ?_
 clear H;intro a w G iL H hv;have H:=H.aM (hv 12 42 rfl rfl) rfl;clear hv;refine kH H (Ra rfl ?_);clear H;intro a H;refine aD ⟨rfl,?_⟩;refine K8 _ _ ?_;clear K8;refine rP H rfl rfl ?_;refine bN (fun _ cZ=>?_)
 have hz:¬ (0 < k∧x.key < y.key):=by first|exact fun h=>c1 h.2|exact fun h=>c0 (by omega)
 refine kP H (SC (aY M7 oI 0 rfl rfl (Rn rfl (bq cZ rfl (Cd rfl ?_ ?_))))) <;> clear H cZ
 ·intro h43 a H
  try have p43:=dT h43
  refine kP H (SR fun _ dG=>aY Ec aH 0 rfl rfl (Rc rfl ?_));clear H;intro a H;refine s_call jO H wn rfl (jQ _ _ H.ro _ 21) rfl ?_;clear H;rintro v50 _ a w ⟨rfl,rfl⟩ - H;refine kH H (ak dG rfl ?_);clear H dG;intro a H;refine lr H results132 rfl ?_
  exact H.rt (by rw [he];refine aB vi ?_;clear he hrow hrow' hq hx hy;unfold xq;(repeat' split) <;> first|rfl|(simp_all;done)|(exfalso;simp_all;done))
 intro h43 a H
 try have p43:=dF h43
 refine gU ?_;refine K3 _ _ ?_;clear K3;refine bN (fun _ dZ=>?_);replace hck:=(hck.mono CG).mono iL;replace hb:=iL _ _ (CG _ _ hb);refine dI hmx [[],[0],[],[2],(ra 0 4),[],[],[6],[],[8],(ra 0 10),(ra 0 11),(ra 0 12),(ra 0 13)] [11,12,13] (by kernel_rfl) [_,vi x.key,_,vi x.before,vi (sZ x.key x.before),_,_,vi x.key,_,vi x.before,vi (oF st (li.map fI.id) x.key x.before)] H (aF (Z0 rfl (Rf xV rfl)) (Z1 0 51 rfl (Ro aH 0 rfl)) (Z0 rfl (Rf Ec rfl)) (Z1 2 53 rfl (Ro aH 0 rfl)) (aF ?_ (Z0 rfl (Rm rfl)) (Z0 rfl (Rf xV rfl)) (Z1 6 57 rfl (Ro aH 0 rfl)) (aF (Z0 rfl (Rf Ec rfl)) (Z1 8 59 rfl (Ro aH 0 rfl)) ?_ (bS rfl) (bR (bS rfl) (bR (bS rfl) dz))))) ?_
 ·refine dJ 1 52 3 54 rfl rfl fun _ a w G1 hG HT H fin=>?_;refine s_call QO H wn rfl (Qq _ _ H.ro x.key x.before) rfl ?_;clear H;rintro v55 Jz a w rfl Sg H;exact fin H Sg (rfl)
 ·refine yN 5 56 7 58 9 60 rfl rfl fun _ a w G1 hG HT H fin=>?_;refine s_call QI H wn rfl (Qt _ _ H.ro st li rv b ms ml mr mb mu n x.key x.before (hck.mono hG) (hG _ _ hb)) rfl ?_;clear H;rintro v61 G61 a w ⟨rfl,-⟩ Si H;exact fin H Si (rfl)
 clear H;intro a w G qU H hv;have H:=H.aM (hv 4 55 rfl rfl) rfl;have H:=H.aM (hv 10 61 rfl rfl) rfl;clear hv;refine iE qI iA [_,_] [_,_] H wn rfl rfl rfl rfl rfl (by intro i q h;match i,h with|0,h=>exact h|1,h=>exact h|n+2,h=>simp at h) rfl rfl ?_;clear H;intro b62 a w akA H;obtain ⟨G62,alv,SF,H⟩:=H.eH;refine s_call rQ H wn rfl (rT _ _ H.ro _ _ (zu SF)) rfl ?_;clear H;rintro v63 _ a w ⟨rfl,rfl⟩ - H;refine kH H (Ra rfl ?_);clear H;intro a H;refine aD ⟨rfl,?_⟩;refine dZ _ _ ?_;clear dZ;refine lr H results132 rfl ?_
 exact H.rt (by rw [he];refine aB vi ?_;clear he hrow hrow' hq hx hy;unfold xq;(repeat' split) <;> first|rfl|(simp_all;done)|(exfalso;simp_all;done))
end
section
theorem Jj:Ty prog 123 1 8 [.pointer none] false:=⟨by kernel_rfl,by kernel_rfl⟩
theorem agw:∀ args w,(callFunc 132 args).run prog w=.ok (.enter 132 args) w:=enters func132 rfl (by kernel_rfl)
theorem Dx:Ty prog 27 4 64 [.int .i64 0,.int .i64 0,.slice none 0 0,.slice none 0 0] true:=⟨by kernel_rfl,by kernel_rfl⟩
theorem Eb:dH prog 159 0 0:=⟨by kernel_rfl⟩
theorem YG:dH prog 159 1 1:=⟨by kernel_rfl⟩
theorem agv:∀ args w,(callFunc 131 args).run prog w=.ok (.enter 131 args) w:=enters func131 rfl (by kernel_rfl)
variable {us:List Int}
theorem amV {G:GH} {st:List bV} {li:List fI} {rv:List dh} {b ms ml mr mb mu:Nat} {n:Int} (hck:wH us G st li rv ms ml mr mu) (hb:G b=some (gB b ms ml mr mb mu n).2)
  {x3 x4 Ph:Nat} {e:Int} {l:List cK} {v:aj} (h3:aI G x3 0=some (aK b 0)) (h4:aI G x4 0=some (vi e)) (h11:aI G Ph 3=some v) (hv:av G (.sl 4 (l.map cK.dat)) v) :
  uq (.func (.func 131) #[] #[(aK x3 0),(aK x4 0),(aK Ph 0)]) G l.length (za (bC us st li rv) e l):=by
 intro k hk G1 w0 hm hG;refine jI (caps:=[(aK x3 0),(aK x4 0),(aK Ph 0)]) agv ?_;replace h3:=aJ hm h3;replace h4:=aJ hm h4;replace h11:=aJ hm h11;replace hv:=hv.mono hm;obtain ⟨vA,vn,vc,rfl⟩:=hv.form;refine eN [(0,_),(1,_),(2,_),(3,_)] func131 rfl ntmps131 rfl rfl hG ?_;intro a H;refine kP H (SR fun _ K1=>ak K1 rfl (SR fun _ K2=>Rg Jj rfl (by assumption) ?_));clear H K1;intro a H;refine kH H (Rg aH rfl (by assumption) ?_);clear H;intro a H;refine kH H (Rf zJ rfl (Rg Ap rfl (by assumption) ?_));clear H;intro a H;refine kH H (Rm rfl ?_);clear H;intro a H;refine s_call agw H wn rfl (amX _ _ H.ro st li rv b ms ml mr mb mu n (hck.mono hm) (hm _ _ hb) e l _ hv k hk) rfl ?_;clear H;rintro v11 sw a w rfl Br H;exact kH H (ak K2 rfl (LR results131 rfl fun H=>H.rt rfl))
def Ah (C:bO) (l:List aO):Int:=dR (l.map fun p=>oF C.st C.wh p.key p.value)
def jU (C:bO) (m:yM):Int:=if m.ins≠0∧m.ins∉C.Ai then 22 else if ¬ (0≤m.move∧m.move≤1073741824)∨(m.move≠0∧m.ins=0) then 21 else if 16 < (m.bE.length:Int) then 9 else 0
def uK (C:bO) (k:Nat) (x:gq) (pr:Int):Int:=if x.rev∉C.Ai then 22 else if 0 < k∧x.rev≤pr then 6 else if ¬ (0≤x.move∧x.move≤1073741824) then 21 else 0
def uJ (C:bO) (l:List gq) (k:Nat):Int:=match l[k]? with|some x=>uK C k x ((l[k - 1]?.map gq.rev).getD 0)|none=>0
def iD (C:bO) (e:Int) (h:dM):Int:=dR [iy e h.props,Ah C h.props,jU C h.marks,kK (uJ C h.marks.bE) h.marks.bE.length,dw (decide (64 < (h.marks.layers.length:Int))) 9,kK (za C e h.marks.layers) h.marks.layers.length]
theorem akV {C:bO} {e:Int} {h:dM} (h1:iy e h.props≠0):iD C e h=iy e h.props:=by simp [iD,dR,h1]
theorem akW {C:bO} {e:Int} {h:dM} (h1:iy e h.props=0) (h2:Ah C h.props≠0):iD C e h=Ah C h.props:=by simp [iD,dR,h1,h2]
theorem CP {C:bO} {e:Int} {h:dM} (h1:iy e h.props=0) (h2:Ah C h.props=0) (h3:jU C h.marks≠0):iD C e h=jU C h.marks:=by simp [iD,dR,h1,h2,h3]
theorem akX {C:bO} {e:Int} {h:dM} (h1:iy e h.props=0) (h2:Ah C h.props=0) (h3:jU C h.marks=0) (h4:kK (uJ C h.marks.bE) h.marks.bE.length≠0):iD C e h=kK (uJ C h.marks.bE) h.marks.bE.length:=by simp [iD,dR,h1,h2,h3,h4]
theorem akY {C:bO} {e:Int} {h:dM} (h1:iy e h.props=0) (h2:Ah C h.props=0) (h3:jU C h.marks=0) (h4:kK (uJ C h.marks.bE) h.marks.bE.length=0) (h5:64 < (h.marks.layers.length:Int)):iD C e h=9:=by simp [iD,dR,h1,h2,h3,h4,dw,h5]
theorem akZ {C:bO} {e:Int} {h:dM} (h1:iy e h.props=0) (h2:Ah C h.props=0) (h3:jU C h.marks=0) (h4:kK (uJ C h.marks.bE) h.marks.bE.length=0) (h5:¬ 64 < (h.marks.layers.length:Int)):iD C e h=kK (za C e h.marks.layers) h.marks.layers.length:=by simp [iD,dR,h1,h2,h3,h4,dw,h5];exact Eq.symm
theorem abx {C:bO} {l:List aO} {k:Nat} (h:k < l.length):dR ((l.map fun p=>oF C.st C.wh p.key p.value).drop k)=if oF C.st C.wh l[k].key l[k].value≠0 then oF C.st C.wh l[k].key l[k].value else dR ((l.map fun p=>oF C.st C.wh p.key p.value).drop (k+1)):=by
 rw [Nf (by simpa using h)];simp
theorem ala (G:GH) (w0:World) (hG:Hold G w0) (st:List bV) (li:List fI) (rv:List dh) (b ms ml mr mb mu:Nat) (n:Int) (hck:wH us G st li rv ms ml mr mu) (hb:G b=some (gB b ms ml mr mb mu n).2)
  (e:Int) (h:dM) (p d l:aj) (hh:jd G h p d l) (hz:lW h≤4294967296) :
  Calls prog 70 #[(aK b 0),vi e,qV h p d l] w0 (aZ w0 G fun u G'=>u=vi (iD (bC us st li rv) e h)):=by
 obtain ⟨pA,pc,rfl,-,-,-⟩:=hh.props.slice;obtain ⟨dA,dc,rfl,-,-,-⟩:=hh.bE.slice;obtain ⟨lA,lc,rfl,-,-,-⟩:=hh.layers.slice;have hml:maxLen=9223372036854775807:=rfl;have hzz:=ET h;have hz1:=qH (h.props.map aO.dat);have hz2:=qH (h.marks.bE.map gq.dat);have hz3:=qH (h.marks.layers.map cK.dat)
 simp only [bG] at hh hz1 hz2 hz3 ⊢
 generalize lW h=zz at hz hzz
 refine eN [(0,_),(1,_),(2,_)] func70 rfl ntmps70 rfl rfl hG ?_;intro a H;refine cu (fun _ K1=>?_);refine dQ (cs:=[_]) H wn rfl rfl rfl ?_;clear H;intro b3 a w hb3 H;refine dQ (cs:=[_]) H wn rfl rfl rfl ?_;clear H;intro b4 a w hb4 H;refine dQ (cs:=[_,_,_,_,_]) H wn rfl rfl rfl ?_;clear H;intro b5 a w hb5 H;refine kH H (ak K1 rfl (SQ fun _ K2=>SQ fun _ K3=>?_));clear H K1;intro a H;obtain ⟨Ga5,NJ,Bn,H⟩:=H.eH;obtain ⟨Ga4,II,zU,H⟩:=H.eH;obtain ⟨Ga,Et,zT,H⟩:=H.eH;replace Bn:=Et _ _ (II _ _ Bn);replace zU:=Et _ _ zU;have hma:∀ b o,G b=some o→Ga b=some o:=fun b o h=>Et _ _ (II _ _ (NJ _ _ h));clear Et II NJ;replace hck:=hck.mono hma;replace hb:=hma _ _ hb;replace hh:=hh.mono hma
 have g3:aI Ga b3 0=some (aK b 0):=by unfold aI;rw [zT];rfl
 have g4:aI Ga b4 0=some (vi e):=by unfold aI;rw [zU];rfl
 have g50:aI Ga b5 0=some (.slice pA h.props.length pc):=by unfold aI;rw [Bn];rfl
 have g51:∀ (j:Nat) (u:aj),[vi h.marks.ins,vi h.marks.move,.slice dA h.marks.bE.length dc,.slice lA h.marks.layers.length lc][j]?=some u→aI Ga b5 (1+j)=some u:=by
  intro j u hj
  unfold aI;rw [Bn]
  match j,hj with
  | 0,hj=>exact hj
  | 1,hj=>exact hj
  | 2,hj=>exact hj
  | 3,hj=>exact hj
  | n+4,hj=>simp at hj
 have hc2:aI Ga b 2=some (.map (some mr)):=by unfold aI;rw [hb];rfl
 refine kP H (SC (Rg aH rfl (by assumption) ?_));clear H;intro a H;refine kH H (Rf xW rfl (Rg um rfl (by assumption) ?_));clear H;intro a H;refine s_call XZ H wn rfl (W9 (abq _ _ H.ro e h.props _ hh.props)) rfl ?_;clear H;rintro v17 _ a w ⟨⟨_,rfl⟩,rfl⟩ - H;refine kH H (bq K3 rfl (SR fun _ K4=>Rm rfl (Rc rfl (Kz K4 (Cd rfl ?_ ?_))))) <;> clear H K3 K4
 ·intro h19 a H
  try have uf:=dT h19
  refine bN (fun _ K5=>?_);have hE:=akV (C:=bC us st li rv) (e:=e) (h:=h) uf;exact kP H (SC (Rm rfl (bq K5 rfl (LR results70 rfl fun H=>H.rt (by rw [hE])))))
 intro h19 a H
 try have uf:=dF h19
 have e1:iy e h.props=0:=by simpa using uf
 refine kP H (Kc K2 (SQ fun _ K6=>SR fun _ K7=>Rf xW rfl (Rg um rfl (by assumption) ?_)));clear H K2;intro a H;refine kH H (Rl gy rfl (Rm rfl (Kz K7 (SB ?_))));clear H K7;intro a H;skip;refine eU (ι:=Nat) (Tc:=[(3,_),(4,_),(5,_),(22,_),(23,_)]) (Lc:=[]) (fun gh=>[(24,vi gh)]) (fun gh=>[]) (fun gh=>Ga) (fun gh=>gh≤h.props.length∧dR ((h.props.map fun p=>oF st (li.map fI.id) p.key p.value).drop gh)=Ah (bC us st li rv) h.props) (fun gh=>h.props.length - gh) (0) (by exact (H).sub ⟨rfl,rfl,rfl,rfl,rfl,rfl,aC⟩) ?_ ?_
 ·exact ⟨gW _,rfl⟩
 clear H;intro k a w hI H;obtain ⟨hk,heq⟩:=hI;dsimp only [lca,bJ] at H;refine kP H (SR fun _ K8=>Rc rfl (Kz K8 (SQ fun _ K9=>Cd rfl ?_ ?_))) <;> clear H K8
 ·intro gY a H
  try have p25:=dT gY
  have hk2:k < h.props.length:=by omega
  obtain ⟨xb,xo,rfl,hrow⟩:=GL hh.props hk2;refine kP H (Kc K9 (SQ fun _ aR=>SB (SR fun _ bQ=>Ri gy gM rfl rfl ?_)));clear H K9;intro a H;refine bL gM (cs:=[_,_]) H wn rfl rfl (fun j v hj=>H.hp.aI (hrow j v hj)) rfl ?_;clear H;intro a H;refine dS gM H wn rfl ?_;clear H;intro b9 a w Bo H;refine bD gM 0 (vs:=[_,_]) _ H wn rfl rfl rfl rfl rfl rfl rfl rfl ?_;clear H;intro w H;dsimp only [List.set,setRow] at H;refine bQ _ _ ?_;clear bQ;refine kP H (SR fun _ bY=>Rg Jj rfl (by assumption) ?_);clear H;intro a H;refine kH H (aY wS aH 0 rfl rfl (aY M8 aH 0 rfl rfl ?_));clear H;intro a H;refine s_call QI H wn rfl (Qt _ _ H.ro st li rv b ms ml mr mb mu n h.props[k].key h.props[k].value hck hb) rfl ?_;clear H;rintro v33 _ a w ⟨rfl,rfl⟩ - H;refine kH H (ak bY rfl (SR fun _ cZ=>Rm rfl (Rc rfl (Kz cZ (Cd rfl ?_ ?_))))) <;> clear H bY cZ
  ·intro fP a H
   try have p35:=dT fP
   refine bN (fun _ dG=>?_)
   have hr:Ah (bC us st li rv) h.props=oF st (li.map fI.id) h.props[k].key h.props[k].value:=by rw [← heq];exact (abx (C:=bC us st li rv) hk2).trans (au p35)
   have hE:=(akW (C:=bC us st li rv) (e:=e) (h:=h) e1 (by rw [hr];exact p35)).trans hr;exact kP H (SC (Rm rfl (bq dG rfl (LR results70 rfl fun H=>H.rt (by rw [hE])))))
  intro fP a H
  try have p35:=dF fP
  refine kP H (Kc aR (SC (Rd rfl (Rm rfl ?_))));clear H aR;intro a H;refine aD ?_;refine dD ((k+1)) (by exact (H.dY (Pl:=[_]) (dK:=[]) [] (by decide) rfl).sub ⟨rfl,rfl,rfl,rfl,rfl,rfl,aC⟩) ?_
  exact ⟨by omega,by rw [abx (C:=bC us st li rv) hk2,ah (by simpa using p35)] at heq;exact heq⟩
 intro gY a H
 try have p25:=dF gY
 refine dV ?_;refine K6 _ _ ?_;clear K6;refine bN (fun _ dZ=>?_)
 have e2:Ah (bC us st li rv) h.props=0:=by rw [← heq,jC (by rw [bG];omega)];rfl
 refine kP H (SC (Rf lZ rfl ?_));clear H;intro a H;refine bL Dx (cs:=[vi h.marks.ins,vi h.marks.move,.slice dA h.marks.bE.length dc,.slice lA h.marks.layers.length lc]) H wn rfl rfl (fun j v hj=>H.hp.aI (g51 j v hj)) rfl ?_;clear H;intro a H;refine dS Dx H wn rfl ?_;clear H;intro b11 a w Kw H;refine bD Dx 0 (vs:=[_,_,_,_]) _ H wn rfl rfl rfl rfl rfl rfl rfl rfl ?_;clear H;intro w H;dsimp only [List.set,setRow] at H;obtain ⟨Gb,hmb,El,H⟩:=H.eH;replace hck:=hck.mono hmb;replace hb:=hmb _ _ hb;replace hh:=hh.mono hmb;replace g3:=aJ hmb g3;replace g4:=aJ hmb g4;replace hc2:=aJ hmb hc2
 have q0:aI Gb b11 0=some (vi h.marks.ins):=by unfold aI;rw [El];rfl
 have q1:aI Gb b11 1=some (vi h.marks.move):=by unfold aI;rw [El];rfl
 have q2:aI Gb b11 2=some (.slice dA h.marks.bE.length dc):=by unfold aI;rw [El];rfl
 have q3:aI Gb b11 3=some (.slice lA h.marks.layers.length lc):=by unfold aI;rw [El];rfl
 have hcb:=amV hck hb g3 g4 q3 hh.layers;refine aD ?_;refine dZ _ _ ?_;clear dZ;refine sW (ι:=GH) (Tc:=[(3,_),(4,_),(11,_)]) (Lc:=[]) (fun gh=>[]) (fun gh=>[]) (fun gh=>gh) (fun gh=>jU (bC us st li rv) h.marks=0∧(∀ b o,Gb b=some o→gh b=some o)) (by exact (H).sub ⟨rfl,rfl,rfl,aC⟩) ?_ ?_
 ·skip;refine Cn ?_;refine bN (fun _ eB=>?_)
  by_cases c0:h.marks.ins≠0
  ·skip
   by_cases c1:h.marks.ins∉rv.map dh.id
   ·skip;refine dI hmx [[],[0],[0,1],[0,1,2],(ra 0 4),(ra 0 5),(ra 0 6),(ra 0 7),(ra 0 4),[0,1,2,3,8],(ra 0 10),(ra 0 11),(ra 0 12),(ra 0 13)] [13] (by kernel_rfl) [_,_,_,_,_,(aK b 0),_,_,_,_,.bool (decide (h.marks.ins∈rv.map dh.id)),.bool (decide (h.marks.ins∉rv.map dh.id)),_] H (aF (Z0 rfl (Rf rR rfl)) (X1 0 41 rfl fun hG=>Rg aH rfl (aJ hG q0)) (Z1 1 42 rfl (Rc rfl)) (Z1 2 43 rfl (Rm rfl)) (aF (X1 3 44 rfl fun hG=>YR Jj (aG c0) rfl (aJ hG g3)) ?_ (Z2 5 46 3 44 rfl (YF J2 (aG c0) rfl)) (X2 6 47 3 44 rfl fun hG=>YR uj (aG c0) rfl (aJ hG hc2)) (aF (Z1 3 44 rfl (YF rR (aG c0) rfl)) (X2 8 49 3 44 rfl fun hG=>YR aH (aG c0) rfl (aJ hG q0)) ?_ ?_ (bR (Z2 3 44 11 52 rfl (Pt (aG c0) rfl)) (bR (bS rfl) dz))))) ?_
    ·refine dJ 4 45 3 44 rfl rfl fun _ a w G1 hG HT H fin=>?_;refine uV H (wg H rfl rfl (aG c0)) rfl rfl ?_;clear H;intro a H;exact fin H iJ rfl
    ·refine yN 7 48 9 50 3 44 rfl rfl fun _ a w G1 hG HT H fin=>?_;refine Ak (zv:=.bool false) xG lu (by kernel_rfl) H (wg H rfl rfl (aG c0)) rfl rfl (H.ro _ _ (hG _ _ hck.rev)) rfl ?_;clear H;intro a H;rw [EB] at H;exact fin H iJ rfl
    ·refine dJ 10 51 3 44 rfl rfl fun _ a w G1 hG HT H fin=>?_;refine kH H (YN (aG c0) rfl ?_);clear H;intro a H;exact fin H iJ (by show _=_;first|rfl|exact dL decide_not.symm)
    clear H;intro a w G oz H hv;have H:=H.aM (hv 12 53 rfl rfl) rfl;clear hv;refine kH H (Ra rfl ?_);clear H;intro a H;refine aD ⟨rfl,?_⟩;refine eB _ _ ?_;clear eB;refine Ba H rfl (aG c1) ?_;refine bN (fun _ dW=>?_);have e3:jU (bC us st li rv) h.marks=22:=au ⟨c0,c1⟩;have hE:=(CP (C:=bC us st li rv) (e:=e) (h:=h) e1 e2 (by rw [e3];decide)).trans e3;exact kP H (SC (bq dW rfl (LR results70 rfl fun H=>H.rt (by rw [hE]))))
   skip;refine dI hmx [[],[0],[0,1],[0,1,2],(ra 0 4),(ra 0 5),(ra 0 6),(ra 0 7),(ra 0 4),[0,1,2,3,8],(ra 0 10),(ra 0 11),(ra 0 12),(ra 0 13)] [13] (by kernel_rfl) [_,_,_,_,_,(aK b 0),_,_,_,_,.bool (decide (h.marks.ins∈rv.map dh.id)),.bool (decide (h.marks.ins∉rv.map dh.id)),_] H (aF (Z0 rfl (Rf rR rfl)) (X1 0 41 rfl fun hG=>Rg aH rfl (aJ hG q0)) (Z1 1 42 rfl (Rc rfl)) (Z1 2 43 rfl (Rm rfl)) (aF (X1 3 44 rfl fun hG=>YR Jj (aG c0) rfl (aJ hG g3)) ?_ (Z2 5 46 3 44 rfl (YF J2 (aG c0) rfl)) (X2 6 47 3 44 rfl fun hG=>YR uj (aG c0) rfl (aJ hG hc2)) (aF (Z1 3 44 rfl (YF rR (aG c0) rfl)) (X2 8 49 3 44 rfl fun hG=>YR aH (aG c0) rfl (aJ hG q0)) ?_ ?_ (bR (Z2 3 44 11 52 rfl (Pt (aG c0) rfl)) (bR (bS rfl) dz))))) ?_
   ·refine dJ 4 45 3 44 rfl rfl fun _ a w G1 hG HT H fin=>?_;refine uV H (wg H rfl rfl (aG c0)) rfl rfl ?_;clear H;intro a H;exact fin H iJ rfl
   ·refine yN 7 48 9 50 3 44 rfl rfl fun _ a w G1 hG HT H fin=>?_;refine Ak (zv:=.bool false) xG lu (by kernel_rfl) H (wg H rfl rfl (aG c0)) rfl rfl (H.ro _ _ (hG _ _ hck.rev)) rfl ?_;clear H;intro a H;rw [EB] at H;exact fin H iJ rfl
   ·refine dJ 10 51 3 44 rfl rfl fun _ a w G1 hG HT H fin=>?_;refine kH H (YN (aG c0) rfl ?_);clear H;intro a H;exact fin H iJ (by show _=_;first|rfl|exact dL decide_not.symm)
   clear H;intro a w G oz H hv;have H:=H.aM (hv 12 53 rfl rfl) rfl;clear hv;refine kH H (Ra rfl ?_);clear H;intro a H;refine aD ⟨rfl,?_⟩;refine eB _ _ ?_;clear eB;refine rP H rfl (aS c1) ?_;refine bN (fun _ fC=>?_)
   have hno:¬ (h.marks.ins≠0∧h.marks.ins∉(bC us st li rv).Ai):=by first|exact fun h=>c1 h.2|exact fun h=>c0 h.1
   replace q0:=aJ oz q0;replace q1:=aJ oz q1;replace q2:=aJ oz q2;refine kP H (SC (Rf Bd rfl (Rg aH rfl (by assumption) ?_)));clear H;intro a H;refine s_call xS H wn rfl (yw _ _ H.ro h.marks.move 0 1073741824) rfl ?_;clear H;rintro v57 _ a w ⟨rfl,rfl⟩ - H;refine kH H (Rn rfl (Rm rfl (Sp 59 rfl ?_ ?_))) <;> clear H
   ·intro iK a H
    try have p59:=dT iK
    refine kH H (aQ iK rfl (aQ iK rfl (Ku rfl (Ku rfl (Ku rfl (Ks iK rfl (Pt iK rfl (bq fC rfl (Ct rfl rfl (SQ fun _ gQ=>?_))))))))));clear H fC;intro a H
    have e3:jU (bC us st li rv) h.marks=21:=by unfold jU;rw [ah hno,au (by first|(simp_all;done)|(simp_all;omega))]
    have hE:=(CP (C:=bC us st li rv) (e:=e) (h:=h) e1 e2 (by rw [e3];decide)).trans e3;exact kP H (SC (bq gQ rfl (LR results70 rfl fun H=>H.rt (by rw [hE]))))
   intro iK a H
   try have p59:=dF iK
   refine kH H (YF Bd iK rfl (YR aH iK rfl (by assumption) ?_));clear H;intro a H;refine kH H (YC iK rfl (YM iK rfl (Sp 63 rfl ?_ ?_))) <;> clear H
   ·intro h63 a H
    try have p63:=dT h63
    refine kH H (YF rR h63 rfl (YR aH h63 rfl (by assumption) ?_));clear H;intro a H;refine kH H (YC h63 rfl (PT iK h63 rfl (Pf iK rfl (bq fC rfl (Cd rfl ?_ ?_))))) <;> clear H fC
    ·intro gL a H
     try have p54:=dT gL
     refine bN (fun _ fM=>?_)
     have e3:jU (bC us st li rv) h.marks=21:=by unfold jU;rw [ah hno,au (by first|(simp_all;done)|(simp_all;omega))]
     have hE:=(CP (C:=bC us st li rv) (e:=e) (h:=h) e1 e2 (by rw [e3];decide)).trans e3;exact kP H (SC (bq fM rfl (LR results70 rfl fun H=>H.rt (by rw [hE]))))
    intro gL a H
    try have p54:=dF gL
    refine bN (fun _ gV=>?_)
    have hn2:¬ (¬ (0≤h.marks.move∧h.marks.move≤1073741824)∨(h.marks.move≠0∧h.marks.ins=0)):=by first|(simp_all;done)|(simp_all;omega)
    refine kP H (SC (Rf pU rfl (Rg qj rfl (by assumption) ?_)));clear H;intro a H;refine kH H (Rl lJ rfl (Rc rfl (bq gV rfl (Cd rfl ?_ ?_)))) <;> clear H gV
    ·intro vQ a H
     refine bN (fun _ jo=>?_)
     have e3:jU (bC us st li rv) h.marks=9:=by unfold jU;rw [ah hno,ah hn2,au (by simpa using vQ)]
     have hE:=(CP (C:=bC us st li rv) (e:=e) (h:=h) e1 e2 (by rw [e3];decide)).trans e3;exact kP H (SC (bq jo rfl (LR results70 rfl fun H=>H.rt (by rw [hE]))))
    intro vQ a H
    have e3:jU (bC us st li rv) h.marks=0:=by unfold jU;rw [ah hno,ah hn2,ah (by simpa using vQ)]
    refine gU ?_;refine ⟨_,by exact (H).sub ⟨rfl,rfl,rfl,aC⟩,?_⟩;exact ⟨e3,oz⟩
   intro h63 a H
   try have p63:=dF h63
   refine kH H (bF h63 rfl (PF iK h63 rfl (Pf iK rfl (bq fC rfl (Cf rfl rfl (SQ fun _ lD=>?_))))));clear H fC;intro a H
   have hn2:¬ (¬ (0≤h.marks.move∧h.marks.move≤1073741824)∨(h.marks.move≠0∧h.marks.ins=0)):=by first|(simp_all;done)|(simp_all;omega)
   refine kP H (SC (Rf pU rfl (Rg qj rfl (by assumption) ?_)));clear H;intro a H;refine kH H (Rl lJ rfl (Rc rfl (bq lD rfl (Cd rfl ?_ ?_)))) <;> clear H lD
   ·intro vQ a H
    refine bN (fun _ kX=>?_)
    have e3:jU (bC us st li rv) h.marks=9:=by unfold jU;rw [ah hno,ah hn2,au (by simpa using vQ)]
    have hE:=(CP (C:=bC us st li rv) (e:=e) (h:=h) e1 e2 (by rw [e3];decide)).trans e3;exact kP H (SC (bq kX rfl (LR results70 rfl fun H=>H.rt (by rw [hE]))))
   intro vQ a H
   have e3:jU (bC us st li rv) h.marks=0:=by unfold jU;rw [ah hno,ah hn2,ah (by simpa using vQ)]
   refine gU ?_;refine ⟨_,by exact (H).sub ⟨rfl,rfl,rfl,aC⟩,?_⟩;exact ⟨e3,oz⟩
  skip;refine dI hmx [[],[0],[0,1],[0,1,2],(ra 0 4),(ra 0 5),(ra 0 6),(ra 0 7),(ra 0 4),[0,1,2,3,8],(ra 0 10),(ra 0 11),(ra 0 12),(ra 0 13)] [13] (by kernel_rfl) [_,_,_,_,undef,undef,undef,undef,undef,undef,undef,undef,_] H (aF (Z0 rfl (Rf rR rfl)) (X1 0 41 rfl fun hG=>Rg aH rfl (aJ hG q0)) (Z1 1 42 rfl (Rc rfl)) (Z1 2 43 rfl (Rm rfl)) (aF (aV 3 (aS c0) rfl rfl) (aV 3 (aS c0) rfl rfl) (aV 3 (aS c0) rfl rfl) (aV 3 (aS c0) rfl rfl) (aF (aV 3 (aS c0) rfl rfl) (aV 3 (aS c0) rfl rfl) (aV 3 (aS c0) rfl rfl) (aV 3 (aS c0) rfl rfl) (bR (Z2 3 44 11 52 rfl (Pf (aS c0) rfl)) (bR (bS rfl) dz))))) ?_
  clear H;intro a w G oz H hv;have H:=H.aM (hv 12 53 rfl rfl) rfl;clear hv;refine kH H (Ra rfl ?_);clear H;intro a H;refine aD ⟨rfl,?_⟩;refine eB _ _ ?_;clear eB;refine rP H rfl rfl ?_;refine bN (fun _ kC=>?_)
  have hno:¬ (h.marks.ins≠0∧h.marks.ins∉(bC us st li rv).Ai):=by first|exact fun h=>c1 h.2|exact fun h=>c0 h.1
  replace q0:=aJ oz q0;replace q1:=aJ oz q1;replace q2:=aJ oz q2;refine kP H (SC (Rf Bd rfl (Rg aH rfl (by assumption) ?_)));clear H;intro a H;refine s_call xS H wn rfl (yw _ _ H.ro h.marks.move 0 1073741824) rfl ?_;clear H;rintro v57 _ a w ⟨rfl,rfl⟩ - H;refine kH H (Rn rfl (Rm rfl (Sp 59 rfl ?_ ?_))) <;> clear H
  ·intro iK a H
   try have p59:=dT iK
   refine kH H (aQ iK rfl (aQ iK rfl (Ku rfl (Ku rfl (Ku rfl (Ks iK rfl (Pt iK rfl (bq kC rfl (Ct rfl rfl (SQ fun _ lK=>?_))))))))));clear H kC;intro a H
   have e3:jU (bC us st li rv) h.marks=21:=by unfold jU;rw [ah hno,au (by first|(simp_all;done)|(simp_all;omega))]
   have hE:=(CP (C:=bC us st li rv) (e:=e) (h:=h) e1 e2 (by rw [e3];decide)).trans e3;exact kP H (SC (bq lK rfl (LR results70 rfl fun H=>H.rt (by rw [hE]))))
  intro iK a H
  try have p59:=dF iK
  refine kH H (YF Bd iK rfl (YR aH iK rfl (by assumption) ?_));clear H;intro a H;refine kH H (YC iK rfl (YM iK rfl (Sp 63 rfl ?_ ?_))) <;> clear H
  ·intro h63 a H
   try have p63:=dT h63
   refine kH H (YF rR h63 rfl (YR aH h63 rfl (by assumption) ?_));clear H;intro a H;refine kH H (YC h63 rfl (PT iK h63 rfl (Pf iK rfl (bq kC rfl (Cd rfl ?_ ?_))))) <;> clear H kC
   ·intro gL a H
    try have p54:=dT gL
    refine bN (fun _ lM=>?_)
    have e3:jU (bC us st li rv) h.marks=21:=by unfold jU;rw [ah hno,au (by first|(simp_all;done)|(simp_all;omega))]
    have hE:=(CP (C:=bC us st li rv) (e:=e) (h:=h) e1 e2 (by rw [e3];decide)).trans e3;exact kP H (SC (bq lM rfl (LR results70 rfl fun H=>H.rt (by rw [hE]))))
   intro gL a H
   try have p54:=dF gL
   refine bN (fun _ jL=>?_)
   have hn2:¬ (¬ (0≤h.marks.move∧h.marks.move≤1073741824)∨(h.marks.move≠0∧h.marks.ins=0)):=by first|(simp_all;done)|(simp_all;omega)
   refine kP H (SC (Rf pU rfl (Rg qj rfl (by assumption) ?_)));clear H;intro a H;refine kH H (Rl lJ rfl (Rc rfl (bq jL rfl (Cd rfl ?_ ?_)))) <;> clear H jL
   ·intro vQ a H
    refine bN (fun _ oL=>?_)
    have e3:jU (bC us st li rv) h.marks=9:=by unfold jU;rw [ah hno,ah hn2,au (by simpa using vQ)]
    have hE:=(CP (C:=bC us st li rv) (e:=e) (h:=h) e1 e2 (by rw [e3];decide)).trans e3;exact kP H (SC (bq oL rfl (LR results70 rfl fun H=>H.rt (by rw [hE]))))
   intro vQ a H
   have e3:jU (bC us st li rv) h.marks=0:=by unfold jU;rw [ah hno,ah hn2,ah (by simpa using vQ)]
   refine gU ?_;refine ⟨_,by exact (H).sub ⟨rfl,rfl,rfl,aC⟩,?_⟩;exact ⟨e3,oz⟩
  intro h63 a H
  try have p63:=dF h63
  refine kH H (bF h63 rfl (PF iK h63 rfl (Pf iK rfl (bq kC rfl (Cf rfl rfl (SQ fun _ pI=>?_))))));clear H kC;intro a H
  have hn2:¬ (¬ (0≤h.marks.move∧h.marks.move≤1073741824)∨(h.marks.move≠0∧h.marks.ins=0)):=by first|(simp_all;done)|(simp_all;omega)
  refine kP H (SC (Rf pU rfl (Rg qj rfl (by assumption) ?_)));clear H;intro a H;refine kH H (Rl lJ rfl (Rc rfl (bq pI rfl (Cd rfl ?_ ?_)))) <;> clear H pI
  ·intro vQ a H
   refine bN (fun _ qm=>?_)
   have e3:jU (bC us st li rv) h.marks=9:=by unfold jU;rw [ah hno,ah hn2,au (by simpa using vQ)]
   have hE:=(CP (C:=bC us st li rv) (e:=e) (h:=h) e1 e2 (by rw [e3];decide)).trans e3;exact kP H (SC (bq qm rfl (LR results70 rfl fun H=>H.rt (by rw [hE]))))
  intro vQ a H
  have e3:jU (bC us st li rv) h.marks=0:=by unfold jU;rw [ah hno,ah hn2,ah (by simpa using vQ)]
  refine gU ?_;refine ⟨_,by exact (H).sub ⟨rfl,rfl,rfl,aC⟩,?_⟩;exact ⟨e3,oz⟩
 clear H;intro g a w hI H;obtain ⟨e3,yj⟩:=hI;replace hck:=hck.mono yj;replace hb:=yj _ _ hb;replace hh:=hh.mono yj;replace g3:=aJ yj g3;replace q2:=aJ yj q2;replace q3:=aJ yj q3;replace hc2:=aJ yj hc2;replace hcb:=hcb.mono yj;dsimp only [lca,bJ] at H;refine kP H (SQ fun _ qJ=>SR fun _ qo=>Rf pU rfl (Rg qj rfl (by assumption) ?_));clear H;intro a H;refine kH H (Rl lJ rfl (Rm rfl (Kz qo (SB ?_))));clear H qo;intro a H;skip;refine eU (ι:=Nat × GH) (Tc:=[(3,_),(4,_),(11,_),(75,_),(76,_)]) (Lc:=[]) (fun gh=>[(77,vi gh.1)]) (fun gh=>[]) (fun gh=>gh.2) (fun gh=>gh.1≤h.marks.bE.length∧dR (((List.range h.marks.bE.length).map (uJ (bC us st li rv) h.marks.bE)).drop gh.1)=kK (uJ (bC us st li rv) h.marks.bE) h.marks.bE.length∧(∀ b o,g b=some o→gh.2 b=some o)) (fun gh=>h.marks.bE.length - gh.1) ((0,g)) (by exact (H).sub ⟨rfl,rfl,rfl,rfl,rfl,rfl,aC⟩) ?_ ?_
 ·exact ⟨gW _,rfl,fun _ _ h=>h⟩
 clear H;rintro ⟨k,g2⟩ a w hI H;dsimp only at hI H;obtain ⟨hk,heq,hgm⟩:=hI;dsimp only [lca,bJ] at H;refine kP H (SR fun _ qK=>Rc rfl (Kz qK (SQ fun _ uw=>Cd rfl ?_ ?_))) <;> clear H qK
 ·intro RY a H
  try have p78:=dT RY
  have hk2:k < h.marks.bE.length:=by omega
  have hd2:=hh.bE.mono hgm;obtain ⟨xb,xo,rfl,hrow⟩:=MW hd2 hk2
  have hk1:k - 1 < h.marks.bE.length:=by omega
  obtain ⟨b',o',he',hrow'⟩:=MW hd2 hk1
  injection he' with he'
  injection he' with e1 e2
  subst e1;subst e2
  have hde:uJ (bC us st li rv) h.marks.bE k=uK (bC us st li rv) k h.marks.bE[k] h.marks.bE[k - 1].rev:=by unfold uJ;rw [eT hk2,eT hk1];rfl
  have hX:∀ v,uK (bC us st li rv) k h.marks.bE[k] h.marks.bE[k - 1].rev=v→v≠0→iD (bC us st li rv) e h=v:=fun v h1 h2=>by
   have h4:kK (uJ (bC us st li rv) h.marks.bE) h.marks.bE.length=v:=by rw [← heq,Fu hk2,hde,h1,au h2]
   exact (akX e1 e2 e3 (by rw [h4];exact h2)).trans h4
  have hp:=hrow' 0 _ rfl;have g3':=aJ hgm g3;have hc2':=aJ hgm hc2;have q2':=aJ hgm q2;refine kP H (Kc uw (SQ fun _ rH=>SB (SR fun _ wI=>Rm rfl (Ri lJ nG rfl rfl ?_))));clear H uw;intro a H;refine bL nG (cs:=h.marks.bE[k].cells) H wn rfl rfl (fun j v hj=>H.hp.aI (hrow j v hj)) rfl ?_;clear H;intro a H;refine dS nG H wn rfl ?_;clear H;intro b13 a w Nn H;refine kH H (Ra rfl ?_);clear H;intro a H;refine bD nG 0 (vs:=[_,_]) _ H wn rfl rfl rfl rfl rfl rfl rfl rfl ?_;clear H;intro w H;dsimp only [List.set,setRow] at H;refine wI _ _ ?_;clear wI;refine Cn ?_;refine bN (fun _ Az=>?_);refine dI hmx [[],[0],[0,1],[0,1,2],[],[4],(ra 0 6),(ra 0 7),(ra 0 8)] [8] (by kernel_rfl) [_,_,_,_,_,vi h.marks.bE[k].rev,.bool (decide (h.marks.bE[k].rev∈rv.map dh.id)),_] H (aF (X0 rfl fun hG=>Rg Jj rfl (aJ hG g3')) (Z1 0 83 rfl (Rk rfl)) (Z1 1 84 rfl (Rf J2 rfl)) (X1 2 85 rfl fun hG=>Rg uj rfl (aJ hG hc2')) (aF (Z0 rfl (Rf Eb rfl)) (Z1 4 87 rfl (Ro aH 0 rfl)) ?_ (Z1 6 89 rfl (Rn rfl)) (bR (bS rfl) dz))) ?_
  ·refine dJ 3 86 5 88 rfl rfl fun _ a w G1 hG HT H fin=>?_;refine Ak (zv:=.bool false) xG lu (by kernel_rfl) H wn rfl rfl (H.ro _ _ (hG _ _ (hgm _ _ hck.rev))) rfl ?_;clear H;intro a H;rw [EB] at H;exact fin H iJ rfl
  clear H;intro a w G Ip H hv;have H:=H.aM (hv 7 90 rfl rfl) rfl;clear hv;refine kH H (Ra rfl ?_);clear H;intro a H;refine aD ⟨rfl,?_⟩;refine Az _ _ ?_;clear Az;refine jD H rfl ?_ ?_
  ·intro wU
   refine bN (fun _ AA=>?_);have hE:=hX 22 (by unfold uK;rw [au (by simpa using wU)]) (by decide);exact kP H (SC (bq AA rfl (LR results70 rfl fun H=>H.rt (by rw [hE]))))
  intro wU
  try have p82:=dF wU
  have KF:¬ (h.marks.bE[k].rev∉(bC us st li rv).Ai):=by simpa using wU
  refine bN (fun _ pJ=>?_);replace hp:=aJ Ip hp;replace q2':=aJ Ip q2'
  by_cases c3:0 < (k:Int)
  ·skip
   by_cases c4:h.marks.bE[k].rev≤h.marks.bE[k - 1].rev
   ·skip;refine dI hmx [[],[0],[0,1],[0,1,2],(ra 0 4),[0,1,2],[0,1,2,5],[0,1,2],[0,1,2,7],[0,1,2,5,6,7,8],[0,1,2,5,6,7,8,9],([0,1,2]++ra 5 6),(ra 0 12),(ra 0 13),(ra 0 14)] [14] (by kernel_rfl) [_,_,_,_,vi h.marks.bE[k].rev,_,_,_,vi ((k - 1:Nat):Int),_,_,_,_,_] H (aF (Z0 rfl (Rm rfl)) (Z1 0 92 rfl (Rc rfl)) (Z1 1 93 rfl (Rm rfl)) (Z1 2 94 rfl (YF Eb (aG c3) rfl)) (aF (Z2 3 95 2 94 rfl (YO aH 0 (aG c3) rfl)) (Z1 2 94 rfl (YF pU (aG c3) rfl)) (X2 5 97 2 94 rfl fun hG=>YR qj (aG c3) rfl (aJ hG q2')) (Z1 2 94 rfl (YM (aG c3) rfl)) (aF ?_ (Z3 6 98 8 100 2 94 rfl (YI lJ nG (aG c3) rfl rfl)) (Z2 9 101 2 94 rfl (YF Eb (aG c3) rfl)) (X2 10 102 2 94 rfl fun hG=>YR aH (aG c3) rfl (aJ hG hp)) (bR (Z3 4 96 11 103 2 94 rfl (YC (aG c3) rfl)) (bR (Z2 2 94 12 104 rfl (Pt (aG c3) rfl)) (bR (bS rfl) dz)))))) ?_
    ·refine dJ 7 99 2 94 rfl rfl fun _ a w G1 hG HT H fin=>?_;refine nS _ H (wg H rfl rfl (aG c3)) rfl rfl rfl (by omega) (by omega) rfl ?_;clear H;intro a H;exact fin H iJ (by show _=_;first|rfl|exact aB vi (by omega))
    clear H;intro a w G Nk H hv;have H:=H.aM (hv 13 105 rfl rfl) rfl;clear hv;refine kH H (Ra rfl ?_);clear H;intro a H;refine aD ⟨rfl,?_⟩;refine pJ _ _ ?_;clear pJ;refine Ba H rfl (aG c4) ?_;refine bN (fun _ Cg=>?_);have hz:0 < k∧h.marks.bE[k].rev≤h.marks.bE[k - 1].rev:=⟨by omega,c4⟩;have hE:=hX 6 (by unfold uK;rw [ah KF,au hz]) (by decide);exact kP H (SC (bq Cg rfl (LR results70 rfl fun H=>H.rt (by rw [hE]))))
   skip;refine dI hmx [[],[0],[0,1],[0,1,2],(ra 0 4),[0,1,2],[0,1,2,5],[0,1,2],[0,1,2,7],[0,1,2,5,6,7,8],[0,1,2,5,6,7,8,9],([0,1,2]++ra 5 6),(ra 0 12),(ra 0 13),(ra 0 14)] [14] (by kernel_rfl) [_,_,_,_,vi h.marks.bE[k].rev,_,_,_,vi ((k - 1:Nat):Int),_,_,_,_,_] H (aF (Z0 rfl (Rm rfl)) (Z1 0 92 rfl (Rc rfl)) (Z1 1 93 rfl (Rm rfl)) (Z1 2 94 rfl (YF Eb (aG c3) rfl)) (aF (Z2 3 95 2 94 rfl (YO aH 0 (aG c3) rfl)) (Z1 2 94 rfl (YF pU (aG c3) rfl)) (X2 5 97 2 94 rfl fun hG=>YR qj (aG c3) rfl (aJ hG q2')) (Z1 2 94 rfl (YM (aG c3) rfl)) (aF ?_ (Z3 6 98 8 100 2 94 rfl (YI lJ nG (aG c3) rfl rfl)) (Z2 9 101 2 94 rfl (YF Eb (aG c3) rfl)) (X2 10 102 2 94 rfl fun hG=>YR aH (aG c3) rfl (aJ hG hp)) (bR (Z3 4 96 11 103 2 94 rfl (YC (aG c3) rfl)) (bR (Z2 2 94 12 104 rfl (Pt (aG c3) rfl)) (bR (bS rfl) dz)))))) ?_
   ·refine dJ 7 99 2 94 rfl rfl fun _ a w G1 hG HT H fin=>?_;refine nS _ H (wg H rfl rfl (aG c3)) rfl rfl rfl (by omega) (by omega) rfl ?_;clear H;intro a H;exact fin H iJ (by show _=_;first|rfl|exact aB vi (by omega))
   clear H;intro a w G Nk H hv;have H:=H.aM (hv 13 105 rfl rfl) rfl;clear hv;refine kH H (Ra rfl ?_);clear H;intro a H;refine aD ⟨rfl,?_⟩;refine pJ _ _ ?_;clear pJ;refine rP H rfl (aS c4) ?_;refine bN (fun _ AB=>?_)
   have hz:¬ (0 < k∧h.marks.bE[k].rev≤h.marks.bE[k - 1].rev):=by first|exact fun h=>c4 h.2|exact fun h=>c3 (by omega)
   refine kP H (SC (aY YG aH 0 rfl rfl ?_));clear H;intro a H;refine s_call xS H wn rfl (yw _ _ H.ro h.marks.bE[k].move 0 1073741824) rfl ?_;clear H;rintro v109 _ a w ⟨rfl,rfl⟩ - H;refine kH H (Rn rfl (bq AB rfl (Cd rfl ?_ ?_))) <;> clear H AB
   ·intro zN a H
    try have Uz:=dT zN
    refine bN (fun _ Fa=>?_);have hE:=hX 21 (by unfold uK;rw [ah KF,ah hz,au (by have h0:=zN;simp at h0;omega)]) (by decide);exact kP H (SC (bq Fa rfl (LR results70 rfl fun H=>H.rt (by rw [hE]))))
   intro zN a H
   try have Uz:=dF zN
   have SS:uK (bC us st li rv) k h.marks.bE[k] h.marks.bE[k - 1].rev=0:=by unfold uK;rw [ah KF,ah hz,ah (by have h0:=zN;simp at h0;omega)]
   have R6:=fun b o h=>Nk b o (Ip b o (hgm b o h));refine kP H (Kc rH (SC (Rd rfl (Rm rfl ?_))));clear H rH;intro a H;refine aD ?_;refine dD ((k+1,G)) (by exact (H.dY (Pl:=[_]) (dK:=[]) [] (by decide) rfl).sub ⟨rfl,rfl,rfl,rfl,rfl,rfl,aC⟩) ?_
   (try dsimp only);exact ⟨by omega,by rw [Fu hk2,ah (by rw [hde];simpa using SS)] at heq;exact heq,R6⟩
  skip;refine dI hmx [[],[0],[0,1],[0,1,2],(ra 0 4),[0,1,2],[0,1,2,5],[0,1,2],[0,1,2,7],[0,1,2,5,6,7,8],[0,1,2,5,6,7,8,9],([0,1,2]++ra 5 6),(ra 0 12),(ra 0 13),(ra 0 14)] [14] (by kernel_rfl) [_,_,_,undef,undef,undef,undef,undef,undef,undef,undef,undef,undef,_] H (aF (Z0 rfl (Rm rfl)) (Z1 0 92 rfl (Rc rfl)) (Z1 1 93 rfl (Rm rfl)) (aV 2 (aS c3) rfl rfl) (aF (aV 2 (aS c3) rfl rfl) (aV 2 (aS c3) rfl rfl) (aV 2 (aS c3) rfl rfl) (aV 2 (aS c3) rfl rfl) (aF (aV 2 (aS c3) rfl rfl) (aV 2 (aS c3) rfl rfl) (aV 2 (aS c3) rfl rfl) (aV 2 (aS c3) rfl rfl) (bR (aV 2 (aS c3) rfl rfl) (bR (Z2 2 94 12 104 rfl (Pf (aS c3) rfl)) (bR (bS rfl) dz)))))) ?_
  clear H;intro a w G Nk H hv;have H:=H.aM (hv 13 105 rfl rfl) rfl;clear hv;refine kH H (Ra rfl ?_);clear H;intro a H;refine aD ⟨rfl,?_⟩;refine pJ _ _ ?_;clear pJ;refine rP H rfl rfl ?_;refine bN (fun _ DT=>?_)
  have hz:¬ (0 < k∧h.marks.bE[k].rev≤h.marks.bE[k - 1].rev):=by first|exact fun h=>c4 h.2|exact fun h=>c3 (by omega)
  refine kP H (SC (aY YG aH 0 rfl rfl ?_));clear H;intro a H;refine s_call xS H wn rfl (yw _ _ H.ro h.marks.bE[k].move 0 1073741824) rfl ?_;clear H;rintro v109 _ a w ⟨rfl,rfl⟩ - H;refine kH H (Rn rfl (bq DT rfl (Cd rfl ?_ ?_))) <;> clear H DT
  ·intro zN a H
   try have Uz:=dT zN
   refine bN (fun _ Fb=>?_);have hE:=hX 21 (by unfold uK;rw [ah KF,ah hz,au (by have h0:=zN;simp at h0;omega)]) (by decide);exact kP H (SC (bq Fb rfl (LR results70 rfl fun H=>H.rt (by rw [hE]))))
  intro zN a H
  try have Uz:=dF zN
  have SS:uK (bC us st li rv) k h.marks.bE[k] h.marks.bE[k - 1].rev=0:=by unfold uK;rw [ah KF,ah hz,ah (by have h0:=zN;simp at h0;omega)]
  have R6:=fun b o h=>Nk b o (Ip b o (hgm b o h));refine kP H (Kc rH (SC (Rd rfl (Rm rfl ?_))));clear H rH;intro a H;refine aD ?_;refine dD ((k+1,G)) (by exact (H.dY (Pl:=[_]) (dK:=[]) [] (by decide) rfl).sub ⟨rfl,rfl,rfl,rfl,rfl,rfl,aC⟩) ?_
  (try dsimp only);exact ⟨by omega,by rw [Fu hk2,ah (by rw [hde];simpa using SS)] at heq;exact heq,R6⟩
 intro RY a H
 try have p78:=dF RY
 refine dV ?_;refine qJ _ _ ?_;clear qJ;refine bN (fun _ DU=>?_);refine bN (fun _ JA=>?_)
 have e4:kK (uJ (bC us st li rv) h.marks.bE) h.marks.bE.length=0:=by rw [← heq,jC (by simp;omega)];rfl
 replace q3:=aJ hgm q3;refine kP H (SC (Rf zJ rfl (Rg Ap rfl (by assumption) ?_)));clear H;intro a H;refine kH H (Rl ku rfl (Rc rfl (Kn JA (Cd rfl ?_ ?_)))) <;> clear H JA
 ·intro RJ a H
  try have UA:=dT RJ
  refine bN (fun _ Ml=>?_);have hE:=akY (C:=bC us st li rv) (e:=e) (h:=h) e1 e2 e3 e4 UA;exact kP H (SC (bq Ml rfl (LR results70 rfl fun H=>H.rt (by rw [hE]))))
 intro RJ a H
 try have UA:=dF RJ
 refine gU ?_;refine DU _ _ ?_;clear DU;refine bN (fun _ Mq=>?_);have hE:=akZ (C:=bC us st li rv) (e:=e) (h:=h) e1 e2 e3 e4 UA;refine kP H (SC (Rf zJ rfl (Rg Ap rfl (by assumption) ?_)));clear H;intro a H;refine kH H (Rl ku rfl ?_);clear H;intro a H;refine oZ H wn rfl rfl ?_;clear H;intro a H;refine s_call Ih H wn rfl (JG _ _ H.ro h.marks.layers.length (za (bC us st li rv) e h.marks.layers) _ (by omega) (hcb.mono hgm)) rfl ?_;clear H;rintro atT asA a w rfl asO H;exact kH H (bq Mq rfl (LR results70 rfl fun H=>H.rt (by rw [hE])))
end
theorem J7:dH prog 68 1 1:=⟨by kernel_rfl⟩
def codeOk (x:ay):Bool:=if x.kind=4 then decide (1≤x.code∧x.code≤3) else if x.kind=6 then decide (1≤x.code∧x.code≤2) else if x.kind=8 then decide (1≤x.code∧x.code≤4) else true
def zq (x:ay):Bool:=decide (x.kind=8∧x.code=1)
def zy (x:ay):Bool:=decide (x.kind=1∨x.kind=5) || zq x
def xw (x:ay):Bool:=decide (x.kind=6∨x.kind=7∨x.kind=8)
def wP (x:ay):Bool:=decide (x.kind=4∨x.kind=6∨x.kind=8)
def qN (s:ByteArray):Bool:=s.toList == (⟨#[]⟩:ByteArray).toList
def uN (x:ay):Bool:=!wP x && decide (x.code≠0) || !xw x && decide (x.id≠0) || !zy x && !qN x.text || decide (x.kind≠6) && decide (0 < (x.flow.length:Int)) || decide (x.kind≠7) && decide (0 < (x.rows.length:Int))
def kD (x:ay):Int :=
 if (!decide (1≤x.kind∧x.kind≤8) || !codeOk x)=true then 3 else if uN x=true then 15 else if rG x.text=false then 12 else if (decide (x.kind=1∨x.kind=5) && qN x.text)=true then 11
 else if (decide (x.kind=5) && decide (1024 < (x.text.size:Int)))=true then 10 else if (zq x && !sH x.text)=true then 13 else 0
theorem ajE (G:GH) (w0:World) (hG:Hold G w0) (x:ay) (p d l:aj) (fA rA:Option Addr) (fc rc:Nat) (hs:x.text.size < 4611686018427387904) :
  Calls prog 196 #[.agg #[vi x.kind,vi x.code,vi x.id,.string x.text,p,vi x.head.marks.ins,vi x.head.marks.move,d,l,.slice fA x.flow.length fc,.slice rA x.rows.length rc]] w0 (aZ w0 G fun u G'=>u=vi (kD x)∧G=G'):=by
 refine eN [(0,_)] func196 rfl ntmps196 rfl rfl hG ?_;intro a H;refine cu (fun _ K1=>?_);refine dQ (cs:=[_,_,_,_,_,_,_,_,_,_,_]) H wn rfl rfl rfl ?_;clear H;intro b1 a w hb1 H;refine kH H (ak K1 rfl ?_);clear H K1;intro a H;refine sW (ι:=Bool) (Tc:=[(1,_)]) (Lc:=[(_,_)]) (fun gh=>[(3,.bool gh)]) (fun gh=>[]) (fun gh=>G) (fun gh=>gh=zq x) (by exact (H).sub ⟨rfl,aC⟩) ?_ ?_
 ·skip;refine kP H (SC (aY jZ aH 0 rfl rfl (Rc rfl (Rm rfl (Sp 11 rfl ?_ ?_))))) <;> clear H
  ·intro h11 a H
   try have oD:=dT h11
   refine kH H (YF J7 h11 rfl (YO aH 0 h11 rfl (YC h11 rfl (Pt h11 rfl (Ra rfl ?_)))));clear H;intro a H;refine aD ?_;refine ⟨_,by exact (H).sub ⟨rfl,rfl,aC⟩,?_⟩
   unfold zq;first|(simp_all;done)
  intro h11 a H
  try have oD:=dF h11
  refine kH H (bF h11 rfl (Pf h11 rfl (Ra rfl ?_)));clear H;intro a H;refine aD ?_;refine ⟨_,by exact (H).sub ⟨rfl,rfl,aC⟩,?_⟩
  unfold zq;first|(simp_all;done)
 clear H;intro st a w hI H;have hst:=hI;dsimp only [lca,bJ] at H;refine sW (ι:=Bool) (Tc:=[(1,_),(3,_)]) (Lc:=[(_,_)]) (fun gh=>[(4,.bool gh)]) (fun gh=>[]) (fun gh=>G) (fun gh=>gh=zy x) (by exact (H).sub ⟨rfl,rfl,aC⟩) ?_ ?_
 ·skip;refine kP H (SC (aY jZ aH 0 rfl rfl (Rc rfl (Rm rfl (Sp 19 rfl ?_ ?_))))) <;> clear H
  ·intro h19 a H
   try have uf:=dT h19
   refine kH H (bF h19 rfl (Pt h19 rfl (Rm rfl (Ks rfl rfl (Pt rfl rfl (Ra rfl ?_))))));clear H;intro a H;refine aD ?_;refine ⟨_,by exact (H).sub ⟨rfl,rfl,rfl,aC⟩,?_⟩
   unfold zy;first|(simp_all;done)
  intro h19 a H
  try have uf:=dF h19
  refine kH H (YF jZ h19 rfl (YO aH 0 h19 rfl (YC h19 rfl (Pf h19 rfl (Rm rfl (Sp 24 rfl ?_ ?_)))))) <;> clear H
  ·intro fB a H
   try have mU:=dT fB
   refine kH H (Ks fB rfl (Pt fB rfl (Ra rfl ?_)));clear H;intro a H;refine aD ?_;refine ⟨_,by exact (H).sub ⟨rfl,rfl,rfl,aC⟩,?_⟩
   unfold zy;first|(simp_all;done)
  intro fB a H
  try have mU:=dF fB
  refine kH H (YM fB rfl (Pf fB rfl (Ra rfl ?_)));clear H;intro a H;refine aD ?_;refine ⟨_,by exact (H).sub ⟨rfl,rfl,rfl,aC⟩,?_⟩
  unfold zy;first|(simp_all;done)
 clear H;intro wd a w hI H;have hwd:=hI;dsimp only [lca,bJ] at H;refine sW (ι:=Bool) (Tc:=[(1,_),(3,_),(4,_)]) (Lc:=[(_,_)]) (fun gh=>[(5,.bool gh)]) (fun gh=>[]) (fun gh=>G) (fun gh=>gh=xw x) (by exact (H).sub ⟨rfl,rfl,rfl,aC⟩) ?_ ?_
 ·skip;refine kP H (SC (aY jZ aH 0 rfl rfl (Rc rfl (Rm rfl (Sp 30 rfl ?_ ?_))))) <;> clear H
  ·intro ow a H
   try have p30:=dT ow
   refine kH H (bF ow rfl (Pt ow rfl (Rm rfl (bF rfl rfl (Pt rfl rfl (Ra rfl ?_))))));clear H;intro a H;refine aD ?_;refine ⟨_,by exact (H).sub ⟨rfl,rfl,rfl,rfl,aC⟩,?_⟩
   unfold xw;first|(simp_all;done)
  intro ow a H
  try have p30:=dF ow
  refine kH H (YF jZ ow rfl (YO aH 0 ow rfl (YC ow rfl (Pf ow rfl (Rm rfl (Sp 35 rfl ?_ ?_)))))) <;> clear H
  ·intro fP a H
   try have p35:=dT fP
   refine kH H (bF fP rfl (Pt fP rfl (Ra rfl ?_)));clear H;intro a H;refine aD ?_;refine ⟨_,by exact (H).sub ⟨rfl,rfl,rfl,rfl,aC⟩,?_⟩
   unfold xw;first|(simp_all;done)
  intro fP a H
  try have p35:=dF fP
  refine kH H (YF jZ fP rfl (YO aH 0 fP rfl (YC fP rfl (Pf fP rfl (Ra rfl ?_)))));clear H;intro a H;refine aD ?_;refine ⟨_,by exact (H).sub ⟨rfl,rfl,rfl,rfl,aC⟩,?_⟩
  unfold xw;first|(simp_all;done)
 clear H;intro nm a w hI H;have hnm:=hI;dsimp only [lca,bJ] at H;refine kP H (SR fun _ K2=>ak K2 rfl ?_);clear H K2;intro a H;refine sW (ι:=Bool) (Tc:=[(1,_),(3,_),(4,_),(5,_)]) (Lc:=[(_,_)]) (fun gh=>[(6,.bool gh)]) (fun gh=>[]) (fun gh=>G) (fun gh=>gh=codeOk x) (by exact (H).sub ⟨rfl,rfl,rfl,rfl,aC⟩) ?_ ?_
 ·skip;refine kP H (SR fun _ K3=>aY jZ aH 0 rfl rfl (Kz K3 (SB (SR fun _ K4=>Rc rfl (ak K4 rfl (Cd rfl ?_ ?_)))))) <;> clear H K3 K4
  ·intro jw a H
   try have p42:=dT jw
   refine kP H (SC (aY J7 aH 0 rfl rfl ?_));clear H;intro a H;refine s_call xS H wn rfl (yw _ _ H.ro x.code 1 3) rfl ?_;clear H;rintro v46 _ a w ⟨rfl,rfl⟩ - H;refine kH H (Ra rfl ?_);clear H;intro a H;refine aD ?_;refine ⟨_,by exact (H).sub ⟨rfl,rfl,rfl,rfl,rfl,aC⟩,?_⟩
   unfold codeOk;first|(simp_all;done)
  intro jw a H
  try have p42:=dF jw
  refine kP H (SR fun _ K5=>Rc rfl (ak K5 rfl (Cd rfl ?_ ?_))) <;> clear H K5
  ·intro h47 a H
   try have p47:=dT h47
   refine kP H (SC (aY J7 aH 0 rfl rfl ?_));clear H;intro a H;refine s_call xS H wn rfl (yw _ _ H.ro x.code 1 2) rfl ?_;clear H;rintro v51 _ a w ⟨rfl,rfl⟩ - H;refine kH H (Ra rfl ?_);clear H;intro a H;refine aD ?_;refine ⟨_,by exact (H).sub ⟨rfl,rfl,rfl,rfl,rfl,aC⟩,?_⟩
   unfold codeOk;first|(simp_all;done)
  intro h47 a H
  try have p47:=dF h47
  refine kP H (SR fun _ K6=>Rc rfl (ak K6 rfl (Cd rfl ?_ ?_))) <;> clear H K6
  ·intro oQ a H
   try have p52:=dT oQ
   refine kP H (SC (aY J7 aH 0 rfl rfl ?_));clear H;intro a H;refine s_call xS H wn rfl (yw _ _ H.ro x.code 1 4) rfl ?_;clear H;rintro v56 _ a w ⟨rfl,rfl⟩ - H;refine kH H (Ra rfl ?_);clear H;intro a H;refine aD ?_;refine ⟨_,by exact (H).sub ⟨rfl,rfl,rfl,rfl,rfl,aC⟩,?_⟩
   unfold codeOk;first|(simp_all;done)
  intro oQ a H
  try have p52:=dF oQ
  refine gU ?_;refine ⟨_,by exact (H).sub ⟨rfl,rfl,rfl,rfl,rfl,aC⟩,?_⟩
  unfold codeOk;first|(simp_all;done)
 clear H;intro ck a w hI H;have hck:=hI;dsimp only [lca,bJ] at H;refine sW (ι:=Bool) (Tc:=[(1,_),(3,_),(4,_),(5,_),(6,_)]) (Lc:=[(_,_)]) (fun gh=>[(7,.bool gh)]) (fun gh=>[]) (fun gh=>G) (fun gh=>gh=wP x) (by exact (H).sub ⟨rfl,rfl,rfl,rfl,rfl,aC⟩) ?_ ?_
 ·skip;refine kP H (SC (aY jZ aH 0 rfl rfl (Rc rfl (Rm rfl (Sp 60 rfl ?_ ?_))))) <;> clear H
  ·intro jT a H
   try have p60:=dT jT
   refine kH H (bF jT rfl (Pt jT rfl (Rm rfl (bF rfl rfl (Pt rfl rfl (Ra rfl ?_))))));clear H;intro a H;refine aD ?_;refine ⟨_,by exact (H).sub ⟨rfl,rfl,rfl,rfl,rfl,rfl,aC⟩,?_⟩
   unfold wP;first|(simp_all;done)
  intro jT a H
  try have p60:=dF jT
  refine kH H (YF jZ jT rfl (YO aH 0 jT rfl (YC jT rfl (Pf jT rfl (Rm rfl (Sp 65 rfl ?_ ?_)))))) <;> clear H
  ·intro tF a H
   try have p65:=dT tF
   refine kH H (bF tF rfl (Pt tF rfl (Ra rfl ?_)));clear H;intro a H;refine aD ?_;refine ⟨_,by exact (H).sub ⟨rfl,rfl,rfl,rfl,rfl,rfl,aC⟩,?_⟩
   unfold wP;first|(simp_all;done)
  intro tF a H
  try have p65:=dF tF
  refine kH H (YF jZ tF rfl (YO aH 0 tF rfl (YC tF rfl (Pf tF rfl (Ra rfl ?_)))));clear H;intro a H;refine aD ?_;refine ⟨_,by exact (H).sub ⟨rfl,rfl,rfl,rfl,rfl,rfl,aC⟩,?_⟩
  unfold wP;first|(simp_all;done)
 clear H;intro cd a w hI H;have hcd:=hI;dsimp only [lca,bJ] at H;refine kP H (SQ fun _ K7=>SB (SR fun _ K8=>?_));clear H;intro a H;refine DF (ι:=Bool) (Tc:=[(1,_),(3,_),(4,_),(5,_),(7,_)]) 8 (fun (q0:Bool)=>[(78,.bool q0)]) (fun (q0:Bool)=>q0=(!decide (1≤x.kind∧x.kind≤8) || !codeOk x)) (by exact H.sub ⟨rfl,rfl,rfl,rfl,rfl,aC⟩) ?_ ?_
 ·intro Zc;refine kH H (aY jZ aH 0 rfl rfl ?_);clear H;intro a H;refine s_call xS H wn rfl (yw _ _ H.ro x.kind 1 8) rfl ?_;clear H;rintro v73 _ a w ⟨rfl,rfl⟩ - H;refine kH H (Rn rfl (Rm rfl (Sp 75 rfl ?_ ?_))) <;> clear H
  ·intro yX a H
   try have p75:=dT yX
   refine kH H (aQ yX rfl (Pt yX rfl ?_));clear H;intro a H;refine Zc (_) _ _ ?_ (by exact H.sub ⟨rfl,rfl,rfl,rfl,rfl,rfl,aC⟩);rw [← hck];clear hst hwd hnm hck hcd;(try clear hq1);(try clear hq2);(try clear hq3);(try clear hq0);(try clear hq4);(try clear nX);(try clear nY);(try clear nZ);simp_all
  intro yX a H
  try have p75:=dF yX
  refine kH H (YM yX rfl (YN yX rfl (Pf yX rfl ?_)));clear H;intro a H;refine Zc (_) _ _ ?_ (by exact H.sub ⟨rfl,rfl,rfl,rfl,rfl,rfl,aC⟩);rw [← hck];clear hst hwd hnm hck hcd;(try clear hq1);(try clear hq2);(try clear hq3);(try clear hq0);(try clear hq4);(try clear nX);(try clear nY);(try clear nZ);simp_all
 clear H;intro q0 a w hI H;dsimp only [lca,bJ] at H;simp only [yR,vB];have hq0:=hI;refine kH H (ak K8 rfl (Cd rfl ?_ ?_)) <;> clear H K8
 ·intro xY a H
  refine bN (fun _ K9=>?_)
  have e:kD x=3:=by unfold kD;rw [au (by rw [← hq0];exact xY)]
  exact kP H (SC (bq K9 rfl (LR results196 rfl fun H=>H.rt ⟨by rw [e],rfl⟩)))
 intro xY a H
 try have p70:=dF xY
 have f0:¬ (!decide (1≤x.kind∧x.kind≤8) || !codeOk x)=true:=by rw [← hq0,xY];decide
 refine cu (fun _ aR=>?_);refine DF (ι:=Bool) (Tc:=[(1,_),(3,_),(4,_),(5,_)]) 7 (fun (q1:Bool)=>[(86,.bool q1)]) (fun (q1:Bool)=>q1=(!wP x && decide (x.code≠0))) (by exact H.sub ⟨rfl,rfl,rfl,rfl,aC⟩) ?_ ?_
 ·intro Zd;refine kH H (Rm rfl (Rn rfl (Rm rfl (Sp 82 rfl ?_ ?_)))) <;> clear H
  ·intro wU a H
   try have p82:=dT wU
   refine kH H (YF J7 wU rfl (YO aH 0 wU rfl (YC wU rfl (Pt wU rfl ?_))));clear H;intro a H;refine Zd (_) _ _ ?_ (by exact H.sub ⟨rfl,rfl,rfl,rfl,rfl,aC⟩);rw [← hcd];clear hst hwd hnm hck hcd;(try clear hq1);(try clear hq2);(try clear hq3);(try clear hq0);(try clear hq4);(try clear nX);(try clear nY);(try clear nZ);simp_all
  intro wU a H
  try have p82:=dF wU
  refine kH H (bF wU rfl (Pf wU rfl ?_));clear H;intro a H;refine Zd (_) _ _ ?_ (by exact H.sub ⟨rfl,rfl,rfl,rfl,rfl,aC⟩);rw [← hcd];clear hst hwd hnm hck hcd;(try clear hq1);(try clear hq2);(try clear hq3);(try clear hq0);(try clear hq4);(try clear nX);(try clear nY);(try clear nZ);simp_all
 clear H;intro q1 a w hI H;dsimp only [lca,bJ] at H;simp only [yR,vB];have hq1:=hI;refine DF (ι:=Bool) (Tc:=[(1,_),(3,_),(4,_)]) 9 (fun (q2:Bool)=>[(95,.bool q2)]) (fun (q2:Bool)=>q2=(q1 || !xw x && decide (x.id≠0))) (by exact H.sub ⟨rfl,rfl,rfl,aC⟩) ?_ ?_
 ·intro Sr;refine kH H (Rm rfl (Sp 87 rfl ?_ ?_)) <;> clear H
  ·intro h87 a H
   try have UE:=dT h87
   refine kH H (bF h87 rfl (Ku rfl (Ku rfl (Ku rfl (Ks h87 rfl (Pt h87 rfl ?_))))));clear H;intro a H;refine Sr (_) _ _ ?_ (by exact H.sub ⟨rfl,rfl,rfl,rfl,aC⟩);rw [← hnm];clear hst hwd hnm hck hcd;(try clear hq1);(try clear hq2);(try clear hq3);(try clear hq0);(try clear hq4);(try clear nX);(try clear nY);(try clear nZ);simp_all
  intro h87 a H
  try have UE:=dF h87
  refine kH H (YM h87 rfl (YN h87 rfl (YM h87 rfl (Sp 90 rfl ?_ ?_)))) <;> clear H
  ·intro Cx a H
   try have p90:=dT Cx
   refine kH H (YF J8 Cx rfl (YO aH 0 Cx rfl (YC Cx rfl (PT h87 Cx rfl (Pf h87 rfl ?_)))));clear H;intro a H;refine Sr (_) _ _ ?_ (by exact H.sub ⟨rfl,rfl,rfl,rfl,aC⟩);rw [← hnm];clear hst hwd hnm hck hcd;(try clear hq1);(try clear hq2);(try clear hq3);(try clear hq0);(try clear hq4);(try clear nX);(try clear nY);(try clear nZ);simp_all
  intro Cx a H
  try have p90:=dF Cx
  refine kH H (bF Cx rfl (PF h87 Cx rfl (Pf h87 rfl ?_)));clear H;intro a H;refine Sr (_) _ _ ?_ (by exact H.sub ⟨rfl,rfl,rfl,rfl,aC⟩);rw [← hnm];clear hst hwd hnm hck hcd;(try clear hq1);(try clear hq2);(try clear hq3);(try clear hq0);(try clear hq4);(try clear nX);(try clear nY);(try clear nZ);simp_all
 clear H;intro q2 a w hI H;dsimp only [lca,bJ] at H;simp only [yR,vB];have hq2:=hI;refine DF (ι:=Bool) (Tc:=[(1,_),(3,_)]) 9 (fun (q3:Bool)=>[(104,.bool q3)]) (fun (q3:Bool)=>q3=(q2 || !zy x && !qN x.text)) (by exact H.sub ⟨rfl,rfl,aC⟩) ?_ ?_
 ·intro Sm;refine kH H (Rm rfl (Sp 96 rfl ?_ ?_)) <;> clear H
  ·intro tH a H
   try have Lb:=dT tH
   refine kH H (bF tH rfl (Ku rfl (Ku rfl (Ku rfl (Ks tH rfl (Pt tH rfl ?_))))));clear H;intro a H;refine Sm (_) _ _ ?_ (by exact H.sub ⟨rfl,rfl,rfl,aC⟩);rw [← hwd];clear hst hwd hnm hck hcd;(try clear hq1);(try clear hq2);(try clear hq3);(try clear hq0);(try clear hq4);(try clear nX);(try clear nY);(try clear nZ);simp_all [qN]
  intro tH a H
  try have Lb:=dF tH
  refine kH H (YM tH rfl (YN tH rfl (YM tH rfl (Sp 99 rfl ?_ ?_)))) <;> clear H
  ·intro Cy a H
   try have p99:=dT Cy
   refine kH H (YF vH Cy rfl (YO iN 0 Cy rfl ?_));clear H;intro a H;refine apM H (wg H rfl rfl Cy) rfl rfl rfl ?_;clear H;intro a H;refine kH H (PT tH Cy rfl (Pf tH rfl ?_));clear H;intro a H;refine Sm (_) _ _ ?_ (by exact H.sub ⟨rfl,rfl,rfl,aC⟩);rw [← hwd];clear hst hwd hnm hck hcd;(try clear hq1);(try clear hq2);(try clear hq3);(try clear hq0);(try clear hq4);(try clear nX);(try clear nY);(try clear nZ);simp_all [qN]
  intro Cy a H
  try have p99:=dF Cy
  refine kH H (bF Cy rfl (PF tH Cy rfl (Pf tH rfl ?_)));clear H;intro a H;refine Sm (_) _ _ ?_ (by exact H.sub ⟨rfl,rfl,rfl,aC⟩);rw [← hwd];clear hst hwd hnm hck hcd;(try clear hq1);(try clear hq2);(try clear hq3);(try clear hq0);(try clear hq4);(try clear nX);(try clear nY);(try clear nZ);simp_all [qN]
 clear H;intro q3 a w hI H;dsimp only [lca,bJ] at H;simp only [yR,vB];have hq3:=hI;refine DF (ι:=Bool) (Tc:=[(1,_),(3,_)]) 11 (fun (q4:Bool)=>[(115,.bool q4)]) (fun (q4:Bool)=>q4=(q3 || decide (x.kind≠6) && decide (0 < (x.flow.length:Int)))) (by exact H.sub ⟨rfl,rfl,aC⟩) ?_ ?_
 ·intro Sn;refine kH H (Rm rfl (Sp 105 rfl ?_ ?_)) <;> clear H
  ·intro rV a H
   try have I6:=dT rV
   refine kH H (aQ rV rfl (aQ rV rfl (Ku rfl (Ku rfl (Ku rfl (Ku rfl (Ks rV rfl (Pt rV rfl ?_))))))));clear H;intro a H;refine Sn (_) _ _ ?_ (by exact H.sub ⟨rfl,rfl,rfl,aC⟩);clear hst hwd hnm hck hcd;(try clear hq1);(try clear hq2);(try clear hq3);(try clear hq0);(try clear hq4);(try clear nX);(try clear nY);(try clear nZ);simp_all
  intro rV a H
  try have I6:=dF rV
  refine kH H (YF jZ rV rfl (YO aH 0 rV rfl (YC rV rfl (YM rV rfl (Sp 109 rfl ?_ ?_))))) <;> clear H
  ·intro zO a H
   try have aof:=dT zO
   refine kH H (YF zK zO rfl (YO jc 0 zO rfl (YL iF zO rfl (YC zO rfl (PT rV zO rfl (Pf rV rfl ?_))))));clear H;intro a H;refine Sn (_) _ _ ?_ (by exact H.sub ⟨rfl,rfl,rfl,aC⟩);clear hst hwd hnm hck hcd;(try clear hq1);(try clear hq2);(try clear hq3);(try clear hq0);(try clear hq4);(try clear nX);(try clear nY);(try clear nZ);simp_all
  intro zO a H
  try have aof:=dF zO
  refine kH H (aQ zO rfl (aQ zO rfl (PF rV zO rfl (Pf rV rfl ?_))));clear H;intro a H;refine Sn (_) _ _ ?_ (by exact H.sub ⟨rfl,rfl,rfl,aC⟩);clear hst hwd hnm hck hcd;(try clear hq1);(try clear hq2);(try clear hq3);(try clear hq0);(try clear hq4);(try clear nX);(try clear nY);(try clear nZ);simp_all
 clear H;intro q4 a w hI H;dsimp only [lca,bJ] at H;simp only [yR,vB];have hq4:=hI;refine DF (ι:=Bool) (Tc:=[(1,_),(3,_)]) 11 (fun (q5:Bool)=>[(126,.bool q5)]) (fun (q5:Bool)=>q5=uN x) (by exact H.sub ⟨rfl,rfl,aC⟩) ?_ ?_
 ·intro Sq;refine kH H (Rm rfl (Sp 116 rfl ?_ ?_)) <;> clear H
  ·intro h116 a H
   try have aoi:=dT h116
   refine kH H (aQ h116 rfl (aQ h116 rfl (Ku rfl (Ku rfl (Ku rfl (Ku rfl (Ks h116 rfl (Pt h116 rfl ?_))))))));clear H;intro a H;refine Sq (_) _ _ ?_ (by exact H.sub ⟨rfl,rfl,rfl,aC⟩);rw [show uN x=(q4 || decide (x.kind≠7) && decide (0 < (x.rows.length:Int))) by rw [hq4,hq3,hq2,hq1];rfl];clear hq4;clear hst hwd hnm hck hcd;(try clear hq1);(try clear hq2);(try clear hq3);(try clear hq0);(try clear hq4);(try clear nX);(try clear nY);(try clear nZ);simp_all
  intro h116 a H
  try have aoi:=dF h116
  refine kH H (YF jZ h116 rfl (YO aH 0 h116 rfl (YC h116 rfl (YM h116 rfl (Sp 120 rfl ?_ ?_))))) <;> clear H
  ·intro zP a H
   try have aok:=dT zP
   refine kH H (YF qP zP rfl (YO rF 0 zP rfl (YL mX zP rfl (YC zP rfl (PT h116 zP rfl (Pf h116 rfl ?_))))));clear H;intro a H;refine Sq (_) _ _ ?_ (by exact H.sub ⟨rfl,rfl,rfl,aC⟩);rw [show uN x=(q4 || decide (x.kind≠7) && decide (0 < (x.rows.length:Int))) by rw [hq4,hq3,hq2,hq1];rfl];clear hq4;clear hst hwd hnm hck hcd;(try clear hq1);(try clear hq2);(try clear hq3);(try clear hq0);(try clear hq4);(try clear nX);(try clear nY);(try clear nZ);simp_all
  intro zP a H
  try have aok:=dF zP
  refine kH H (aQ zP rfl (aQ zP rfl (PF h116 zP rfl (Pf h116 rfl ?_))));clear H;intro a H;refine Sq (_) _ _ ?_ (by exact H.sub ⟨rfl,rfl,rfl,aC⟩);rw [show uN x=(q4 || decide (x.kind≠7) && decide (0 < (x.rows.length:Int))) by rw [hq4,hq3,hq2,hq1];rfl];clear hq4;clear hst hwd hnm hck hcd;(try clear hq1);(try clear hq2);(try clear hq3);(try clear hq0);(try clear hq4);(try clear nX);(try clear nY);(try clear nZ);simp_all
 clear H;intro q5 a w hI H;dsimp only [lca,bJ] at H;simp only [yR,vB];have nX:=hI;refine kH H (ak aR rfl (Cd rfl ?_ ?_)) <;> clear H aR
 ·intro Ej a H
  refine bN (fun _ bQ=>?_)
  have e:kD x=15:=by unfold kD;rw [ah f0,au (by rw [← nX];exact Ej)]
  exact kP H (SC (bq bQ rfl (LR results196 rfl fun H=>H.rt ⟨by rw [e],rfl⟩)))
 intro Ej a H
 try have UD:=dF Ej
 have f1:¬ uN x=true:=by rw [← nX,Ej];decide
 refine kP H (SR fun _ bY=>aY vH iN 0 rfl rfl ?_);clear H;intro a H;refine s_call JW H wn rfl (LW _ _ H.ro x.text hs) rfl ?_;clear H;rintro v130 _ a w ⟨rfl,rfl⟩ - H;refine kH H (Rn rfl (ak bY rfl (Cd rfl ?_ ?_))) <;> clear H bY
 ·intro h127 a H
  refine bN (fun _ cZ=>?_)
  have e:kD x=12:=by unfold kD;rw [ah f0,ah f1,au (by simpa using h127)]
  exact kP H (SC (bq cZ rfl (LR results196 rfl fun H=>H.rt ⟨by rw [e],rfl⟩)))
 intro h127 a H
 try have atN:=dF h127
 have f2:¬ rG x.text=false:=by simpa using h127
 refine cu (fun _ dG=>?_);refine DF (ι:=Bool) (Tc:=[(1,_),(3,_)]) 13 (fun (q6:Bool)=>[(145,.bool q6)]) (fun (q6:Bool)=>q6=(decide (x.kind=1∨x.kind=5) && qN x.text)) (by exact H.sub ⟨rfl,rfl,aC⟩) ?_ ?_
 ·intro Sv;refine kH H (aY jZ aH 0 rfl rfl (Rc rfl (Rm rfl (Sp 136 rfl ?_ ?_)))) <;> clear H
  ·intro Cr a H
   try have aom:=dT Cr
   refine kH H (bF Cr rfl (Pt Cr rfl (Rm rfl ?_)));clear H;intro a H;refine Je vH H (wg H rfl rfl rfl) rfl rfl ?_;clear H;intro a H;refine rC iN H (wg H rfl rfl rfl) rfl (H.hp.oW 0 rfl rfl) rfl ?_;clear H;intro a H;refine EJ H (wg H rfl rfl rfl) rfl rfl rfl ?_;clear H;intro a H;refine kH H (Pt rfl rfl ?_);clear H;intro a H;refine Sv (_) _ _ ?_ (by exact H.sub ⟨rfl,rfl,rfl,aC⟩);clear hst hwd hnm hck hcd;(try clear hq1);(try clear hq2);(try clear hq3);(try clear hq0);(try clear hq4);(try clear nX);(try clear nY);(try clear nZ);simp_all [qN]
  intro Cr a H
  try have aom:=dF Cr
  refine kH H (YF jZ Cr rfl (YO aH 0 Cr rfl (YC Cr rfl (Pf Cr rfl (Rm rfl (Sp 141 rfl ?_ ?_)))))) <;> clear H
  ·intro Cu a H
   try have aoo:=dT Cu
   refine kH H (YF vH Cu rfl (YO iN 0 Cu rfl ?_));clear H;intro a H;refine EJ H (wg H rfl rfl Cu) rfl rfl rfl ?_;clear H;intro a H;refine kH H (Pt Cu rfl ?_);clear H;intro a H;refine Sv (_) _ _ ?_ (by exact H.sub ⟨rfl,rfl,rfl,aC⟩);clear hst hwd hnm hck hcd;(try clear hq1);(try clear hq2);(try clear hq3);(try clear hq0);(try clear hq4);(try clear nX);(try clear nY);(try clear nZ);simp_all [qN]
  intro Cu a H
  try have aoo:=dF Cu
  refine kH H (bF Cu rfl (Pf Cu rfl ?_));clear H;intro a H;refine Sv (_) _ _ ?_ (by exact H.sub ⟨rfl,rfl,rfl,aC⟩);clear hst hwd hnm hck hcd;(try clear hq1);(try clear hq2);(try clear hq3);(try clear hq0);(try clear hq4);(try clear nX);(try clear nY);(try clear nZ);simp_all [qN]
 clear H;intro q6 a w hI H;dsimp only [lca,bJ] at H;simp only [yR,vB];have nY:=hI;refine kH H (ak dG rfl (Cd rfl ?_ ?_)) <;> clear H dG
 ·intro Eh a H
  refine bN (fun _ dZ=>?_)
  have e:kD x=11:=by unfold kD;rw [ah f0,ah f1,ah f2,au (by rw [← nY];exact Eh)]
  exact kP H (SC (bq dZ rfl (LR results196 rfl fun H=>H.rt ⟨by rw [e],rfl⟩)))
 intro Eh a H
 try have abn:=dF Eh
 have f3:¬ (decide (x.kind=1∨x.kind=5) && qN x.text)=true:=by rw [← nY,Eh];decide
 refine cu (fun _ eB=>?_);refine DF (ι:=Bool) (Tc:=[(1,_),(3,_)]) 9 (fun (q7:Bool)=>[(155,.bool q7)]) (fun (q7:Bool)=>q7=(decide (x.kind=5) && decide (1024 < (x.text.size:Int)))) (by exact H.sub ⟨rfl,rfl,aC⟩) ?_ ?_
 ·intro Ze;refine kH H (aY jZ aH 0 rfl rfl (Rc rfl (Rm rfl (Sp 150 rfl ?_ ?_)))) <;> clear H
  ·intro zQ a H
   try have aop:=dT zQ
   refine kH H (YF vH zQ rfl (YO iN 0 zQ rfl ?_));clear H;intro a H;refine EK iB H (wg H rfl rfl zQ) rfl rfl ?_;clear H;intro a H;refine kH H (YC zQ rfl (Pt zQ rfl ?_));clear H;intro a H;refine Ze (_) _ _ ?_ (by exact H.sub ⟨rfl,rfl,rfl,aC⟩);clear hst hwd hnm hck hcd;(try clear hq1);(try clear hq2);(try clear hq3);(try clear hq0);(try clear hq4);(try clear nX);(try clear nY);(try clear nZ);simp_all
  intro zQ a H
  try have aop:=dF zQ
  refine kH H (aQ zQ rfl (aQ zQ rfl (Pf zQ rfl ?_)));clear H;intro a H;refine Ze (_) _ _ ?_ (by exact H.sub ⟨rfl,rfl,rfl,aC⟩);clear hst hwd hnm hck hcd;(try clear hq1);(try clear hq2);(try clear hq3);(try clear hq0);(try clear hq4);(try clear nX);(try clear nY);(try clear nZ);simp_all
 clear H;intro q7 a w hI H;dsimp only [lca,bJ] at H;simp only [yR,vB];have nZ:=hI;refine kH H (ak eB rfl (Cd rfl ?_ ?_)) <;> clear H eB
 ·intro Ni a H
  refine bN (fun _ dW=>?_)
  have e:kD x=10:=by unfold kD;rw [ah f0,ah f1,ah f2,ah f3,au (by rw [← nZ];exact Ni)]
  exact kP H (SC (bq dW rfl (LR results196 rfl fun H=>H.rt ⟨by rw [e],rfl⟩)))
 intro Ni a H
 try have atO:=dF Ni
 have f4:¬ (decide (x.kind=5) && decide (1024 < (x.text.size:Int)))=true:=by rw [← nZ,Ni];decide
 refine cu (fun _ fC=>?_);refine DF (ι:=Bool) (Tc:=[]) 7 (fun (q8:Bool)=>[(163,.bool q8)]) (fun (q8:Bool)=>q8=(zq x && !sH x.text)) (by exact H.sub trivial) ?_ ?_
 ·intro Zf;refine kH H (Rm rfl (Rm rfl (Sp 158 rfl ?_ ?_))) <;> clear H
  ·intro zR a H
   try have aoq:=dT zR
   refine kH H (YF vH zR rfl (YO iN 0 zR rfl ?_));clear H;intro a H;refine s_call QN H (wg H rfl rfl zR) rfl (Qy _ _ H.ro x.text hs) rfl ?_;clear H;rintro atW _ a w ⟨rfl,rfl⟩ - H;refine kH H (YN zR rfl (Pt zR rfl ?_));clear H;intro a H;refine Zf (_) _ _ ?_ (by exact H.sub ⟨rfl,aC⟩);rw [← hst];clear hst hwd hnm hck hcd;(try clear hq1);(try clear hq2);(try clear hq3);(try clear hq0);(try clear hq4);(try clear nX);(try clear nY);(try clear nZ);simp_all
  intro zR a H
  try have aoq:=dF zR
  refine kH H (aQ zR rfl (aQ zR rfl (Pf zR rfl ?_)));clear H;intro a H;refine Zf (_) _ _ ?_ (by exact H.sub ⟨rfl,aC⟩);rw [← hst];clear hst hwd hnm hck hcd;(try clear hq1);(try clear hq2);(try clear hq3);(try clear hq0);(try clear hq4);(try clear nX);(try clear nY);(try clear nZ);simp_all
 clear H;intro q8 a w hI H;dsimp only [lca,bJ] at H;simp only [yR,vB];have hq8:=hI;refine kH H (ak fC rfl (Cd rfl ?_ ?_)) <;> clear H fC
 ·intro RP a H
  refine bN (fun _ gQ=>?_)
  have e:kD x=13:=by unfold kD;rw [ah f0,ah f1,ah f2,ah f3,ah f4,au (by rw [← hq8];exact RP)]
  exact kP H (SC (bq gQ rfl (LR results196 rfl fun H=>H.rt ⟨by rw [e],rfl⟩)))
 intro RP a H
 refine gU ?_;refine K7 _ _ ?_;clear K7;refine bN (fun _ fM=>?_)
 have e:kD x=0:=by unfold kD;rw [ah f0,ah f1,ah f2,ah f3,ah f4,ah (by rw [← hq8,RP];decide)]
 exact kP H (SC (bq fM rfl (LR results196 rfl fun H=>H.rt ⟨by rw [e],rfl⟩)))
structure CS where
 n:Int
 bH:List Int
abbrev CR:=Int × CS
def gF (r:CR) (f:CS→CR):CR:=if r.1≠0 then r else f r.2
theorem HZ {r:CR} {f:CS→CR} (h:r.1=0):gF r f=f r.2:=by rw [gF,ah (fun h'=>h' h)]
theorem ME {r:CR} {f:CS→CR} (h:r.1≠0):gF r f=r:=by rw [gF,au h]
def kM (C:bO) (s:CS) (x:Int):CR:=(qE C.us s.bH x,⟨s.n,kL C.us s.bH x⟩)
def mV (C:bO) (body note:Bool) (t k i:Int) (s:CS):CR :=
 if k=3 then (dw (!body) 19,s) else if k=6 then gF (dw note 19,s) fun s=>kM C s i else if k=7 then gF (dw (decide (4≤t)) 17,s) fun s=>kM C s i else if k=8 then (dw (!decide (1≤i∧i≤1073741824)) 18,s) else (0,s)
def Dn (C:bO) (h:dM) (n:Nat):Int:=dR [iD C 9 h,dw (decide ((n:Int)=0)) 11,dw (decide (32 < (n:Int))) 9]
def mE (n:Nat) (f:CS→CR) (s:CS):CR:=if n=0 then (11,s) else if 256 < n then (9,s) else f s
mutual
def fH (C:bO) (body note:Bool) (t:Int):ay→CS→CR
 | .mk k c i tx h f r,s =>
  gF (kD (.mk k c i tx h f r),s) fun s=>gF (mV C body note t k i ⟨s.n+(if k=1 then tq tx else 1:Nat),s.bH⟩) fun s=>gF (iD C k h,s) fun s =>
   if k=6 then jF C false true t f s else if k=7 then mE r.length (fun s=>iR C note (t+1) r s) s else (0,s)
def zk (C:bO) (note:Bool) (t:Int):aW→CS→CR
 | .mk h cs,s=>gF (Dn C h cs.length,s) fun s=>qp C note t cs s
def cellC (C:bO) (note:Bool) (t:Int):aX→CS→CR
 | .mk i h f,s=>gF (kM C s i) fun s=>gF (iD C 10 h,s) fun s=>jF C false note t f s
def jF (C:bO) (body note:Bool) (t:Int):List ay→CS→CR
 | [],s=>(0,s)
 | x :: r,s=>gF (fH C body note t x s) fun s=>jF C body note t r s
def iR (C:bO) (note:Bool) (t:Int):List aW→CS→CR
 | [],s=>(0,s)
 | x :: r,s=>gF (zk C note t x s) fun s=>iR C note t r s
def qp (C:bO) (note:Bool) (t:Int):List aX→CS→CR
 | [],s=>(0,s)
 | x :: r,s=>gF (cellC C note t x s) fun s=>qp C note t r s
end
theorem aav (C:bO) (body note:Bool) (t:Int) (x:ay) (s:CS):fH C body note t x s=gF (kD x,s) fun s=>gF (mV C body note t x.kind x.id ⟨s.n+(iO x:Nat),s.bH⟩) fun s=>gF (iD C x.kind x.head,s) fun s =>
  if x.kind=6 then jF C false true t x.flow s else if x.kind=7 then mE x.rows.length (fun s=>iR C note (t+1) x.rows s) s else (0,s):=by cases x;rw [fH];rfl
theorem OD (C:bO) (note:Bool) (t:Int) (x:aW) (s:CS):zk C note t x s=gF (Dn C x.head x.cells.length,s) fun s=>qp C note t x.cells s:=by cases x;rw [zk];rfl
theorem MH (C:bO) (note:Bool) (t:Int) (x:aX) (s:CS):cellC C note t x s=gF (kM C s x.id) fun s=>gF (iD C 10 x.head,s) fun s=>jF C false note t x.flow s:=by cases x;rw [cellC];rfl
def Up (s:CS) (z:Nat) (r:CR):Prop:=s.n≤r.2.n∧r.2.n≤s.n+z
theorem Up.and {s:CS} {z y q:Nat} {r:CR} {f:CS→CR} (h:Up s z r) (hq:z+y≤q) (hf:∀ s,Up s y (f s)):Up s q (gF r f):=by
 obtain ⟨h1,h2⟩:=h
 unfold gF
 split
 ·exact ⟨h1,by omega⟩
 obtain ⟨h3,h4⟩:=hf r.2;exact ⟨by omega,by omega⟩
theorem Up.zero (s:CS) (e:Int) (q:Nat):Up s q (e,s):=⟨Int.le_refl _,by dsimp only;omega⟩
theorem Up.le {s:CS} {z y:Nat} {r:CR} (h:Up s z r) (hq:z≤y):Up s y r:=⟨h.1,by have:=h.2;omega⟩
theorem acN (C:bO) (s:CS) (x:Int) (q:Nat):Up s q (kM C s x):=⟨Int.le_refl _,by dsimp only [kM];omega⟩
theorem arC (C:bO) (body note:Bool) (t k i:Int) (s:CS) (q:Nat):Up s q (mV C body note t k i s):=by
 unfold mV
 (repeat' split) <;> first|exact Up.zero _ _ _|exact (Up.zero _ _ 0).and (y:=0) (by omega) fun s=>acN _ _ _ _
mutual
theorem acO (C:bO) (body note:Bool) (t:Int):∀ (x:ay) (s:CS),Up s (bX x.dat) (fH C body note t x s)
 | .mk k c i tx h f r,s=>by
  have hz:=xJ (.mk k c i tx h f r);have hf:=O7 C false true t f;have hr:=acP C note (t+1) r;rw [fH];obtain ⟨u,hu'⟩:∃ u,u=(if k=1 then tq tx else 1:Nat):=⟨_,rfl⟩
  have hu:u≤tx.size+1:=by
   have:=MQ tx
   rw [hu'];split <;> omega
  rw [← hu'];dsimp only [ay.text,ay.flow,ay.rows,ay.head] at hz;refine (Up.zero s _ 0).and (Nat.le_of_eq (gI _)) fun s=>?_
  have h2:Up s (u) (mV C body note t k i ⟨s.n+(u:Nat),s.bH⟩):=by
   obtain ⟨h3,h4⟩:=arC C body note t k i ⟨s.n+(u:Nat),s.bH⟩ 0;dsimp only at h3 h4;exact ⟨by omega,by omega⟩
  refine h2.and (y:=bK f+gZ r) (by omega) fun s=>(Up.zero s _ 0).and (Nat.le_of_eq (gI _)) fun s=>?_
  by_cases h6:k=6
  ·rw [au h6];exact (hf s).le (by omega)
  rw [ah h6]
  by_cases h7:k=7
  ·rw [au h7]
   unfold mE
   by_cases c1:r.length=0
   ·rw [au c1];exact Up.zero _ _ _
   rw [ah c1]
   by_cases c2:256 < r.length
   ·rw [au c2];exact Up.zero _ _ _
   rw [ah c2];exact (hr s).le (by omega)
  rw [ah h7];exact Up.zero _ _ _
theorem arD (C:bO) (note:Bool) (t:Int):∀ (x:aW) (s:CS),Up s (bX x.dat) (zk C note t x s)
 | .mk h cs,s=>by
  have hz:=BX (.mk h cs);have hc:=acM C note t cs;rw [OD];dsimp only [aW.cells,aW.head] at hz ⊢;exact (Up.zero s _ 0).and (y:=iP cs) (by omega) fun s=>hc s
theorem arB (C:bO) (note:Bool) (t:Int):∀ (x:aX) (s:CS),Up s (bX x.dat) (cellC C note t x s)
 | .mk i h f,s=>by
  have hz:=BU (.mk i h f);have hf:=O7 C false note t f;rw [MH];dsimp only [aX.flow,aX.head,aX.id] at hz ⊢;exact (acN C s _ 0).and (y:=bK f) (by omega) fun s=>(Up.zero s _ 0).and (Nat.le_of_eq (gI _)) fun s=>hf s
theorem O7 (C:bO) (body note:Bool) (t:Int):∀ (l:List ay) (s:CS),Up s (bK l) (jF C body note t l s)
 | [],s=>by rw [jF];exact Up.zero _ _ _
 | x :: r,s=>by
  rw [jF];exact (acO C body note t x s).and (y:=bK r) (by simp only [bK,fK,dU];omega) fun s=>O7 C body note t r s
theorem acP (C:bO) (note:Bool) (t:Int):∀ (l:List aW) (s:CS),Up s (gZ l) (iR C note t l s)
 | [],s=>by rw [iR];exact Up.zero _ _ _
 | x :: r,s=>by
  rw [iR];exact (arD C note t x s).and (y:=gZ r) (by simp only [gZ,fK,dU];omega) fun s=>acP C note t r s
theorem acM (C:bO) (note:Bool) (t:Int):∀ (l:List aX) (s:CS),Up s (iP l) (qp C note t l s)
 | [],s=>by rw [qp];exact Up.zero _ _ _
 | x :: r,s=>by
  rw [qp];exact (arB C note t x s).and (y:=iP r) (by simp only [iP,fK,dU];omega) fun s=>acM C note t r s
end
def rD {α:Type} (f:α→CS→CR) (l:List α) (s:CS):Nat→CS
 | 0=>s
 | i+1=>match l[i]? with|some x=>(f x (rD f l s i)).2|none=>rD f l s i
def Co {α:Type} (f:α→CS→CR) (l:List α) (s:CS) (i:Nat):Int:=match l[i]? with|some x=>(f x (rD f l s i)).1|none=>0
theorem Vf {α:Type} (f:α→CS→CR) (x:α) (l:List α) (s:CS):∀ i,rD f (x :: l) s (i+1)=rD f l (f x s).2 i
 | 0=>rfl
 | i+1=>by
  have ih:=Vf f x l s i
  simp only [rD,List.getElem?_cons_succ] at ih ⊢
  rw [ih]
theorem aiO {α:Type} (f:α→CS→CR) (x:α) (l:List α) (s:CS) (i:Nat):Co f (x :: l) s (i+1)=Co f l (f x s).2 i:=by
 unfold Co
 simp only [List.getElem?_cons_succ,Vf]
theorem adX (E:Nat→Int) (n:Nat):kK E (n+1)=if E 0≠0 then E 0 else kK (fun i=>E (i+1)) n:=by
 unfold kK
 rw [List.range_succ_eq_map,fK,dR,List.map_map]
 rfl
theorem aaw (C:bO) (body note:Bool) (t:Int):∀ (l:List ay) (s:CS),(jF C body note t l s).1=kK (Co (fH C body note t) l s) l.length∧((jF C body note t l s).1=0→(jF C body note t l s).2=rD (fH C body note t) l s l.length)
 | [],s=>by rw [jF];exact ⟨rfl,fun _=>rfl⟩
 | x :: r,s=>by
  obtain ⟨h1,h2⟩:=aaw C body note t r (fH C body note t x s).2;have e0:Co (fH C body note t) (x :: r) s 0=(fH C body note t x s).1:=rfl;rw [jF,kR,adX,e0,Vf]
  simp only [aiO]
  unfold gF
  split
  ·next h=>exact ⟨rfl,fun h0=>absurd h0 h⟩
  exact ⟨h1,h2⟩
theorem acQ (C:bO) (body note:Bool) (t:Int) (l:List ay) (s:CS):∀ i,i≤l.length→s.n≤(rD (fH C body note t) l s i).n∧(rD (fH C body note t) l s i).n+(bK (l.drop i):Nat)≤s.n+(bK l:Nat)
 | 0,_=>⟨Int.le_refl _,Int.le_refl _⟩
 | i+1,hi=>by
  have hi':i < l.length:=hi;obtain ⟨h1,h2⟩:=acQ C body note t l s i (by omega)
  have hs:rD (fH C body note t) l s (i+1)=(fH C body note t l[i] (rD (fH C body note t) l s i)).2:=by rw [rD,eT hi']
  have hd:bK (l.drop i)=1+bX l[i].dat+bK (l.drop (i+1)):=by
   simp only [bK];rw [ng hi',fK,dU]
  obtain ⟨h3,h4⟩:=acO C body note t l[i] (rD (fH C body note t) l s i);rw [hs];exact ⟨by omega,by omega⟩
mutual
/-- The ids in items, in document order. -/
def qD:ay→List Int
 | .mk k _ i _ _ f r=>(if k=6∨k=7 then [i] else [])++((if k=6 then jg f else [])++(if k=7 then mP r else []))
def jg:List ay→List Int
 | []=>[]
 | x :: r=>qD x++jg r
def uQ:aW→List Int
 | .mk _ c=>nO c
def mP:List aW→List Int
 | []=>[]
 | x :: r=>uQ x++mP r
def vY:aX→List Int
 | .mk i _ f=>i :: jg f
def nO:List aX→List Int
 | []=>[]
 | x :: r=>vY x++nO r
end
theorem mI {r:CR} {f:CS→CR} {s':CS} (h:gF r f=(0,s')):r.1=0∧f r.2=(0,s'):=by
 unfold gF at h
 split at h
 ·rename_i h1;rw [h] at h1;exact absurd rfl h1
 rename_i h1;exact ⟨nV.1 h1,h⟩
theorem Qz {r:CR} (h:r.1=0):r=(0,r.2):=Prod.ext h rfl
structure mG (a b c:List Int):Prop where
 eq:c=a++b
 nd:a.Nodup→c.Nodup
 pos:∀ i∈b,1≤i∧i≤1073741824
theorem mG.nil (a:List Int):mG a [] a:=⟨by simp,fun h=>h,fun i h=>by cases h⟩
theorem mG.trans {a b c d e:List Int} (h:mG a b c) (g:mG c d e):mG a (b++d) e:=⟨by rw [g.eq,h.eq,iW],fun h1=>g.nd (h.nd h1),fun i hi=>(nH.1 hi).elim (h.pos i) (g.pos i)⟩
theorem mG.id {us a:List Int} {x:Int} (h:qE us a x=0):mG a [x] (kL us a x):=by
 unfold kL
 rw [au h]
 unfold qE at h
 by_cases h0:¬ (1≤x∧x≤1073741824)∨x∈us
 ·rw [au h0] at h;cases h
 rw [ah h0] at h;have h1:1≤x∧x≤1073741824:=nV.1 fun h'=>h0 (.inl h')
 by_cases h2:x∈a
 ·rw [au h2] at h;cases h
 exact ⟨rfl,fun h3=>List.nodup_append.2 ⟨h3,by simp,fun u hu v hv=>by rw [uE.1 hv];exact fun e=>h2 (e ▸ hu)⟩,fun i hi=>by rw [uE.1 hi];exact h1⟩
theorem mG.kM {C:bO} {s s':CS} {x:Int} (h:kM C s x=(0,s')):mG s.bH [x] s'.bH:=by
 unfold Go.Proofs.YtdiflmikikiedaaGreat.kM at h
 injection h with h1 h2
 rw [← h2];exact mG.id h1
theorem aov {C:bO} {body note:Bool} {t k i:Int} {s s':CS} (h:mV C body note t k i s=(0,s')):mG s.bH (if k=6∨k=7 then [i] else []) s'.bH:=by
 unfold mV at h
 by_cases h3:k=3
 ·rw [au h3] at h;injection h with _ h2;rw [ah (by omega),← h2];exact mG.nil _
 rw [ah h3] at h
 by_cases h6:k=6
 ·rw [au h6] at h;rw [au (.inl h6)];exact mG.kM (mI h).2
 rw [ah h6] at h
 by_cases h7:k=7
 ·rw [au h7] at h;rw [au (.inr h7)];exact mG.kM (mI h).2
 rw [ah h7] at h;rw [ah (by omega)]
 by_cases h8:k=8
 ·rw [au h8] at h;injection h with _ h2;rw [← h2];exact mG.nil _
 rw [ah h8] at h;injection h with _ h2;rw [← h2];exact mG.nil _
theorem UM {n:Nat} {f:CS→CR} {s s':CS} (h:mE n f s=(0,s')):n≠0∧f s=(0,s'):=by
 unfold mE at h
 split at h
 ·cases h
 rename_i h1
 split at h
 ·cases h
 exact ⟨h1,h⟩
mutual
theorem aiS (C:bO) (body note:Bool) (t:Int):∀ (x:ay) (s s':CS),fH C body note t x s=(0,s')→mG s.bH (qD x) s'.bH
 | .mk k c i tx h f r,s,s',e=>by
  have hf:=M5 C false true t f;have hr:=Yy C note (t+1) r;rw [fH] at e;obtain ⟨-,e⟩:=mI e;obtain ⟨e1,e⟩:=mI e;obtain ⟨-,e⟩:=mI e;have h1:=aov (Qz e1);rw [qD];refine h1.trans ?_
  by_cases h6:k=6
  ·rw [au h6] at e ⊢;rw [ah (show ¬ k=7 by omega),jf];exact hf _ _ e
  rw [ah h6] at e ⊢;rw [mZ]
  by_cases h7:k=7
  ·rw [au h7] at e ⊢;exact hr _ _ (UM e).2
  rw [ah h7] at e ⊢
  injection e with _ e
  rw [← e];exact mG.nil _
theorem aiT (C:bO) (note:Bool) (t:Int):∀ (x:aW) (s s':CS),zk C note t x s=(0,s')→mG s.bH (uQ x) s'.bH
 | .mk h cs,s,s',e=>by
  have hc:=Yx C note t cs;rw [OD] at e;rw [uQ];exact hc _ _ (mI e).2
theorem aiR (C:bO) (note:Bool) (t:Int):∀ (x:aX) (s s':CS),cellC C note t x s=(0,s')→mG s.bH (vY x) s'.bH
 | .mk i h f,s,s',e=>by
  have hf:=M5 C false note t f;rw [MH] at e;dsimp only [aX.id,aX.head,aX.flow] at e;obtain ⟨e1,e⟩:=mI e;have h1:=mG.kM (s':=(kM C s i).2) (Prod.ext e1 rfl);rw [vY];exact h1.trans (hf _ _ (mI e).2)
theorem M5 (C:bO) (body note:Bool) (t:Int):∀ (l:List ay) (s s':CS),jF C body note t l s=(0,s')→mG s.bH (jg l) s'.bH
 | [],s,s',e=>by rw [jF] at e;injection e with _ e;rw [← e];exact mG.nil _
 | x :: r,s,s',e=>by
  rw [jF] at e;obtain ⟨e1,e⟩:=mI e;rw [jg];exact (aiS C body note t x s _ (Prod.ext e1 rfl)).trans (M5 C body note t r _ _ e)
theorem Yy (C:bO) (note:Bool) (t:Int):∀ (l:List aW) (s s':CS),iR C note t l s=(0,s')→mG s.bH (mP l) s'.bH
 | [],s,s',e=>by rw [iR] at e;injection e with _ e;rw [← e];exact mG.nil _
 | x :: r,s,s',e=>by
  rw [iR] at e;obtain ⟨e1,e⟩:=mI e;rw [mP];exact (aiT C note t x s _ (Prod.ext e1 rfl)).trans (Yy C note t r _ _ e)
theorem Yx (C:bO) (note:Bool) (t:Int):∀ (l:List aX) (s s':CS),qp C note t l s=(0,s')→mG s.bH (nO l) s'.bH
 | [],s,s',e=>by rw [qp] at e;injection e with _ e;rw [← e];exact mG.nil _
 | x :: r,s,s',e=>by
  rw [qp] at e;obtain ⟨e1,e⟩:=mI e;rw [nO];exact (aiR C note t x s _ (Prod.ext e1 rfl)).trans (Yx C note t r _ _ e)
end
def rM (l:List ay):Prop:=∃ (C:bO) (body note:Bool) (t:Int) (s s':CS),jF C body note t l s=(0,s')
structure Hu (x:ay):Prop where
 txt:rG x.text=true
 kd:1≤x.kind∧x.kind≤8
 rw0:x.kind≠7→x.rows=[]
 fl0:x.kind≠6→x.flow=[]
 fl:rM x.flow
 rw:∀ r∈x.rows,∀ c∈r.cells,rM c.flow
theorem anV:rM []:=⟨⟨[],[],[],[]⟩,false,false,0,⟨0,[]⟩,⟨0,[]⟩,by rw [jF]⟩
theorem FM {x:ay} (h:kD x=0):rG x.text=true∧(1≤x.kind∧x.kind≤8)∧(x.kind≠7→x.rows=[])∧(x.kind≠6→x.flow=[]):=by
 unfold kD at h
 split at h
 ·cases h
 rename_i h1
 split at h
 ·cases h
 rename_i h2
 split at h
 ·cases h
 rename_i h3
 have hk:decide (1≤x.kind∧x.kind≤8)=true:=by
  cases hd:decide (1≤x.kind∧x.kind≤8)
  ·rw [hd] at h1;exact absurd rfl h1
  rfl
 refine ⟨by simpa using h3,nK hk,fun h7=>?_,fun h6=>?_⟩
 ·rw [Bool.not_eq_true] at h2
  unfold uN at h2
  simp only [Bool.or_eq_false_iff] at h2
  have h4:=h2.2;rw [jM h7,D7,ni] at h4;exact List.length_eq_zero_iff.1 (by omega)
 rw [Bool.not_eq_true] at h2
 unfold uN at h2
 simp only [Bool.or_eq_false_iff] at h2
 have h4:=h2.1.2;rw [jM h6,D7,ni] at h4;exact List.length_eq_zero_iff.1 (by omega)
theorem cells_ok {C:bO} {note:Bool} {t:Int}:∀ {l:List aX} {s s':CS},qp C note t l s=(0,s')→∀ c∈l,rM c.flow
 | [],_,_,_,_,h=>by cases h
 | x :: r,s,s',e,c,h=>by
  rw [qp] at e;obtain ⟨e1,e⟩:=mI e
  rcases jS.1 h with rfl|h
  ·have e2:cellC C note t c s=(0,(cellC C note t c s).2):=Prod.ext e1 rfl
   generalize (cellC C note t c s).2=s2 at e2
   rw [MH] at e2;exact ⟨C,false,note,t,_,_,(mI (mI e2).2).2⟩
  exact cells_ok e c h
theorem abC {C:bO} {note:Bool} {t:Int}:∀ {l:List aW} {s s':CS},iR C note t l s=(0,s')→∀ r∈l,∀ c∈r.cells,rM c.flow
 | [],_,_,_,_,h=>by cases h
 | x :: r,s,s',e,q,h=>by
  rw [iR] at e;obtain ⟨e1,e⟩:=mI e
  rcases jS.1 h with rfl|h
  ·have e2:zk C note t q s=(0,(zk C note t q s).2):=Prod.ext e1 rfl
   generalize (zk C note t q s).2=s2 at e2
   rw [OD] at e2;exact cells_ok (mI e2).2
  exact abC e q h
theorem rM.head {x:ay} {l:List ay} (h:rM (x :: l)):Hu x∧rM l:=by
 obtain ⟨C,body,note,t,s,s',e⟩:=h;rw [jF] at e;obtain ⟨e1,e⟩:=mI e;have e2:fH C body note t x s=(0,(fH C body note t x s).2):=Prod.ext e1 rfl
 generalize (fH C body note t x s).2=s2 at e2
 refine ⟨?_,⟨C,body,note,t,_,_,e⟩⟩;rw [aav] at e2;obtain ⟨f1,e2⟩:=mI e2;(iterate 2 obtain ⟨-,e2⟩:=mI e2);obtain ⟨h1,h2,h3,h4⟩:=FM f1;refine ⟨h1,h2,h3,h4,?_,?_⟩
 ·by_cases h6:x.kind=6
  ·rw [au h6] at e2;exact ⟨_,_,_,_,_,_,e2⟩
  rw [h4 h6];exact anV
 by_cases h7:x.kind=7
 ·rw [ah (by omega),au h7] at e2;exact abC (UM e2).2
 rw [h3 h7];exact fun _ h=>by cases h
theorem rM.tail {x:ay} {l:List ay} (h:rM (x :: l)):rM l:=h.head.2
theorem rM.mem:∀ {l:List ay} {x:ay},rM l→x∈l→Hu x
 | y :: l,x,h,hx=>by
  rcases jS.1 hx with rfl|hx
  ·exact h.head.1
  exact rM.mem h.head.2 hx
theorem Hu.e {x:ay} (h:Hu x):BS x=0:=by unfold BS Jq;rw [au h.txt];split <;> rfl
theorem Hu.n1 {x:ay} (h:Hu x):n1 x=iO x:=by unfold Go.Proofs.YtdiflmikikiedaaGreat.n1;rw [au h.e]
theorem rM.div {l:List ay} (h:rM l):xQ l=true:=by
 unfold xQ
 rw [kJ];exact fun x hx=>jM (h.mem hx).e
theorem rM.len {l:List ay} (h:rM l):yx l=rY l:=by unfold yx;rw [au h.div]
mutual
theorem asa (note:Bool) (t:Int):∀ x:ay,((Dz note t x).map lC.id).Sublist (qD x)
 | .mk k c i tx h f r=>by
  have hf:=Pg true t f;have hr:=ade note t r;rw [Dz,qD]
  by_cases h6:k=6
  ·rw [au h6,au (.inl h6),au h6,ah (by omega),jf];exact List.Sublist.cons_cons _ hf
  rw [ah h6,ah h6,mZ]
  by_cases h7:k=7
  ·rw [au h7,au h7,au (.inr h7)];exact List.Sublist.cons _ hr
  rw [ah h7];exact List.nil_sublist _
theorem Pg (note:Bool) (t:Int):∀ l:List ay,((kN note t l).map lC.id).Sublist (jg l)
 | []=>by rw [kN];exact List.nil_sublist _
 | x :: l=>by
  rw [kN,jg,lY];exact (asa note t x).append (Pg note t l)
theorem asb (note:Bool) (t:Int):∀ x:aW,((DC note t x).map lC.id).Sublist (uQ x)
 | .mk h cs=>by rw [DC,uQ];exact adb note t cs
theorem ade (note:Bool) (t:Int):∀ l:List aW,((uZ note t l).map lC.id).Sublist (mP l)
 | []=>by rw [uZ];exact List.nil_sublist _
 | x :: l=>by
  rw [uZ,mP,lY];exact (asb note t x).append (ade note t l)
theorem arZ (note:Bool) (t:Int):∀ x:aX,((Dy note t x).map lC.id).Sublist (vY x)
 | .mk i h f=>by rw [Dy,vY];exact List.Sublist.cons_cons _ (Pg note (t+1) f)
theorem adb (note:Bool) (t:Int):∀ l:List aX,((wF note t l).map lC.id).Sublist (nO l)
 | []=>by rw [wF];exact List.nil_sublist _
 | x :: l=>by
  rw [wF,nO,lY];exact (arZ note t x).append (adb note t l)
end
structure Mt (l:List ay):Prop where
 ok:rM l
 nd:(jg l).Nodup
 pos:∀ i∈jg l,1≤i∧i≤1073741824
theorem Mt.of {C:bO} {body note:Bool} {t n:Int} {l:List ay} {s':CS} (h:jF C body note t l ⟨n,[]⟩=(0,s')):Mt l:=by
 have he:=M5 C body note t l _ _ h;have hn:=he.nd List.nodup_nil;rw [he.eq] at hn;exact ⟨⟨C,body,note,t,_,_,h⟩,by simpa using hn,he.pos⟩
theorem Mt.ids {l:List ay} (h:Mt l):((Bj l).map lC.id).Nodup:=by
 have hs:=Pg false 0 l;rw [Bj,fK,List.nodup_cons];exact ⟨fun hm=>by have:=h.pos _ (hs.subset hm);dsimp only at this;omega,hs.nodup h.nd⟩
section
theorem Ii:∀ args w,(callFunc 70 args).run prog w=.ok (.enter 70 args) w:=enters func70 rfl (by kernel_rfl)
theorem QS:∀ args w,(callFunc 198 args).run prog w=.ok (.enter 198 args) w:=enters func198 rfl (by kernel_rfl)
theorem JX:∀ args w,(callFunc 72 args).run prog w=.ok (.enter 72 args) w:=enters func72 rfl (by kernel_rfl)
variable {us:List Int}
theorem Iw (G:GH) (L:OL) (w0:World) (st:List bV) (li:List fI) (rv:List dh) (b ms ml mr mb mu:Nat) (n:Int) (hck:wH us G st li rv ms ml mr mu) (hO:gD G (gB b ms ml mr mb mu n :: L) w0)
  (e:Int) (h:dM) (p d l:aj) (hh:jd G h p d l) (hz:lW h≤4294967296) :
  Calls prog 70 #[(aK b 0),vi e,qV h p d l] w0 (fV w0 G (gB b ms ml mr mb mu n :: L) fun v G' L'=>G=G'∧L'=gB b ms ml mr mb mu n :: L∧v=vi (iD (bC us st li rv) e h)):=by
 have hm:=GH.HV G (o:=(gB b ms ml mr mb mu n).2) (hO.sep _ gJ);exact (ala (G.add b (gB b ms ml mr mb mu n).2) w0 hO.add st li rv b ms ml mr mb mu n (hck.mono hm) (GH.HY _ _ _) e h p d l (hh.mono hm) hz).mono fun _ _=>aoV (b:=b) (o:=(gB b ms ml mr mb mu n).2) (R':=fun v=>v=vi (iD (bC us st li rv) e h)) hO fun _ _ h=>h
abbrev LZ (b ms ml mr mb mu:Nat) (L:OL) (r:CR):aj→OL→Prop:=fun u L'=>∃ s:CS,u=vi r.1∧L'=gB b ms ml mr mb mu s.n :: (mb,fD (fU s.bH)) :: L∧(r.1=0→s=r.2)
def Ho (us:List Int) (m:Nat):Prop:=∀ (G:GH) (L:OL) (w0:World) (st:List bV) (li:List fI) (rv:List dh) (b ms ml mr mb mu:Nat) (s:CS) (l:List ay) (v:aj) (body note:Bool) (t:Int),
 wH us G st li rv ms ml mr mu→gD G (gB b ms ml mr mb mu s.n :: (mb,fD (fU s.bH)) :: L) w0→av G (.sl 11 (l.map ay.dat)) v→bK l < m→0≤t→t≤4→0≤s.n→s.n+(bK l:Nat)≤1099511627776 →
 Calls prog 72 #[(aK b 0),v,.agg #[.bool body,.bool note,vi t]] w0 (fV w0 G (gB b ms ml mr mb mu s.n :: (mb,fD (fU s.bH)) :: L) fun u G' L'=>G=G'∧LZ b ms ml mr mb mu L (jF (bC us st li rv) body note t l s) u L')
theorem rows_ok {m:Nat} (ih:Ho us m) (hm:m≤4294967296) (Gt:GH) (L:OL) (w0:World) (st:List bV) (li:List fI) (rv:List dh) (b ms ml mr mb mu:Nat) (s:CS) (l:List aW) (v:aj) (note:Bool) (t:Int)
  (hck:wH us Gt st li rv ms ml mr mu) (hO:gD Gt (gB b ms ml mr mb mu s.n :: (mb,fD (fU s.bH)) :: L) w0) (hv:av Gt (.sl 6 (l.map aW.dat)) v) (hz:gZ l < m) (ht0:0≤t) (zZ:t≤4) (hs0:0≤s.n) (hs1:s.n+(gZ l:Nat)≤1099511627776) :
  Calls prog 199 #[(aK b 0),v,.agg #[.bool false,.bool note,vi t]] w0 (fV w0 Gt (gB b ms ml mr mb mu s.n :: (mb,fD (fU s.bH)) :: L) fun u G' L'=>LZ b ms ml mr mb mu L (mE l.length (fun s=>iR (bC us st li rv) note t l s) s) u L'):=by
 obtain ⟨A,c,rfl,hc1,hc2,hg⟩:=hv.slice;rw [bG] at *;have hll:=Jv l;refine iX (N:=77) (T:=[(0,_),(1,_),(2,_)]) func199 rfl ntmps199 rfl rfl hO ?_;intro a H;refine cu (fun _ K1=>?_);refine dQ (cs:=[_,_,_]) H wn rfl rfl rfl ?_;clear H;intro b5 a w hb5 H;refine kH H (ak K1 rfl (SQ fun _ K2=>SR fun _ K3=>Rm rfl (Rl mX rfl (Rc rfl (Kz K3 (Cd rfl ?_ ?_)))))) <;> clear H K1 K3
 ·intro eX a H
  try have nA:=dT eX
  refine bN (fun _ K4=>?_);have hE:mE l.length (fun s=>iR (bC us st li rv) note t l s) s=(11,s):=au (by omega);exact kP H (SC (bq K4 rfl (LR results199 rfl fun H=>H.hp.iq (L':=gB b ms ml mr mb mu s.n :: (mb,fD (fU s.bH)) :: L) (by repeat (first|exact gT _|apply List.Sublist.cons)) ⟨s,by rw [hE],rfl,fun h=>by rw [hE]⟩)))
 intro eX a H
 try have nA:=dF eX
 refine kP H (Kc K2 (SQ fun _ K5=>SR fun _ K6=>Rm rfl (Rl mX rfl (Rc rfl (Kz K6 (Cd rfl ?_ ?_)))))) <;> clear H K2 K6
 ·intro h20 a H
  try have GK:=dT h20
  refine bN (fun _ K7=>?_)
  have hE:mE l.length (fun s=>iR (bC us st li rv) note t l s) s=(9,s):=by rw [mE,ah (by omega),au (by omega)]
  exact kP H (SC (bq K7 rfl (LR results199 rfl fun H=>H.hp.iq (L':=gB b ms ml mr mb mu s.n :: (mb,fD (fU s.bH)) :: L) (by repeat (first|exact gT _|apply List.Sublist.cons)) ⟨s,by rw [hE],rfl,fun h=>by rw [hE]⟩)))
 intro h20 a H
 try have GK:=dF h20
 refine kP H (Kc K5 (SQ fun _ K8=>SQ fun _ K9=>?_));clear H K5;intro a H
 have hE:mE l.length (fun s=>iR (bC us st li rv) note t l s) s=iR (bC us st li rv) note t l s:=by rw [mE,ah (by omega),ah (by omega)]
 refine kP H (SC (Rm rfl (Rl mX rfl (Rm rfl (Kn K9 (SB ?_))))));clear H K9;intro a H;skip;refine eU (ι:=Nat × CS × GH) (Tc:=[(0,_),(5,_),(21,_),(22,_)]) (Lc:=[(_,_)]) (fun gh=>[(23,vi gh.1)]) (fun gh=>[gB b ms ml mr mb mu gh.2.1.n,(mb,fD (fU gh.2.1.bH))]++L) (fun gh=>gh.2.2) (fun gh=>gh.1≤l.length∧(∀ b o,Gt b=some o→gh.2.2 b=some o)∧iR (bC us st li rv) note t l s=iR (bC us st li rv) note t (l.drop gh.1) gh.2.1∧0≤gh.2.1.n∧gh.2.1.n+(gZ (l.drop gh.1):Nat)≤1099511627776) (fun gh=>l.length - gh.1) ((0,s,Gt)) (by exact (H).sub ⟨rfl,rfl,rfl,rfl,rfl,aC⟩) ?_ ?_
 ·exact ⟨gW _,fun _ _ h=>h,rfl,hs0,hs1⟩
 clear H;rintro ⟨k,s1,g⟩ a w hI H;dsimp only at hI H;obtain ⟨hk,hgm,hR,hn0,hn1⟩:=hI;dsimp only [lca,bJ] at H;refine kP H (SR fun _ aR=>Rc rfl (Kz aR (SQ fun _ bQ=>Cd rfl ?_ ?_))) <;> clear H aR
 ·intro fB a H
  try have mU:=dT fB
  have hk2:k < l.length:=by omega
  have hsz:=Pn hk2;have hcs:=Ju l[k].cells
  have hdz:gZ (l.drop k)=1+bX l[k].dat+gZ (l.drop (k+1)):=by simp only [gZ];rw [ng hk2,fK,dU]
  have hrz:=BX l[k];obtain ⟨xb,xo,qA,qn,qc,eA,en,ec,zA,zn,zc,cA,cn,cc,rfl,hrow,Ez,hcl⟩:=Le hk2 hg;replace hrow:=fun j u hj=>aJ hgm (hrow j u hj);replace Ez:=Ez.mono hgm;replace hcl:=hcl.mono hgm;have hcn:=hcl.len;rw [bG] at hcn;subst hcn;have akM:=hck.mono hgm;rw [ng hk2,iR,OD] at hR;refine kP H (Kc bQ (SQ fun _ bY=>SB (SR fun _ cZ=>Ri mX jP rfl rfl ?_)));clear H bQ;intro a H;refine bL jP (cs:=[_,_,_,_,_,_]) H wn rfl rfl (fun j v hj=>H.hp.aI (hrow j v hj)) rfl ?_;clear H;intro a H;refine dS jP H wn rfl ?_;clear H;intro b8 a w Ns H;refine bD jP 0 (vs:=[_,_,_,_,_,_]) _ H wn rfl rfl rfl rfl rfl rfl rfl rfl ?_;clear H;intro w H;dsimp only [List.set,setRow] at H;refine cZ _ _ ?_;clear cZ;refine bN (fun _ dG=>?_);refine bN (fun _ dZ=>?_);refine dI hmx [[],[],[1],[0,1,2],[],[4],[4,5],[4,5,6],(ra 0 8),[],[9],[9,10],[9,10,11],(ra 0 13),(ra 0 14),(ra 0 15),(ra 0 16)] [14,15,16] (by kernel_rfl) [_,_,qV l[k].head (.slice qA qn qc) (.slice eA en ec) (.slice zA zn zc),vi (iD (bC us st li rv) 9 l[k].head),_,.slice cA l[k].cells.length cc,_,_,vi (dw (decide ((l[k].cells.length:Int)=0)) 11),_,.slice cA l[k].cells.length cc,_,_,vi (dw (decide (32 < (l[k].cells.length:Int))) 9)] H (aF (Z0 rfl (Rm rfl)) (Z0 rfl (Rf FJ rfl)) ?_ ?_ (aF (Z0 rfl (Rf vJ rfl)) (Z1 4 31 rfl (Ro wD 0 rfl)) (Z1 5 32 rfl (Rl om rfl)) (Z1 6 33 rfl (Rc rfl)) (aF ?_ (Z0 rfl (Rf vJ rfl)) (Z1 9 36 rfl (Ro wD 0 rfl)) (Z1 10 37 rfl (Rl om rfl)) (aF (Z1 11 38 rfl (Rc rfl)) ?_ (bS rfl) (bS rfl) (bR (bS rfl) dz))))) ?_
  ·refine fq 1 28 rfl rfl fun _ a w G1 hG HT H fin=>?_;refine bL eu (cs:=[_,_,_,_,_]) H wn rfl rfl (H.hp.cO 0 rfl rfl) rfl ?_;clear H;intro a H;exact fin H iJ rfl
  ·refine dJ 0 27 2 29 rfl rfl fun _ a w G1 hG HT H fin=>?_;refine gH Ii (Li:=[_,_]) (L:=gB b ms ml mr mb mu s1.n :: (mb,fD (fU s1.bH)) :: L) H wn rfl (Iw _ _ _ st li rv b ms ml mr mb mu _ (akM.mono hG) (Hp.owns (Li:=[_,_]) H.hp) 9 l[k].head _ _ _ (Ez.mono hG) (by omega)) rfl ?_;clear H;rintro v30 _ _ a w ⟨rfl,rfl,rfl⟩ R9 H;dsimp only [lca,bJ] at H;exact fin H R9 (rfl)
  ·refine fq 7 34 rfl rfl fun _ a w G1 hG HT H fin=>?_;refine s_call jO H wn rfl (jQ _ _ H.ro _ 11) rfl ?_;clear H;rintro v35 VU a w ⟨rfl,-⟩ Sb H;exact fin H Sb (rfl)
  ·refine fq 12 39 rfl rfl fun _ a w G1 hG HT H fin=>?_;refine s_call jO H wn rfl (jQ _ _ H.ro _ 9) rfl ?_;clear H;rintro v40 Jy a w ⟨rfl,-⟩ ajY H;exact fin H ajY (rfl)
  clear H;intro a w G pV H hv;have H:=H.aM (hv 3 30 rfl rfl) rfl;have H:=H.aM (hv 8 35 rfl rfl) rfl;have H:=H.aM (hv 13 40 rfl rfl) rfl;clear hv;refine iE qI iA [_,_,_] [_,_,_] H wn rfl rfl rfl rfl rfl (by intro i q h;match i,h with|0,h=>exact h|1,h=>exact h|2,h=>exact h|n+3,h=>simp at h) rfl rfl ?_;clear H;intro b41 a w asX H;obtain ⟨E5,tL,aky,H⟩:=H.eH;have Zv:∀ b o,Gt b=some o→E5 b=some o:=fun b o h=>tL _ _ (pV _ _ (hgm _ _ h));refine s_call rQ H wn rfl (rT _ _ H.ro _ _ (Gj [iD (bC us st li rv) 9 l[k].head,dw (decide ((l[k].cells.length:Int)=0)) 11,dw (decide (32 < (l[k].cells.length:Int))) 9] aky (show 3≤maxLen by decide))) rfl ?_;clear H;rintro v42 _ a w ⟨rfl,rfl⟩ - H;refine kH H (Ra rfl ?_);clear H;intro a H;refine aD ⟨rfl,?_⟩;refine dZ _ _ ?_;clear dZ;refine kP H (SR fun _ eB=>Rm rfl (Rc rfl (Kz eB (Cd rfl ?_ ?_)))) <;> clear H eB
  ·intro Cv a H
   try have p44:=dT Cv
   have e44:Dn (bC us st li rv) l[k].head l[k].cells.length≠0:=p44
   have hF1:(mE l.length (fun s=>iR (bC us st li rv) note t l s) s).1=Dn (bC us st li rv) l[k].head l[k].cells.length:=by rw [hE,hR,ME (r:=(Dn (bC us st li rv) l[k].head l[k].cells.length,s1)) e44,ME e44]
   have hF2:(mE l.length (fun s=>iR (bC us st li rv) note t l s) s).1=0→s1=(mE l.length (fun s=>iR (bC us st li rv) note t l s) s).2:=fun h=>absurd (hF1.symm.trans h) e44;exact kP H (SR fun _ dW=>Rm rfl (ak dW rfl (LR results199 rfl fun H=>H.hp.iq (L':=gB b ms ml mr mb mu s1.n :: (mb,fD (fU s1.bH)) :: L) (by repeat (first|exact gT _|apply List.Sublist.cons)) ⟨s1,aB vi hF1.symm,rfl,hF2⟩)))
  intro Cv a H
  try have p44:=dF Cv
  have e44:Dn (bC us st li rv) l[k].head l[k].cells.length=0:=nV.1 p44;rw [HZ (r:=(Dn (bC us st li rv) l[k].head l[k].cells.length,s1)) e44] at hR;dsimp only at hR;have akN:=hck.mono Zv;replace hcl:=hcl.mono (fun b o h=>tL _ _ (pV b o h));refine kP H (Kc dG (SR fun _ fC=>aY vJ wD 0 rfl rfl (Rl om rfl (Rm rfl (Kz fC (SB ?_))))));clear H dG fC;intro a H;skip;refine eU (ι:=Nat × CS × GH) (Tc:=[(0,_),(5,_),(21,_),(22,_),(23,_),(47,_),(48,_)]) (Lc:=[(_,_),(_,_)]) (fun gh=>[(49,vi gh.1)]) (fun gh=>[gB b ms ml mr mb mu gh.2.1.n,(mb,fD (fU gh.2.1.bH))]++L) (fun gh=>gh.2.2) (fun gh=>gh.1≤l[k].cells.length∧(∀ b o,E5 b=some o→gh.2.2 b=some o)∧iR (bC us st li rv) note t l s=gF (qp (bC us st li rv) note t (l[k].cells.drop gh.1) gh.2.1) (fun s=>iR (bC us st li rv) note t (l.drop (k+1)) s)∧0≤gh.2.1.n∧gh.2.1.n+(iP (l[k].cells.drop gh.1):Nat)+(gZ (l.drop (k+1)):Nat)≤1099511627776) (fun gh=>l[k].cells.length - gh.1) ((0,s1,E5)) (by exact (H).sub ⟨rfl,rfl,rfl,rfl,rfl,rfl,rfl,rfl,aC⟩) ?_ ?_
  ·exact ⟨gW _,fun _ _ h=>h,hR,hn0,by dsimp only;rw [vB];omega⟩
  clear H;rintro ⟨c,s2,g2⟩ a w hI H;dsimp only at hI H;obtain ⟨hc,NA,hR2,hm0,hm1⟩:=hI;have iM:=fun b o h=>NA b o (Zv b o h);dsimp only [lca,bJ] at H;refine kP H (SR fun _ gQ=>Rc rfl (Kz gQ (SQ fun _ fM=>Cd rfl ?_ ?_))) <;> clear H gQ
  ·intro h50 a H
   try have p50:=dT h50
   have hk4:c < l[k].cells.length:=by omega
   have aml:=Pk hk4
   have akU:iP (l[k].cells.drop c)=1+bX l[k].cells[c].dat+iP (l[k].cells.drop (c+1)):=by simp only [iP];rw [ng hk4,fK,dU]
   have hcz:=BU l[k].cells[c];obtain ⟨b3',o3,sA,sn,sc,tA,tn,tc,uA,un,uc,gA,gn,gc,rfl,hrow,hch,hcf⟩:=Ib hk4 (hcl.mono NA).at_;have SL:=akN.mono NA;rw [ng hk4,qp,MH] at hR2;obtain ⟨y,hy⟩:∃ y,y=l[k].cells[c]:=⟨_,rfl⟩;rw [← hy] at hR2 hrow hch hcf hcz aml akU;refine kP H (Kc fM (SQ fun _ gV=>SB (SR fun _ jo=>Ri om kI rfl rfl ?_)));clear H fM;intro a H;refine bL kI (cs:=[_,_,_,_,_,_,_]) H wn rfl rfl (fun j v hj=>H.hp.aI (hrow j v hj)) rfl ?_;clear H;intro a H;refine dS kI H wn rfl ?_;clear H;intro b11 a w Kw H;refine bD kI 0 (vs:=[_,_,_,_,_,_,_]) _ H wn rfl rfl rfl rfl rfl rfl rfl rfl ?_;clear H;intro w H;dsimp only [List.set,setRow] at H;refine jo _ _ ?_;clear jo;refine kP H (SQ fun _ lD=>SR fun _ kX=>Rm rfl (aY J9 aH 0 rfl rfl ?_));clear H;intro a H;refine gH QS (Li:=[_,_,_]) (L:=gB b ms ml mr mb mu s2.n :: (mb,fD (fU s2.bH)) :: L) H wn rfl (Qs _ _ _ st li rv b ms ml mr mb mu _ s2.bH y.id SL (Hp.owns (Li:=[_,_,_]) H.hp)) rfl ?_;clear H;rintro v56 _ _ a w ⟨rfl,rfl,rfl⟩ - H;dsimp only [lca,bJ] at H;refine kH H (ak kX rfl (SR fun _ kC=>Rm rfl (Rc rfl (Kz kC (Cd rfl ?_ ?_))))) <;> clear H kX kC
   ·intro kU a H
    try have p58:=dT kU
    have hF1:(mE l.length (fun s=>iR (bC us st li rv) note t l s) s).1=qE us s2.bH y.id:=by rw [hE,hR2];simp [gF,kM,p58]
    have hF2:(mE l.length (fun s=>iR (bC us st li rv) note t l s) s).1=0→(⟨s2.n,kL us s2.bH y.id⟩:CS)=(mE l.length (fun s=>iR (bC us st li rv) note t l s) s).2:=fun h=>absurd (hF1.symm.trans h) p58;exact kP H (SR fun _ lK=>Rm rfl (ak lK rfl (LR results199 rfl fun H=>H.hp.iq (L':=gB b ms ml mr mb mu s2.n :: (mb,fD (fU (kL us s2.bH y.id))) :: L) (by repeat (first|exact gT _|apply List.Sublist.cons)) ⟨⟨s2.n,kL us s2.bH y.id⟩,aB vi hF1.symm,rfl,hF2⟩)))
   intro kU a H
   try have p58:=dF kU
   have e58:qE us s2.bH y.id=0:=nV.1 p58;refine kP H (Kc lD (SQ fun _ lM=>SR fun _ jL=>Rm rfl (Rf FK rfl ?_)));clear H lD;intro a H;refine bL eu (cs:=[_,_,_,_,_]) H wn rfl rfl (H.hp.cO 0 rfl rfl) rfl ?_;clear H;intro a H;refine gH Ii (Li:=[_,_,_]) (L:=gB b ms ml mr mb mu s2.n :: (mb,fD (fU (kL us s2.bH y.id))) :: L) H wn rfl (Iw _ _ _ st li rv b ms ml mr mb mu _ SL (Hp.owns (Li:=[_,_,_]) H.hp) 10 y.head _ _ _ hch (by omega)) rfl ?_;clear H;rintro v63 _ _ a w ⟨rfl,rfl,rfl⟩ - H;dsimp only [lca,bJ] at H;refine kH H (ak jL rfl (SR fun _ oL=>Rm rfl (Rc rfl (Kz oL (Cd rfl ?_ ?_))))) <;> clear H jL oL
   ·intro tF a H
    try have p65:=dT tF
    have hF1:(mE l.length (fun s=>iR (bC us st li rv) note t l s) s).1=iD (bC us st li rv) 10 y.head:=by rw [hE,hR2];simp [gF,kM,e58,p65]
    have hF2:(mE l.length (fun s=>iR (bC us st li rv) note t l s) s).1=0→(⟨s2.n,kL us s2.bH y.id⟩:CS)=(mE l.length (fun s=>iR (bC us st li rv) note t l s) s).2:=fun h=>absurd (hF1.symm.trans h) p65;exact kP H (SR fun _ pI=>Rm rfl (ak pI rfl (LR results199 rfl fun H=>H.hp.iq (L':=gB b ms ml mr mb mu s2.n :: (mb,fD (fU (kL us s2.bH y.id))) :: L) (by repeat (first|exact gT _|apply List.Sublist.cons)) ⟨⟨s2.n,kL us s2.bH y.id⟩,aB vi hF1.symm,rfl,hF2⟩)))
   intro tF a H
   try have p65:=dF tF
   have e65:iD (bC us st li rv) 10 y.head=0:=nV.1 p65;refine kP H (Kc lM (SR fun _ qm=>Rm rfl (aY FL jc 0 rfl rfl ?_)));clear H lM;intro a H;refine bL O1 (cs:=[_,_,_]) H wn rfl rfl (H.hp.cO 2 rfl rfl) rfl ?_;clear H;intro a H;refine gH JX (Li:=[_,_,_]) (L:=gB b ms ml mr mb mu s2.n :: (mb,fD (fU (kL us s2.bH y.id))) :: L) H wn rfl (ih _ _ _ st li rv b ms ml mr mb mu ⟨s2.n,kL us s2.bH y.id⟩ y.flow _ false note t SL (Hp.owns (Li:=[_,_,_]) H.hp) hcf (by omega) ht0 zZ hm0 (by dsimp only;omega)) rfl ?_;clear H;rintro v71 _ _ a w ⟨rfl,s3,rfl,rfl,h3⟩ - H;dsimp only [lca,bJ] at H;refine kH H (ak qm rfl (SR fun _ qJ=>Rm rfl (Rc rfl (Kz qJ (Cd rfl ?_ ?_))))) <;> clear H qm qJ
   ·intro RX a H
    try have p73:=dT RX
    have hF1:(mE l.length (fun s=>iR (bC us st li rv) note t l s) s).1=(jF (bC us st li rv) false note t y.flow ⟨s2.n,kL us s2.bH y.id⟩).1:=by rw [hE,hR2];simp [gF,kM,e58,e65,p73]
    have hF2:(mE l.length (fun s=>iR (bC us st li rv) note t l s) s).1=0→s3=(mE l.length (fun s=>iR (bC us st li rv) note t l s) s).2:=fun h=>absurd (hF1.symm.trans h) p73;exact kP H (SR fun _ qo=>Rm rfl (ak qo rfl (LR results199 rfl fun H=>H.hp.iq (L':=gB b ms ml mr mb mu s3.n :: (mb,fD (fU s3.bH)) :: L) (by repeat (first|exact gT _|apply List.Sublist.cons)) ⟨s3,aB vi hF1.symm,rfl,hF2⟩)))
   intro RX a H
   try have p73:=dF RX
   have QF:(jF (bC us st li rv) false note t y.flow ⟨s2.n,kL us s2.bH y.id⟩).1=0:=nV.1 p73;obtain ⟨hu1,hu2⟩:=O7 (bC us st li rv) false note t y.flow ⟨s2.n,kL us s2.bH y.id⟩;rw [← h3 QF] at hu1 hu2;dsimp only at hu1 hu2
   have hS:gF (gF (gF (kM (bC us st li rv) s2 y.id) fun s=>gF (iD (bC us st li rv) 10 y.head,s) fun s=>jF (bC us st li rv) false note t y.flow s) fun s=>qp (bC us st li rv) note t (l[k].cells.drop (c+1)) s) (fun s=>iR (bC us st li rv) note t (l.drop (k+1)) s)=gF (qp (bC us st li rv) note t (l[k].cells.drop (c+1)) s3) (fun s=>iR (bC us st li rv) note t (l.drop (k+1)) s):=by
    rw [h3 QF];simp [gF,kM,e58,e65,QF]
   refine kP H (Kc gV (SC (Rd rfl (Rm rfl ?_))));clear H gV;intro a H;refine aD ?_;refine dD ((c+1,s3,g2)) (by exact (H.dY (Pl:=[_,_,_,_,_]) (dK:=[_,_,_,_]) [1,2,3,4] (by decide) rfl).sub ⟨rfl,rfl,rfl,rfl,rfl,rfl,rfl,rfl,aC⟩) ?_
   (try dsimp only);exact ⟨by omega,NA,hR2.trans hS,by omega,by omega⟩
  intro h50 a H
  try have p50:=dF h50
  refine dV ?_;refine bY _ _ ?_;clear bY;refine kP H (SC (Rd rfl (Rm rfl ?_)));clear H;intro a H;refine aD ?_;refine dD ((k+1,s2,g2)) (by exact (H.dY (Pl:=[_,_,_,_]) (dK:=[_,_,_]) [1,2,3] (by decide) rfl).sub ⟨rfl,rfl,rfl,rfl,rfl,aC⟩) ?_
  (try dsimp only);exact ⟨by omega,iM,by rw [hR2,jC (by omega),qp,HZ rfl],hm0,by omega⟩
 intro fB a H
 try have mU:=dF fB
 refine dV ?_;refine K8 _ _ ?_;clear K8;refine bN (fun _ qK=>?_)
 have hF1:(mE l.length (fun s=>iR (bC us st li rv) note t l s) s).1=0:=by rw [hE,hR,jC (by omega),iR]
 have hF2:(mE l.length (fun s=>iR (bC us st li rv) note t l s) s).1=0→s1=(mE l.length (fun s=>iR (bC us st li rv) note t l s) s).2:=fun h=>by rw [hE,hR,jC (by omega),iR]
 exact kP H (SC (bq qK rfl (LR results199 rfl fun H=>H.hp.iq (L':=gB b ms ml mr mb mu s1.n :: (mb,fD (fU s1.bH)) :: L) (by repeat (first|exact gT _|apply List.Sublist.cons)) ⟨s1,aB vi hF1.symm,rfl,hF2⟩)))
end
section
theorem ahq:∀ args w,(callFunc 199 args).run prog w=.ok (.enter 199 args) w:=enters func199 rfl (by kernel_rfl)
theorem ahp:∀ args w,(callFunc 196 args).run prog w=.ok (.enter 196 args) w:=enters func196 rfl (by kernel_rfl)
theorem FE:dH prog 133 5 5:=⟨by kernel_rfl⟩
theorem ajb:dH prog 129 0 0:=⟨by kernel_rfl⟩
variable {us:List Int}
theorem anZ {G:GH} {b:Nat} {x:Int} (h:G b=some (.cells #[vi x] 49 (0,0))):av G (.sl 1 ([x].map fun k=>[li k])) (.slice (some ⟨b,0,none⟩) 1 1):=Gj [x] h (show 1≤maxLen by decide)
theorem amK {m:Nat} (ih:Ho us m) (hm:m≤4294967296) (Gt:GH) (L:OL) (w0:World) (st:List bV) (li:List fI) (rv:List dh) (b ms ml mr mb mu:Nat) (s:CS) (x:ay) (p d y f r:aj) (body note:Bool) (t:Int)
  (hck:wH us Gt st li rv ms ml mr mu) (hO:gD Gt (gB b ms ml mr mb mu s.n :: (mb,fD (fU s.bH)) :: L) w0) (hh:jd Gt x.head p d y) (hf:av Gt (.sl 11 (x.flow.map ay.dat)) f) (hr:av Gt (.sl 6 (x.rows.map aW.dat)) r) (hz:bX x.dat≤m) (ht0:0≤t) (zZ:t≤4) (hs0:0≤s.n) (hs1:s.n+(bX x.dat:Nat)≤1099511627776) :
  Calls prog 134 #[(aK b 0),.agg #[vi x.kind,vi x.code,vi x.id,.string x.text,p,vi x.head.marks.ins,vi x.head.marks.move,d,y,f,r],.agg #[.bool body,.bool note,vi t]] w0 (fV w0 Gt (gB b ms ml mr mb mu s.n :: (mb,fD (fU s.bH)) :: L) fun u G' L'=>LZ b ms ml mr mb mu L (fH (bC us st li rv) body note t x s) u L'):=by
 obtain ⟨pA,pn,pc,rfl⟩:=hh.props.form;obtain ⟨dA,dn,dc,rfl⟩:=hh.bE.form;obtain ⟨lA,ln,lc,rfl⟩:=hh.layers.form;obtain ⟨fA,fc,rfl,-⟩:=hf.slice;obtain ⟨rA,rc,rfl,-⟩:=hr.slice;(iterate 2 rw [bG] at *);have hxz:=xJ x;have hcl:=MQ x.text
 have hus:iO x≤x.text.size+1:=by unfold iO;split <;> omega
 have hE:=aav (bC us st li rv) body note t x s;refine iX (N:=117) (T:=[(0,_),(1,_),(2,_)]) func134 rfl ntmps134 rfl rfl hO ?_;intro a H;refine cu (fun _ K1=>?_);refine dQ (cs:=[_,_,_,_,_,_,_,_,_,_,_]) H wn rfl rfl rfl ?_;clear H;intro b4 a w hb4 H;refine dQ (cs:=[_,_,_]) H wn rfl rfl rfl ?_;clear H;intro b5 a w hb5 H;refine kH H (ak K1 rfl (SQ fun _ K2=>SR fun _ K3=>?_));clear H K1;intro a H;refine bL fG (cs:=[_,_,_,_,_,_,_,_,_,_,_]) H wn rfl rfl (H.hp.cO 1 rfl rfl) rfl ?_;clear H;intro a H;refine s_call ahp H wn rfl (ajE _ _ H.ro x _ _ _ _ _ _ _ (by omega)) rfl ?_;clear H;rintro v15 _ a w ⟨rfl,rfl⟩ - H;refine kH H (ak K3 rfl (SR fun _ K4=>Rm rfl (Rc rfl (Kz K4 (Cd rfl ?_ ?_))))) <;> clear H K3 K4
 ·intro eX a H
  try have nA:=dT eX
  rw [ME (r:=(kD x,s)) nA] at hE;exact kP H (SR fun _ K5=>Rm rfl (ak K5 rfl (LR results134 rfl fun H=>H.hp.iq (L':=gB b ms ml mr mb mu s.n :: (mb,fD (fU s.bH)) :: L) (by repeat (first|exact gT _|apply List.Sublist.cons)) ⟨s,by rw [hE],rfl,fun h=>by rw [hE]⟩)))
 intro eX a H
 try have nA:=dF eX
 rw [HZ (r:=(kD x,s)) (nV.1 nA)] at hE;dsimp only at hE;refine kP H (Kc K2 (SR fun _ K6=>Rm rfl (Rk rfl (aY FE aH 2 rfl rfl (Rd rfl (Rk rfl (Rf FE rfl ?_)))))));clear H K2;intro a H;refine bD aH 2 (vs:=[_]) _ H wn rfl rfl rfl rfl rfl rfl rfl rfl ?_;clear H;intro w H;dsimp only [List.set,setRow] at H;refine K6 _ _ ?_;clear K6;refine sW (ι:=CS × GH) (Tc:=[(0,_),(4,_),(5,_)]) (Lc:=[(_,_),(_,_)]) (fun gh=>[]) (fun gh=>[gB b ms ml mr mb mu gh.1.n,(mb,fD (fU gh.1.bH))]++L) (fun gh=>gh.2) (fun gh=>mV (bC us st li rv) body note t x.kind x.id ⟨s.n+(iO x:Nat),s.bH⟩=(0,gh.1)∧(∀ b o,Gt b=some o→gh.2 b=some o)∧gh.1.n=s.n+(iO x:Nat)∧(x.kind=7→t < 4)) (by exact (H).sub ⟨rfl,rfl,rfl,aC⟩) ?_ ?_
 ·skip;refine kP H (SR fun _ K7=>aY jZ aH 1 rfl rfl (Kz K7 (SB (SR fun _ K8=>Rc rfl (ak K8 rfl (Cd rfl ?_ ?_)))))) <;> clear H K7 K8
  ·intro fQ a H
   try have p28:=dT fQ
   have hu:((iO x:Nat):Int)=tq x.text:=by rw [iO,au p28]
   refine kP H (SR fun _ K9=>aY vH iN 1 rfl rfl ?_);clear H;intro a H;refine s_call Ya H wn rfl (Xz _ _ H.ro x.text (by omega)) rfl ?_;clear H;rintro v33 _ a w ⟨rfl,rfl⟩ - H;refine kH H (Rm rfl ?_);clear H;intro a H;(iterate 2 refine lq H wn rfl rfl rfl ?_;clear H;intro a H);refine kH H (Ra rfl (ak K9 rfl (SC (Rm rfl (Rk rfl (aY FE aH 2 rfl rfl (Rm rfl (Rs rfl (Rd rfl ?_)))))))));clear H K9;intro a H;rw [show s.n+1+((tq x.text:Int) - 1)=s.n+(iO x:Nat) by omega] at H;refine kH H (Rk rfl (Rf FE rfl ?_));clear H;intro a H;refine bD aH 2 (vs:=[_]) _ H wn rfl rfl rfl rfl rfl rfl rfl rfl ?_;clear H;intro w H;dsimp only [List.set,setRow] at H;refine aD ?_;refine ⟨(⟨s.n+(iO x:Nat),s.bH⟩,Gt),by exact (H).sub ⟨rfl,rfl,rfl,aC⟩,?_⟩;(try dsimp only)
   first
   | exact ⟨by simp_all [mV,dw,gF,kM],fun _ _ h=>h,rfl,fun h7=>by first|omega|(exfalso;simp_all)⟩
   | exact ⟨by simp_all [mV,dw,gF,kM],vU,rfl,fun h7=>by first|omega|(exfalso;simp_all)⟩
  intro fQ a H
  try have p28:=dF fQ
  have hu:((iO x:Nat):Int)=1:=by rw [iO,ah p28];rfl
  rw [show s.n+1=s.n+((iO x:Nat):Int) by omega] at H;refine kP H (SR fun _ aR=>Rc rfl (ak aR rfl (Cd rfl ?_ ?_))) <;> clear H aR
  ·intro h45 a H
   try have p45:=dT h45
   refine kP H (SR fun _ bQ=>aY ajb oI 0 rfl rfl (Rn rfl (Kz bQ (Cd rfl ?_ ?_)))) <;> clear H bQ
   ·intro Nj a H
    try have p49:=dT Nj
    refine bN (fun _ bY=>?_)
    have hF1:(fH (bC us st li rv) body note t x s).1=19:=by rw [hE];simp [gF,mV,p45,dw,Nj]
    have hF2:(fH (bC us st li rv) body note t x s).1=0→(⟨s.n+(iO x:Nat),s.bH⟩:CS)=(fH (bC us st li rv) body note t x s).2:=fun h=>absurd (hF1.symm.trans h) (by decide);exact kP H (SC (bq bY rfl (LR results134 rfl fun H=>H.hp.iq (L':=gB b ms ml mr mb mu (s.n+(iO x:Nat)) :: (mb,fD (fU (s.bH))) :: L) (by repeat (first|exact gT _|apply List.Sublist.cons)) ⟨⟨s.n+(iO x:Nat),s.bH⟩,aB vi hF1.symm,rfl,hF2⟩)))
   intro Nj a H
   try have p49:=dF Nj
   refine gU ?_;refine ⟨(⟨s.n+(iO x:Nat),s.bH⟩,Gt),by exact (H).sub ⟨rfl,rfl,rfl,aC⟩,?_⟩;(try dsimp only)
   first
   | exact ⟨by simp_all [mV,dw,gF,kM],fun _ _ h=>h,rfl,fun h7=>by first|omega|(exfalso;simp_all)⟩
   | exact ⟨by simp_all [mV,dw,gF,kM],vU,rfl,fun h7=>by first|omega|(exfalso;simp_all)⟩
  intro h45 a H
  try have p45:=dF h45
  refine kP H (SR fun _ cZ=>Rc rfl (ak cZ rfl (Cd rfl ?_ ?_))) <;> clear H cZ
  ·intro h50 a H
   try have p50:=dT h50
   refine kP H (SQ fun _ dG=>SR fun _ dZ=>aY Q7 oI 0 rfl rfl ?_);clear H;intro a H;refine s_call jO H wn rfl (jQ _ _ H.ro _ 19) rfl ?_;clear H;rintro v54 _ a w ⟨rfl,rfl⟩ - H;refine iE qI iA [_] [_] H wn rfl rfl rfl rfl rfl (by intro i q h;match i,h with|0,h=>exact h|n+1,h=>simp at h) rfl rfl ?_;clear H;intro b55 a w ata H;obtain ⟨Jz,vU,akz,H⟩:=H.eH;refine s_call rQ H wn rfl (rT _ _ H.ro _ _ (anZ akz)) rfl ?_;clear H;rintro v56 _ a w ⟨rfl,rfl⟩ - H;refine kH H (ak dZ rfl (SR fun _ eB=>Rm rfl (Rc rfl (Kz eB (Cd rfl ?_ ?_))))) <;> clear H dZ eB
   ·intro kU a H
    try have p58:=dT kU
    have e58:dw note 19≠0:=fun h=>p58 (by rw [h];rfl)
    have amu:dR [dw note 19]=dw note 19:=by simp [dR,e58]
    rw [amu] at H
    have hF1:(fH (bC us st li rv) body note t x s).1=dw note 19:=by rw [hE];simp [gF,mV,p50,e58]
    have hF2:(fH (bC us st li rv) body note t x s).1=0→(⟨s.n+(iO x:Nat),s.bH⟩:CS)=(fH (bC us st li rv) body note t x s).2:=fun h=>absurd (hF1.symm.trans h) (e58);exact kP H (SR fun _ dW=>Rm rfl (ak dW rfl (LR results134 rfl fun H=>H.hp.iq (L':=gB b ms ml mr mb mu (s.n+(iO x:Nat)) :: (mb,fD (fU (s.bH))) :: L) (by repeat (first|exact gT _|apply List.Sublist.cons)) ⟨⟨s.n+(iO x:Nat),s.bH⟩,aB vi hF1.symm,rfl,hF2⟩)))
   intro kU a H
   try have p58:=dF kU
   have e58:dw note 19=0:=Decidable.byContradiction fun h=>p58 (by simp [dR,h]);refine kP H (Kc dG (SR fun _ fC=>Rm rfl (aY J8 aH 1 rfl rfl ?_)));clear H dG;intro a H;refine gH QS (Li:=[_,_]) (L:=gB b ms ml mr mb mu _ :: (mb,fD (fU s.bH)) :: L) H wn rfl (Qs _ _ _ st li rv b ms ml mr mb mu _ s.bH x.id (hck.mono vU) (Hp.owns (Li:=[_,_]) H.hp)) rfl ?_;clear H;rintro v63 _ _ a w ⟨rfl,rfl,rfl⟩ - H;dsimp only [lca,bJ] at H;refine kH H (ak fC rfl (SR fun _ gQ=>Rm rfl (Rc rfl (Kz gQ (Cd rfl ?_ ?_))))) <;> clear H fC gQ
   ·intro tF a H
    try have p65:=dT tF
    have hF1:(fH (bC us st li rv) body note t x s).1=qE us s.bH x.id:=by rw [hE];simp [gF,mV,p50,e58,kM,p65]
    have hF2:(fH (bC us st li rv) body note t x s).1=0→(⟨s.n+(iO x:Nat),kL us s.bH x.id⟩:CS)=(fH (bC us st li rv) body note t x s).2:=fun h=>absurd (hF1.symm.trans h) (p65);exact kP H (SR fun _ fM=>Rm rfl (ak fM rfl (LR results134 rfl fun H=>H.hp.iq (L':=gB b ms ml mr mb mu (s.n+(iO x:Nat)) :: (mb,fD (fU (kL us s.bH x.id))) :: L) (by repeat (first|exact gT _|apply List.Sublist.cons)) ⟨⟨s.n+(iO x:Nat),kL us s.bH x.id⟩,aB vi hF1.symm,rfl,hF2⟩)))
   intro tF a H
   try have p65:=dF tF
   have e65:qE us s.bH x.id=0:=nV.1 p65;refine gU ?_;refine ⟨(⟨s.n+(iO x:Nat),kL us s.bH x.id⟩,Jz),by exact (H).sub ⟨rfl,rfl,rfl,aC⟩,?_⟩;(try dsimp only)
   first
   | exact ⟨by simp_all [mV,dw,gF,kM],fun _ _ h=>h,rfl,fun h7=>by first|omega|(exfalso;simp_all)⟩
   | exact ⟨by simp_all [mV,dw,gF,kM],vU,rfl,fun h7=>by first|omega|(exfalso;simp_all)⟩
  intro h50 a H
  try have p50:=dF h50
  refine kP H (SR fun _ gV=>Rc rfl (ak gV rfl (Cd rfl ?_ ?_))) <;> clear H gV
  ·intro RS a H
   try have p67:=dT RS
   refine kP H (SQ fun _ jo=>SR fun _ lD=>aY JY aH 0 rfl rfl (Rc rfl (Kz lD (Cd rfl ?_ ?_)))) <;> clear H lD
   ·intro RU a H
    try have p71:=dT RU
    refine bN (fun _ kX=>?_)
    have hF1:(fH (bC us st li rv) body note t x s).1=17:=by rw [hE];simp [gF,mV,p67,dw,p71]
    have hF2:(fH (bC us st li rv) body note t x s).1=0→(⟨s.n+(iO x:Nat),s.bH⟩:CS)=(fH (bC us st li rv) body note t x s).2:=fun h=>absurd (hF1.symm.trans h) (by decide);exact kP H (SC (bq kX rfl (LR results134 rfl fun H=>H.hp.iq (L':=gB b ms ml mr mb mu (s.n+(iO x:Nat)) :: (mb,fD (fU (s.bH))) :: L) (by repeat (first|exact gT _|apply List.Sublist.cons)) ⟨⟨s.n+(iO x:Nat),s.bH⟩,aB vi hF1.symm,rfl,hF2⟩)))
   intro RU a H
   try have p71:=dF RU
   have e71:¬ 4≤t:=by omega
   refine kP H (Kc jo (SR fun _ kC=>Rm rfl (aY J8 aH 1 rfl rfl ?_)));clear H jo;intro a H;refine gH QS (Li:=[_,_]) (L:=gB b ms ml mr mb mu _ :: (mb,fD (fU s.bH)) :: L) H wn rfl (Qs _ _ _ st li rv b ms ml mr mb mu _ s.bH x.id hck (Hp.owns (Li:=[_,_]) H.hp)) rfl ?_;clear H;rintro v75 _ _ a w ⟨rfl,rfl,rfl⟩ - H;dsimp only [lca,bJ] at H;refine kH H (ak kC rfl (SR fun _ lK=>Rm rfl (Rc rfl (Kz lK (Cd rfl ?_ ?_))))) <;> clear H kC lK
   ·intro FQ a H
    try have I7:=dT FQ
    have hF1:(fH (bC us st li rv) body note t x s).1=qE us s.bH x.id:=by rw [hE];simp [gF,mV,p67,dw,e71,kM,I7]
    have hF2:(fH (bC us st li rv) body note t x s).1=0→(⟨s.n+(iO x:Nat),kL us s.bH x.id⟩:CS)=(fH (bC us st li rv) body note t x s).2:=fun h=>absurd (hF1.symm.trans h) (I7);exact kP H (SR fun _ lM=>Rm rfl (ak lM rfl (LR results134 rfl fun H=>H.hp.iq (L':=gB b ms ml mr mb mu (s.n+(iO x:Nat)) :: (mb,fD (fU (kL us s.bH x.id))) :: L) (by repeat (first|exact gT _|apply List.Sublist.cons)) ⟨⟨s.n+(iO x:Nat),kL us s.bH x.id⟩,aB vi hF1.symm,rfl,hF2⟩)))
   intro FQ a H
   try have I7:=dF FQ
   have e77:qE us s.bH x.id=0:=nV.1 I7;refine gU ?_;refine ⟨(⟨s.n+(iO x:Nat),kL us s.bH x.id⟩,Gt),by exact (H).sub ⟨rfl,rfl,rfl,aC⟩,?_⟩;(try dsimp only)
   first
   | exact ⟨by simp_all [mV,dw,gF,kM],fun _ _ h=>h,rfl,fun h7=>by first|omega|(exfalso;simp_all)⟩
   | exact ⟨by simp_all [mV,dw,gF,kM],vU,rfl,fun h7=>by first|omega|(exfalso;simp_all)⟩
  intro RS a H
  try have p67:=dF RS
  refine kP H (SR fun _ jL=>Rc rfl (ak jL rfl (Cd rfl ?_ ?_))) <;> clear H jL
  ·intro Ej a H
   try have UD:=dT Ej
   refine kP H (SR fun _ oL=>aY J8 aH 1 rfl rfl ?_);clear H;intro a H;refine s_call xS H wn rfl (yw _ _ H.ro x.id 1 1073741824) rfl ?_;clear H;rintro v83 _ a w ⟨rfl,rfl⟩ - H;refine kH H (Rn rfl (Kz oL (Cd rfl ?_ ?_))) <;> clear H oL
   ·intro h84 a H
    try have p84:=dT h84
    refine bN (fun _ pI=>?_)
    have e84:¬ (1≤x.id∧x.id≤1073741824):=by have h0:=h84;simp at h0;omega
    have hF1:(fH (bC us st li rv) body note t x s).1=18:=by rw [hE];simp [gF,mV,UD,dw,e84]
    have hF2:(fH (bC us st li rv) body note t x s).1=0→(⟨s.n+(iO x:Nat),s.bH⟩:CS)=(fH (bC us st li rv) body note t x s).2:=fun h=>absurd (hF1.symm.trans h) (by decide);exact kP H (SC (bq pI rfl (LR results134 rfl fun H=>H.hp.iq (L':=gB b ms ml mr mb mu (s.n+(iO x:Nat)) :: (mb,fD (fU (s.bH))) :: L) (by repeat (first|exact gT _|apply List.Sublist.cons)) ⟨⟨s.n+(iO x:Nat),s.bH⟩,aB vi hF1.symm,rfl,hF2⟩)))
   intro h84 a H
   try have p84:=dF h84
   refine gU ?_;refine ⟨(⟨s.n+(iO x:Nat),s.bH⟩,Gt),by exact (H).sub ⟨rfl,rfl,rfl,aC⟩,?_⟩;(try dsimp only)
   first
   | exact ⟨by simp_all [mV,dw,gF,kM],fun _ _ h=>h,rfl,fun h7=>by first|omega|(exfalso;simp_all)⟩
   | exact ⟨by simp_all [mV,dw,gF,kM],vU,rfl,fun h7=>by first|omega|(exfalso;simp_all)⟩
  intro Ej a H
  try have UD:=dF Ej
  refine gU ?_;refine ⟨(⟨s.n+(iO x:Nat),s.bH⟩,Gt),by exact (H).sub ⟨rfl,rfl,rfl,aC⟩,?_⟩;(try dsimp only)
  first
  | exact ⟨by simp_all [mV,dw,gF,kM],fun _ _ h=>h,rfl,fun h7=>by first|omega|(exfalso;simp_all)⟩
  | exact ⟨by simp_all [mV,dw,gF,kM],vU,rfl,fun h7=>by first|omega|(exfalso;simp_all)⟩
 clear H;rintro ⟨s1,g⟩ a w hI H;dsimp only at hI H;obtain ⟨hP,yj,atD,ht7⟩:=hI;rw [hP,HZ rfl] at hE;dsimp only at hE;replace hck:=hck.mono yj;replace hh:=hh.mono yj;replace hf:=hf.mono yj;replace hr:=hr.mono yj;dsimp only [lca,bJ] at H;refine kP H (SQ fun _ qm=>SR fun _ qJ=>Rm rfl (aY jZ aH 1 rfl rfl (Rf vI rfl ?_)));clear H;intro a H;refine bL eu (cs:=[_,_,_,_,_]) H wn rfl rfl (H.hp.cO 1 rfl rfl) rfl ?_;clear H;intro a H;refine gH Ii (Li:=[_,_]) (L:=gB b ms ml mr mb mu s1.n :: (mb,fD (fU s1.bH)) :: L) H wn rfl (Iw _ _ _ st li rv b ms ml mr mb mu _ hck (Hp.owns (Li:=[_,_]) H.hp) x.kind x.head _ _ _ hh (by omega)) rfl ?_;clear H;rintro v90 _ _ a w ⟨rfl,rfl,rfl⟩ - H;dsimp only [lca,bJ] at H;refine kH H (ak qJ rfl (SR fun _ qo=>Rm rfl (Rc rfl (Kz qo (Cd rfl ?_ ?_))))) <;> clear H qJ qo
 ·intro FR a H
  try have I8:=dT FR
  have hF1:(fH (bC us st li rv) body note t x s).1=iD (bC us st li rv) x.kind x.head:=by rw [hE,ME (r:=(iD (bC us st li rv) x.kind x.head,s1)) I8]
  have hF2:(fH (bC us st li rv) body note t x s).1=0→s1=(fH (bC us st li rv) body note t x s).2:=fun h=>absurd (hF1.symm.trans h) I8;exact kP H (SR fun _ qK=>Rm rfl (ak qK rfl (LR results134 rfl fun H=>H.hp.iq (L':=gB b ms ml mr mb mu (s1.n) :: (mb,fD (fU (s1.bH))) :: L) (by repeat (first|exact gT _|apply List.Sublist.cons)) ⟨s1,aB vi hF1.symm,rfl,hF2⟩)))
 intro FR a H
 try have I8:=dF FR
 rw [HZ (r:=(iD (bC us st li rv) x.kind x.head,s1)) (nV.1 I8)] at hE;dsimp only at hE;refine kP H (Kc qm (SQ fun _ uw=>SR fun _ rH=>aY jZ aH 1 rfl rfl (Kz rH (SB (SR fun _ wI=>Rc rfl (ak wI rfl (Cd rfl ?_ ?_))))))) <;> clear H qm rH wI
 ·intro tH a H
  try have Lb:=dT tH
  rw [au Lb] at hE;refine kP H (SR fun _ Az=>Rm rfl (aY zK jc 1 rfl rfl (aY JY aH 0 rfl rfl ?_)));clear H;intro a H;refine jm EO [_,_,_] H wn rfl rfl rfl rfl ?_;clear H;intro a H;refine gH JX (Li:=[_,_]) (L:=gB b ms ml mr mb mu s1.n :: (mb,fD (fU s1.bH)) :: L) H wn rfl (ih _ _ _ st li rv b ms ml mr mb mu s1 x.flow _ false true t hck (Hp.owns (Li:=[_,_]) H.hp) hf (by omega) ht0 zZ (by omega) (by omega)) rfl ?_;clear H;rintro arK _ _ a w ⟨rfl,s3,rfl,rfl,h3⟩ - H;dsimp only [lca,bJ] at H
  have hF1:(fH (bC us st li rv) body note t x s).1=(jF (bC us st li rv) false true t x.flow s1).1:=by rw [hE]
  have hF2:(fH (bC us st li rv) body note t x s).1=0→s3=(fH (bC us st li rv) body note t x s).2:=by rw [hE];exact h3
  exact kH H (ak Az rfl (LR results134 rfl fun H=>H.hp.iq (L':=gB b ms ml mr mb mu (s3.n) :: (mb,fD (fU (s3.bH))) :: L) (by repeat (first|exact gT _|apply List.Sublist.cons)) ⟨s3,aB vi hF1.symm,rfl,hF2⟩))
 intro tH a H
 try have Lb:=dF tH
 rw [ah Lb] at hE;refine kP H (SR fun _ AA=>Rc rfl (ak AA rfl (Cd rfl ?_ ?_))) <;> clear H AA
 ·intro rV a H
  try have I6:=dT rV
  rw [au I6] at hE;refine kP H (SR fun _ pJ=>Rm rfl (aY qP rF 1 rfl rfl (aY Q7 oI 0 rfl rfl (aY JY aH 0 rfl rfl (Rd rfl ?_)))));clear H;intro a H;refine jm EO [_,_,_] H wn rfl rfl rfl rfl ?_;clear H;intro a H;refine gH ahq (Li:=[_,_]) (L:=gB b ms ml mr mb mu s1.n :: (mb,fD (fU s1.bH)) :: L) H wn rfl (rows_ok ih hm _ _ _ st li rv b ms ml mr mb mu s1 x.rows _ note (t+1) hck (Hp.owns (Li:=[_,_]) H.hp) hr (by omega) (by omega) (by have:=ht7 I6;omega) (by omega) (by omega)) rfl ?_;clear H;rintro atS _ _ a w ⟨s3,rfl,rfl,h3⟩ - H;dsimp only [lca,bJ] at H
  have hF1:(fH (bC us st li rv) body note t x s).1=(mE x.rows.length (fun s=>iR (bC us st li rv) note (t+1) x.rows s) s1).1:=by rw [hE]
  have hF2:(fH (bC us st li rv) body note t x s).1=0→s3=(fH (bC us st li rv) body note t x s).2:=by rw [hE];exact h3
  exact kH H (ak pJ rfl (LR results134 rfl fun H=>H.hp.iq (L':=gB b ms ml mr mb mu (s3.n) :: (mb,fD (fU (s3.bH))) :: L) (by repeat (first|exact gT _|apply List.Sublist.cons)) ⟨s3,aB vi hF1.symm,rfl,hF2⟩))
 intro rV a H
 try have I6:=dF rV
 rw [ah I6] at hE
 have hF1:(fH (bC us st li rv) body note t x s).1=0:=by rw [hE]
 have hF2:(fH (bC us st li rv) body note t x s).1=0→s1=(fH (bC us st li rv) body note t x s).2:=fun h=>by rw [hE]
 exact kP H (Kc uw (SR fun _ Cg=>ak Cg rfl (LR results134 rfl fun H=>H.hp.iq (L':=gB b ms ml mr mb mu (s1.n) :: (mb,fD (fU (s1.bH))) :: L) (by repeat (first|exact gT _|apply List.Sublist.cons)) ⟨s1,aB vi hF1.symm,rfl,hF2⟩)))
end
section
theorem agy:∀ args w,(callFunc 134 args).run prog w=.ok (.enter 134 args) w:=enters func134 rfl (by kernel_rfl)
theorem agx:∀ args w,(callFunc 133 args).run prog w=.ok (.enter 133 args) w:=enters func133 rfl (by kernel_rfl)
variable {us:List Int}
def V7 (fv:aj) (Gi:GH) (n:Nat) (E:Nat→Int) {σ:Type} (B:σ→OL) (S:Nat→σ):Prop:=∀ i,i < n→∀ (G1:GH) (w1:World),(∀ b o,Gi b=some o→G1 b=some o)→gD G1 (B (S i)) w1 →
 sj prog fv [vi i] w1 (fV w1 G1 (B (S i)) fun u G' L'=>∃ s,u=vi (E i)∧L'=B s∧(E i=0→s=S (i+1)))
theorem adY (G:GH) (w0:World) {σ:Type} (B:σ→OL) (S:Nat→σ) (n:Nat) (E:Nat→Int) (fv:aj) (hO:gD G (B (S 0)) w0) (hn:n≤4611686018427387904) (hf:V7 fv G n E B S) :
  Calls prog 123 #[vi n,fv] w0 (fV w0 G (B (S 0)) fun u G' L'=>∃ s,u=vi (kK E n)∧L'=B s∧(kK E n=0→s=S n)):=by
 refine iX (N:=18) (T:=[(0,_),(1,_)]) func123 rfl ntmps123 rfl rfl hO ?_;intro a H;refine kP H (SR fun _ K1=>ak K1 rfl (SQ fun _ K2=>SR fun _ K3=>Rm rfl (Rm rfl (Kz K3 (SB ?_)))));clear H K1 K3;intro a H;skip;refine eU (ι:=Nat × GH) (Tc:=[(1,_),(7,_)]) (Lc:=[]) (fun gh=>[(8,vi gh.1)]) (fun gh=>[]++B (S gh.1)) (fun gh=>gh.2) (fun gh=>gh.1≤n∧dR (((List.range n).map E).drop gh.1)=kK E n∧(∀ b o,G b=some o→gh.2 b=some o)) (fun gh=>n - gh.1) ((0,G)) (by exact (H).sub ⟨rfl,rfl,rfl,aC⟩) ?_ ?_
 ·exact ⟨gW _,rfl,fun _ _ h=>h⟩
 clear H;rintro ⟨k,g⟩ a w hI H;dsimp only at hI H;obtain ⟨hk,he,hgm⟩:=hI;dsimp only [lca,bJ] at H;refine kP H (SR fun _ K4=>Rc rfl (Kz K4 (SQ fun _ K5=>Cd rfl ?_ ?_))) <;> clear H K4
 ·intro h9 a H
  try have p9:=dT h9
  have hk2:k < n:=by omega
  refine kP H (Kc K5 (SQ fun _ K6=>SB (SR fun _ K7=>Rm rfl (ak K7 rfl (SR fun _ K8=>Rm rfl (Rm rfl ?_))))));clear H K5 K7;intro a H;refine Aj (Li:=[]) (L:=B (S k)) H wn rfl rfl (hf k hk2 _ _ hgm (Hp.owns (Li:=[]) H.hp)) rfl ?_;clear H;rintro v13 EX L13 a w ⟨s3,rfl,rfl,h3⟩ FZ H;refine kH H (ak K8 rfl (SR fun _ K9=>Rm rfl (Rc rfl (Kz K9 (Cd rfl ?_ ?_))))) <;> clear H K8 K9
  ·intro iY a H
   try have qd:=dT iY
   have hE:kK E n=E k:=by rw [Fu hk2,au qd] at he;exact he.symm
   exact kP H (SR fun _ aR=>Rm rfl (ak aR rfl (LR results123 rfl fun H=>H.hp.dx ⟨s3,by rw [hE],rfl,fun h=>absurd (hE.symm.trans h) qd⟩)))
  intro iY a H
  try have qd:=dF iY
  have hS:=h3 (nV.1 qd);subst hS;refine kP H (Kc K6 (SC (Rd rfl (Rm rfl ?_))));clear H K6;intro a H;refine aD ?_;refine dD ((k+1,EX)) (by exact (H).sub ⟨rfl,rfl,rfl,aC⟩) ?_
  (try dsimp only);exact ⟨by omega,by rw [Fu hk2,ah qd] at he;exact he,fun b o h=>FZ b o (hgm b o h)⟩
 intro h9 a H
 try have p9:=dF h9
 refine dV ?_;refine K2 _ _ ?_;clear K2;exact kP H (SR fun _ bQ=>ak bQ rfl (LR results123 rfl fun H=>H.hp.dx ⟨S n,aB vi (by rw [jC (by simp;omega)] at he;exact he),by rw [show k=n by omega],fun _=>rfl⟩))
abbrev ML (b ms ml mr mb mu:Nat) (L:OL) (s:CS):OL:=gB b ms ml mr mb mu s.n :: (mb,fD (fU s.bH)) :: L
theorem amJ {m:Nat} (ih:Ho us m) (hm:m≤4294967296) {G:GH} {L:OL} {st:List bV} {li:List fI} {rv:List dh} {b ms ml mr mb mu:Nat} {s:CS} {l:List ay} {v:aj} {body note:Bool} {t:Int} {x3 x4 x5:Nat}
  (hck:wH us G st li rv ms ml mr mu) (h3:aI G x3 0=some (aK b 0)) (h4:aI G x4 0=some v) (h5:∀ (j:Nat) (u:aj),[.bool body,.bool note,vi t][j]?=some u→aI G x5 (0+j)=some u)
  (hv:av G (.sl 11 (l.map ay.dat)) v) (hz:bK l≤m) (ht0:0≤t) (zZ:t≤4) (hs0:0≤s.n) (hs1:s.n+(bK l:Nat)≤1099511627776) :
  V7 (.func (.func 133) #[] #[(aK x3 0),(aK x4 0),(aK x5 0)]) G l.length (Co (fH (bC us st li rv) body note t) l s) (ML b ms ml mr mb mu L) (rD (fH (bC us st li rv) body note t) l s):=by
 intro k hk G1 w0 KH hO;refine jI (caps:=[(aK x3 0),(aK x4 0),(aK x5 0)]) agx ?_;replace h3:=aJ KH h3;replace h4:=aJ KH h4;replace h5:=fun j u hj=>aJ KH (h5 j u hj);replace hck:=hck.mono KH;replace hv:=hv.mono KH;obtain ⟨A,c,rfl,hc1,hc2,hg⟩:=hv.slice;rw [bG] at *;obtain ⟨o,xo,pA,pn,pc,dA,dn,dc,yA,yn,yc,fA,fn,fc,rA,rn,rc,rfl,hrow,hhd,hfl,hrw⟩:=Bh hk hg;obtain ⟨hn0,hn1⟩:=acQ (bC us st li rv) body note t l s k (by omega)
 have hdz:bK (l.drop k)=1+bX l[k].dat+bK (l.drop (k+1)):=by
  simp only [bK];rw [ng hk,fK,dU]
 have hzm:=VA (kS hk)
 have hE:Co (fH (bC us st li rv) body note t) l s k=(fH (bC us st li rv) body note t l[k] (rD (fH (bC us st li rv) body note t) l s k)).1:=by unfold Co;rw [eT hk]
 have hS:rD (fH (bC us st li rv) body note t) l s (k+1)=(fH (bC us st li rv) body note t l[k] (rD (fH (bC us st li rv) body note t) l s k)).2:=by rw [rD,eT hk]
 rw [hE,hS]
 generalize rD (fH (bC us st li rv) body note t) l s k=s1 at *
 refine iX (N:=13) (T:=[(0,_),(1,_),(2,_),(3,_)]) func133 rfl ntmps133 rfl rfl hO ?_;intro a H;refine kP H (SR fun _ K1=>ak K1 rfl (SQ fun _ K2=>?_));clear H K1;intro a H;refine dI hmx [[],[],[],[1,2],[1,2,3],[],(ra 0 6),(ra 0 7)] [6,7] (by kernel_rfl) [_,_,_,_,.agg #[vi l[k].kind,vi l[k].code,vi l[k].id,.string l[k].text,.slice pA pn pc,vi l[k].head.marks.ins,vi l[k].head.marks.move,.slice dA dn dc,.slice yA yn yc,.slice fA fn fc,.slice rA rn rc],.agg #[.bool body,.bool note,vi t]] H (aF (X0 rfl fun hG=>Rg Jj rfl (aJ hG h3)) (X0 rfl fun hG=>Rg jc rfl (aJ hG h4)) (Z0 rfl (Rm rfl)) (Z2 1 7 2 8 rfl (Ri iF fG rfl rfl)) (aF ?_ ?_ (bS rfl) (bS rfl) dz)) ?_
 ·refine fq 3 9 rfl rfl fun _ a w G1 hG HT H fin=>?_;refine bL fG (cs:=[_,_,_,_,_,_,_,_,_,_,_]) H wn rfl rfl (fun j v hj=>H.hp.aI (aJ hG (hrow j v hj))) rfl ?_;clear H;intro a H;exact fin H iJ rfl
 ·refine Ci rfl fun _ a w G1 hG HT H fin=>?_;refine bL O1 (cs:=[.bool body,.bool note,vi t]) H wn rfl rfl (fun j v hj=>H.hp.aI (aJ hG (h5 j v hj))) rfl ?_;clear H;intro a H;exact fin H iJ rfl
 clear H;intro a w G nu H hv;have H:=H.aM (hv 0 6 rfl rfl) rfl;have H:=H.aM (hv 4 10 rfl rfl) rfl;have H:=H.aM (hv 5 11 rfl rfl) rfl;clear hv;refine gH agy (Li:=[]) (L:=ML b ms ml mr mb mu L s1) H wn rfl (amK ih hm _ _ _ st li rv b ms ml mr mb mu s1 l[k] _ _ _ _ _ body note t (hck.mono nu) (Hp.owns (Li:=[]) H.hp) (hhd.mono nu) (hfl.mono nu) (hrw.mono nu) (by omega) ht0 zZ (by omega) (by omega)) rfl ?_;clear H;rintro v12 _ _ a w ⟨s3,rfl,rfl,h12⟩ - H;dsimp only [List.nil_append] at H;refine kH H (Ra rfl ?_);clear H;intro a H;refine aD ⟨rfl,?_⟩;refine K2 _ _ ?_;clear K2;refine lr H results133 rfl ?_;exact H.hp.dx ⟨s3,rfl,rfl,h12⟩
theorem amL {m:Nat} (ih:Ho us m) (hm:m≤4294967296):Ho us (m+1):=by
 intro G L w0 st li rv b ms ml mr mb mu s l v body note t hck hO hv hz ht0 zZ hs0 hs1;obtain ⟨hA1,hA2⟩:=aaw (bC us st li rv) body note t l s;refine Calls.aec (R:=fun u G' L'=>LZ b ms ml mr mb mu L (jF (bC us st li rv) body note t l s) u L') ?_ fun _ _ _ h=>h;obtain ⟨A,c,rfl,hc1,hc2,-⟩:=hv.slice;rw [bG] at *;have hll:=DI l;refine iX (N:=11) (T:=[(0,_),(1,_),(2,_)]) func72 rfl ntmps72 rfl rfl hO ?_;intro a H;refine cu (fun _ K1=>?_);refine dQ (cs:=[_]) H wn rfl rfl rfl ?_;clear H;intro b3 a w hb3 H;refine dQ (cs:=[_]) H wn rfl rfl rfl ?_;clear H;intro b4 a w hb4 H;refine dQ (cs:=[_,_,_]) H wn rfl rfl rfl ?_;clear H;intro b5 a w hb5 H;refine kH H (ak K1 rfl (SQ fun _ K2=>?_));clear H K1;intro a H;obtain ⟨Ga5,NJ,Bn,H⟩:=H.eH;obtain ⟨Ga4,II,zU,H⟩:=H.eH;obtain ⟨Ga,Et,zT,H⟩:=H.eH;replace Bn:=Et _ _ (II _ _ Bn);replace zU:=Et _ _ zU;have hma:∀ b o,G b=some o→Ga b=some o:=fun b o h=>Et _ _ (II _ _ (NJ _ _ h))
 have g3:aI Ga b3 0=some (aK b 0):=by unfold aI;rw [zT];rfl
 have g4:aI Ga b4 0=some (.slice A l.length c):=by unfold aI;rw [zU];rfl
 have g5:∀ (j:Nat) (u:aj),[.bool body,.bool note,vi t][j]?=some u→aI Ga b5 (0+j)=some u:=by
  intro j u hj;unfold aI;rw [Bn];simpa using hj
 have hcb:=amJ (mb:=mb) (L:=L) (s:=s) ih hm (hck.mono hma) g3 g4 g5 (hv.mono hma) (by omega) ht0 zZ hs0 hs1;refine kP H (SC (Rg jc rfl (by assumption) ?_));clear H;intro a H;refine kH H (Rl iF rfl ?_);clear H;intro a H;refine oZ H wn rfl rfl ?_;clear H;intro a H;refine gH Ih (Li:=[]) (L:=ML b ms ml mr mb mu L s) H wn rfl (adY _ _ (ML b ms ml mr mb mu L) (rD (fH (bC us st li rv) body note t) l s) l.length (Co (fH (bC us st li rv) body note t) l s) _ (Hp.owns (Li:=[]) H.hp) (by omega) hcb) rfl ?_;clear H;rintro v10 _ _ a w ⟨s3,rfl,rfl,h10⟩ - H;dsimp only [List.nil_append] at H;exact kH H (bq K2 rfl (LR results72 rfl fun H=>H.hp.dx ⟨s3,by rw [hA1],rfl,fun h=>by rw [hA1] at h;exact (h10 h).trans (hA2 (hA1.trans h)).symm⟩))
theorem N8:∀ m:Nat,m≤4294967297→Ho us m
 | 0,_=>fun _ _ _ _ _ _ _ _ _ _ _ _ _ _ _ _ _ _ _ _ _ h=>absurd h (by omega)
 | m+1,hm=>amL (N8 m (by omega)) (by omega)
end
theorem aiW:dH prog 102 1 1:=⟨by kernel_rfl⟩
theorem aiX:dH prog 102 2 2:=⟨by kernel_rfl⟩
theorem agu:∀ args w,(callFunc 126 args).run prog w=.ok (.enter 126 args) w:=enters func126 rfl (by kernel_rfl)
theorem agt:∀ args w,(callFunc 124 args).run prog w=.ok (.enter 124 args) w:=enters func124 rfl (by kernel_rfl)
theorem apy {G:GH} {bl:Nat} {l:List dh} {A:Option Addr} {n c:Nat} (hb:aI G bl 0=some (.slice A n c)) (hv:av G (.sl 3 (l.map dh.dat)) (.slice A n c)):uq (.func (.func 126) #[] #[(aK bl 0)]) G l.length fun k=>(l[k]?.map dh.id).getD 0:=by
 intro k hk G1 w0 hm hG;refine jI (caps:=[(aK bl 0)]) agu ?_;replace hb:=aJ hm hb
 obtain rfl:n=l.length:=by have:=hv.len;simpa using this
 obtain ⟨b,o,rfl,hrow⟩:=UY (hv.mono hm) hk;have hq:=hrow 0 _ rfl;refine eN [(0,_),(1,_)] func126 rfl ntmps126 rfl rfl hG ?_;intro a H;refine kP H (SR fun _ K1=>ak K1 rfl (SR fun _ K2=>Rg yJ rfl (by assumption) ?_));clear H K1;intro a H;refine kH H (Rm rfl (Ri pz oH rfl rfl (Rf Q6 rfl (Rg aH rfl (by assumption) ?_))));clear H;intro a H;exact kH H (ak K2 rfl (LR results126 rfl fun H=>H.rt (by dsimp only;rw [eT hk];rfl)))
def UL (l:List dh) (i:Nat) (x:dh):Int:=dR [qY (fun k=>(l[k]?.map dh.id).getD 0) i,dw (!xM x.author) 39,dw (!decide (0≤x.time∧x.time≤1099511627776)) 40]
def EH (l:List dh) (i:Nat):Int:=match l[i]? with|some x=>UL l i x|none=>0
theorem aoW {G:GH} {bl:Nat} {l:List dh} {A:Option Addr} {n c:Nat} (hb:aI G bl 0=some (.slice A n c)) (hv:av G (.sl 3 (l.map dh.dat)) (.slice A n c)) (hl:l.length≤4294967296) (ht:∀ x∈l,x.author.size < 4611686018427387904):uq (.func (.func 124) #[] #[(aK bl 0)]) G l.length (EH l):=by
 intro k hk G1 w0 hm hG;refine jI (caps:=[(aK bl 0)]) agt ?_;replace hb:=aJ hm hb;replace hv:=hv.mono hm;have hcb:=apy hb hv
 obtain rfl:n=l.length:=by have:=hv.len;simpa using this
 obtain ⟨b,o,rfl,hrow⟩:=UY hv hk;have hte:=ht _ (kS hk)
 have he:EH l k=UL l k l[k]:=by unfold EH;rw [eT hk]
 obtain ⟨x,hx⟩:∃ x,x=l[k]:=⟨_,rfl⟩;rw [← hx] at hrow hte he;refine eN [(0,_),(1,_)] func124 rfl ntmps124 rfl rfl hG ?_;intro a H;refine kP H (SR fun _ K1=>ak K1 rfl (SQ fun _ K2=>?_));clear H K1;intro a H;have H:=H.sub (T':=[(0,_),(1,_)]) ⟨rfl,rfl,aC⟩;refine dI hmx [[],[],[0,1],[],[],[3,4],[3,4,5],(ra 3 4),(ra 0 8),(ra 0 9),(ra 0 10),[],[],[11,12],[11,12,13],(ra 11 4),(ra 0 16),(ra 0 17),(ra 0 18),(ra 0 19),(ra 0 20),(ra 0 21)] [19,20,21] (by kernel_rfl) [_,.func (.func 126) #[] #[(aK bl 0)],vi (qY (fun k=>(l[k]?.map dh.id).getD 0) k),_,_,_,_,_,.bool (xM x.author),_,vi (dw (!xM x.author) 39),_,_,_,_,_,.bool (decide (0≤x.time∧x.time≤1099511627776)),_,vi (dw (!decide (0≤x.time∧x.time≤1099511627776)) 40)] H (aF (Z0 rfl (Rm rfl)) ?_ ?_ (X0 rfl fun hG=>Rg yJ rfl (aJ hG hb)) (aF (Z0 rfl (Rm rfl)) (Z2 3 7 4 8 rfl (Ri pz oH rfl rfl)) (Z1 5 9 rfl (Rf aiW rfl)) (X1 6 10 rfl fun hG=>Rg iN rfl (aJ hG (hrow 1 _ rfl))) (aF ?_ (Z1 8 12 rfl (Rn rfl)) ?_ (X0 rfl fun hG=>Rg yJ rfl (aJ hG hb)) (aF (Z0 rfl (Rm rfl)) (Z2 11 15 12 16 rfl (Ri pz oH rfl rfl)) (Z1 13 17 rfl (Rf aiX rfl)) (X1 14 18 rfl fun hG=>Rg aH rfl (aJ hG (hrow 2 _ rfl))) (aF ?_ (Z1 16 20 rfl (Rn rfl)) ?_ (bS rfl) (bR (bS rfl) (bR (bS rfl) dz))))))) ?_
 ·refine Ci rfl fun _ a w G1 hG HT H fin=>?_;refine oZ H wn rfl rfl ?_;clear H;intro a H;exact fin H iJ rfl
 ·refine dJ 0 4 1 5 rfl rfl fun _ a w G1 hG HT H fin=>?_;refine s_call QG H wn rfl (TV _ _ H.ro k _ _ (by omega) (fun i hi=>(hcb.mono hG) i (by omega))) rfl ?_;clear H;rintro v6 G6 a w rfl iL H;exact fin H iL (rfl)
 ·refine fq 7 11 rfl rfl fun _ a w G1 hG HT H fin=>?_;refine s_call XY H wn rfl (WU _ _ H.ro x.author hte) rfl ?_;clear H;rintro v12 DL a w ⟨rfl,-⟩ oz H;exact fin H oz (rfl)
 ·refine fq 9 13 rfl rfl fun _ a w G1 hG HT H fin=>?_;refine s_call jO H wn rfl (jQ _ _ H.ro _ 39) rfl ?_;clear H;rintro v14 Aw a w ⟨rfl,-⟩ CB H;exact fin H CB (rfl)
 ·refine fq 15 19 rfl rfl fun _ a w G1 hG HT H fin=>?_;refine s_call xS H wn rfl (yw _ _ H.ro x.time 0 1099511627776) rfl ?_;clear H;rintro v20 EZ a w ⟨rfl,-⟩ ajS H;exact fin H ajS (rfl)
 ·refine fq 17 21 rfl rfl fun _ a w G1 hG HT H fin=>?_;refine s_call jO H wn rfl (jQ _ _ H.ro _ 40) rfl ?_;clear H;rintro v22 VP a w ⟨rfl,-⟩ R7 H;exact fin H R7 (rfl)
 clear H;intro a w G nu H hv;have H:=H.aM (hv 2 6 rfl rfl) rfl;have H:=H.aM (hv 10 14 rfl rfl) rfl;have H:=H.aM (hv 18 22 rfl rfl) rfl;clear hv;refine iE qI iA [_,_,_] [_,_,_] H wn rfl rfl rfl rfl rfl (by intro i q h;match i,h with|0,h=>exact h|1,h=>exact h|2,h=>exact h|n+3,h=>simp at h) rfl rfl ?_;clear H;intro b23 a w asT H;obtain ⟨VQ,Eo,aku,H⟩:=H.eH;refine s_call rQ H wn rfl (rT _ _ H.ro _ _ (Gj [qY (fun k=>(l[k]?.map dh.id).getD 0) k,dw (!xM x.author) 39,dw (!decide (0≤x.time∧x.time≤1099511627776)) 40] aku (show 3≤maxLen by decide))) rfl ?_;clear H;rintro v24 _ a w ⟨rfl,rfl⟩ - H;refine kH H (Ra rfl ?_);clear H;intro a H;refine aD ⟨rfl,?_⟩;refine K2 _ _ ?_;clear K2;refine lr H results124 rfl ?_;exact H.rt (by rw [he,UL])
def Fy (l:List dh):Int:=dR [dw (decide (256 < (l.length:Int))) 9,kK (EH l) (min l.length 256)]
theorem aeQ (G:GH) (w0:World) (hG:Hold G w0) (l:List dh) (v:aj) (hv:av G (.sl 3 (l.map dh.dat)) v) (hl:l.length≤4294967296) (ht:∀ x∈l,x.author.size < 4611686018427387904) :
  Calls prog 68 #[v] w0 (aZ w0 G fun u G'=>u=vi (Fy l)):=by
 obtain ⟨A,c,rfl,hc1,hc2,-⟩:=hv.slice;rw [bG] at *;refine eN [(0,_)] func68 rfl ntmps68 rfl rfl hG ?_;intro a H;refine cu (fun _ K1=>?_);refine dQ (cs:=[_]) H wn rfl rfl rfl ?_;clear H;intro b1 a w hb1 H;refine kH H (ak K1 rfl (SQ fun _ K2=>?_));clear H K1;intro a H;have H:=H.sub (T':=[(1,_)]) ⟨rfl,aC⟩;obtain ⟨Ga,hma,hb1',H⟩:=H.eH
 have hbl:aI Ga b1 0=some (.slice A l.length c):=by unfold aI;rw [hb1'];rfl
 have hcb:=aoW hbl (hv.mono hma) hl ht;refine dI hmx [[],[0],[0,1],[0,1,2],[],[4],[4,5],[],(ra 0 8),(ra 0 9),(ra 0 10),(ra 0 11)] [9,10,11] (by kernel_rfl) [_,_,_,vi (dw (decide (256 < (l.length:Int))) 9),_,_,vi ((min l.length 256:Nat):Int),.func (.func 124) #[] #[(aK b1 0)],vi (kK (EH l) (min l.length 256))] H (aF (X0 rfl fun hG=>Rg yJ rfl (aJ hG hbl)) (Z1 0 3 rfl (Rl pz rfl)) (Z1 1 4 rfl (Rc rfl)) ?_ (aF (X0 rfl fun hG=>Rg yJ rfl (aJ hG hbl)) (Z1 4 7 rfl (Rl pz rfl)) ?_ ?_ (aF ?_ (bS rfl) (bS rfl) (bS rfl) dz))) ?_
 ·refine fq 2 5 rfl rfl fun _ a w G1 hG HT H fin=>?_;refine s_call jO H wn rfl (jQ _ _ H.ro _ 9) rfl ?_;clear H;rintro v6 G6 a w ⟨rfl,-⟩ iL H;exact fin H iL (rfl)
 ·refine fq 5 8 rfl rfl fun _ a w G1 hG HT H fin=>?_;refine OP H wn rfl rfl rfl ?_;clear H;intro a H;exact fin H iJ (aB vi (by omega))
 ·refine Ci rfl fun _ a w G1 hG HT H fin=>?_;refine oZ H wn rfl rfl ?_;clear H;intro a H;exact fin H iJ rfl
 ·refine dJ 6 9 7 10 rfl rfl fun _ a w G1 hG HT H fin=>?_;refine s_call Ih H wn rfl (JG _ _ H.ro (min l.length 256) (EH l) _ (by omega) ((hcb.mono hG).le (Nat.min_le_left _ _))) rfl ?_;clear H;rintro v11 sw a w rfl lQ H;exact fin H lQ (rfl)
 clear H;intro a w G nu H hv;have H:=H.aM (hv 3 6 rfl rfl) rfl;have H:=H.aM (hv 8 11 rfl rfl) rfl;clear hv;refine iE qI iA [_,_] [_,_] H wn rfl rfl rfl rfl rfl (by intro i q h;match i,h with|0,h=>exact h|1,h=>exact h|n+2,h=>simp at h) rfl rfl ?_;clear H;intro b12 a w FU H;obtain ⟨DL,CU,FV,H⟩:=H.eH;refine s_call rQ H wn rfl (rT _ _ H.ro _ _ (zu FV)) rfl ?_;clear H;rintro v13 _ a w ⟨rfl,rfl⟩ - H;refine kH H (Ra rfl ?_);clear H;intro a H;refine aD ⟨rfl,?_⟩;refine K2 _ _ ?_;clear K2;refine lr H results68 rfl ?_;exact H.rt rfl
theorem mg:∀ {l:List Int},dR l=0→∀ x∈l,x=0
 | [],_,_,h=>by cases h
 | e :: r,h,x,hx=>by
  unfold dR at h
  by_cases he:e=0
  ·rw [ah (fun h'=>h' he)] at h
   rcases jS.1 hx with rfl|hx
   ·exact he
   exact mg h x hx
  rw [au he] at h;exact absurd h he
theorem Fv {E:Nat→Int} {n:Nat} (h:kK E n=0) (i:Nat) (hi:i < n):E i=0:=mg h _ (by simp;exact ⟨i,hi,rfl⟩)
theorem TU {id:Nat→Int} {i:Nat} (h:qY id i=0):1≤id i∧id i≤1073741824∧(0 < i→id (i - 1) < id i):=by
 unfold qY at h
 by_cases h1:1≤id i∧id i≤1073741824
 ·rw [ah (fun h'=>h' h1)] at h
  by_cases h2:0 < i∧id i=id (i - 1)
  ·rw [au h2] at h;cases h
  rw [ah h2] at h
  by_cases h3:0 < i∧id i < id (i - 1)
  ·rw [au h3] at h;cases h
  exact ⟨h1.1,h1.2,fun h0=>by omega⟩
 rw [au h1] at h;cases h
theorem aas {l:List Int} (h:∀ i (h:i+1 < l.length),l[i] < l[i+1]):Cc l:=by
 have hlt:∀ (j i:Nat) (hj:j < l.length) (hi:i < j),l[i] < l[j]:=by
  intro j
  induction j with
  | zero=>intro i _ hi;omega
  | succ j ih =>
   intro i hj hi;have h1:=h j hj
   by_cases e:i=j
   ·subst e;exact h1
   have:=ih i (by omega) (by omega);omega
 intro k hk hm;obtain ⟨i,hi,he⟩:=List.getElem_of_mem hm;rw [List.length_take] at hi;have:=hlt k i hk (by omega);rw [List.getElem_take] at he
 omega
theorem aoX {l:List dh} (h:Fy l=0):Cc (l.map dh.id):=by
 have h1:=mg h _ (gJ);have h2:=mg h _ (iQ _ gJ)
 have hl:l.length≤256:=by
  unfold dw at h1
  by_cases hd:256 < (l.length:Int)
  ·rw [au (aG hd)] at h1;cases h1
  omega
 refine aas fun i hi=>?_;rw [bG] at hi;have h3:=Fv h2 (i+1) (by omega)
 unfold EH at h3
 rw [eT hi] at h3;have h4:=(TU (mg h3 _ gJ)).2.2 (by omega);rw [Nat.add_sub_cancel,eT hi,eT (show i < l.length by omega)] at h4
 simpa using h4
theorem anf {l:List fI} (h:JK l=0):Cc (l.map fI.id):=by
 have h1:=mg h _ (gJ);have h2:=mg h _ (iQ _ gJ)
 have hl:l.length≤64:=by
  unfold dw at h1
  by_cases hd:64 < (l.length:Int)
  ·rw [au (aG hd)] at h1;cases h1
  omega
 refine aas fun i hi=>?_;rw [bG] at hi;have h3:=Fv h2 (i+1) (by omega)
 unfold Gq at h3
 have h4:=(TU (mg h3 _ gJ)).2.2 (by omega);rw [Nat.add_sub_cancel,eT hi,eT (show i < l.length by omega)] at h4
 simpa using h4
theorem ard {l:List bV} (h:ig l=0):Cc (l.map bV.id):=by
 unfold ig at h
 by_cases h1:128 < l.length
 ·rw [au h1] at h;cases h
 rw [ah h1] at h
 by_cases h2:uL (Af l) 0 l.length≠0
 ·rw [au h2] at h;exact absurd h h2
 intro k hk;rw [bG] at hk;have:=abm (nV.1 h2) k hk;rw [← List.map_take,List.getElem_map];exact this
end Go.Proofs.YtdiflmikikiedaaGreat
