/-
  What the claim stands on, part 5: De24 Dnn Rw24 Ni13 Mn Lay Srt Ms Ids Usd Rf0 Dlr Ccl Cst Dcl Nm Nml Nd13.
-/
import Derived.Test.YtdiflmikikiedaaGreatWkd
import Derived.Shelf.SlIterI.Nil
import Derived.Shelf.SortM.Plain
import Derived.Shelf.SortM.SortNone
namespace Go.Proofs.YtdiflmikikiedaaGreat
set_option linter.all false
open Go.Proofs.Tryz
open Go.RowKit
theorem ajX:Ty prog 232 1 8 [.nilFunc] false:=⟨V,V⟩
theorem aeL:aS 157:=aT func157 M
theorem Ma:prog.underlying 240=some (.slice 242):=by kernel_rfl
theorem LV:qQ prog 29 [(0,1),(1,4)] [.slice none 0 0,.int .i64 0,.int .i64 0,.slice none 0 0,.slice none 0 0]:=⟨V,V⟩
theorem ZU:qQ prog 27 [(0,1),(1,1),(2,1),(3,1)] [.int .i64 0,.int .i64 0,.slice none 0 0,.slice none 0 0]:=⟨V,V⟩
theorem aoP:aS 160:=aT func160 M
theorem aoQ:aS 161:=aT func161 M
theorem aoR:aS 162:=aT func162 M
theorem aoS:aS 163:=aT func163 M
theorem aoT:aS 164:=aT func164 M
theorem aoL:aS 155:=aT func155 M
theorem aoM:aS 156:=aT func156 M
theorem aoN:aS 158:=aT func158 M
def Dm (vv:ah) (G:GH) (acc rej:Int->Bool):Prop:=∀ (G1:GH) (w1:World),(∀ b o,G b=some o->G1 b=some o)->Hold G1 w1->∀ r:Int,sJ prog vv [vi r] w1 (bG w1 G1 fun u G'=>u=.tuple #[.bool (acc r),.bool (rej r)])
def Ai (fv:ah) (G:GH) (f:Int->Bool):Prop:=∀ (G1:GH) (w1:World),(∀ b o,G b=some o->G1 b=some o)->Hold G1 w1->∀ r:Int,sJ prog fv [vi r] w1 (bG w1 G1 fun u G'=>u=.bool (f r))
theorem Dm.mono {vv:ah} {G G':GH} {acc rej:Int->Bool} (hm:∀ b o,G b=some o->G' b=some o) (h:Dm vv G acc rej):Dm vv G' acc rej:=fun G1 w1 h1=>h G1 w1 fun b o hb=>h1 b o (hm b o hb)
theorem Ai.mono {vv:ah} {G G':GH} {f:Int->Bool} (hm:∀ b o,G b=some o->G' b=some o) (h:Ai vv G f):Ai vv G' f:=fun G1 w1 h1=>h G1 w1 fun b o hb=>h1 b o (hm b o hb)
abbrev Qb (b:Nat):ah:=.func (.func 155) #[] #[(aK b 0)]
abbrev Tf (b:Nat):ah:=.func (.func 156) #[] #[(aK b 0)]
theorem ale {G:GH} {b:Nat} {vv:ah} {acc rej:Int->Bool} (hb:aH G b 0=some vv) (hv:Dm vv G acc rej):Ai (Qb b) G acc:=by
 intro G1 w0 hm hG r;refine jy (caps:=[(aK b 0)]) aoL ?_;replace hb:=aC hm hb;refine eN [(0,_),(1,_)] func155 M ntmps155 M M hG ?_;intro a H;refine kP H (SR fun _ K1=>aj K1 M (SR fun _ K2=>Rg ajX M hb (Rm M ?_)));clear H K1;intro a H;refine jO H wn M M (hv _ _ hm H.ro r) M ?_;clear H;rintro v9 G9 a w rfl Bc H;refine kH H (Rm M ?_);clear H;intro a H;(iterate 2 refine lT H wn M M M ?_;clear H;intro a H);exact kH H (Ra M (aj K2 M (SR fun _ K3=>Rm M (aj K3 M (LR results155 M fun H=>H.rt M)))))
theorem ayi {G:GH} {b:Nat} {vv:ah} {acc rej:Int->Bool} (hb:aH G b 0=some vv) (hv:Dm vv G acc rej):Ai (Tf b) G rej:=by
 intro G1 w0 hm hG r;refine jy (caps:=[(aK b 0)]) aoM ?_;replace hb:=aC hm hb;refine eN [(0,_),(1,_)] func156 M ntmps156 M M hG ?_;intro a H;refine kP H (SR fun _ K1=>aj K1 M (SR fun _ K2=>Rg ajX M hb (Rm M ?_)));clear H K1;intro a H;refine jO H wn M M (hv _ _ hm H.ro r) M ?_;clear H;rintro v9 G9 a w rfl Bc H;refine kH H (Rm M ?_);clear H;intro a H;(iterate 2 refine lT H wn M M M ?_;clear H;intro a H);exact kH H (Ra M (aj K2 M (SR fun _ K3=>Rm M (aj K3 M (LR results156 M fun H=>H.rt M)))))
theorem aer {G:GH} {b:Nat} {fv:ah} {acc:Int->Bool} (hb:aH G b 0=some fv) (hv:Ai fv G acc) (x:gG):uM (.func (.func 158) #[] #[(aK b 0)]) G x.dat (acc x.rev):=by
 intro G1 w0 cs hm hG hr;obtain rfl:=Nh hr;refine jy (caps:=[(aK b 0)]) aoN ?_;replace hb:=aC hm hb;refine eN [(0,_),(1,_)] func158 M ntmps158 M M hG ?_;intro a H;refine dz (fun _ K1=>?_);refine dR (cs:=[_,_]) H wn M M M ?_;clear H;intro b2 a w hb2 H;refine kH H (aj K1 M (SR fun _ K2=>Rg C8 M hb (bQ EO aF 0 M M ?_)));clear H K1;intro a H;refine jO H wn M M (hv _ _ hm H.ro x.rev) M ?_;clear H;rintro v7 G7 a w rfl uG H;exact kH H (aj K2 M (LR results158 M fun H=>H.rt M))
theorem axC (G:GH) (w0:World) (hG:Hold G w0) (l:List aO) (v:ah) (hv:ak G (.sl 2 (l.map aO.dat)) v) (hz:l.length<=4294967296) :
  Calls prog 159 #[v] w0 (bG w0 G fun u G'=>ak G' (.sl 2 (l.map aO.dat)) u):=by
 obtain ⟨A,n,c,rfl⟩:=hv.form;refine eN [(0,_)] func159 M ntmps159 M M hG ?_;intro a H;refine kP H (SR fun _ K1=>aj K1 M (SR fun _ K2=>Rm M ?_));clear H K1;intro a H;refine s_call QN H wn M (V4 _ _ H.ro _ _ _ _ hv (by simpa using hz)) M ?_;clear H;rintro v4 G4 a w Yd NW H;exact kH H (aj K2 M (LR results159 M fun H=>H.rt Yd))
abbrev OV (s:Int × Bool):List Dat:=[li s.1,.lf (.bool s.2)]
theorem ajL (G:GH) (s:Int × Bool):bB G (OV s) [vi s.1,.bool s.2]:=by simp [bB,ak,Value.oneCell']
theorem ajO {G:GH} {l:List (Int × Bool)} {A:Option Addr} {n c k:Nat} (hv:ak G (.sl 2 (l.map OV)) (.slice A n c)) (hk:k < l.length):∃ b o,A=some ⟨b,o,none⟩∧∀ j u,[vi l[k].1,.bool l[k].2][j]?=some u->aH G b (o+k*2+j)=some u:=by
 obtain ⟨b,o,cs,h1,h2,h3,h4⟩:=hv.at_ k (OV l[k]) (by simp [hk])
 simp only [bB,ak] at h4
 obtain ⟨_,_,rfl,⟨rfl,-⟩,_,_,rfl,⟨rfl,-⟩,rfl⟩:=h4;exact Gq
theorem avV (G:GH) (y:bZ):bB G y.dat y.cells:=by simp [bZ.dat,bZ.cells,bB,ak,Value.oneCell']
theorem aep (G:GH) (y:gG):bB G y.dat y.cells:=by simp [gG.dat,gG.cells,bB,ak,Value.oneCell']
theorem aAC (props:List aO) (key:Int) (l:List bZ):(qd props key l).length=l.length+1:=by simp [qd]
theorem afA {l:List gG} {p:gG->Bool}:(l.findIdx? p).isSome=true↔∃ x∈l,p x=true:=by rw [List.findIdx?_isSome,List.any_eq_true]
theorem asw {L:List (Int × List bZ)} {l:List bZ} (h:L.flatMap Prod.snd=l) (hn:∀ q∈L,q.2≠[]) (k:Nat) (hk:k<=L.length):k<=((L.take k).flatMap Prod.snd).length∧((L.take k).flatMap Prod.snd).length<=l.length:=by
 constructor
 ·induction k with
  | zero=>exact lg _
  | succ k ih =>
   have:=ih O;rw [kG O,List.flatMap_append,iW];have h2:=List.length_pos_iff.2 (hn L[k] (lq O))
   simp only [List.flatMap_cons,List.flatMap_nil,ig]
   omega
 have e:l=(L.take k).flatMap Prod.snd++(L.drop k).flatMap Prod.snd:=by rw [<- List.flatMap_append,List.take_append_drop,h]
 rw [e,iW];omega
def sK (acc rej:Int->Bool) (h:dN) (u:ah) (G:GH):Prop:=if lZ acc rej h then aaD false BG u G else aaD true (iI acc rej h) u G
theorem alP {p:Prop} (h:p:=by
 first
  | exact H.rt (by rw [sK,aD (by first|exact .inl ⟨by assumption,by assumption⟩|exact .inr (afA.1 (by assumption)))];exact ⟨_,_,_,M,akJ _⟩)
  | (obtain ⟨Gr2,agO,Il,H⟩:=St.qp (Li:=[_,_]) H hrw (rows:=ly.map bZ.dat) (by simp) fK
     exact H.rt (by rw [sK,av Ic,hdh];exact ⟨_,_,_,M,⟨hpv.mono agO,(hdr.mono nL).mono agO,Il⟩⟩))):p:=h
theorem abt {p:Prop} (h:p:=by
 exact ⟨fun hg=>hg.elim (fun g=>by simp_all) (fun g=>by have g4:=afA.2 g;simp_all),by first|assumption|exact fun b o h=>XZ b o (NV b o h)⟩):p:=h
theorem alQ {p:Prop} (h:p:=by
 exact Ch HT Hb hG hv (Yg aJ) H M):p:=h
theorem JF {p:Prop} (h:p:=by
 exact ⟨O,dw.nil,dx.nil,fun _ _ h=>h⟩):p:=h
theorem alR {p:Prop} (h:p:=by
 exact Ch HT Hb hG hv (ahd aJ) H M):p:=h
theorem Qo {p:Prop} (h:p:=by
 refine (kJ H results96 (.cons (ny fB (cs:=[_,_,_,_,_]) H M M (H.hp.cB 0 M M)) (.cons (fM H M) .nil)) ?_).1
 exact alP):p:=h
theorem GK {p:Prop} (h:p:=by
 clear H;intro a H;refine aG ⟨M,?_⟩;exact alR):p:=h
theorem GN {p:Prop} (h:p:=by
 clear H;intro a H;refine aG ⟨M,?_⟩;exact alQ):p:=h
theorem GQ {p:Prop} (h:p:=by
 intro _ _ _ _ _ _ _ hB;exact fP):p:=h
theorem ace {p:Prop} (h:p:=by
 intro aJ dG bH a w G1 eP _ _ aM hc hG HT hv;have H:=HT;clear aM;have Hb:=H.full;have H:=Hb;clear hc;refine kH H (Rm M ?_);exact GK):p:=h
theorem MP {p:Prop} (h:p:=by
 intro _ _ _ _ _ _ _ hB;exact fP):p:=h
set_option maxHeartbeats 8000000 in
theorem Y8 (G:GH) (w0:World) (hG:Hold G w0) (acc rej:Int->Bool) (vv:ah) (hvv:Dm vv G acc rej) (hcv:vv.cells=#[vv]) (h:dN) (p d l:ah) (hh:jr G h p d l) (hz:mX h<=1073741824) :
    Calls prog 96 #[sj h p d l,vv] w0 (bG w0 G (sK acc rej h)):=by
  have hml:maxLen=9223372036854775807:=rfl;have hzh:=FU h;have hz1:=pK (h.props.map aO.dat);have hz2:=pK (h.marks.bK.map gG.dat);have hz3:=pK (h.marks.layers.map bZ.dat)
  simp only [bS] at hz1 hz2 hz3
  obtain ⟨pA,pn,pc,rfl⟩:=hh.props.form;obtain ⟨dA,dn,dc,rfl⟩:=hh.bK.form;obtain ⟨lA,ln,lc,rfl⟩:=hh.layers.form;have hdn:=hh.bK.len;rw [bS] at hdn;subst hdn;refine eN [(0,_),(1,_)] func96 M ntmps96 M M hG ?_;intro a H;refine dz (fun _ K1=>?_);refine dR (cs:=[_,_,_,_,_]) H wn M M M ?_;clear H;intro b2 a w hb2 H;refine dR (cs:=[vv]) H wn M hcv M ?_;clear H;intro b3 a w hb3 H;refine dJ fB H wn M ?_;clear H;intro b4 a w hb4 H;refine kH H (aj K1 M (SR fun _ K2=>?_));clear H K1;intro a H;refine uJ H wn M M ?_;clear H;intro a H;refine dJ C8 H wn M ?_;clear H;intro b6 a w hb6 H;refine bC C8 0 (vs:=[_]) H wn M ?_;clear H;intro w H;refine K2 _ _ ?_;clear K2;refine dz (fun _ K3=>?_);refine uJ H wn M M ?_;clear H;intro a H;refine dJ C8 H wn M ?_;clear H;intro b7 a w xV H;refine bC C8 0 (vs:=[_]) H wn M ?_;clear H;intro w H;refine K3 _ _ ?_;clear K3;refine kP H (SR fun _ K4=>Rf qo M ?_);clear H;intro a H;refine aU Es (cs:=[_,_,_,_]) H wn M M (H.hp.cB 4 M M) M ?_;clear H;intro a H;refine dJ Es H wn M ?_;clear H;intro b8 a w DU H;refine bC Es 0 (vs:=[_,_,_,_]) H wn M ?_;clear H;intro w H;have H:=H.fH (Pl:=[_,_,_,_,_,_]) (eD:=[_,_,_,_,_,_]) [5,4,2,1,0,3] Z M;obtain ⟨Ga,hma,hb2',H⟩:=H.fF;obtain ⟨Gb,hmb,tF,H⟩:=H.fF;obtain ⟨Gc,hmc,NP,H⟩:=H.fF;obtain ⟨Gd,hmd,XG,H⟩:=H.fF;obtain ⟨Ge,hme,atv,H⟩:=H.fF;have Fg:∀ b o,G b=some o->Ge b=some o:=fun b o h=>hme b o (hmd b o (hmc b o (hmb b o (hma b o h))));have q2:∀ j v,[.slice pA pn pc,vi h.marks.ins,vi h.marks.move,.slice dA h.marks.bK.length dc,.slice lA ln lc][j]?=some v->aH Ge b2 (0+j)=some v:=fun j v hj=>aC (fun b o h=>hme b o (hmd b o (hmc b o (hmb b o h)))) (lY hb2' 0 _ M j v hj);have q8:∀ j v,[vi h.marks.ins,vi h.marks.move,.slice dA h.marks.bK.length dc,.slice lA ln lc][j]?=some v->aH Ge b8 (0+j)=some v:=fun j v hj=>lY atv 0 _ M j v hj;have hvb:aH Gb b3 0=some vv:=lY tF 0 [vv] M 0 _ M;have xU:Ai (Qb b3) Ge acc:=(ale hvb (hvv.mono fun b o h=>hmb b o (hma b o h))).mono fun b o h=>hme b o (hmd b o (hmc b o h));have yV:Ai (Tf b3) Ge rej:=(ayi hvb (hvv.mono fun b o h=>hmb b o (hma b o h))).mono fun b o h=>hme b o (hmd b o (hmc b o h));have q6:aH Ge b6 0=some (Qb b3):=aC (fun b o h=>hme b o (hmd b o h)) (lY NP 0 [Qb b3] M 0 _ M);have q7:aH Ge b7 0=some (Tf b3):=aC hme (lY XG 0 [Tf b3] M 0 _ M);replace hh:=hh.mono Fg;refine K4 _ _ ?_;clear K4;refine uj (ι:=GH) (Tc:=[(2,_),(4,_),(6,_),(7,_),(8,_)]) (Lc:=[(_,_)]) (fun gh=>[]) (fun gh=>[]) (fun gh=>gh) (fun gh=>¬ lZ acc rej h∧(∀ b o,Ge b=some o->gh b=some o)) (by exact H.sub ⟨M,M,M,M,M,aB⟩) ?_ ?_
  · skip;refine kP H (SR fun _ K5=>Rf sV M (Rg aF M (q8 0 _ M) (Rc M (Rm M (Sp 29 M ?_ ?_))))) <;> clear H
    · intro iq a H
      try have p29:=dT iq
      refine kH H (YR C8 iq M q7 (YF sV iq M (YR aF iq M (q8 0 _ M) ?_)));clear H;intro a H;refine jO H (wg H M M iq) M M (yV _ _ (fun _ _ h=>h) H.ro h.marks.ins) M ?_;clear H;rintro v33 G33 a w rfl NV H;refine kH H (Pt iq M (Rm M (Sp 35 M ?_ ?_))) <;> clear H
      · intro iw a H
        try have p35:=dT iw
        refine kH H (aL iw M (aL iw M (Pt iw M (Kz K5 (Ct M M (SR fun _ K6=>?_))))));clear H K5;intro a H;refine jU LV [_,_,_,_,_] H wn M M M M ?_;clear H;intro a H;refine bC fB 0 (vs:=[_,_,_,_,_]) H wn M ?_;clear H;intro w H;refine kH H (aj K6 M ?_);clear H K6;intro a H;refine fE ?_;exact Qo
      intro iw a H
      try have p35:=dF iw
      refine kH H (YF uq iw M (YR uK iw M (aC (by first|assumption|exact fun _ _ h=>h) (q8 2 _ M)) ?_));clear H;intro a H;refine uJ H (wg H M M iw) M M ?_;clear H;intro a H;refine s_call aeL H (wg H M M iw) M (aea _ _ H.ro h.marks.bK (fun x=>acc x.rev) _ _ (hh.bK.mono (by first|assumption|exact fun _ _ h=>h)) (fun x _=>aer (aC (by first|assumption|exact fun _ _ h=>h) q6) (xU.mono (by first|assumption|exact fun _ _ h=>h)) x)) M ?_;clear H;rintro v39 G39 a w rfl XZ H;refine kH H (Pf iw M (Kz K5 (Cd M ?_ ?_))) <;> clear H K5
      · intro lC a H
        try have p40:=dT lC
        refine dz (fun _ K7=>?_);refine jU LV [_,_,_,_,_] H wn M M M M ?_;clear H;intro a H;refine bC fB 0 (vs:=[_,_,_,_,_]) H wn M ?_;clear H;intro w H;refine kH H (aj K7 M ?_);clear H K7;intro a H;refine fE ?_;exact Qo
      intro lC a H
      try have p40:=dF lC
      refine iE ?_;refine ⟨_,by exact H.sub ⟨M,M,M,M,M,aB⟩,?_⟩;exact abt
    intro iq a H
    try have p29:=dF iq
    refine kH H (aL iq M (aL iq M (Pf iq M (Rm M ?_))));clear H;intro a H;refine LK uq H (wg H M M M) M M ?_;clear H;intro a H;refine rG uK H (wg H M M M) M (H.hp.aH (aC (by first|assumption|exact fun _ _ h=>h) (q8 2 _ M))) M ?_;clear H;intro a H;refine uJ H (wg H M M M) M M ?_;clear H;intro a H;refine s_call aeL H (wg H M M M) M (aea _ _ H.ro h.marks.bK (fun x=>acc x.rev) _ _ (hh.bK.mono (by first|assumption|exact fun _ _ h=>h)) (fun x _=>aer (aC (by first|assumption|exact fun _ _ h=>h) q6) (xU.mono (by first|assumption|exact fun _ _ h=>h)) x)) M ?_;clear H;rintro v39 G39 a w rfl XZ H;refine kH H (Pf M M (Kz K5 (Cd M ?_ ?_))) <;> clear H K5
    · intro lC a H
      try have p40:=dT lC
      refine dz (fun _ K8=>?_);refine jU LV [_,_,_,_,_] H wn M M M M ?_;clear H;intro a H;refine bC fB 0 (vs:=[_,_,_,_,_]) H wn M ?_;clear H;intro w H;refine kH H (aj K8 M ?_);clear H K8;intro a H;refine fE ?_;exact Qo
    intro lC a H
    try have p40:=dF lC
    refine iE ?_;refine ⟨_,by exact H.sub ⟨M,M,M,M,M,aB⟩,?_⟩;exact abt
  clear H;intro gj a w hI H;obtain ⟨Ic,hgj⟩:=hI;replace q2:=fun j v hj=>aC hgj (q2 j v hj);replace q8:=fun j v hj=>aC hgj (q8 j v hj);replace q6:=aC hgj q6;replace q7:=aC hgj q7;replace xU:=xU.mono hgj;replace yV:=yV.mono hgj;replace hh:=hh.mono hgj;dsimp only [lca,bM] at H;refine bO (fun _ K9=>?_)
  have Yg:∀ (aJ bX:Nat) (v:ah) (G G':GH),(∀ k o,G k=some o->G' k=some o)->(fun (aJ bX:Nat) (v:ah) (G:GH)=>match bX with|0=>v=(aK b2 0)|1=>v=.slice pA pn pc|2=>ak G (.sl 2 (h.props.map aO.dat)) v|3=>v=(aK b8 0)|4=>v=vi h.marks.ins|5=>v=(aK b8 1)|6=>v=vi h.marks.move|7=>v=.agg #[vi h.marks.ins,vi h.marks.move,.slice none 0 0,.slice none 0 0]|8=>∃ A n c,v=.agg #[.slice A n c,vi h.marks.ins,vi h.marks.move,.slice none 0 0,.slice none 0 0]∧ak G (.sl 2 (h.props.map aO.dat)) (.slice A n c)|9=>v=(aK aJ 0)|_=>True) aJ bX v G->(fun (aJ bX:Nat) (v:ah) (G:GH)=>match bX with|0=>v=(aK b2 0)|1=>v=.slice pA pn pc|2=>ak G (.sl 2 (h.props.map aO.dat)) v|3=>v=(aK b8 0)|4=>v=vi h.marks.ins|5=>v=(aK b8 1)|6=>v=vi h.marks.move|7=>v=.agg #[vi h.marks.ins,vi h.marks.move,.slice none 0 0,.slice none 0 0]|8=>∃ A n c,v=.agg #[.slice A n c,vi h.marks.ins,vi h.marks.move,.slice none 0 0,.slice none 0 0]∧ak G (.sl 2 (h.props.map aO.dat)) (.slice A n c)|9=>v=(aK aJ 0)|_=>True) aJ bX v G':=by
    intro aJ bX v G G' hm h
    match bX,h with
    | 0,h=>exact h
    | 1,h=>exact h
    | 2,h=>exact ak.mono hm h
    | 3,h=>exact h
    | 4,h=>exact h
    | 5,h=>exact h
    | 6,h=>exact h
    | 7,h=>exact h
    | 8,h=>exact let ⟨A,n,c,h1,h2⟩:=h;⟨A,n,c,h1,h2.mono hm⟩
    | 9,h=>exact h
    | 10,h=>exact trivial
    | _+11,h=>exact trivial
  refine amg (hmx) [[],[0],[0,1],[],[3],[],[5],ra 3 4,ra 0 8,[],ra 0 10] [10] V V 9 Z (.cells #[.slice none 0 0,vi 0,vi 0,.slice none 0 0,.slice none 0 0] 29 (0,0)) (fun (aJ bX:Nat) (v:ah) (G:GH)=>match bX with|0=>v=(aK b2 0)|1=>v=.slice pA pn pc|2=>ak G (.sl 2 (h.props.map aO.dat)) v|3=>v=(aK b8 0)|4=>v=vi h.marks.ins|5=>v=(aK b8 1)|6=>v=vi h.marks.move|7=>v=.agg #[vi h.marks.ins,vi h.marks.move,.slice none 0 0,.slice none 0 0]|8=>∃ A n c,v=.agg #[.slice A n c,vi h.marks.ins,vi h.marks.move,.slice none 0 0,.slice none 0 0]∧ak G (.sl 2 (h.props.map aO.dat)) (.slice A n c)|9=>v=(aK aJ 0)|_=>True) (fun _ _ i v G hi h=>by
    (iterate 11 (rcases i with _|i;(first|exact h|exact absurd M hi)));exact trivial) H ?_ ?_ ?_ V
  · clear H;refine ay ?_ ?_ ?_ ?_ (ay ?_ ?_ ?_ ?_ (bN ?_ (bN ?_ (bN ?_ dB))))
    · intro aJ dG bH a w G1 _ _ aM hc hG HT hv;have H:=HT;clear aM;have Hb:=H.full;have H:=Hb;clear hc;refine kH H (Rf yR M ?_);exact GN
    · intro aJ dG bH a w G1 _ _ aM hc hG HT hv;have H:=HT;clear aM;have H:=H.aN (hv 0 42 (hc 0 Z) M) M;have Hb:=H.full;have H:=Hb;clear hc;refine kH H (Rg tO M (aC hG (q2 0 _ M)) ?_);exact GN
    · intro aJ dG bH a w G1 _ _ aM hc hG HT hv;have H:=HT;clear aM;have H:=H.aN (hv 1 43 (hc 1 Z) M) M;have Hb:=H.full;have H:=Hb;clear hc;refine s_call Wu H wn M (axC _ _ H.ro h.props _ (hh.props.mono hG) O) M ?_;clear H;rintro v44 G44 a w Oh asP H;refine aG ⟨M,?_⟩;exact wL V (Yg aJ) M M HT Hb hG hv asP (Oh) H
    · intro aJ dG bH a w G1 _ _ aM hc hG HT hv;have H:=HT;clear aM;have Hb:=H.full;have H:=Hb;clear hc;refine kH H (Rf sV M ?_);exact GN
    · intro aJ dG bH a w G1 _ _ aM hc hG HT hv;have H:=HT;clear aM;have H:=H.aN (hv 3 45 (hc 3 Z) M) M;have Hb:=H.full;have H:=Hb;clear hc;refine kH H (Rg aF M (aC hG (q8 0 _ M)) ?_);exact GN
    · intro aJ dG bH a w G1 _ _ aM hc hG HT hv;have H:=HT;clear aM;have Hb:=H.full;have H:=Hb;clear hc;refine kH H (Rf Ci M ?_);exact GN
    · intro aJ dG bH a w G1 _ _ aM hc hG HT hv;have H:=HT;clear aM;have H:=H.aN (hv 5 47 (hc 5 Z) M) M;have Hb:=H.full;have H:=Hb;clear hc;refine kH H (Rg aF M (aC hG (q8 1 _ M)) ?_);exact GN
    · intro aJ dG bH a w G1 _ _ aM hc hG HT hv;have H:=HT;clear aM;have H:=H.aN (hv 4 46 (hc 4 Z) M) M;have H:=H.aN (hv 6 48 (hc 6 Z) M) M;have Hb:=H.full;have H:=Hb;clear hc;refine jU ZU [_,_,_,_] H wn M M M M ?_;exact GN
    · intro aJ dG bH a w G1 _ _ aM hc hG HT hv;have H:=HT;clear aM;obtain ⟨u44,avo,Oh⟩:=hv 2 44 (hc 2 Z) M;(try dsimp only at Oh);obtain ⟨A44,n44,c44,rfl⟩:=Oh.form;have H:=H.gZ avo;have H:=H.aN (hv 7 49 (hc 7 Z) M) M;have Hb:=H.full;have H:=Hb;clear hc;refine jU LV [_,_,_,_,_] H wn M M M M ?_;clear H;intro a H;refine aG ⟨M,?_⟩;exact wL V (Yg aJ) M M HT Hb hG hv (fun _ _ h=>h) (⟨_,_,_,M,Oh⟩) H
    · exact GQ
    intro _ _ _ _ _ _ hB;exact fP
  · clear H;intro o_ bH a w G1 mK _ hc hG HT hv;obtain rfl:_=o_:=Option.some.inj mK;clear mK;have H:=HT;have Hb:=H.full;have H:=Hb;clear hc;refine dJ fB H wn M ?_;clear H;intro b9 a w uz H;refine aG ⟨M,b9,?_⟩;exact MK
  clear H;intro b9 a w G jS H hv;have H:=H.aN (hv 9 9 M M) M;obtain ⟨u50,avp,ahb⟩:=hv 8 50 Z M;(try dsimp only at ahb);obtain ⟨qA,qn,qc,rfl,Ik⟩:=ahb;have H:=H.gZ avp;clear hv;refine bC fB 0 (vs:=[_,_,_,_,_]) H wn M ?_;clear H;intro w H;replace q2:=fun j v hj=>aC jS (q2 j v hj);replace q8:=fun j v hj=>aC jS (q8 j v hj);replace q6:=aC jS q6;replace q7:=aC jS q7;replace xU:=xU.mono jS;replace yV:=yV.mono jS;replace hh:=hh.mono jS;obtain ⟨Gf,hGf⟩:∃ g,g=G:=⟨_,M⟩;refine aG ⟨M,?_⟩;refine K9 _ _ ?_;clear K9;refine uj (ι:=Int × Int × GH) (Tc:=[(2,_),(4,_),(6,_),(7,_),(8,_),(9,_)]) (Lc:=[(_,_)]) (fun gh=>[]) (fun gh=>[(b9,.cells #[.slice qA qn qc,vi gh.1,vi gh.2.1,.slice none 0 0,.slice none 0 0] 29 (0,0))]) (fun gh=>gh.2.2) (fun gh=>gh.1=(if kU acc h then 0 else h.marks.ins)∧gh.2.1=(if kU acc h then 0 else h.marks.move)∧(∀ b o,G b=some o->gh.2.2 b=some o)) (by exact (H.fH (Pl:=[_,_]) (eD:=[_,_]) [1,0] Z M).sub ⟨M,M,M,M,M,M,aB⟩) ?_ ?_
  · skip;refine kP H (SR fun _ aR=>Rf sV M (Rg aF M (q8 0 _ M) (Rc M (Rm M (Sp 54 M ?_ ?_))))) <;> clear H
    · intro iF a H
      try have p54:=dT iF
      refine kH H (YR C8 iF M q6 (YF sV iF M (YR aF iF M (q8 0 _ M) ?_)));clear H;intro a H;refine jO H (wg H M M iF) M M (xU _ _ (fun _ _ h=>h) H.ro h.marks.ins) M ?_;clear H;rintro v58 G58 a w rfl N8 H;refine kH H (Pt iF M (Kz aR (Cd M ?_ ?_))) <;> clear H aR
      · intro jg a H
        try have p59:=dT jg
        refine kP H (SC (Rf qo M (Rf sV M ?_)));clear H;intro a H;refine bC aF 0 (vs:=[_]) H wn M ?_;clear H;intro w H;refine kH H (Rf qo M (Rf Ci M ?_));clear H;intro a H;refine bC aF 0 (vs:=[_]) H wn M ?_;clear H;intro w H;refine aG ?_;refine ⟨(_,_,_),by exact (H.fH (Pl:=[_,_]) (eD:=[_,_]) [1,0] Z M).sub ⟨M,M,M,M,M,M,aB⟩,?_⟩;(try dsimp only)
        first
        | exact ⟨(aD ⟨by assumption,by assumption⟩).symm,(aD ⟨by assumption,by assumption⟩).symm,by assumption⟩
        | exact ⟨(av (fun hi=>by simp_all [kU])).symm,(av (fun hi=>by simp_all [kU])).symm,by first|assumption|exact fun _ _ h=>h⟩
      intro jg a H
      try have p59:=dF jg
      refine iE ?_;refine ⟨(_,_,_),by exact (H.fH (Pl:=[_,_]) (eD:=[_,_]) [1,0] Z M).sub ⟨M,M,M,M,M,M,aB⟩,?_⟩;(try dsimp only)
      first
      | exact ⟨(aD ⟨by assumption,by assumption⟩).symm,(aD ⟨by assumption,by assumption⟩).symm,by assumption⟩
      | exact ⟨(av (fun hi=>by simp_all [kU])).symm,(av (fun hi=>by simp_all [kU])).symm,by first|assumption|exact fun _ _ h=>h⟩
    intro iF a H
    try have p54:=dF iF
    refine kH H (aL iF M (aL iF M (Pf iF M (Kz aR (Cf M M ?_)))));clear H aR;intro a H;refine iE ?_;refine ⟨(_,_,_),by exact (H.fH (Pl:=[_,_]) (eD:=[_,_]) [1,0] Z M).sub ⟨M,M,M,M,M,M,aB⟩,?_⟩;(try dsimp only)
    first
    | exact ⟨(aD ⟨by assumption,by assumption⟩).symm,(aD ⟨by assumption,by assumption⟩).symm,by assumption⟩
    | exact ⟨(av (fun hi=>by simp_all [kU])).symm,(av (fun hi=>by simp_all [kU])).symm,by first|assumption|exact fun _ _ h=>h⟩
  clear H;rintro ⟨io,mo,gk⟩ a w hI H;dsimp only at hI H;obtain ⟨hio,hmo,sw⟩:=hI;replace q2:=fun j v hj=>aC sw (q2 j v hj);replace q8:=fun j v hj=>aC sw (q8 j v hj);replace q6:=aC sw q6;replace q7:=aC sw q7;replace xU:=xU.mono sw;replace yV:=yV.mono sw;replace hh:=hh.mono sw;replace Ik:=Ik.mono sw;dsimp only [lca,bM] at H;refine kP H (SQ fun _ bq=>SR fun _ bP=>Rf uq M (Rg uK M (q8 2 _ M) (Rl oK M (Rm M (Kz bP (SB ?_))))));clear H bP;intro a H;skip;refine eX (ι:=Nat × ah × List ah × OL × GH) (Tc:=[(2,_),(4,_),(6,_),(7,_),(9,_),(65,_),(66,_)]) (Lc:=[(_,_)]) (fun gh=>[(67,vi gh.1)]) (fun gh=>[(b9,.cells #[.slice qA qn qc,vi io,vi mo,gh.2.1,.slice none 0 0] 29 (0,0))]++gh.2.2.2.1) (fun gh=>gh.2.2.2.2) (fun gh=>gh.1<=h.marks.bK.length∧dw 159 2 gh.2.1 ((h.marks.bK.take gh.1).filter fun x=>!rej x.rev).length gh.2.2.1 gh.2.2.2.1∧dx gh.2.2.2.2 2 (((h.marks.bK.take gh.1).filter fun x=>!rej x.rev).map gG.dat) gh.2.2.1∧(∀ b o,gk b=some o->gh.2.2.2.2 b=some o)) (fun gh=>h.marks.bK.length - gh.1) ((0,.slice none 0 0,[],[],gk)) (by exact (H.OA (A:=[_,_])).sub ⟨M,M,M,M,M,M,M,M,aB⟩) ?_ ?_
  · exact JF
  clear H;rintro ⟨k,v,xs,Ld,g⟩ a w hI H;dsimp only at hI H;obtain ⟨hk,hrw,fK,hgm⟩:=hI;have hfl:=List.length_filter_le (fun x:gG=>!rej x.rev) (h.marks.bK.take k);rw [List.length_take] at hfl;dsimp only [lca,bM] at H;refine kP H (SR fun _ bU=>Rc M (Kz bU (SQ fun _ dh=>Cd M ?_ ?_))) <;> clear H bU
  · intro h68 a H
    try have p68:=dT h68
    have hk2:k < h.marks.bK.length:=by omega
    obtain ⟨bd,od,rfl,hrow⟩:=QK (hh.bK.mono hgm) hk2;refine kP H (Kc dh (SQ fun _ dZ=>SB (SR fun _ eu=>Ri oK oJ M M ?_)));clear H dh;intro a H;refine aU oJ (cs:=[_,_]) H wn M M (fun j v hj=>H.hp.aH (hrow j v hj)) M ?_;clear H;intro a H;refine dJ oJ H wn M ?_;clear H;intro b11 a w Kt H;refine bC oJ 0 (vs:=[_,_]) H wn M ?_;clear H;intro w H;refine eu _ _ ?_;clear eu;refine kP H (SR fun _ dS=>Rg C8 M (aC hgm q7) (bQ EO aF 0 M M ?_));clear H;intro a H;refine jO H wn M M (yV _ _ hgm H.ro h.marks.bK[k].rev) M ?_;clear H;rintro v74 G74 a w rfl RG H;refine kH H (Rn M (Kz dS (Cd M ?_ ?_))) <;> clear H dS
    · intro zN a H
      try have p75:=dT zN
      refine kP H (SC (Rf qo M (bQ uq uK 2 M M ?_)));clear H;intro a H;refine aU oJ (cs:=[_,_]) H wn M M (H.hp.cB 0 M M) M ?_;clear H;intro a H;refine iC oK oJ [_,_] [_,_] H wn M M M M M (by intro i q h;match i,h with|0,h=>exact h|n+1,h=>simp at h) M M ?_;clear H;intro b80 a w aB0 H;refine og (Li:=[_,_,_,_]) (Lo:=Ld) (news:=h.marks.bK[k].cells) oK oJ M M H wn M M hrw M (H.hp.cB 0 M M) M O O M ?_;clear H;intro v81 akQ a w ahn H;obtain ⟨A81,c81,rfl,-,-⟩:=ahn.shape;refine kH H (Rf qo M (Rf uq M ?_));clear H;intro a H;refine bC uK 3 (vs:=[_]) H wn M ?_;clear H;intro w H;refine kH H (Kn dZ (SC (Rd M (Rm M ?_))));clear H dZ;intro a H;refine aG ?_;refine dY ((k+1,_,xs++h.marks.bK[k].cells,akQ,G74)) (by exact (H.fH (Pl:=[_,_,_,_]) (eD:=[_,_]) [2,3] Z M).sub ⟨M,M,M,M,M,M,M,M,aB⟩) ?_
      (try dsimp only);exact ⟨O,by rw [kG hk2,List.filter_append,List.filter_cons_of_pos (by simp_all),List.filter_nil,iW];exact ahn,by rw [kG hk2,List.filter_append,List.filter_cons_of_pos (by simp_all),List.filter_nil,kR];exact (fK.mono RG).snoc (aep _ _) M,fun b o h=>RG b o (hgm b o h)⟩
    intro zN a H
    try have p75:=dF zN
    refine kP H (Kc dZ (SC (Rd M (Rm M ?_))));clear H dZ;intro a H;refine aG ?_;refine dY ((k+1,v,xs,Ld,G74)) (by exact (H.fH (Pl:=[_,_,_]) (eD:=[_,_]) [1,2] Z M).sub ⟨M,M,M,M,M,M,M,M,aB⟩) ?_
    (try dsimp only);exact ⟨O,by rw [kG hk2,List.filter_append,List.filter_cons_of_neg (by simp_all),List.filter_nil,ig];exact hrw,by rw [kG hk2,List.filter_append,List.filter_cons_of_neg (by simp_all),List.filter_nil,ig];exact fK.mono RG,fun b o h=>RG b o (hgm b o h)⟩
  intro h68 a H
  try have p68:=dF h68
  obtain rfl:k=h.marks.bK.length:=by omega
  rw [yG] at hrw fK;obtain ⟨Gr,hmr,hdr,H⟩:=St.qp (Li:=[_,_]) H hrw (rows:=(h.marks.bK.filter fun x=>!rej x.rev).map gG.dat) (by simp) fK;obtain ⟨rA,rn,rc,rfl⟩:=hdr.form;(try dsimp only [lca,bM] at H);have hgr:∀ b o,gk b=some o->Gr b=some o:=fun b o h=>hmr b o (hgm b o h);replace q2:=fun j v hj=>aC hgr (q2 j v hj);replace q8:=fun j v hj=>aC hgr (q8 j v hj);replace q6:=aC hgr q6;replace q7:=aC hgr q7;replace xU:=xU.mono hgr;replace yV:=yV.mono hgr;replace hh:=hh.mono hgr;replace Ik:=Ik.mono hgr;refine dQ ?_;refine bq _ _ ?_;clear bq;refine bO (fun _ eY=>?_);refine dz (fun _ gU=>?_);refine aU fB (cs:=[.slice pA pn pc,vi h.marks.ins,vi h.marks.move,.slice dA h.marks.bK.length dc,.slice lA ln lc]) H wn M M (fun j v hj=>H.hp.aH (q2 j v hj)) M ?_;clear H;intro a H;refine s_call aoP H wn M (awv _ _ H.ro h _ _ _ hh O) M ?_;clear H;rintro v86 G86 a w ⟨bg,rfl,hit⟩ Fh H;obtain ⟨all,hall⟩:∃ L,L=qY h.marks.layers.length h.marks.layers:=⟨_,M⟩;rw [<- hall] at hit;obtain ⟨hfl,hne⟩:=Hg h.marks.layers.length h.marks.layers (eG _);rw [<- hall] at hfl hne;have hsum:∀ k,k<=all.length->k<=((all.take k).flatMap Prod.snd).length∧((all.take k).flatMap Prod.snd).length<=h.marks.layers.length:=asw hfl hne;replace q2:=fun j v hj=>aC Fh (q2 j v hj);replace q6:=aC Fh q6;replace q7:=aC Fh q7;replace xU:=xU.mono Fh;replace yV:=yV.mono Fh;replace hh:=hh.mono Fh;replace Ik:=Ik.mono Fh;replace hdr:=hdr.mono Fh;refine gU _ _ ?_;clear gU;refine EL ?_;skip;refine amq (ι:=ah × List aO × ah × List bZ × List ah × OL) (κ:=Empty) (Lc:=[(_,_)]) (fun (k:Nat) (gh:ah × List aO × ah × List bZ × List ah × OL)=>[(b9,.cells #[gh.1,vi io,vi mo,.slice rA rn rc,gh.2.2.1] 29 (0,0))]) (fun (k:Nat) (gh:ah × List aO × ah × List bZ × List ah × OL)=>gh.2.2.2.2.2) (fun (k:Nat) (gh:ah × List aO × ah × List bZ × List ah × OL) (g:GH)=>ak g (.sl 2 (gh.2.1.map aO.dat)) gh.1∧dw 161 4 gh.2.2.1 gh.2.2.2.1.length gh.2.2.2.2.1 gh.2.2.2.2.2∧dx g 4 (gh.2.2.2.1.map bZ.dat) gh.2.2.2.2.1∧um acc rej h.props (all.drop k) (gh.2.1,gh.2.2.2.1)=um acc rej h.props all (h.props,[])∧gh.2.1.length<=h.props.length+k∧gh.2.2.2.1.length<=((all.take k).flatMap Prod.snd).length) (fun x=>x.elim) (fun x=>x.elim) (fun x=>x.elim) (fun x=>x.elim) ((.slice qA qn qc,h.props,.slice none 0 0,[],[],[])) (by exact H.OA (A:=[_,_])) M aeS (hit) (fun _ _ h=>h) M (fun k args g h=>by obtain ⟨_,_,_,rfl,_⟩:=afN h;rfl) (fun k i G G' hm h=>⟨h.1.mono hm,h.2.1,h.2.2.1.mono hm,h.2.2.2⟩) (fun x=>x.elim) (⟨Ik,dw.nil,dx.nil,M,eG _,lg _⟩) ?_ ?_ ?_
  · clear H;intro l16 IX Dw bk k args gh tX w16 F16 B16 a auh nL hI aty auq aCo H;obtain ⟨pv,ps,vy,ly,xs,Ly⟩:=gh;dsimp only at hI H;obtain ⟨hk,tA,tc,rfl,hlr⟩:=afN auh;dsimp only [BZ,List.cons_append,List.nil_append] at H;obtain ⟨hpv,hrw,fK,hdc,hpl,hll⟩:=hI;obtain ⟨pvA,pvn,pvc,rfl⟩:=hpv.form;obtain ⟨vyA,vyc,rfl,-,-⟩:=hrw.shape;obtain ⟨key,hkey⟩:∃ x,x=all[k].1:=⟨_,M⟩;obtain ⟨ls,hls⟩:∃ x,x=all[k].2:=⟨_,M⟩;rw [<- hls] at hlr;rw [<- hkey,<- hls] at H;have hs1:=hsum k O;have hs2:=hsum (k+1) O
    have hs3:((all.take (k+1)).flatMap Prod.snd).length=((all.take k).flatMap Prod.snd).length+ls.length:=by rw [kG hk,List.flatMap_append,iW,hls];simp
    have Io:=aAC h.props key ls;refine kP H (SR fun _ fJ=>aj fJ M (SC (Ra M ?_)));clear H fJ;intro a H;refine aG ?_;refine aty _ _ _ _ _ _ (by exact H) ?_;clear H;intro w H;refine kP H (SB (SR fun _ iD=>aj iD M (SQ fun _ jL=>SR fun _ mM=>Rm M (Rl lU M (Rm M (Kz mM (SB ?_)))))));clear H iD mM;intro a H;skip;refine eX (ι:=Nat × ah × List ah × OL × GH) (Tc:=[(2,_),(6,_),(7,_),(9,_),(12,_),(13,_),(89,_),(90,_)]) (Lc:=[(_,_),(_,_),(_,_)]) (fun gh=>[(14,gh.2.1),(91,vi gh.1)]) (fun gh=>[]++((bk++Ly)++gh.2.2.2.1)) (fun gh=>gh.2.2.2.2) (fun gh=>gh.1<=ls.length∧dw 242 2 gh.2.1 gh.1 gh.2.2.1 gh.2.2.2.1∧dx gh.2.2.2.2 2 ((ls.take gh.1).map fun y=>OV (y.before,y.had)) gh.2.2.1∧(∀ b o,tX b=some o->gh.2.2.2.2 b=some o)) (fun gh=>ls.length - gh.1) ((0,.slice none 0 0,[],[],tX)) (by exact (H.OA (A:=[_,_,_])).sub ⟨M,M,M,M,M,M,M,M,M,M,aB⟩) ?_ ?_
    · exact JF
    clear H;rintro ⟨i,vs,xs2,Ls,g2⟩ a w hI H;dsimp only at hI H;obtain ⟨hi,hrw2,zQ,lQ⟩:=hI;dsimp only [lca,bM] at H;refine kP H (SR fun _ mH=>Rc M (Kz mH (SQ fun _ kX=>Cd M ?_ ?_))) <;> clear H mH
    · intro Ho a H
      try have Lm:=dT Ho
      have hi2:i < ls.length:=by omega
      obtain ⟨bl,ol,rfl,hrow⟩:=Fz (hlr.mono lQ) hi2;refine kP H (Kc kX (SQ fun _ ou=>SB (SR fun _ ow=>Ri lU jP M M ?_)));clear H kX;intro a H;refine aU jP (cs:=[_,_,_,_]) H wn M M (fun j v hj=>H.hp.aH (hrow j v hj)) M ?_;clear H;intro a H;refine dJ jP H wn M ?_;clear H;intro b16 a w agm H;refine bC jP 0 (vs:=[_,_,_,_]) H wn M ?_;clear H;intro w H;refine ow _ _ ?_;clear ow;refine kP H (SC (Rm M ?_));clear H;intro a H;refine aU jP (cs:=[_,_,_,_]) H wn M M (H.hp.cB 0 M M) M ?_;clear H;intro a H;refine s_call aoQ H wn M (alu _ _ H.ro ls[i]) M ?_;clear H;rintro v97 G97 a w rfl X4 H;refine iC Ma tQ [_,_] [_,_] H wn M M M M M (by intro i q h;match i,h with|0,h=>exact h|n+1,h=>simp at h) M M ?_;clear H;intro b98 a w aB1 H;refine og (Li:=[_,_,_,_,_]++(bk++Ly)) (Lo:=Ls) (news:=[vi ls[i].before,.bool ls[i].had]) Ma tQ M M (St.un (A:=[_,_,_,_,_]) H) wn M M hrw2 M (H.hp.cB 0 M M) M O O M ?_;clear H;intro v99 akY a w auU H;have H:=H.assoc;dsimp only [lca,bM] at H;refine kH H (bD ou M (SC (Rd M (Rm M ?_))));clear H ou;intro a H;refine aG ?_;refine dY ((i+1,v99,xs2++[vi ls[i].before,.bool ls[i].had],akY,G97)) (by exact (H.fH (Pl:=[_,_,_,_,_]) (eD:=[_,_,_]) [2,3,4] Z M).sub ⟨M,M,M,M,M,M,M,M,M,M,aB⟩) ?_
      (try dsimp only);exact ⟨O,auU,by rw [kG hi2,kR];exact (zQ.mono X4).snoc (ajL _ (ls[i].before,ls[i].had)) M,fun b o h=>X4 b o (lQ b o h)⟩
    intro Ho a H
    try have Lm:=dF Ho
    obtain rfl:i=ls.length:=by omega
    rw [yG] at zQ;refine dQ ?_;refine jL _ _ ?_;clear jL;refine kP H (SR fun _ kY=>Rm M ?_);clear H;intro a H;refine aU fB (cs:=[.slice pA pn pc,vi h.marks.ins,vi h.marks.move,.slice dA h.marks.bK.length dc,.slice lA ln lc]) H wn M M (fun j v hj=>H.hp.aH (aC lQ (aC nL (q2 j v hj)))) M ?_;clear H;intro a H;refine kH H (Rm M ?_);clear H;intro a H;refine s_call aoR H wn M (axH _ _ H.ro h _ _ _ (hh.mono fun b o h=>lQ b o (nL b o h)) key O) M ?_;clear H;rintro aA1 aBt a w rfl agE H;refine iC Ma tQ [_,_] [_,_] H wn M M M M M (by intro i q h;match i,h with|0,h=>exact h|n+1,h=>simp at h) M M ?_;clear H;intro aBC a w aBL H;refine og (Li:=[_,_,_,_]++(bk++Ly)) (Lo:=Ls) (news:=[vi (kT h.props key).1,.bool (kT h.props key).2]) Ma tQ M M (St.un (A:=[_,_,_,_]) H) wn M M hrw2 M (H.hp.cB 0 M M) M O O M ?_;clear H;intro aCC aBA a w auL H;obtain ⟨Gs,hms,R3,H⟩:=St.qp (Li:=[_,_,_,_]++(bk++Ly)) H auL (rows:=(qd h.props key ls).map OV) (by simp [qd]) (by have h1:=(zQ.mono agE).snoc (ajL _ (kT h.props key)) M;simpa [qd,kR,List.map_map,Function.comp_def] using h1);dsimp only [lca,bM] at H;obtain ⟨sA,sc,rfl,-,-,-⟩:=R3.slice;rw [bS,Io] at R3 H;have hgs:∀ b o,tX b=some o->Gs b=some o:=fun b o h=>hms b o (agE b o (lQ b o h));refine kH H (aj kY M (SR fun _ qj=>aj qj M (SQ fun _ qB=>SR fun _ qO=>Rm M (Rl lU M (Rm M (Kz qO (SB ?_)))))));clear H kY qj qO;intro a H;skip;refine eX (ι:=Nat × Nat × GH) (Tc:=[(6,_),(7,_),(9,_),(12,_),(13,_),(14,_),(107,_),(108,_)]) (Lc:=[(_,_),(_,_),(_,_),(_,_)]) (fun gh=>[(17,vi gh.2.1),(109,vi gh.1)]) (fun gh=>[]++(bk++Ly)) (fun gh=>gh.2.2) (fun gh=>gh.1<=ls.length∧gh.2.1<=gh.1∧iZ acc (ls.drop gh.1) gh.1 gh.2.1=iZ acc ls 0 0∧(∀ b o,Gs b=some o->gh.2.2 b=some o)) (fun gh=>ls.length - gh.1) ((0,0,Gs)) (by exact H.sub ⟨M,M,M,M,M,M,M,M,M,M,aB⟩) ?_ ?_
    · exact ⟨O,eG _,by rw [wI],fun _ _ h=>h⟩
    clear H;rintro ⟨i2,c2,g3⟩ a w hI H;dsimp only at hI H;obtain ⟨hi3,hc3,hfs,xW⟩:=hI;dsimp only [lca,bM] at H;refine kP H (SR fun _ rO=>Rc M (Kz rO (SQ fun _ qP=>Cd M ?_ ?_))) <;> clear H rO
    · intro Xh a H
      try have axp:=dT Xh
      have hi4:i2 < ls.length:=by omega
      obtain ⟨bl,ol,rfl,hrow⟩:=Fz (hlr.mono fun b o h=>xW b o (hgs b o h)) hi4;refine kP H (Kc qP (SQ fun _ rP=>SB (SR fun _ vK=>Rm M (Ri lU jP M M ?_))));clear H qP;intro a H;refine aU jP (cs:=[_,_,_,_]) H wn M M (fun j v hj=>H.hp.aH (hrow j v hj)) M ?_;clear H;intro a H;refine dJ jP H wn M ?_;clear H;intro b19 a w atm H;refine kH H (Ra M ?_);clear H;intro a H;refine bC jP 0 (vs:=[_,_,_,_]) H wn M ?_;clear H;intro w H;refine vK _ _ ?_;clear vK;refine kP H (SR fun _ sM=>Rg C8 M (aC xW (aC hgs (aC nL q6))) (bQ QV aF 0 M M ?_));clear H;intro a H;refine jO H wn M M (xU _ _ (fun b o h=>xW b o (hgs b o (nL b o h))) H.ro ls[i2].rev) M ?_;clear H;rintro v117 aax a w rfl agF H;refine sM _ _ ?_;clear sM;refine jw H M ?_ ?_
      · intro Xj
        try have axt:=dT Xj
        refine kP H (SC (Rm M (Rd M (bD rP M (SC (Rd M (Rm M ?_)))))));clear H rP;intro a H;refine aG ?_;refine dY ((i2+1,i2+1,aax)) (by exact (H.fH (Pl:=[_,_,_,_,_]) (eD:=[_,_,_,_]) [1,2,3,4] Z M).sub ⟨M,M,M,M,M,M,M,M,M,M,aB⟩) ?_
        (try dsimp only);exact ⟨O,eG _,by rw [rR hi4,iZ,aD (by assumption)] at hfs;exact hfs,fun b o h=>agF b o (xW b o h)⟩
      intro Xj
      try have axt:=dF Xj
      refine kP H (Kc rP (SC (Rd M (Rm M ?_))));clear H rP;intro a H;refine aG ?_;refine dY ((i2+1,c2,aax)) (by exact (H.fH (Pl:=[_,_,_,_,_]) (eD:=[_,_,_,_]) [1,2,3,4] Z M).sub ⟨M,M,M,M,M,M,M,M,M,M,aB⟩) ?_
      (try dsimp only);exact ⟨O,O,by rw [rR hi4,iZ,av (by simp_all)] at hfs;exact hfs,fun b o h=>agF b o (xW b o h)⟩
    intro Xh a H
    try have axp:=dF Xh
    obtain rfl:i2=ls.length:=by omega
    rw [List.drop_length,iZ] at hfs;have hgt:∀ b o,tX b=some o->g3 b=some o:=fun b o h=>xW b o (hgs b o h);obtain ⟨bs,os,rfl,hr2⟩:=ajO (R3.mono xW) (k:=c2) (by rw [Io];omega);obtain ⟨SF,hn0⟩:∃ s,s=(qd h.props key ls)[c2]'(by rw [Io];omega):=⟨_,M⟩;rw [<- hn0] at hr2
    have hgd:(qd h.props key ls).getD c2 (0,false)=SF:=by rw [hn0,List.getD_eq_getElem?_getD,eB (show c2 < (qd h.props key ls).length by rw [Io];omega)];rfl
    refine dQ ?_;refine qB _ _ ?_;clear qB;refine kP H (SR fun _ xB=>Rm M (Rm M ?_));clear H;intro a H;refine zZ Ma tQ c2 H wn M M M O M ?_;clear H;intro a H;refine aU tQ (cs:=[vi SF.1,.bool SF.2]) H wn M M (fun j v hj=>H.hp.aH (hr2 j v hj)) M ?_;clear H;intro a H;refine dJ tQ H wn M ?_;clear H;intro b20 a w aBN H;refine bC tQ 0 (vs:=[_,_]) H wn M ?_;clear H;intro w H;refine xB _ _ ?_;clear xB;refine kP H (SQ fun _ BJ=>SR fun _ BK=>Rm M (aj BK M (SB ?_)));clear H BK;intro a H;skip;refine eX (ι:=Nat × (Int × Bool) × ah × List bZ × List ah × OL × GH) (Tc:=[(7,_),(9,_),(12,_),(13,_),(14,_),(20,_)]) (Lc:=[(_,_),(_,_),(_,_)]) (fun gh=>[(21,vi gh.1)]) (fun gh=>[(b20,.cells #[vi gh.2.1.1,.bool gh.2.1.2] 242 (0,0)),(b9,.cells #[.slice pvA pvn pvc,vi io,vi mo,.slice rA rn rc,gh.2.2.1] 29 (0,0))]++(bk++gh.2.2.2.2.2.1)) (fun gh=>gh.2.2.2.2.2.2) (fun gh=>c2<=gh.1∧gh.1<=ls.length∧dw 161 4 gh.2.2.1 gh.2.2.2.1.length gh.2.2.2.2.1 gh.2.2.2.2.2.1∧dx gh.2.2.2.2.2.2 4 (gh.2.2.2.1.map bZ.dat) gh.2.2.2.2.1∧gh.2.2.2.1++(uH rej (qd h.props key ls) (ls.drop gh.1) gh.1 gh.2.1).1=ly++(mJ acc rej h.props key ls).1∧(uH rej (qd h.props key ls) (ls.drop gh.1) gh.1 gh.2.1).2=(mJ acc rej h.props key ls).2∧gh.2.2.2.1.length<=ly.length+gh.1∧(∀ b o,g3 b=some o->gh.2.2.2.2.2.2 b=some o)) (fun gh=>ls.length - gh.1) ((c2,SF,.slice vyA ly.length vyc,ly,xs,Ly,g3)) (by exact (H.fH (Pl:=[_,_,_,_,_]) (eD:=[_,_,_,_,_]) [1,2,3,0,4] Z M).sub ⟨M,M,M,M,M,M,M,aB⟩) ?_ ?_
    · exact ⟨eG _,O,hrw,fK.mono hgt,by rw [mJ,<- hfs,hgd],by rw [mJ,<- hfs,hgd],by show ly.length<=ly.length+c2;omega,fun _ _ h=>h⟩
    clear H;rintro ⟨i3,now,vy3,Ec,xs3,UL,g4⟩ a w hI H;dsimp only at hI H;obtain ⟨hi5,hi6,hrw3,XI,hq1,hq2,hq3,RD⟩:=hI;obtain ⟨Uc,Ud,rfl,-,-⟩:=hrw3.shape;have hgu:∀ b o,tX b=some o->g4 b=some o:=fun b o h=>RD b o (hgt b o h);dsimp only [lca,bM] at H;refine kP H (SQ fun _ qC=>SR fun _ Dh=>Rm M (Rm M (Rl lU M (Rc M (Kz Dh (Cd M ?_ ?_)))))) <;> clear H Dh
    · intro Xk a H
      try have axv:=dT Xk
      have hi7:i3 < ls.length:=by omega
      obtain ⟨bl,ol,rfl,hrow⟩:=Fz (hlr.mono hgu) hi7;rw [rR hi7,uH] at hq1 hq2;refine kP H (Kc qC (SQ fun _ BL=>SB (SQ fun _ F7=>SQ fun _ EF=>?_)));clear H qC;intro a H;refine dI hmx [[],[],[],[1,2],[1,2,3],ra 1 4,ra 0 6] [6] V [_,_,_,(aK bl (ol+i3*4)),_,_] H (ay (X0 M fun hG=>Rg C8 M (aC hG (aC hgu (aC nL q7)))) (Z0 M (Rm M)) (Z0 M (Rm M)) ?_ (bN (Z1 3 135 M (Rf QV M)) (bN (X1 4 136 M fun hG=>Rg aF M (aC hG (hrow 0 _ M))) (bN (bT M) dB)))) ?_
      · refine eT 1 133 2 134 M M fun _ a w G1 hG HT H fin=>?_;refine zZ lU jP i3 H wn M M M O M ?_;exact jG
      clear H;intro a w G Ht H hv;have H:=H.aN (hv 0 132 M M) M;have H:=H.aN (hv 5 137 M M) M;clear hv;refine jO H wn M M (yV _ _ (fun b o h=>Ht b o (hgu b o (nL b o h))) H.ro ls[i3].rev) M ?_;clear H;rintro v138 akO a w rfl KA H;refine aG ⟨M,?_⟩;refine EF _ _ ?_;clear EF;refine jw H M ?_ ?_
      · intro Xl
        try have axx:=dT Xl
        refine dQ ?_;refine BL _ _ ?_;clear BL;refine kP H (SC (Rm M (Rd M (Ra M ?_))));clear H;intro a H;refine aG ?_;refine dY ((i3+1,now,.slice Uc Ec.length Ud,Ec,xs3,UL,akO)) (by exact H.sub ⟨M,M,M,M,M,M,M,aB⟩) ?_
        (try dsimp only);exact ⟨O,O,hrw3,XI.mono fun b o h=>KA b o (Ht b o h),by rw [aD (by assumption)] at hq1;exact hq1,by rw [aD (by assumption)] at hq2;exact hq2,O,fun b o h=>KA b o (Ht b o (RD b o h))⟩
      intro Xl
      try have axx:=dF Xl
      rw [av (by simp_all)] at hq1 hq2;refine iE ?_;refine F7 _ _ ?_;clear F7;refine bO (fun _ F8=>?_)
      have ahd:∀ (aJ bX:Nat) (v:ah) (G G':GH),(∀ k o,G k=some o->G' k=some o)->(fun (aJ bX:Nat) (v:ah) (G:GH)=>match bX with|0=>v=(aK b9 1)|1=>v=(aK b9 4)|2=>v=.slice Uc Ec.length Ud|3=>v=.slice (some ⟨bl,ol,none⟩) ls.length tc|4=>v=vi i3|5=>v=(aK bl (ol+i3*4))|6=>v=.agg ls[i3].cells.toArray|7=>v=IZ now|8=>v=.agg (bZ.cells ⟨ls[i3].rev,ls[i3].key,now.1,now.2⟩).toArray|9=>v=.slice (some ⟨aJ,0,none⟩) 1 1|_=>True) aJ bX v G->(fun (aJ bX:Nat) (v:ah) (G:GH)=>match bX with|0=>v=(aK b9 1)|1=>v=(aK b9 4)|2=>v=.slice Uc Ec.length Ud|3=>v=.slice (some ⟨bl,ol,none⟩) ls.length tc|4=>v=vi i3|5=>v=(aK bl (ol+i3*4))|6=>v=.agg ls[i3].cells.toArray|7=>v=IZ now|8=>v=.agg (bZ.cells ⟨ls[i3].rev,ls[i3].key,now.1,now.2⟩).toArray|9=>v=.slice (some ⟨aJ,0,none⟩) 1 1|_=>True) aJ bX v G':=by
        intro aJ bX v G G' hm h
        match bX,h with
        | 0,h=>exact h
        | 1,h=>exact h
        | 2,h=>exact h
        | 3,h=>exact h
        | 4,h=>exact h
        | 5,h=>exact h
        | 6,h=>exact h
        | 7,h=>exact h
        | 8,h=>exact h
        | 9,h=>exact h
        | 10,h=>exact trivial
        | 11,h=>exact trivial
        | 12,h=>exact trivial
        | 13,h=>exact trivial
        | _+14,h=>exact trivial
      refine amh (hmx) [[],[0],[0,1],[],[],[3,4],[3,4,5],[],ra 3 5,ra 3 6,ra 0 10,ra 0 11,ra 0 12,ra 0 13] (ra 10 4) V V 9 Z (.cells #[vi ls[i3].rev,vi ls[i3].key,vi now.1,.bool now.2] 161 (0,0)) (fun (aJ bX:Nat) (v:ah) (G:GH)=>match bX with|0=>v=(aK b9 1)|1=>v=(aK b9 4)|2=>v=.slice Uc Ec.length Ud|3=>v=.slice (some ⟨bl,ol,none⟩) ls.length tc|4=>v=vi i3|5=>v=(aK bl (ol+i3*4))|6=>v=.agg ls[i3].cells.toArray|7=>v=IZ now|8=>v=.agg (bZ.cells ⟨ls[i3].rev,ls[i3].key,now.1,now.2⟩).toArray|9=>v=.slice (some ⟨aJ,0,none⟩) 1 1|_=>True) (fun _ _ i v G hi h=>by
        (iterate 14 (rcases i with _|i;(first|exact h|exact absurd M hi)));exact trivial) H ?_ ?_ ?_ V
      · clear H;refine ay ?_ ?_ ?_ ?_ (ay ?_ ?_ ?_ ?_ (ay ?_ ?_ ?_ ?_ (bN ?_ (bN ?_ dB))))
        · intro aJ dG bH a w G1 eP _ _ aM hc hG HT hv;have H:=HT;clear aM;have Hb:=H.full;have H:=Hb;clear hc;refine kH H (Rf qo M ?_);exact GK
        · intro aJ dG bH a w G1 eP _ _ aM hc hG HT hv;have H:=HT;clear aM;have H:=H.aN (hv 0 139 (hc 0 Z) M) M;have Hb:=H.full;have H:=Hb;clear hc;refine kH H (Rf Au M ?_);exact GK
        · intro aJ dG bH a w G1 eP _ _ aM hc hG HT hv;have H:=HT;clear aM;have H:=H.aN (hv 1 140 (hc 1 Z) M) M;have Hb:=H.full;have H:=Hb;clear hc;refine rG BA H wn M (H.hp.yh (eP _ (gW _ (gW _ (gW _ (gW _ dX))))) M) M ?_;exact GK
        · exact ace
        · exact ace
        · intro aJ dG bH a w G1 eP _ _ aM hc hG HT hv;have H:=HT;clear aM;have H:=H.aN (hv 3 142 (hc 3 Z) M) M;have H:=H.aN (hv 4 143 (hc 4 Z) M) M;have Hb:=H.full;have H:=Hb;clear hc;refine zZ lU jP i3 H wn M M M O M ?_;exact GK
        · intro aJ dG bH a w G1 eP _ _ aM hc hG HT hv;have H:=HT;clear aM;have H:=H.aN (hv 5 144 (hc 5 Z) M) M;have Hb:=H.full;have H:=Hb;clear hc;refine aU jP (cs:=ls[i3].cells) H wn M M (fun j v hj=>H.hp.aH (aC hG (aC KA (aC Ht (hrow j v hj))))) M ?_;exact GK
        · intro aJ dG bH a w G1 eP _ _ aM hc hG HT hv;have H:=HT;clear aM;have Hb:=H.full;have H:=Hb;clear hc;refine aU tQ (cs:=[vi now.1,.bool now.2]) H wn M M (fun j v hj=>H.hp.yh (eP _ (gW _ (gW _ (gW _ dX)))) (by simpa using hj)) M ?_;exact GK
        · intro aJ dG bH a w G1 eP _ _ aM hc hG HT hv;have H:=HT;clear aM;have H:=H.aN (hv 6 145 (hc 6 Z) M) M;have H:=H.aN (hv 7 146 (hc 7 Z) M) M;have Hb:=H.full;have H:=Hb;clear hc;refine s_call aoS H wn M (asn _ _ H.ro ls[i3] now) M ?_;clear H;rintro aCF aBv a w rfl asB H;refine aG ⟨M,?_⟩;exact wL V (ahd aJ) M M HT Hb hG hv asB (rfl) H
        · exact uP
        · exact MP
        · exact MP
        · exact MP
        exact GQ
      · clear H;intro o_ bH a w G1 mK _ hc hG HT hv;obtain rfl:_=o_:=Option.some.inj mK;clear mK;have H:=HT;have H:=H.aN (hv 0 8 147 Z (hc 8 Z) M) M;have Hb:=H.full;have H:=Hb;clear hc;refine iC lU jP [_,_,_,_] [_,_,_,_] H wn M M M M M (by intro i q h;match i,h with|0,h=>exact h|n+1,h=>simp at h) M M ?_;clear H;intro aaN a w aBM H;refine aG ⟨M,aaN,?_⟩;exact MK
      clear H;intro aaN a w G NI H hv;have H:=H.aN (hv 2 141 M M) M;have H:=H.aN (hv 9 148 M M) M;clear hv;refine og (Li:=[_,_,_,_,_,_]++bk) (Lo:=UL) (news:=bZ.cells ⟨ls[i3].rev,ls[i3].key,now.1,now.2⟩) lU jP M M (St.un (A:=[_,_,_,_,_,_]) H) wn M M hrw3 M (H.hp.cB 0 M M) M O O M ?_;clear H;intro aCG ald a w ahl H;obtain ⟨aBr,aBE,rfl,-,-⟩:=ahl.shape;have H:=H.assoc;dsimp only [lca,bM] at H;refine kH H (Rf qo M (Rf Au M ?_));clear H;intro a H;refine bC BA 5 (vs:=[_]) H wn M ?_;clear H;intro w H;refine aG ⟨M,?_⟩;refine F8 _ _ ?_;clear F8;obtain ⟨_,_,he,hr3⟩:=ajO (R3.mono fun b o h=>NI b o (KA b o (Ht b o (RD b o (xW b o h))))) (k:=i3+1) (by rw [Io];omega)
      injection he with he
      injection he with e1 e2
      subst e1 e2;obtain ⟨nx,hn1⟩:∃ s,s=(qd h.props key ls)[i3+1]'(by rw [Io];omega):=⟨_,M⟩;rw [<- hn1] at hr3
      have hnx:nx=(qd h.props key ls).getD (i3+1) (0,false):=by rw [hn1,List.getD_eq_getElem?_getD,eB (show i3+1 < (qd h.props key ls).length by rw [Io];omega)];rfl
      refine kP H (SC (Rm M (Rm M (Rd M ?_))));clear H;intro a H;refine zZ Ma tQ (i3+1) H wn M M O O M ?_;clear H;intro a H;refine aU tQ (cs:=[vi nx.1,.bool nx.2]) H wn M M (fun j v hj=>H.hp.aH (hr3 j v hj)) M ?_;clear H;intro a H;refine bC tQ 4 (vs:=[_,_]) H wn M ?_;clear H;intro w H;refine kH H (Kn BL (SC (Rm M (Rd M (Ra M ?_)))));clear H BL;intro a H;refine aG ?_;refine dY ((i3+1,nx,_,Ec++[⟨ls[i3].rev,ls[i3].key,now.1,now.2⟩],xs3++bZ.cells ⟨ls[i3].rev,ls[i3].key,now.1,now.2⟩,ald,_)) (by exact (H.fH (Pl:=[_,_,_,_,_,_]) (eD:=[_,_,_,_,_]) [1,2,3,4,5] Z M).sub ⟨M,M,M,M,M,M,M,aB⟩) ?_
      (try dsimp only);exact ⟨O,O,by rw [iW];exact ahl,by rw [kR];exact (XI.mono fun b o h=>NI b o (KA b o (Ht b o h))).snoc (avV _ ⟨ls[i3].rev,ls[i3].key,now.1,now.2⟩) M,by rw [jv,hnx];exact hq1,by rw [hnx];exact hq2,by rw [iW];show Ec.length+1<=_;omega,fun b o h=>NI b o (KA b o (Ht b o (RD b o h)))⟩
    intro Xk a H
    try have axv:=dF Xk
    obtain rfl:i3=ls.length:=by omega
    rw [List.drop_length,uH] at hq1 hq2;rw [ig] at hq1;have hq4:=Xd acc rej h.props key ls;refine dQ ?_;refine BJ _ _ ?_;clear BJ;refine nU ?_;refine aU fB (cs:=[_,_,_,_,_]) H wn M M (H.hp.cB 4 M M) M ?_;clear H;intro a H;refine kH H (Rm M ?_);clear H;intro a H;refine aU tQ (cs:=[_,_]) H wn M M (H.hp.cB 3 M M) M ?_;clear H;intro a H;refine s_call aoT H wn M (aBe _ _ H.ro ps io mo _ _ _ _ _ _ _ (hpv.mono hgu) key now O) M ?_;clear H;rintro v160 aBw a w ⟨aCA,rfl,agV⟩ auk H;obtain ⟨akL,n160,c160,rfl⟩:=agV.form;refine bC fB 4 (vs:=[_,_,_,_,_]) H wn M ?_;clear H;intro w H;refine aG ?_;refine auq ((.slice akL n160 c160,vI ps key now,_,Ec,xs3,UL)) _ _ _ _ _ (by exact H.fH (Pl:=[_,_,_,_,_]) (eD:=[_,_,_]) [1,2,4] Z M) ?_;exact ⟨agV,hrw3,XI.mono auk,by rw [<- hdc,rR hk,um,<- hkey,<- hls,<- hq1,<- hq2],by have:=akv ps key now;show (vI ps key now).length<=_;omega,by show Ec.length<=_;rw [hs3,hq1,iW];omega⟩
  · clear H;intro aBs gh aBx a w nL hI H;obtain ⟨pv,ps,vy,ly,xs,Ly⟩:=gh;dsimp only at hI H;dsimp only [lca,bM] at H;obtain ⟨hpv,hrw,fK,hdc,hpl,hll⟩:=hI;rw [bS,List.drop_length,um] at hdc;obtain ⟨pvA,pvn,pvc,rfl⟩:=hpv.form;obtain ⟨vyA,vyc,rfl,-,-⟩:=hrw.shape
    have hdh:iI acc rej h=⟨ps,⟨io,mo,h.marks.bK.filter fun x=>!rej x.rev,ly⟩⟩:=by unfold iI;rw [<- hall,<- hdc,hio,hmo]
    refine eY _ _ ?_;clear eY;refine dz (fun _ EG=>?_);refine aU fB (cs:=[_,_,_,_,_]) H wn M M (H.hp.cB 2 M M) M ?_;clear H;intro a H;refine bC fB 1 (vs:=[_,_,_,_,_]) H wn M ?_;clear H;intro w H;refine kH H (aj EG M ?_);clear H EG;intro a H;refine fE ?_;refine (YV H 0 M ?_).1;clear H;intro a w H;dsimp only [List.eraseIdx_cons_succ,List.eraseIdx_cons_zero] at H;exact Qo
  intro Dk x;exact x.elim
section
def mG (x:Nat->ah × OL) (m:Nat) (y:ah × OL):Nat->ah × OL:=fun j=>if j=m then y else x j
theorem aai (x:Nat->ah × OL) (m:Nat) (y:ah × OL):mG x m y m=y:=aD M
theorem aaj {x:Nat->ah × OL} {m j:Nat} {y:ah × OL} (h:j≠m):mG x m y j=x j:=av h
def iM (ms:List Nat) (S:Nat->Bool) (x:Nat->ah × OL):OL:=ms.flatMap fun m=>bif S m then (x m).2 else []
theorem afE {S:Nat->Bool} {x:Nat->ah × OL} {y:ah × OL} {m:Nat}:∀ {ms:List Nat},m∉ms->iM ms (cO S m) (mG x m y)=iM ms S x
 | [],_=>rfl
 | k :: ms,h=>by
  have hk:k≠m:=fun e=>h (by simp [e])
  have ih:=afE (S:=S) (x:=x) (y:=y) (ms:=ms) fun hm=>h (gW _ hm)
  unfold iM at ih |-
  rw [List.flatMap_cons,List.flatMap_cons,ih,aaj hk,show cO S m k=S k from av hk]
theorem afF {S:Nat->Bool} {x:Nat->ah × OL} {y:ah × OL} {m:Nat} (hS:S m=false):∀ {ms:List Nat},ms.Nodup->m∈ms->(y.2++iM ms S x).Perm (iM ms (cO S m) (mG x m y))
 | k :: ms,hn,hm=>by
  rw [List.nodup_cons] at hn
  by_cases hk:k=m
  ·subst hk
   have e:=afE (S:=S) (x:=x) (y:=y) hn.1
   unfold iM at e |-
   rw [List.flatMap_cons,List.flatMap_cons,e,aai,hS,show cO S k k=true from aD M]
   exact List.Perm.refl _
  ·have ih:=afF (S:=S) (x:=x) (y:=y) hS hn.2 (by
    rcases gK.1 hm with e|h
    ·exact absurd e.symm hk
    ·exact h)
   unfold iM at ih |-
   rw [List.flatMap_cons,List.flatMap_cons,aaj hk,show cO S m k=S k from av hk,<- jv]
   refine (List.Perm.append_right _ oO).trans ?_
   rw [jv]
   exact List.Perm.append_left _ ih
section
variable {N:Nat} {D:List Deferred} {w0:World} {F:Nat->Prop} {G0 G G1 G2:GH} {L L1 L2:OL} {T Xs:List (Nat × ah)}
variable {r:Option Nat} {P:Program} {Q:Exit->Act->World->Prop} {l:List Oper} {a a':Act} {w w':World}
theorem VT {id:Nat} (ms:List Nat) (hm:P.follows .mixedOrders=true) (bJ:List (List Nat)) (B:List Nat) (hk:xO l bJ=true) (hB:wC l bJ B=true) (hnd:ms.Nodup) (hms:(ms.all fun m=>Nat.blt m l.length && !B.contains m)=true) (pr:(Nat->ah × OL)->Nat->ah->GH->Prop)
  (hp:∀ m,ms.contains m=true->∀ x y i v G,Nat.beq i m=false->(bJ.getD i []).contains m=false->pr x i v G->pr (mG x m y) i v G)
  (H:St N D w0 F G0 G L T a w)
  (hstep:allI (fun i o=>∀ x L' S a w G1,(∀ q,q∈L->q∈L')->B.contains i=false->ms.contains i=false->S i=false->(∀ j∈bJ.getD i [],S j=true)->(∀ k o,G k=some o->G1 k=some o)->St N D w0 F G0 G1 L' T a w->(∀ i d,S i=true->dV l i=some d->∃ v,a.tmps[d]?=some v∧pr x i v G1) ->
   WL r P l.toArray (fun e a' w'=>e=.normal∧DX N D w0 F G0 G L' T l (pr x) (cO S i) a' w') [o] a w) 0 l)
  (hmid:allI (fun m o=>ms.contains m=true->∀ x L' S a w G1,(∀ q,q∈L->q∈L')->S m=false->(∀ j∈bJ.getD m [],S j=true)->(∀ k o,G k=some o->G1 k=some o)->St N D w0 F G0 G1 L' T a w->(∀ y i d,i≠m->S i=true->dV l i=some d->∃ v,a.tmps[d]?=some v∧pr (mG x m y) i v G1) ->
   WL r P l.toArray (fun e a' w'=>e=.normal∧∃ y,DX N D w0 F G0 G (y.2++L') T l (pr (mG x m y)) (cO S m) a' w') [o] a w) 0 l)
  (hend:∀ x a w G1,(∀ k o,G k=some o->G1 k=some o)->St N D w0 F G0 G1 (iM ms (fun _=>true) x++L) T a w->(∀ i d,B.contains i=false->dV l i=some d->∃ v,a.tmps[d]?=some v∧pr x i v G1)->WL r P l.toArray (fun e a w=>e=.normal∧Q .normal a w) (qb l B) a w):WP r P (.region id l.toArray true) Q a w:=by
 refine EM hm bJ B hk hB (fun S a w=>∃ x,DX N D w0 F G0 G (iM ms S x++L) T l (pr x) S a w)
  ⟨fun _=>(.bool false,[]),DX.perm (L1:=L) ⟨G,fun _ _ h=>h,H.move H.hp.drew,fun _ _ h=>absurd (show false=true from h) Z⟩ (by
   have:∀ ms:List Nat,iM ms (fun _=>false) (fun _=>(.bool false,[]))=[]:=fun ms=>by
    induction ms with
    | nil=>rfl
    | cons k ms ih=>unfold iM at ih |-;rw [List.flatMap_cons,ih];rfl
   rw [this];exact List.Perm.refl _)⟩ ?_ ?_
 ·rintro i o S a w ho hb aM jm hdesc ⟨x,G1,hG,HS,hv⟩
  have hsub:∀ q,q∈L->q∈iM ms S x++L:=fun q hq=>List.mem_append_right _ hq
  have hno:∀ j,j < l.length->S j=true->(bJ.getD j []).contains i=false:=fun j hjl hj=>by
   cases hc:(bJ.getD j []).contains i with
   | false=>rfl
   | true =>
    have:=hdesc j hjl (by simpa using hc)
    rw [this] at hj;cases hj
  cases hi:ms.contains i with
  | true =>
   have h:=yH hmid i o ho
   rw [gy] at h
   have h:=h hi x _ S a w G1 hsub aM jm hG HS fun y j d hj hSj hd=>by
    obtain ⟨v,hv1,hv2⟩:=hv j d hSj hd
    exact ⟨v,hv1,hp i hi x y j v _ (qF hj) (hno j (rX hd) hSj) hv2⟩
   refine nG (fun e a' w' ⟨he,y,hD⟩=>⟨he,mG x i y,hD.perm ?_⟩) h
   rw [<- jv]
   exact List.Perm.append_right L (afF aM hnd (by simpa using hi))
  | false =>
   have h:=yH hstep i o ho
   rw [gy] at h
   have e:∀ ms:List Nat,i∉ms->iM ms (cO S i) x=iM ms S x:=fun ms hn=>by
    induction ms with
    | nil=>rfl
    | cons k ms ih =>
     have ih:=ih fun h=>hn (gW _ h)
     unfold iM at ih |-
     rw [List.flatMap_cons,List.flatMap_cons,ih,show cO S i k=S k from av fun e=>hn (by simp [e])]
   refine nG (fun e' a' w' ⟨he,hD⟩=>⟨he,x,?_⟩) (h x _ S a w G1 hsub hb hi aM jm hG HS hv)
   rw [e ms (by simpa using hi)]
   exact hD
 ·rintro S a w hall Ib ⟨x,G1,hG,HS,hv⟩
  have hS:∀ m∈ms,S m=true:=fun m hmm=>by
   have h:=jE.1 hms m hmm
   rw [iL] at h
   exact hall m (Eq.mp Nat.blt_eq h.1) (by simpa using h.2)
  have e:∀ ms:List Nat,(∀ m∈ms,S m=true)->iM ms S x=iM ms (fun _=>true) x:=fun ms h=>by
   induction ms with
   | nil=>rfl
   | cons k ms ih =>
    have ih:=ih fun m hm=>h m (gW _ hm)
    unfold iM at ih |-
    rw [List.flatMap_cons,List.flatMap_cons,ih,h k dX]
  replace e:=e ms hS
  rw [e] at HS
  exact hend x a w G1 hG HS fun j d hb hd=>hv j d (hall j (rX hd) hb) hd
end
end
section
theorem WM:aS 98:=aT func98 M
theorem aoU:aS 165:=aT func165 M
def Dl (fv:ah) (G:GH) (acc rej:Int->Bool):Prop:=∀ (G1:GH) (w1:World),(∀ b o,G b=some o->G1 b=some o)->Hold G1 w1->∀ (h:dN) (p d l:ah),jr G1 h p d l->mX h<=1073741824->sJ prog fv [sj h p d l] w1 (bG w1 G1 (sK acc rej h))
theorem Dl.mono {fv:ah} {G G':GH} {acc rej:Int->Bool} (hm:∀ b o,G b=some o->G' b=some o) (h:Dl fv G acc rej):Dl fv G' acc rej:=fun G1 w1 h1=>h G1 w1 fun b o hb=>h1 b o (hm b o hb)
variable {acc rej:Int->Bool}
def eU (acc rej:Int->Bool) (h:dN):dN:=if lZ acc rej h then BG else iI acc rej h
theorem sK.ans {h:dN} {u:ah} {G:GH} (hd:sK acc rej h u G):∃ pA pn pc dA dn dc lA ln lc,u=.tuple #[.agg #[.slice pA pn pc,vi (eU acc rej h).marks.ins,vi (eU acc rej h).marks.move,.slice dA dn dc,.slice lA ln lc],.bool (!decide (lZ acc rej h))]∧jr G (eU acc rej h) (.slice pA pn pc) (.slice dA dn dc) (.slice lA ln lc):=by
 unfold sK at hd
 unfold eU
 by_cases hg:lZ acc rej h
 ·rw [aD hg] at hd |-;obtain ⟨p,d,l,rfl,hh⟩:=hd;obtain ⟨pA,pn,pc,rfl⟩:=hh.props.form;obtain ⟨dA,dn,dc,rfl⟩:=hh.bK.form;obtain ⟨lA,ln,lc,rfl⟩:=hh.layers.form;exact ⟨pA,pn,pc,dA,dn,dc,lA,ln,lc,by simp [hg],hh⟩
 rw [av hg] at hd |-;obtain ⟨p,d,l,rfl,hh⟩:=hd;obtain ⟨pA,pn,pc,rfl⟩:=hh.props.form;obtain ⟨dA,dn,dc,rfl⟩:=hh.bK.form;obtain ⟨lA,ln,lc,rfl⟩:=hh.layers.form;exact ⟨pA,pn,pc,dA,dn,dc,lA,ln,lc,by simp [hg],hh⟩
def P9 (fv:ah) (acc rej:Int->Bool) (n:Nat):Prop:=∀ (G:GH) (w0:World),Hold G w0->Dl fv G acc rej->∀ (l:List au) (v:ah),ak G (.sl 11 (l.map au.dat)) v->dH l < n ->
 Calls prog 98 #[fv,v] w0 (bG w0 G fun u G'=>ak G' (.sl 11 ((dW acc rej l).map au.dat)) u)
theorem abu {p:Prop} (h:p:=by
 exact ⟨O,by rw [TA hk2,hone,ig];exact hrw,by rw [TA hk2,hone,ig];exact fK.mono sw,fun b o h=>sw b o (hgm b o h)⟩):p:=h
theorem alS {p:Prop} (h:p:=by
 exact Ch HT Hb hG hv (RX aJ) H M):p:=h
theorem JI {p:Prop} (h:p:=by
 clear H;intro a H;refine aG ⟨M,?_⟩;exact alS):p:=h
theorem acf {p:Prop} (h:p:=by
 intro aJ dG bH a w G1 eP _ _ aM hc hG HT hv;have H:=HT;clear aM;have Hb:=H.full;have H:=Hb;clear hc;refine kH H (Rm M ?_);exact JI):p:=h
set_option maxHeartbeats 4000000 in
theorem ayI {fv:ah} {n:Nat} (ih:P9 fv acc rej n) (hn:n<=536870913) (G:GH) (w0:World) (hG:Hold G w0) (hf:Dl fv G acc rej) (l:List aV) (v:ah) (hv:ak G (.sl 6 (l.map aV.dat)) v) (hz:iK l < n) :
  Calls prog 165 #[fv,v] w0 (bG w0 G fun u G'=>ak G' (.sl 6 ((gT acc rej l).map aV.dat)) u):=by
 obtain ⟨A,c,rfl,hc1,hc2,hg⟩:=hv.slice
 have hml:4294967297<=maxLen:=by decide
 have hll:=Pz l;rw [bS] at *;refine eN [(0,_),(1,_)] func165 M ntmps165 M M hG ?_;intro a H;refine kP H (SR fun _ K1=>aj K1 M (SR fun _ K2=>aj K2 M (SQ fun _ K3=>SR fun _ K4=>Rm M (Rl nO M (Rm M (Kz K4 (SB ?_)))))));clear H K1 K2 K4;intro a H;skip;refine eX (ι:=Nat × ah × List ah × OL × GH) (Tc:=[(0,_),(15,_),(16,_)]) (Lc:=[]) (fun gh=>[(5,gh.2.1),(17,vi gh.1)]) (fun gh=>[]++gh.2.2.2.1) (fun gh=>gh.2.2.2.2) (fun gh=>gh.1<=l.length∧dw 74 6 gh.2.1 (gT acc rej (l.take gh.1)).length gh.2.2.1 gh.2.2.2.1∧dx gh.2.2.2.2 6 ((gT acc rej (l.take gh.1)).map aV.dat) gh.2.2.1∧(∀ b o,G b=some o->gh.2.2.2.2 b=some o)) (fun gh=>l.length - gh.1) ((0,.slice none 0 0,[],[],G)) (by exact H.sub ⟨M,M,M,M,M,aB⟩) ?_ ?_
 ·exact JF
 clear H;rintro ⟨k,v,xs,Lo,g⟩ a w hI H;dsimp only at hI H;obtain ⟨hk,hrw,fK,hgm⟩:=hI;have hrl:=ZB (acc:=acc) (rej:=rej) (l.take k);rw [List.length_take] at hrl;dsimp only [lca,bM] at H;refine kP H (SR fun _ K5=>Rc M (Kz K5 (SQ fun _ K6=>Cd M ?_ ?_))) <;> clear H K5
 ·intro h18 a H
  try have tN:=dT h18
  have hk2:k < l.length:=by omega
  obtain ⟨b_,o_,pA,pn,pc,dA,dn,dc,yA,yn,yc,cA,cn,cc,rfl,hrow,hhd,hcl⟩:=Tq hk2 hg;replace hrow:=fun j u hj=>aC hgm (hrow j u hj);replace hhd:=hhd.mono hgm;replace hcl:=hcl.mono hgm;have hzr:=Uj hk2;have hce:=ajd (acc:=acc) (rej:=rej) l[k];refine kP H (Kc K6 (SQ fun _ K7=>SB (SR fun _ K8=>Ri nO jK M M ?_)));clear H K6;intro a H;refine aU jK (cs:=[_,_,_,_,_,_]) H wn M M (fun j v hj=>H.hp.aH (hrow j v hj)) M ?_;clear H;intro a H;refine dJ jK H wn M ?_;clear H;intro b7 a w xV H;refine bC jK 0 (vs:=[_,_,_,_,_,_]) H wn M ?_;clear H;intro w H;refine K8 _ _ ?_;clear K8;refine kP H (SR fun _ K9=>Rm M (Rf Ka M ?_));clear H;intro a H;refine aU fB (cs:=[_,_,_,_,_]) H wn M M (H.hp.cB 0 M M) M ?_;clear H;intro a H;refine jO H wn M M (hf _ _ hgm H.ro l[k].head _ _ _ hhd O) M ?_;clear H;rintro v25 FZ a w hd25 pG H;obtain ⟨q1,q2,q3,q4,q5,q6,q7,q8,q9,rfl,aud⟩:=hd25.ans;refine kH H (Rm M ?_);clear H;intro a H;(iterate 2 refine lT H wn M M M ?_;clear H;intro a H);refine dJ fB H wn M ?_;clear H;intro b8 a w DU H;refine bC fB 0 (vs:=[_,_,_,_,_]) H wn M ?_;clear H;intro w H;refine kH H (aj K9 M (SQ fun _ aR=>SR fun _ bq=>Rm M (Rn M (Kz bq (Cd M ?_ ?_))))) <;> clear H K9 bq
  ·intro iq a H
   try have p29:=dT iq
   have hone:pq acc rej l[k]=[]:=by rw [hce,aD (by simpa using iq)]
   have sw:=pG;refine dQ ?_;refine K7 _ _ ?_;clear K7;refine kP H (SC (Rd M (Rm M ?_)));clear H;intro a H;refine aG ?_;refine dY ((k+1,v,xs,Lo,_)) (by exact (H.fH (Pl:=[_,_]) (eD:=[]) [] Z M).sub ⟨M,M,M,M,M,aB⟩) ?_
   (try dsimp only);exact abu
  intro iq a H
  try have p29:=dF iq
  have Ic:¬ lZ acc rej l[k].head:=by simpa using iq
  rw [av Ic] at hce;obtain ⟨cA',cc',hcs,atG,aB4,hgc⟩:=hcl.slice
  injection hcs with e1 e2 e3
  rw [bS] at e2 atG;subst e1 e2 e3;have aB5:=Px l[k].cells;refine kP H (Kc aR (SR fun _ bP=>aj bP M (SQ fun _ bU=>SR fun _ dh=>bQ zM Ad 1 M M (Rl qh M (Rm M (Kz dh (SB ?_)))))));clear H aR bP dh;intro a H;skip;refine eX (ι:=Nat × ah × List ah × OL × GH) (Tc:=[(0,_),(5,_),(8,_),(15,_),(16,_),(17,_),(31,_),(32,_)]) (Lc:=[(_,_),(_,_)]) (fun gh=>[(10,gh.2.1),(33,vi gh.1)]) (fun gh=>[]++(Lo++gh.2.2.2.1)) (fun gh=>gh.2.2.2.2) (fun gh=>gh.1<=l[k].cells.length∧dw 76 7 gh.2.1 (gD acc rej (l[k].cells.take gh.1)).length gh.2.2.1 gh.2.2.2.1∧dx gh.2.2.2.2 7 ((gD acc rej (l[k].cells.take gh.1)).map aX.dat) gh.2.2.1∧(∀ b o,FZ b=some o->gh.2.2.2.2 b=some o)) (fun gh=>l[k].cells.length - gh.1) ((0,.slice none 0 0,[],[],FZ)) (by exact (H.OA (A:=[_,_])).sub ⟨M,M,M,M,M,M,M,M,M,M,aB⟩) ?_ ?_
  ·exact JF
  clear H;rintro ⟨i,v2,xs2,Lc,g2⟩ a w hI H;dsimp only at hI H;obtain ⟨hi,hrw2,zQ,lQ⟩:=hI;have hrl2:=Zz (acc:=acc) (rej:=rej) (l[k].cells.take i);rw [List.length_take] at hrl2;obtain ⟨Ph,Pj,rfl,-,-⟩:=hrw2.shape;dsimp only [lca,bM] at H;refine kP H (SR fun _ dZ=>Rc M (Kz dZ (SQ fun _ eu=>Cd M ?_ ?_))) <;> clear H dZ
  ·intro fq a H
   try have p34:=dT fq
   have hi2:i < l[k].cells.length:=by omega
   obtain ⟨b2_,o2_,aA,an,ac,gA,gn,gc,uA,un,uc,wA,wn_,wc,rfl,hrow2,XU,XR⟩:=Qy hi2 hgc;have hgx:∀ b o,g b=some o->g2 b=some o:=fun b o h=>lQ b o (pG b o h);replace hrow2:=fun j u hj=>aC hgx (hrow2 j u hj);replace XU:=XU.mono hgx;replace XR:=XR.mono hgx;have hzc:=Ui hi2;have agr:=aja (acc:=acc) (rej:=rej) l[k].cells[i];refine kP H (Kc eu (SQ fun _ dS=>SB (SR fun _ eY=>Ri qh kE M M ?_)));clear H eu;intro a H;refine aU kE (cs:=[_,_,_,_,_,_,_]) H wn M M (fun j v hj=>H.hp.aH (hrow2 j v hj)) M ?_;clear H;intro a H;refine dJ kE H wn M ?_;clear H;intro b12 a w Hy H;refine bC kE 0 (vs:=[_,_,_,_,_,_,_]) H wn M ?_;clear H;intro w H;refine eY _ _ ?_;clear eY;refine kP H (SR fun _ gU=>Rm M (Rf Ke M ?_));clear H;intro a H;refine aU fB (cs:=[_,_,_,_,_]) H wn M M (H.hp.cB 0 M M) M ?_;clear H;intro a H;refine jO H wn M M (hf _ _ (fun b o h=>hgx b o (hgm b o h)) H.ro l[k].cells[i].head _ _ _ XU O) M ?_;clear H;rintro v41 Jh a w atM wS H;obtain ⟨r1,r2,r3,r4,r5,r6,r7,r8,r9,rfl,aue⟩:=atM.ans;refine kH H (Rm M ?_);clear H;intro a H;(iterate 2 refine lT H wn M M M ?_;clear H;intro a H);refine dJ fB H wn M ?_;clear H;intro b13 a w NK H;refine bC fB 0 (vs:=[_,_,_,_,_]) H wn M ?_;clear H;intro w H;refine kH H (aj gU M (SR fun _ fJ=>Rm M (Kz fJ (Cd M ?_ ?_)))) <;> clear H gU fJ
   ·intro DJ a H
    try have p44:=dT DJ
    have agS:¬ lZ acc rej l[k].cells[i].head:=by simpa using DJ
    have Oc:pI acc rej l[k].cells[i]=[.mk l[k].cells[i].id (eU acc rej l[k].cells[i].head) (dW acc rej l[k].cells[i].flow)]:=by rw [agr,av agS,eU,av agS]
    have RX:Jm (fun (aJ:Nat->ah × OL) (bX:Nat) (v:ah) (G:GH)=>match bX with|0=>v=.slice Ph (gD acc rej (l[k].cells.take i)).length Pj|1=>v=(aK b12 0)|2=>v=vi l[k].cells[i].id|3=>v=.agg #[.slice r1 r2 r3,vi (eU acc rej l[k].cells[i].head).marks.ins,vi (eU acc rej l[k].cells[i].head).marks.move,.slice r4 r5 r6,.slice r7 r8 r9]|4=>v=fv|5=>v=(aK b12 6)|6=>v=.slice wA wn_ wc|7=>ak G (.sl 11 ((dW acc rej l[k].cells[i].flow).map au.dat)) v|8=>∃ A n c,v=.agg #[vi l[k].cells[i].id,.slice r1 r2 r3,vi (eU acc rej l[k].cells[i].head).marks.ins,vi (eU acc rej l[k].cells[i].head).marks.move,.slice r4 r5 r6,.slice r7 r8 r9,.slice A n c]∧ak G (.sl 11 ((dW acc rej l[k].cells[i].flow).map au.dat)) (.slice A n c)|9=>∃ b A n c,v=.slice (some ⟨b,0,none⟩) 1 1∧aJ 9=(.slice (some ⟨b,0,none⟩) 1 1,[(b,.cells #[vi l[k].cells[i].id,.slice r1 r2 r3,vi (eU acc rej l[k].cells[i].head).marks.ins,vi (eU acc rej l[k].cells[i].head).marks.move,.slice r4 r5 r6,.slice r7 r8 r9,.slice A n c] 76 (0,0))])∧ak G (.sl 11 ((dW acc rej l[k].cells[i].flow).map au.dat)) (.slice A n c)|_=>True):=by intro aJ bX v G G' hm h;(iterate 12 (rcases bX with _|bX;(first|exact h|exact ak.mono hm h|exact let ⟨A,n,c,h1,h2⟩:=h;⟨A,n,c,h1,h2.mono hm⟩|exact let ⟨b,A,n,c,h0,h1,h2⟩:=h;⟨b,A,n,c,h0,h1,h2.mono hm⟩)));exact trivial
    refine VT [9] (hmx) [[],[],[1],[],[],[],[5],[4,5,6],ra 1 7,ra 1 8,ra 0 10,ra 0 11] [10,11] V V Z V (fun (aJ:Nat->ah × OL) (bX:Nat) (v:ah) (G:GH)=>match bX with|0=>v=.slice Ph (gD acc rej (l[k].cells.take i)).length Pj|1=>v=(aK b12 0)|2=>v=vi l[k].cells[i].id|3=>v=.agg #[.slice r1 r2 r3,vi (eU acc rej l[k].cells[i].head).marks.ins,vi (eU acc rej l[k].cells[i].head).marks.move,.slice r4 r5 r6,.slice r7 r8 r9]|4=>v=fv|5=>v=(aK b12 6)|6=>v=.slice wA wn_ wc|7=>ak G (.sl 11 ((dW acc rej l[k].cells[i].flow).map au.dat)) v|8=>∃ A n c,v=.agg #[vi l[k].cells[i].id,.slice r1 r2 r3,vi (eU acc rej l[k].cells[i].head).marks.ins,vi (eU acc rej l[k].cells[i].head).marks.move,.slice r4 r5 r6,.slice r7 r8 r9,.slice A n c]∧ak G (.sl 11 ((dW acc rej l[k].cells[i].flow).map au.dat)) (.slice A n c)|9=>∃ b A n c,v=.slice (some ⟨b,0,none⟩) 1 1∧aJ 9=(.slice (some ⟨b,0,none⟩) 1 1,[(b,.cells #[vi l[k].cells[i].id,.slice r1 r2 r3,vi (eU acc rej l[k].cells[i].head).marks.ins,vi (eU acc rej l[k].cells[i].head).marks.move,.slice r4 r5 r6,.slice r7 r8 r9,.slice A n c] 76 (0,0))])∧ak G (.sl 11 ((dW acc rej l[k].cells[i].flow).map au.dat)) (.slice A n c)|_=>True) (fun m hm x y i v G hi hc h=>by
     have hm:m=9:=by simpa using hm
     rcases hm with rfl
     ·(iterate 12 (rcases i with _|i;(first|exact h|exact absurd hi Z|exact absurd hc Z)));exact trivial
     ) H ?_ ?_ ?_
    ·clear H;refine ay ?_ ?_ ?_ ?_ (ay ?_ ?_ ?_ ?_ (ay ?_ ?_ ?_ ?_ dB))
     ·exact acf
     ·intro aJ dG bH a w G1 eP _ _ aM hc hG HT hv;have H:=HT;clear aM;have Hb:=H.full;have H:=Hb;clear hc;refine kH H (Rf NA M ?_);exact JI
     ·intro aJ dG bH a w G1 eP _ _ aM hc hG HT hv;have H:=HT;clear aM;have H:=H.aN (hv 1 46 (hc 1 Z) M) M;have Hb:=H.full;have H:=Hb;clear hc;refine rG aF H wn M (H.hp.yh (eP _ (gW _ dX)) M) M ?_;exact JI
     ·intro aJ dG bH a w G1 eP _ _ aM hc hG HT hv;have H:=HT;clear aM;have Hb:=H.full;have H:=Hb;clear hc;refine aU fB (cs:=[.slice r1 r2 r3,vi (eU acc rej l[k].cells[i].head).marks.ins,vi (eU acc rej l[k].cells[i].head).marks.move,.slice r4 r5 r6,.slice r7 r8 r9]) H wn M M (fun j v hj=>H.hp.yh (eP _ dX) (by simpa using hj)) M ?_;exact JI
     ·exact acf
     ·intro aJ dG bH a w G1 eP _ _ aM hc hG HT hv;have H:=HT;clear aM;have Hb:=H.full;have H:=Hb;clear hc;refine kH H (Rf GZ M ?_);exact JI
     ·intro aJ dG bH a w G1 eP _ _ aM hc hG HT hv;have H:=HT;clear aM;have H:=H.aN (hv 5 50 (hc 5 Z) M) M;have Hb:=H.full;have H:=Hb;clear hc;refine rG kW H wn M (H.hp.yh (eP _ (gW _ dX)) M) M ?_;exact JI
     ·intro aJ dG bH a w G1 eP _ _ aM hc hG HT hv;have H:=HT;clear aM;have H:=H.aN (hv 4 49 (hc 4 Z) M) M;have H:=H.aN (hv 6 51 (hc 6 Z) M) M;have Hb:=H.full;have H:=Hb;clear hc;refine s_call WM H wn M (ih _ _ H.ro (hf.mono fun b o h=>hG b o (wS b o (hgx b o (hgm b o h)))) l[k].cells[i].flow _ (XR.mono fun b o h=>hG b o (wS b o h)) O) M ?_;clear H;rintro v52 Ux a w Ih asR H;refine aG ⟨M,?_⟩;exact wL V (RX aJ) M M HT Hb hG hv asR (Ih) H
     ·intro aJ dG bH a w G1 eP _ _ aM hc hG HT hv;have H:=HT;clear aM;have H:=H.aN (hv 2 47 (hc 2 Z) M) M;have H:=H.aN (hv 3 48 (hc 3 Z) M) M;obtain ⟨u52,avq,Ih⟩:=hv 7 52 (hc 7 Z) M;(try dsimp only at Ih);obtain ⟨Jc,n52,JO,rfl⟩:=Ih.form;have H:=H.gZ avq;have Hb:=H.full;have H:=Hb;clear hc;refine jU ZY [_,_,_,_,_,_,_] H wn M M M M ?_;clear H;intro a H;refine aG ⟨M,?_⟩;exact wL V (RX aJ) M M HT Hb hG hv (fun _ _ h=>h) (⟨_,_,_,M,Ih⟩) H
     ·exact uP
     ·exact MP
     exact GQ
    ·clear H;refine ay ?_ ?_ ?_ ?_ (ay ?_ ?_ ?_ ?_ (ay ?_ ?_ ?_ ?_ dB))
     ·intro hB;exact fP
     ·intro hB;exact fP
     ·intro hB;exact fP
     ·intro hB;exact fP
     ·intro hB;exact fP
     ·intro hB;exact fP
     ·intro hB;exact fP
     ·intro hB;exact fP
     ·intro hB;exact fP
     ·intro _ aJ dG bH a w G1 eP _ hc hG HT hv;have H:=HT;obtain ⟨u53,Yq,Cz⟩:=hv (.bool false,[]) 8 53 Z (hc 8 Z) M;(try dsimp only at Cz);obtain ⟨Ah,n53,c53,rfl,Cz⟩:=Cz;have H:=H.gZ Yq;have Hb:=H.full;have H:=Hb;clear hc;refine iC qh kE [_,_,_,_,_,_,_] [_,_,_,_,_,_,_] H wn M M M M M (by intro i q h;match i,h with|0,h=>exact h|n+1,h=>simp at h) M M ?_;clear H;intro Ca a w agq H;refine aG ⟨M,(.slice (some ⟨Ca,0,none⟩) 1 1,[(Ca,.cells #[vi l[k].cells[i].id,.slice r1 r2 r3,vi (eU acc rej l[k].cells[i].head).marks.ins,vi (eU acc rej l[k].cells[i].head).marks.move,.slice r4 r5 r6,.slice r7 r8 r9,.slice Ah n53 c53] 76 (0,0))]),?_⟩;exact vQ V (RX (mG aJ 9 (.slice (some ⟨Ca,0,none⟩) 1 1,[(Ca,.cells #[vi l[k].cells[i].id,.slice r1 r2 r3,vi (eU acc rej l[k].cells[i].head).marks.ins,vi (eU acc rej l[k].cells[i].head).marks.move,.slice r4 r5 r6,.slice r7 r8 r9,.slice Ah n53 c53] 76 (0,0))]))) M HT Hb hG (fun j e h1 h2 h3=>hv (.slice (some ⟨Ca,0,none⟩) 1 1,[(Ca,.cells #[vi l[k].cells[i].id,.slice r1 r2 r3,vi (eU acc rej l[k].cells[i].head).marks.ins,vi (eU acc rej l[k].cells[i].head).marks.move,.slice r4 r5 r6,.slice r7 r8 r9,.slice Ah n53 c53] 76 (0,0))]) j e h1 h2 h3) (fun _ _ h=>h) (⟨Ca,Ah,n53,c53,M,M,Cz⟩) H
     ·intro hB;exact fP
     intro hB;exact fP
    clear H;intro aJ a w G NH H hv
    simp only [iM,List.flatMap_cons,List.flatMap_nil,cond_true,ig,jv] at H
    have H:=H.aN (hv 0 45 M M) M;obtain ⟨u54,avr,ahc⟩:=hv 9 54 Z M;(try dsimp only at ahc);obtain ⟨Ca,Jc,n52,JO,rfl,e54,Ih⟩:=ahc;have H:=H.gZ avr;clear hv;rw [e54] at H;dsimp only [lca,bM] at H;have ahh:bB G (aX.dat (.mk l[k].cells[i].id (eU acc rej l[k].cells[i].head) (dW acc rej l[k].cells[i].flow))) [vi l[k].cells[i].id,.slice r1 r2 r3,vi (eU acc rej l[k].cells[i].head).marks.ins,vi (eU acc rej l[k].cells[i].head).marks.move,.slice r4 r5 r6,.slice r7 r8 r9,.slice Jc n52 JO]:=bB.Sq (x:=.mk l[k].cells[i].id (eU acc rej l[k].cells[i].head) (dW acc rej l[k].cells[i].flow)) (aue.mono NH) Ih;refine og (Li:=[_,_,_,_,_]++Lo) (Lo:=Lc) (news:=[vi l[k].cells[i].id,.slice r1 r2 r3,vi (eU acc rej l[k].cells[i].head).marks.ins,vi (eU acc rej l[k].cells[i].head).marks.move,.slice r4 r5 r6,.slice r7 r8 r9,.slice Jc n52 JO]) qh kE M M (St.un (A:=[_,_,_,_,_]) H) wn M M hrw2 M (H.hp.cB 0 M M) ahh.one O O M ?_;clear H;intro v55 akP a w auR H;have H:=H.assoc;dsimp only [lca,bM] at H;refine kH H (Ra M ?_);clear H;intro a H;refine aG ⟨M,?_⟩;refine dS _ _ ?_;clear dS;refine kP H (SC (Rd M (Rm M ?_)));clear H;intro a H;refine aG ?_;refine dY ((i+1,v55,xs2++[vi l[k].cells[i].id,.slice r1 r2 r3,vi (eU acc rej l[k].cells[i].head).marks.ins,vi (eU acc rej l[k].cells[i].head).marks.move,.slice r4 r5 r6,.slice r7 r8 r9,.slice Jc n52 JO],akP,_)) (by exact (H.fH (Pl:=[_,_,_,_,_]) (eD:=[_,_]) [3,4] Z M).sub ⟨M,M,M,M,M,M,M,M,M,M,aB⟩) ?_
    (try dsimp only);exact ⟨O,by rw [Tt hi2,Oc,iW];exact auR,by rw [Tt hi2,Oc,kR];exact (zQ.mono fun b o h=>NH b o (wS b o h)).snoc ahh M,fun b o h=>NH b o (wS b o (lQ b o h))⟩
   intro DJ a H
   try have p44:=dF DJ
   have Oc:pI acc rej l[k].cells[i]=[]:=by rw [agr,aD (by simpa using DJ)]
   refine kP H (Kc dS (SC (Rd M (Rm M ?_))));clear H dS;intro a H;refine aG ?_;refine dY ((i+1,_,xs2,Lc,_)) (by exact (H.fH (Pl:=[_,_,_,_]) (eD:=[_,_]) [2,3] Z M).sub ⟨M,M,M,M,M,M,M,M,M,M,aB⟩) ?_
   (try dsimp only);exact ⟨O,by rw [Tt hi2,Oc,ig];exact hrw2,by rw [Tt hi2,Oc,ig];exact zQ.mono wS,fun b o h=>wS b o (lQ b o h)⟩
  intro fq a H
  try have p34:=dF fq
  obtain rfl:i=l[k].cells.length:=by omega
  rw [yG] at hrw2 zQ hrl2 H;have H:=H.un (A:=[_,_]);obtain ⟨Gr,hmr,hrep,H⟩:=St.qp (Li:=[_,_]++Lo) H hrw2 (rows:=(gD acc rej l[k].cells).map aX.dat) (by simp) zQ;have sw:∀ b o,g b=some o->Gr b=some o:=fun b o h=>hmr b o (lQ b o (pG b o h));dsimp only [lca,bM] at H;refine dQ ?_;refine bU _ _ ?_;clear bU;refine kP H (SR fun _ iD=>Rm M (Rl qh M (Rc M (Kz iD (Cd M ?_ ?_))))) <;> clear H iD
  ·intro jg a H
   try have p59:=dT jg
   have hone:pq acc rej l[k]=[.mk (eU acc rej l[k].head) (gD acc rej l[k].cells)]:=by rw [hce,dK,eU,av Ic]
   have ahi:bB Gr (aV.dat (.mk (eU acc rej l[k].head) (gD acc rej l[k].cells))) [.slice q1 q2 q3,vi (eU acc rej l[k].head).marks.ins,vi (eU acc rej l[k].head).marks.move,.slice q4 q5 q6,.slice q7 q8 q9,.slice Ph (gD acc rej l[k].cells).length Pj]:=bB.Sr (x:=.mk (eU acc rej l[k].head) (gD acc rej l[k].cells)) (aud.mono fun b o h=>hmr b o (lQ b o h)) hrep;refine kP H (SC (Rm M ?_));clear H;intro a H;refine aU fB (cs:=[_,_,_,_,_]) H wn M M (H.hp.cB 0 M M) M ?_;clear H;intro a H;refine kH H (Rm M ?_);clear H;intro a H;refine jU ZX [_,_,_,_,_,_] H wn M M M M ?_;clear H;intro a H;refine iC nO jK [_,_,_,_,_,_] [_,_,_,_,_,_] H wn M M M M M (by intro i q h;match i,h with|0,h=>exact h|n+1,h=>simp at h) M M ?_;clear H;intro b64 a w aBZ H;refine og (Li:=[_,_,_]) (Lo:=Lo) (news:=[.slice q1 q2 q3,vi (eU acc rej l[k].head).marks.ins,vi (eU acc rej l[k].head).marks.move,.slice q4 q5 q6,.slice q7 q8 q9,.slice Ph (gD acc rej l[k].cells).length Pj]) nO jK M M H wn M M hrw M (H.hp.cB 0 M M) ahi.one O O M ?_;clear H;intro v65 akV a w auT H;refine kH H (bD K7 M (SC (Rd M (Rm M ?_))));clear H K7;intro a H;refine aG ?_;refine dY ((k+1,v65,xs++[.slice q1 q2 q3,vi (eU acc rej l[k].head).marks.ins,vi (eU acc rej l[k].head).marks.move,.slice q4 q5 q6,.slice q7 q8 q9,.slice Ph (gD acc rej l[k].cells).length Pj],akV,_)) (by exact (H.fH (Pl:=[_,_,_]) (eD:=[]) [] Z M).sub ⟨M,M,M,M,M,aB⟩) ?_
   (try dsimp only);exact ⟨O,by rw [TA hk2,hone,iW];exact auT,by rw [TA hk2,hone,kR];exact (fK.mono sw).snoc ahi M,fun b o h=>sw b o (hgm b o h)⟩
  intro jg a H
  try have p59:=dF jg
  have hone:pq acc rej l[k]=[]:=by rw [hce,nk]
  refine kP H (Kc K7 (SC (Rd M (Rm M ?_))));clear H K7;intro a H;refine aG ?_;refine dY ((k+1,v,xs,Lo,_)) (by exact (H.fH (Pl:=[_,_]) (eD:=[]) [] Z M).sub ⟨M,M,M,M,M,aB⟩) ?_
  (try dsimp only);exact abu
 intro h18 a H
 try have tN:=dF h18
 obtain rfl:k=l.length:=by omega
 rw [yG] at hrw fK;refine dQ ?_;refine K3 _ _ ?_;clear K3;refine kP H (SR fun _ jL=>Rm M (aj jL M ?_));clear H jL;intro a H;refine fE ?_;obtain ⟨G',hm,Il,H⟩:=H.qp (Li:=[]) hrw (rows:=(gT acc rej l).map aV.dat) (by simp) fK;refine lv H results165 M ?_;exact H.rt Il
set_option maxHeartbeats 4000000 in
theorem ayG {fv:ah} {n:Nat} (ih:P9 fv acc rej n) (hn:n<=536870912):P9 fv acc rej (n+1):=by
 intro G w0 hG hf l v hv hz;obtain ⟨A,c,rfl,hc1,hc2,hg⟩:=hv.slice
 have hml:4294967297<=maxLen:=by decide
 have hll:=Mh l;rw [bS] at *;refine eN [(0,_),(1,_)] func98 M ntmps98 M M hG ?_;intro a H;refine kP H (SR fun _ K1=>aj K1 M (SR fun _ K2=>aj K2 M (SQ fun _ K3=>SR fun _ K4=>Rm M (Rl jq M (Rm M (Kz K4 (SB ?_)))))));clear H K1 K2 K4;intro a H;skip;refine eX (ι:=Nat × ah × List ah × OL × GH) (Tc:=[(0,_),(10,_),(11,_)]) (Lc:=[]) (fun gh=>[(5,gh.2.1),(12,vi gh.1)]) (fun gh=>[]++gh.2.2.2.1) (fun gh=>gh.2.2.2.2) (fun gh=>gh.1<=l.length∧dw 68 11 gh.2.1 (dW acc rej (l.take gh.1)).length gh.2.2.1 gh.2.2.2.1∧dx gh.2.2.2.2 11 ((dW acc rej (l.take gh.1)).map au.dat) gh.2.2.1∧(∀ b o,G b=some o->gh.2.2.2.2 b=some o)) (fun gh=>l.length - gh.1) ((0,.slice none 0 0,[],[],G)) (by exact H.sub ⟨M,M,M,M,M,aB⟩) ?_ ?_
 ·exact JF
 clear H;rintro ⟨k,v,xs,Lo,g⟩ a w hI H;dsimp only at hI H;obtain ⟨hk,hrw,fK,hgm⟩:=hI;have hrl:=ajc (acc:=acc) (rej:=rej) (l.take k);rw [List.length_take] at hrl;dsimp only [lca,bM] at H;refine kP H (SR fun _ K5=>Rc M (Kz K5 (SQ fun _ K6=>Cd M ?_ ?_))) <;> clear H K5
 ·intro fT a H
  try have qL:=dT fT
  have hk2:k < l.length:=by omega
  obtain ⟨b_,o_,pA,pn,pc,dA,dn,dc,yA,yn,yc,fA,fn,fc,rA,rn,rc,rfl,hrow,hhd,hfl,hrs⟩:=Kh hk2 hg;replace hrow:=fun j u hj=>aC hgm (hrow j u hj);replace hhd:=hhd.mono hgm;replace hfl:=hfl.mono hgm;replace hrs:=hrs.mono hgm;have hzi:=Py hk2;have hce:=Tx (acc:=acc) (rej:=rej) l[k];refine kP H (Kc K6 (SQ fun _ K7=>SB (SR fun _ K8=>Ri jq gI M M ?_)));clear H K6;intro a H;refine aU gI (cs:=[_,_,_,_,_,_,_,_,_,_,_]) H wn M M (fun j v hj=>H.hp.aH (hrow j v hj)) M ?_;clear H;intro a H;refine dJ gI H wn M ?_;clear H;intro b7 a w xV H;refine bC gI 0 (vs:=[_,_,_,_,_,_,_,_,_,_,_]) H wn M ?_;clear H;intro w H;refine K8 _ _ ?_;clear K8;refine kP H (SR fun _ K9=>Rm M (Rf wN M ?_));clear H;intro a H;refine aU fB (cs:=[_,_,_,_,_]) H wn M M (H.hp.cB 0 M M) M ?_;clear H;intro a H;refine jO H wn M M (hf _ _ hgm H.ro l[k].head _ _ _ hhd O) M ?_;clear H;rintro v20 Jg a w atL ru H;obtain ⟨q1,q2,q3,q4,q5,q6,q7,q8,q9,rfl,XT⟩:=atL.ans;refine kH H (Rm M ?_);clear H;intro a H;(iterate 2 refine lT H wn M M M ?_;clear H;intro a H);refine dJ fB H wn M ?_;clear H;intro b8 a w DU H;refine bC fB 0 (vs:=[_,_,_,_,_]) H wn M ?_;clear H;intro w H;refine kH H (aj K9 M (SQ fun _ aR=>SR fun _ bq=>Rm M (Rn M (Kz bq (Cd M ?_ ?_))))) <;> clear H K9 bq
  ·intro cK a H
   try have kV:=dT cK
   have hone:nu acc rej l[k]=[]:=by rw [hce,aD (by simpa using cK)]
   refine dQ ?_;refine K7 _ _ ?_;clear K7;refine kP H (SC (Rd M (Rm M ?_)));clear H;intro a H;refine aG ?_;refine dY ((k+1,v,xs,Lo,_)) (by exact (H.fH (Pl:=[_,_]) (eD:=[]) [] Z M).sub ⟨M,M,M,M,M,aB⟩) ?_
   (try dsimp only);exact ⟨O,by rw [LG hk2,hone,ig];exact hrw,by rw [LG hk2,hone,ig];exact fK.mono ru,fun b o h=>ru b o (hgm b o h)⟩
  intro cK a H
  try have kV:=dF cK
  have Ic:¬ lZ acc rej l[k].head:=by simpa using cK
  rw [av Ic] at hce;have han:eU acc rej l[k].head=iI acc rej l[k].head:=av Ic;refine iE ?_;refine aR _ _ ?_;clear aR;refine dz (fun _ bP=>?_);refine aU fB (cs:=[_,_,_,_,_]) H wn M M (H.hp.cB 0 M M) M ?_;clear H;intro a H;refine kH H (Rf wN M ?_);clear H;intro a H;refine bC fB 1 (vs:=[_,_,_,_,_]) H wn M ?_;clear H;intro w H;refine bP _ _ ?_;clear bP;refine uj (ι:=au × List ah × GH) (Tc:=[(0,_),(5,_),(7,_),(10,_),(11,_),(12,_)]) (Lc:=[(_,_)]) (fun gh=>[]) (fun gh=>[(b7,.cells gh.2.1.toArray 68 (0,0))]++Lo) (fun gh=>gh.2.2) (fun gh=>nu acc rej l[k]=[gh.1]∧bB gh.2.2 gh.1.dat gh.2.1∧(∀ b o,Jg b=some o->gh.2.2 b=some o)) (by exact H.sub ⟨M,M,M,M,M,M,aB⟩) ?_ ?_
  ·skip;refine kP H (SR fun _ bU=>bQ lM aF 1 M M (Kz bU (SB (SR fun _ dh=>Rc M (aj dh M (Cd M ?_ ?_)))))) <;> clear H bU dh
   ·intro iq a H
    try have p29:=dT iq
    refine kP H (SC (Rm M (bQ zL kW 1 M M ?_)));clear H;intro a H;refine s_call WM H wn M (ih _ _ H.ro (hf.mono fun b o h=>ru b o (hgm b o h)) l[k].flow _ (hfl.mono ru) O) M ?_;clear H;rintro v34 Mk a w Fw Fe H;obtain ⟨Ey,n34,c34,rfl⟩:=Fw.form;refine kH H (Rf zL M ?_);clear H;intro a H;refine bC kW 1 (vs:=[_]) H wn M ?_;clear H;intro w H;refine aG ?_;refine ⟨(.mk l[k].kind l[k].code l[k].id l[k].text (eU acc rej l[k].head) (dW acc rej l[k].flow) l[k].rows,[vi l[k].kind,vi l[k].code,vi l[k].id,.string l[k].text,.slice q1 q2 q3,vi (eU acc rej l[k].head).marks.ins,vi (eU acc rej l[k].head).marks.move,.slice q4 q5 q6,.slice q7 q8 q9,.slice Ey n34 c34,.slice rA rn rc],Mk),by exact H.sub ⟨M,M,M,M,M,M,aB⟩,?_⟩;(try dsimp only);exact ⟨by rw [hce,aD p29,han],bB.mkItem (x:=.mk l[k].kind l[k].code l[k].id l[k].text (eU acc rej l[k].head) (dW acc rej l[k].flow) l[k].rows) (XT.mono Fe) Fw (hrs.mono fun b o h=>Fe b o (ru b o h)),Fe⟩
   intro iq a H
   try have p29:=dF iq
   refine kP H (SR fun _ dZ=>Rc M (aj dZ M (Cd M ?_ ?_))) <;> clear H dZ
   ·intro tq a H
    try have p36:=dT tq
    refine kP H (SR fun _ eu=>Rm M (bQ uw uL 1 M M ?_));clear H;intro a H;refine s_call aoU H wn M (ayI ih O _ _ H.ro (hf.mono fun b o h=>ru b o (hgm b o h)) l[k].rows _ (hrs.mono ru) O) M ?_;clear H;rintro v41 Jh a w Ye wS H;obtain ⟨A41,n41,c41,rfl⟩:=Ye.form;have agQ:=Ye.len;rw [bS] at agQ;subst agQ;refine kH H (Rf uw M ?_);clear H;intro a H;refine bC uL 1 (vs:=[_]) H wn M ?_;clear H;intro w H;refine eu _ _ ?_;clear eu;refine kP H (SR fun _ dS=>bQ uw uL 1 M M (Rl nO M (Rc M (Kz dS (Cd M ?_ ?_))))) <;> clear H dS
    ·intro h46 a H
     try have p46:=dT h46
     have hone:nu acc rej l[k]=[]:=by rw [hce,av p29,aD p36,nk]
     refine dQ ?_;refine K7 _ _ ?_;clear K7;refine kP H (SC (Rd M (Rm M ?_)));clear H;intro a H;refine aG ?_;refine dY ((k+1,v,xs,Lo,_)) (by exact (H.fH (Pl:=[_,_]) (eD:=[]) [] Z M).sub ⟨M,M,M,M,M,aB⟩) ?_
     (try dsimp only);exact ⟨O,by rw [LG hk2,hone,ig];exact hrw,by rw [LG hk2,hone,ig];exact fK.mono fun b o h=>wS b o (ru b o h),fun b o h=>wS b o (ru b o (hgm b o h))⟩
    intro h46 a H
    try have p46:=dF h46
    refine iE ?_;refine ⟨(.mk l[k].kind l[k].code l[k].id l[k].text (eU acc rej l[k].head) l[k].flow (gT acc rej l[k].rows),[vi l[k].kind,vi l[k].code,vi l[k].id,.string l[k].text,.slice q1 q2 q3,vi (eU acc rej l[k].head).marks.ins,vi (eU acc rej l[k].head).marks.move,.slice q4 q5 q6,.slice q7 q8 q9,.slice fA fn fc,.slice A41 (gT acc rej l[k].rows).length c41],Jh),by exact H.sub ⟨M,M,M,M,M,M,aB⟩,?_⟩;(try dsimp only);exact ⟨by rw [hce,av p29,aD p36,dK,han],bB.mkItem (x:=.mk l[k].kind l[k].code l[k].id l[k].text (eU acc rej l[k].head) l[k].flow (gT acc rej l[k].rows)) (XT.mono wS) (hfl.mono fun b o h=>wS b o (ru b o h)) Ye,wS⟩
   intro tq a H
   try have p36:=dF tq
   refine iE ?_;refine ⟨(.mk l[k].kind l[k].code l[k].id l[k].text (eU acc rej l[k].head) l[k].flow l[k].rows,[vi l[k].kind,vi l[k].code,vi l[k].id,.string l[k].text,.slice q1 q2 q3,vi (eU acc rej l[k].head).marks.ins,vi (eU acc rej l[k].head).marks.move,.slice q4 q5 q6,.slice q7 q8 q9,.slice fA fn fc,.slice rA rn rc],_),by exact H.sub ⟨M,M,M,M,M,M,aB⟩,?_⟩;(try dsimp only);exact ⟨by rw [hce,av p29,av p36,han],bB.mkItem (x:=.mk l[k].kind l[k].code l[k].id l[k].text (eU acc rej l[k].head) l[k].flow l[k].rows) XT (hfl.mono ru) (hrs.mono ru),fun _ _ h=>h⟩
  clear H;rintro ⟨y,cs9,g9⟩ a w hI H;dsimp only at hI H;obtain ⟨hone,Oj,Cv⟩:=hI;obtain ⟨e1,e2,e3,e4,e5,e6,e7,e8,e9,f1,f2,f3,f4,f5,f6,Ry,-,-,-⟩:=Oj.item;rw [Ry] at H;dsimp only [lca,bM] at H;refine kP H (SC (Rm M ?_));clear H;intro a H;refine aU gI (cs:=[_,_,_,_,_,_,_,_,_,_,_]) H wn M M (H.hp.cB 1 M M) M ?_;clear H;intro a H;refine iC jq gI [_,_,_,_,_,_,_,_,_,_,_] [_,_,_,_,_,_,_,_,_,_,_] H wn M M M M M (by intro i q h;match i,h with|0,h=>exact h|n+1,h=>simp at h) M M ?_;clear H;intro b49 a w aBW H;refine og (Li:=[_,_,_]) (Lo:=Lo) (news:=cs9) jq gI M M H wn M M hrw (by rw [Ry];rfl) (by rw [Ry];exact H.hp.cB 0 M M) Oj.one O O M ?_;clear H;intro v50 akS a w auQ H;refine kH H (bD K7 M (SC (Rd M (Rm M ?_))));clear H K7;intro a H;refine aG ?_;refine dY ((k+1,v50,xs++cs9,akS,_)) (by exact (H.fH (Pl:=[_,_,_]) (eD:=[]) [] Z M).sub ⟨M,M,M,M,M,aB⟩) ?_
  (try dsimp only);exact ⟨O,by rw [LG hk2,hone,iW];exact auQ,by rw [LG hk2,hone,kR];exact (fK.mono fun b o h=>Cv b o (ru b o h)).snoc Oj (by rw [Ry];rfl),fun b o h=>Cv b o (ru b o (hgm b o h))⟩
 intro fT a H
 try have qL:=dF fT
 obtain rfl:k=l.length:=by omega
 rw [yG] at hrw fK;refine dQ ?_;refine K3 _ _ ?_;clear K3;refine kP H (SR fun _ eY=>Rm M (aj eY M ?_));clear H eY;intro a H;refine fE ?_;obtain ⟨G',hm,Il,H⟩:=H.qp (Li:=[]) hrw (rows:=(dW acc rej l).map au.dat) (by simp) fK;refine lv H results98 M ?_;exact H.rt Il
theorem ajb {fv:ah}:∀ n:Nat,n<=536870913->P9 fv acc rej n
 | 0,_=>fun _ _ _ _ _ _ _ h=>absurd h O
 | n+1,hn=>ayG (ajb n O) O
end
def Ez (A:List au):Prop:=(∀ y∈A,¬ qX y)∧∀ o z y p,A=o++z :: y :: p->¬ pW z y
theorem ajB {A o p:List au} {x z y:au} (h:A++[x]=o++z :: y :: p):(p=[]∧A=o++[z]∧x=y)∨∃ p',p=p'++[x]∧A=o++z :: y :: p':=by
 rcases List.eq_nil_or_concat p with rfl|⟨p',w,rfl⟩
 ·have e:A++[x]=(o++[z])++[y]:=by rw [h];simp
  obtain ⟨e1,e2⟩:=List.append_inj' e M;exact .inl ⟨M,e1,by simpa using e2⟩
 have e:A++[x]=(o++z :: y :: p')++[w]:=by rw [h];simp
 obtain ⟨e1,e2⟩:=List.append_inj' e M
 have:x=w:=by simpa using e2
 exact .inr ⟨p',by rw [this,List.concat_eq_append],e1⟩
theorem adH {out:List au} {y:au} (h:Ez out):Ez (addN out y):=by
 by_cases hd:qX y
 ·rw [Jt hd];exact h
 by_cases hj:∃ o z,out=o++[z]∧pW z y
 ·obtain ⟨o,z,rfl,hz⟩:=hj;rw [BR hd hz];refine ⟨fun x hx=>?_,fun o' z' y' p e=>?_⟩
  ·rcases jQ.1 hx with hx|hx
   ·exact h.1 x (List.mem_append_left _ hx)
   rw [oC.1 hx];rintro (⟨h1,-⟩|⟨-,h2⟩)
   ·have:(mU z y).kind=1:=hz.2.1
    omega
   refine hd (.inr ⟨hz.1,?_⟩);rw [show (mU z y).text=z.text++y.text from rfl,ByteArray.size_append] at h2;omega
  rcases ajB e with ⟨rfl,e1,e2⟩|⟨p',rfl,e1⟩
  ·subst e2;refine fun hq=>h.2 o' z' z [] (by rw [e1];simp) ⟨hz.2.1,hq.2.1,hq.2.2⟩
  exact h.2 o' z' y' (p'++[z]) (by rw [e1];simp)
 have hn:∀ o z,out=o++[z]->¬ pW z y:=fun o z e hz=>hj ⟨o,z,e,hz⟩;rw [Dn hd hn];refine ⟨fun x hx=>?_,fun o' z' y' p e=>?_⟩
 ·rcases jQ.1 hx with hx|hx
  ·exact h.1 x hx
  rw [oC.1 hx];exact hd
 rcases ajB e with ⟨rfl,e1,rfl⟩|⟨p',rfl,e1⟩
 ·exact hn _ _ e1
 exact h.2 o' z' y' p' e1
theorem adI:∀ (A out:List au),Ez out->Ez (A.foldl addN out)
 | [],_,h=>h
 | y :: A,out,h=>adI A (addN out y) (adH h)
theorem adK:Ez []:=⟨fun _ h=>(by cases h),fun o z y p e=>by simp at e⟩
theorem adJ:∀ (A B:List au),Ez (A++B)->B.foldl addN A=A++B
 | A,[],_=>by simp
 | A,y :: B,h=>by
  have e:A++y :: B=(A++[y])++B:=by simp
  rw [List.foldl_cons,Dn (h.1 y (by simp)) fun o z e hz=>h.2 o z y B (by rw [e];simp) hz,adJ (A++[y]) B (by rw [<- e];exact h),e]
theorem asf {z y:au} (hz:nI z=z) (_:nI y=y) (_:pW z y):nI (mU z y)=mU z y:=by
 obtain ⟨k,c,i,tx,h,f,r⟩:=z;rw [nI] at hz
 injection hz with _ _ _ _ _ e1 e2
 show nI (.mk k c i (tx++y.text) h f r)=.mk k c i (tx++y.text) h f r
 rw [nI,e1,e2]
theorem WV {A:List au} (h:∀ x∈A,nI x=x):(mV (A.foldl addN [])).foldl addN []=A.foldl addN []:=by
 have h1:=WY (Q:=fun x=>nI x=x) (fun z y hz hy hj=>asf hz hy hj) A [] h (fun _ h=>by cases h)
 have h2:mV (A.foldl addN [])=A.foldl addN []:=by
  rw [Le];exact (List.map_congr_left h1).trans (List.map_id' _)
 rw [h2];have h3:=adJ [] (A.foldl addN []) (by rw [mO];exact adI A [] adK)
 rwa [mO] at h3
mutual
theorem awD:∀ x:au,nI (nI x)=nI x
 | .mk k c i tx h f r=>by
  have hf:=Sz f;have hr:=Zd r;rw [nI,nI,WV hf,hr]
theorem awE:∀ x:aV,nR (nR x)=nR x
 | .mk h cs=>by
  have hc:=aib cs;rw [nR,nR,hc]
theorem awx:∀ x:aX,nC (nC x)=nC x
 | .mk i h f=>by
  have hf:=Sz f;rw [nC,nC,WV hf]
theorem Sz:∀ l:List au,∀ x∈mV l,nI x=x
 | [],x,hx=>by rw [mV] at hx;cases hx
 | y :: l,x,hx=>by
  have h1:=awD y;have h2:=Sz l;rw [mV] at hx
  rcases gK.1 hx with rfl|hx
  ·exact h1
  exact h2 x hx
theorem Zd:∀ l:List aV,lG (lG l)=lG l
 | []=>by rw [lG,lG]
 | y :: l=>by rw [lG,lG,awE y,Zd l]
theorem aib:∀ l:List aX,lF (lF l)=lF l
 | []=>by rw [lF,lF]
 | y :: l=>by rw [lF,lF,awx y,aib l]
end
section
section
variable {N:Nat} {D:List Deferred} {w0:World} {F:Nat->Prop} {G0 G:GH} {L:OL} {T:List (Nat × ah)}
variable {r:Option Nat} {P:Program} {ops:Array Oper} {Q:Exit->Act->World->Prop} {rest:List Oper} {a:Act} {w:World}
variable {d:Nat} {ty:TypeId} {pos:String} {aQ:Array Edge} {g:Option (Nat × Bool)}
end
end
def ahL:Go.Shelf.Ren:=⟨fun|7=>90|10=>150|n=>n,fun|0=>0|3=>4|4=>4|23=>131|26=>3|27=>165|28=>166|33=>137|n=>n,fun n=>n⟩
theorem ahK:Go.Proofs.SlLaysZI.n7 prog ahL where
 mixed:=by kernel_rfl
 f7:=⟨f90.name,V,func90.trans (cZ some V)⟩
 f10:=⟨f150.name,V,func150.trans (cZ some V)⟩
 t0:=underlying0
 a0:=isAgg0
 z0:=sizeOf0
 v0:=zeroValue0
 t4:=underlying4
 a4:=isAgg4
 z4:=sizeOf4
 v4:=zeroValue4
 t23:=underlying131
 a23:=isAgg131
 z23:=sizeOf131
 v23:=zeroValue131
 t26:=underlying3
 a26:=isAgg3
 z26:=sizeOf3
 v26:=zeroValue3
 t27:=underlying165
 a27:=isAgg165
 z27:=sizeOf165
 v27:=zeroValue165
 t28:=underlying166
 a28:=isAgg166
 z28:=sizeOf166
 v28:=zeroValue166
 t33:=underlying137
 a33:=isAgg137
 z33:=sizeOf137
 v33:=zeroValue137
def ajD:Go.Shelf.Ren:=⟨fun|6=>89|8=>149|9=>148|11=>209|n=>n,fun|0=>0|24=>41|26=>3|28=>166|33=>137|n=>n,fun n=>n⟩
theorem aAo:Go.Proofs.SlLaysZI.n6 prog ajD where
 mixed:=by kernel_rfl
 f6:=⟨f89.name,V,func89.trans (cZ some V)⟩
 f8:=⟨f149.name,V,func149.trans (cZ some V)⟩
 f11:=⟨f209.name,V,func209.trans (cZ some V)⟩
 t0:=underlying0
 a0:=isAgg0
 z0:=sizeOf0
 v0:=zeroValue0
 t24:=underlying41
 a24:=isAgg41
 z24:=sizeOf41
 v24:=zeroValue41
 t26:=underlying3
 a26:=isAgg3
 z26:=sizeOf3
 v26:=zeroValue3
 t28:=underlying166
 a28:=isAgg166
 z28:=sizeOf166
 v28:=zeroValue166
 i26:=by kernel_rfl
def aAl:Go.Shelf.Ren:=⟨fun|5=>148|7=>207|8=>208|10=>230|11=>231|12=>232|13=>233|14=>234|15=>235|16=>114|17=>236|18=>237|19=>238|20=>239|30=>255|31=>256|32=>257|33=>258|34=>259|35=>174|40=>269|n=>n,fun|0=>0|3=>3|4=>4|5=>5|9=>9|22=>41|23=>41|25=>3|32=>199|35=>301|36=>302|41=>114|44=>308|46=>310|53=>328|57=>180|63=>344|64=>345|n=>n,fun n=>n⟩
theorem TQ:Go.Proofs.SlLaysM.n5 prog aAl where
 mixed:=by kernel_rfl
 f5:=⟨f148.name,V,func148.trans (cZ some V)⟩
 f7:=⟨f207.name,V,func207.trans (cZ some V)⟩
 f8:=func208.trans (cZ some V)
 f10:=⟨f230.name,V,func230.trans (cZ some V)⟩
 f11:=⟨f231.name,V,func231.trans (cZ some V)⟩
 f12:=⟨f232.name,V,func232.trans (cZ some V)⟩
 f13:=⟨f233.name,V,func233.trans (cZ some V)⟩
 f14:=⟨f234.name,V,func234.trans (cZ some V)⟩
 f15:=⟨f235.name,V,func235.trans (cZ some V)⟩
 f16:=⟨f114.name,V,func114.trans (cZ some V)⟩
 f17:=⟨f236.name,V,func236.trans (cZ some V)⟩
 f18:=⟨f237.name,V,func237.trans (cZ some V)⟩
 f19:=func238.trans (cZ some V)
 f20:=func239.trans (cZ some V)
 f30:=⟨f255.name,V,func255.trans (cZ some V)⟩
 f31:=func256.trans (cZ some V)
 f32:=func257.trans (cZ some V)
 f33:=⟨f258.name,V,func258.trans (cZ some V)⟩
 f34:=⟨f259.name,V,func259.trans (cZ some V)⟩
 f35:=⟨f174.name,V,func174.trans (cZ some V)⟩
 f40:=⟨f269.name,V,func269.trans (cZ some V)⟩
 t0:=underlying0
 a0:=isAgg0
 z0:=sizeOf0
 v0:=zeroValue0
 t3:=underlying3
 a3:=isAgg3
 z3:=sizeOf3
 v3:=zeroValue3
 t4:=underlying4
 a4:=isAgg4
 z4:=sizeOf4
 v4:=zeroValue4
 t5:=underlying5
 a5:=isAgg5
 z5:=sizeOf5
 v5:=zeroValue5
 t9:=underlying9
 a9:=isAgg9
 z9:=sizeOf9
 v9:=zeroValue9
 t22:=underlying41
 a22:=isAgg41
 z22:=sizeOf41
 v22:=zeroValue41
 t23:=underlying41
 a23:=isAgg41
 z23:=sizeOf41
 v23:=zeroValue41
 t25:=underlying3
 a25:=isAgg3
 z25:=sizeOf3
 v25:=zeroValue3
 t32:=underlying199
 a32:=isAgg199
 z32:=sizeOf199
 v32:=zeroValue199
 t35:=underlying301
 a35:=isAgg301
 z35:=sizeOf301
 v35:=zeroValue301
 t36:=underlying302
 a36:=isAgg302
 z36:=sizeOf302
 v36:=zeroValue302
 t41:=underlying114
 a41:=isAgg114
 z41:=sizeOf114
 v41:=zeroValue114
 t44:=underlying308
 a44:=isAgg308
 z44:=sizeOf308
 v44:=zeroValue308
 t46:=underlying310
 a46:=isAgg310
 z46:=sizeOf310
 v46:=zeroValue310
 t53:=underlying328
 a53:=isAgg328
 z53:=sizeOf328
 v53:=zeroValue328
 t57:=underlying180
 a57:=isAgg180
 z57:=sizeOf180
 v57:=zeroValue180
 t63:=underlying344
 a63:=isAgg344
 z63:=sizeOf344
 v63:=zeroValue344
 t64:=underlying345
 a64:=isAgg345
 z64:=sizeOf345
 v64:=zeroValue345
section
open Go.RowKit Go.Maps
theorem aeK:aS 148:=aT func148 M
theorem aoJ:aS 150:=aT func150 M
theorem auy {G:GH} {w:World} (h:Hold G w) {b:Nat} (hb:w.heap.size<=b):G b=none:=by
 cases hg:G b with
 | none=>rfl
 | some o=>exact absurd (lt_of_heap (h b o hg)) O
theorem afk {G:GH} {w w':World} (h:Hold G w) (hb:Below w.heap.size w w') {b:Nat} {o:Obj} (hn:w.heap.size<=b) (ho:w'.heap[b]?=some o):Ext w.heap.size G (G.add b o) w':=by
 refine ⟨fun k o' hk=>GH.Ju G (auy h hn) k o' hk,fun k o' hk=>?_,fun k o' hk=>?_⟩
 ·unfold GH.add at hk
  split at hk
  ·rename_i e;exact .inr (e ▸ hn)
  exact .inl hk
 unfold GH.add at hk
 split at hk
 ·rename_i e;rw [e,ho,hk]
 exact (hb.block k (lt_of_heap (h k o' hk))).trans (h k o' hk)
theorem awu (G:GH) (w0:World) (hG:Hold G w0) (mb:Option Nat) :
  Calls prog 90 #[.map mb] w0 (bG w0 G fun u G'=>∃ bx,u=.func (.func 150) #[] #[(aK bx 0)]∧G' bx=some (.cells #[.map mb] 131 (0,0))):=by
 have h:CallsIn Fence.wide 5 prog 90 #[.map mb] w0 fun e w'=>e=.returned (.func (.func 150) #[] #[(aK w0.heap.size 0)])∧w'=w0.alloc (.cells #[.map mb] 131):=AnyZI.keys_in ahK Fence.wide 5 trivial M mb w0;refine ((callsIn_wide (n:=5)).1 h).mono ?_;rintro e w' ⟨rfl,rfl⟩;have hb:Below w0.heap.size w0 (w0.alloc (.cells #[.map mb] 131)):=(Below.refl _ w0).alloc (eG _) _;exact ⟨_,_,M,hb,afk hG hb (eG _) (show (w0.heap.push _)[w0.heap.size]?=_ by simp),_,M,GH.Jv _ _ _⟩
def IW (_:ah):Option (DataW Unit × List MemPlace):=some (.nil,[])
theorem axl {w:World} {b clock:Nat} {es:Array MapEntry} {l:List Int} (hb:w.heap[b]?=some (.map es clock)) (hs:MapKept.Stamped es clock) (hk:es.toList.map (·.key)=l.map (Value.int .i64)) (hw:∀ k∈l,-9223372036854775808<=k∧k < 9223372036854775808) (hl:l.length<=4294967296) :
  ∃ D:DataW Unit,w.ownsMap prog 3 IW b l.length D∧(intKeys D).Perm l∧Maps.size D=l.length:=by
 have hlen:es.size=l.length:=by
  have:=cZ List.length hk
  simpa using this
 have hml:maxLen=9223372036854775807:=rfl
 have hr:∀ x∈es.toList,∃ k∈l,Go.WideElems.rd prog 3 IW x=some (.int .i64 k,.nil):=by
  intro x hx
  have h1:x.key∈l.map (Value.int .i64):=by rw [<- hk];exact List.mem_map_of_mem hx
  obtain ⟨k,h2,h3⟩:=List.mem_map.1 h1;obtain ⟨h4,h5⟩:=hw k h2
  have hwf:(Lit.int .i64 k).wf=true:=by
   show (decide (IntKind.i64.min<=k) && decide (k<=IntKind.i64.max))=true
   rw [show IntKind.i64.min=-9223372036854775808 by decide,show IntKind.i64.max=9223372036854775807 by decide]
   simp;omega
  refine ⟨k,h2,?_⟩
  unfold Go.WideElems.rd
  rw [<- h3]
  have h6:keyOf prog 3 (.int .i64 k)=some (.int .i64 k):=by
   unfold keyOf mapKey
   rw [underlying3]
   simp [hwf]
  rw [h6]
  rfl
 refine ⟨_,⟨es,clock,hb,⟨O,hs,fun x hx=>?_⟩,O,M⟩,?_,?_⟩
 ·obtain ⟨k,-,h⟩:=hr x hx;exact ⟨_,h⟩
 ·show (((es.toList.map (Go.WideElems.rg prog 3 IW)).foldr DataW.insert []).map fun p=>Go.intOf p.1).Perm l
  refine ((Go.WideShapes.sorted_perm _).map _).trans ?_;rw [List.map_map]
  have h1:es.toList.map ((fun p:Lit × DataW Unit=>Go.intOf p.1) ∘ Go.WideElems.rg prog 3 IW)=l:=by
   have h2:es.toList.map ((fun p:Lit × DataW Unit=>Go.intOf p.1) ∘ Go.WideElems.rg prog 3 IW)=(es.toList.map (·.key)).map fun v=>match v with|.int _ a=>a|_=>0:=by
    rw [List.map_map];refine List.map_congr_left fun x hx=>?_;obtain ⟨k,hkl,h⟩:=hr x hx
    obtain ⟨k',h3,h4⟩:∃ k',Go.WideElems.rd prog 3 IW x=some (.int .i64 k',.nil)∧x.key=.int .i64 k':=by
     have h5:x.key∈l.map (Value.int .i64):=by rw [<- hk];exact List.mem_map_of_mem hx
     obtain ⟨k',h6,h7⟩:=List.mem_map.1 h5;refine ⟨k,h,?_⟩;have h8:=Go.WideElems.rd_key h;obtain ⟨z,h9,h10,-⟩:=Maps.keyOf_i64 underlying3 h8
     cases h10
     exact h9
    simp only [Function.comp,Go.WideElems.rg_of h3,h4,Go.intOf]
   rw [h2,hk,List.map_map]
   simp [Function.comp_def]
  rw [h1]
 show ((es.toList.map (Go.WideElems.rg prog 3 IW)).foldr DataW.insert []).length=_
 rw [(Go.WideShapes.sorted_perm _).length_eq,bS,vM,hlen]
theorem aAq (m:Nat):AnyZI.SortsIn prog ajD Fence.wide m :=
  ⟨fun blk off cap ss W hH hblk hsz=>callsIn_wide.2 (AnyM.slices_Sort_int TQ blk off cap ss W hH hblk hsz),
   fun p cap W=>callsIn_wide.2 (AnyM.slices_Sort_int_none TQ p cap W)⟩
def oI (l:List Int):List Int:=l.mergeSort leI
theorem aAp (G:GH) (w0:World) (hG:Hold G w0) (b bx clock:Nat) (es:Array MapEntry) (l:List Int) (hbx:G bx=some (.cells #[.map (some b)] 131 (0,0))) (hb:w0.heap[b]?=some (.map es clock)) (hs:MapKept.Stamped es clock) (hk:es.toList.map (·.key)=l.map (Value.int .i64))
  (hw:∀ k∈l,-9223372036854775808<=k∧k < 9223372036854775808) (hl:l.length<=4294967296) :
  Calls prog 89 #[.func (.func 150) #[] #[(aK bx 0)]] w0 (bG w0 G fun u G'=>ak G' (.sl 1 ((oI l).map fun k=>[li k])) u):=by
 obtain ⟨D0,hown,hperm,hsize⟩:=axl hb hs hk hw hl;have hml:maxLen=9223372036854775807:=rfl
 have hseq:SeqGives Fence.wide 2 prog 150 #[(aK bx 0)] encZ (fun ss=>ss.Perm (intKeys D0)) (Maps.size D0) w0 :=
  AnyZI.keys_gives (ρ:=ahL) { ahK with } Fence.wide _ trivial M O bx b l.length D0 _ (lt_of_heap (hG _ _ hbx)) (by simp [World.cell?,hG _ _ hbx]) hown
 have cS:=AnyZI.sorted_in aAo Fence.wide 5 trivial trivial trivial trivial M O (aAq _) aeK 150 #[(aK bx 0)] trivial aoJ _ _ O O _ hseq
 change CallsIn _ _ prog 89 _ _ _ at cS
 refine ((callsIn_wide (n:=5)).1 cS).mono ?_;rintro e w' ⟨v,ss,rfl,hS,hrow,-,hbel⟩;have hS2:ss.mergeSort (fun x y=>decide (x<=y))=oI l:=mergeSort_of_perm_i (hS.trans hperm);rw [hS2] at hrow
 have hlen:ss.length=(oI l).length:=by rw [oI,List.length_mergeSort,hS.length_eq,hperm.length_eq]
 have fK:∀ (G1:GH) (xs:List Int),dx G1 1 (xs.map fun k=>[li k]) (xs.map encZ):=by
  intro G1 xs
  induction xs with
  | nil=>exact dx.nil
  | cons x xs ih =>
   have h8:=((dx.nil (G:=G1) (sz:=1)).snoc (q:=[li x]) (cs:=[encZ x]) (by simp [bB,ak,li,Value.oneCell']) M).append ih
   simpa using h8
 rcases hrow.2 with ⟨rfl,hz⟩|⟨gb,cap,cur,rfl,hbase,hgb,r1,r2,r3,r4⟩
 ·refine ⟨_,G,M,hbel,⟨fun _ _ h=>h,fun _ _ h=>.inl h,fun k o hk=>(hbel.block k (lt_of_heap (hG k o hk))).trans (hG k o hk)⟩,?_⟩;rw [List.eq_nil_of_length_eq_zero (by omega:(oI l).length=0)]
  simp only [ak]
  exact aaZ
 exact ⟨_,_,M,hbel,afk hG hbel hbase hgb,ak.wz (GH.Jv G gb _) (by simp [hlen]) r1 r2 (by simpa using r4) (fK _ _)⟩
end
section
abbrev iV (l:List Int):List (Int × ah):=l.map fun q=>(q,.bool true)
theorem ZP (l:List Int):(iV l).map (·.1)=l:=by rw [List.map_map];simp [Function.comp_def]
theorem ajv (l r:List Int):iV (l++r)=iV l++iV r:=kR
theorem Y6:∀ (i:Nat) (l:List (Int × ah)),(jh i l).map (·.key)=l.map fun x=>Value.int .i64 x.1
 | _,[]=>rfl
 | i,(k,v) :: r=>by rw [jh,fD,fD,Y6 (i+1) r]
theorem Y5:∀ (i:Nat) (l:List (Int × ah)),(jh i l).map (·.born)=List.range' i l.length
 | _,[]=>rfl
 | i,(k,v) :: r=>by rw [jh,fD,Y5 (i+1) r];rfl
theorem ahY:∀ (i n:Nat) (l:List (Int × ah)),(jh i l)[n]?=(l[n]?).map fun x=>⟨.int .i64 x.1,x.2,i+n⟩
 | _,_,[]=>rfl
 | i,0,(k,v) :: r=>rfl
 | i,n+1,(k,v) :: r=>by rw [jh,List.getElem?_cons_succ,List.getElem?_cons_succ,ahY (i+1) n r,show i+1+n=i+(n+1) by omega]
theorem awt {l:List (Int × ah)} (h:(l.map (·.1)).Nodup):MapKept.Stamped (jh 0 l).toArray l.length:=by
 refine ⟨fun x hx=>?_,?_,?_⟩
 ·have h1:=List.mem_map_of_mem (f:=(·.born)) hx
  rw [Y5] at h1
  have:=List.mem_range'_1.1 h1
  omega
 ·show ((jh 0 l).map (·.born)).Nodup
  rw [Y5];exact List.nodup_range'
 ·show ((jh 0 l).map (·.key)).Nodup
  rw [Y6,show (fun x:Int × ah=>Value.int .i64 x.1)=Value.int .i64 ∘ (·.1) from rfl,<- List.map_map]
  exact List.pairwise_map.2 (h.imp fun hne e=>hne (by injection e))
theorem WT (x:Int):∀ (i j:Nat) (l:List Int),∃ an,Instr.findNow (.int .i64) (.int .i64 x) (jh i (iV l)) j=some an∧((x∈l∧∃ n,an=some (j+n,.bool true)∧l[n]?=some x)∨(x∉l∧an=none))
 | _,_,[]=>⟨none,M,.inr ⟨by simp,M⟩⟩
 | i,j,k :: r=>by
  by_cases e:k=x
  ·subst e
   exact ⟨some (j,.bool true),by simp only [iV,fD,jh,Instr.findNow,Instr.sameNow,aD,beq_self_eq_true],.inl ⟨dX,0,M,M⟩⟩
  ·have hb:(x == k)=false:=by simp;exact fun h=>e h.symm
   obtain ⟨an,h1,h2⟩:=WT x (i+1) (j+1) r
   refine ⟨an,by simpa only [iV,fD,jh,Instr.findNow,Instr.sameNow,aD,hb] using h1,?_⟩
   rcases h2 with ⟨h3,n,h4,h5⟩|⟨h3,h4⟩
   ·exact .inl ⟨gW _ h3,n+1,by rw [h4,show j+1+n=j+(n+1) by omega],h5⟩
   ·exact .inr ⟨fun h=>(gK.1 h).elim (fun h=>e h.symm) h3,h4⟩
theorem Y7 {α β:Type} (f:α->β):∀ (l:List α) (j:Nat),(l.eraseIdx j).map f=(l.map f).eraseIdx j
 | [],_=>rfl
 | x :: l,0=>rfl
 | x :: l,j+1=>by rw [List.eraseIdx_cons_succ,fD,fD,List.eraseIdx_cons_succ,Y7 f l j]
def rQ (l:List Int) (x:Int):List Int:=if x∈l then l else l++[x]
theorem alf {l:List Int} {x y:Int}:y∈rQ l x↔y∈l∨y=x:=by
 unfold rQ
 split
 ·rename_i h
  exact ⟨.inl,fun h2=>h2.elim id fun e=>e ▸ h⟩
 ·simp
theorem alh {l:List Int} {x:Int} (h:l.Nodup):(rQ l x).Nodup:=by
 unfold rQ
 split
 ·exact h
 ·rename_i hx
  exact List.nodup_append.2 ⟨h,List.pairwise_singleton _ _,fun a ha b hb e=>hx (by rw [oC] at hb;rw [<- hb,<- e];exact ha)⟩
section
variable {N:Nat} {D:List Deferred} {w0:World} {F:Nat->Prop} {G0 G:GH} {L:OL} {T:List (Nat × ah)}
variable {r:Option Nat} {P:Program} {ops:Array Oper} {Q:Exit->Act->World->Prop} {rest:List Oper} {a:Act} {w:World}
variable {d:Nat} {ty:TypeId} {pos:String} {aQ:Array Edge} {g:Option (Nat × Bool)}
theorem ZL {t kt et:TypeId} {x y z:Operand} {b i:Nat} {l:List Int} {ky:Int} (hm:P.underlying t=some (.map kt et)) (hk:P.underlying kt=some (.int .i64)) (H:St N D w0 F G0 G L T a w)
  (hw:Region.wanted ⟨none,.mapUpdate t x y z,ty,pos,aQ,g⟩ (yielded ops a.tmps)=true) (hx:ev T x=some (.map (some b))) (hy:ev T y=some (.int .i64 ky)) (hzv:ev T z=some (.bool true)) (hi:L[i]?=some (b,fG (iV l)))
  (k:∀ w',St N D w0 F G0 G (L.set i (b,fG (iV (rQ l ky)))) T a w'->WL r P ops Q rest a w'):WL r P ops Q (⟨none,.mapUpdate t x y z,ty,pos,aQ,g⟩ :: rest) a w:=by
 obtain ⟨an,hf,han⟩:=WT ky 0 0 l
 rcases han with ⟨hm2,n,rfl,hn⟩|⟨hm2,rfl⟩
 ·have hkey:MapKept.IsKey (.int .i64) (.int .i64 ky):=by trivial
  have hb:w.heap[b]?=some (.map (jh 0 (iV l)).toArray (iV l).length):=H.hp.own _ (lV hi)
  have h1:=MapKept.run_checkKey (P:=P) (w:=w) hk hkey false 9999
  have h2:=MapKept.run_findKey (P:=P) (w:=w) (l:=(jh 0 (iV l)).toArray.toList) hk (by simpa using hf)
  have h3:=MapKept.run_keyThatStays (P:=P) (w:=w) hkey
  have hgn:(jh 0 (iV l))[n]?=some ⟨.int .i64 ky,.bool true,0+n⟩:=by
   rw [ahY];unfold iV;rw [tZ,hn];rfl
  have hg:((jh 0 (iV l)).toArray[n]?.map (·.key)).getD (.int .i64 ky)=.int .i64 ky:=by
   rw [List.getElem?_toArray,hgn];rfl
  have hmod:(jh 0 (iV l)).toArray.modify n (fun e=>{ e with key:=.int .i64 ky,val:=.bool true })=(jh 0 (iV l)).toArray:=by
   apply Array.ext_getElem?
   intro j
   rw [Array.getElem?_modify]
   by_cases hij:n=j
   ·subst hij
    rw [aD M,List.getElem?_toArray,hgn];rfl
   ·rw [av hij]
  have ha:rQ l ky=l:=by unfold rQ;rw [aD hm2]
  rw [ha] at k
  refine aaq (w':={ w with heap:=w.heap.setIfInBounds b (fG (iV l)) }) hw M ?_ (k _ (H.move (H.hp.upd hi (aak hb))))
  show (execOp a.eval _).run P w=.ok _ { w with heap:=w.heap.setIfInBounds b (.map (jh 0 (iV l)).toArray (iV l).length) }
  generalize (jh 0 (iV l)).toArray=es at hb h2 hg hmod |-
  simp [execOp,Instr.mapUpdate,H.ev hx,H.ev hy,H.ev hzv,dU,nZ hm,MapKept.run_getObj_map hb,h1,h2,hg,h3,hmod,MapKept.run_setObj_map _ hb,Result.andThen]
 ·refine LP hm hk H hw hx hy hzv hi (KZ (by rw [ZP];exact hm2)) fun w' H'=>k w' ?_
  have ha:rQ l ky=l++[ky]:=by unfold rQ;rw [av hm2]
  rw [ha,ajv]
  exact H'
theorem azf {t kt et:TypeId} {x y:Operand} {b i:Nat} {l:List Int} {ky:Int} (hm:P.underlying t=some (.map kt et)) (hk:P.underlying kt=some (.int .i64)) (hnd:l.Nodup) (H:St N D w0 F G0 G L T a w)
  (hw:Region.wanted ⟨none,.call { callee:=.builtin .delete,args:=#[x,y],argTypes:=#[t,kt] },ty,pos,aQ,g⟩ (yielded ops a.tmps)=true) (hx:ev T x=some (.map (some b))) (hy:ev T y=some (.int .i64 ky)) (hi:L[i]?=some (b,fG (iV l)))
  (k:∀ es clock w',MapKept.Stamped es clock->es.toList.map (·.key)=(l.filter fun q=>decide (q≠ky)).map (Value.int .i64)->St N D w0 F G0 G (L.set i (b,.map es clock)) T a w'->WL r P ops Q rest a w'):WL r P ops Q (⟨none,.call { callee:=.builtin .delete,args:=#[x,y],argTypes:=#[t,kt] },ty,pos,aQ,g⟩ :: rest) a w:=by
 obtain ⟨an,hf,han⟩:=WT ky 0 0 l
 have hkey:MapKept.IsKey (.int .i64) (.int .i64 ky):=by trivial
 have hb:w.heap[b]?=some (.map (jh 0 (iV l)).toArray (iV l).length):=H.hp.own _ (lV hi)
 have hst:=awt (l:=iV l) (by rw [ZP];exact hnd)
 have hks:(jh 0 (iV l)).toArray.toList.map (·.key)=l.map (Value.int .i64):=by
  show (jh 0 (iV l)).map (·.key)=_
  rw [Y6,List.map_map];rfl
 have h2:=fun es':Array MapEntry=>aak (o:=.map es' (iV l).length) hb
 have h3:=MapKept.run_findKey (P:=P) (w:=w) (l:=(jh 0 (iV l)).toArray.toList) hk (by simpa using hf)
 rcases han with ⟨hm2,n,rfl,hn⟩|⟨hm2,rfl⟩
 ·have hnl:n < l.length:=(ko.1 hn).1
  have hln:l[n]=ky:=(ko.1 hn).2
  have hsz:n < (jh 0 (iV l)).toArray.size:=by
   have:=cZ List.length hks
   simp at this
   simp;omega
  have atZ:((jh 0 (iV l)).toArray.eraseIdxIfInBounds n).toList=(jh 0 (iV l)).toArray.toList.eraseIdx n:=by
   unfold Array.eraseIdxIfInBounds
   rw [dif_pos hsz]
   simp
  refine fQ (v:=.tuple #[]) (w':={ w with heap:=w.heap.setIfInBounds b (.map ((jh 0 (iV l)).toArray.eraseIdxIfInBounds n) (iV l).length) }) hw M ?_
   (k _ _ _ (MapKept.stamped_erase hst n) ?_ (H.move (H.hp.upd hi (h2 _))))
  ·generalize (jh 0 (iV l)).toArray=es at hb h3 |-
   have h1:=MapKept.run_checkKey (P:=P) (w:=w) hk hkey es.isEmpty 9999
   simp [execOp,resolve,invoke,builtin,Builtin.delete_,H.ev hx,H.ev hy,dU,nZ hm,MapKept.run_getObj_map hb,h1,h3,MapKept.run_setObj_map _ hb,Result.andThen]
  ·rw [atZ,Y7,hks,<- Y7]
   congr 1
   have he:l.erase ky=l.eraseIdx n:=by
    have:=hnd.idxOf_getElem n hnl
    rw [hln] at this
    rw [<- this];exact List.erase_eq_eraseIdx_of_idxOf M
   rw [<- he,hnd.erase_eq_filter]
   exact List.filter_congr fun x _=>by by_cases h:x=ky <;> simp [h]
 ·refine fQ (v:=.tuple #[]) (w':={ w with heap:=w.heap.setIfInBounds b (.map (jh 0 (iV l)).toArray (iV l).length) }) hw M ?_ (k _ _ _ hst ?_ (H.move (H.hp.upd hi (h2 _))))
  ·generalize (jh 0 (iV l)).toArray=es at hb h3 |-
   have h1:=MapKept.run_checkKey (P:=P) (w:=w) hk hkey es.isEmpty 9999
   simp [execOp,resolve,invoke,builtin,Builtin.delete_,H.ev hx,H.ev hy,dU,nZ hm,MapKept.run_getObj_map hb,h1,h3,MapKept.run_setObj_map _ hb,Result.andThen]
  ·rw [hks,List.filter_eq_self.2 fun x hx=>mP (show ¬ x=ky from fun e=>hm2 (e ▸ hx))]
end
end
theorem aqJ:aS 90:=aT func90 M
theorem aqI:aS 89:=aT func89 M
theorem aff:aS 87:=aT func87 M
theorem aqm:aS 38:=aT func38 M
def refs (h:dN):List Int:=h.marks.ins :: (h.marks.bK.map gG.rev++h.marks.layers.map bZ.rev)
def nH (K l:List Int):List Int:=l.foldl rQ K
theorem MC (K l r:List Int):nH K (l++r)=nH (nH K l) r:=List.foldl_append
theorem ME {l:List Int}:∀ {K:List Int} {y:Int},y∈nH K l↔y∈K∨y∈l:=by
 induction l with
 | nil=>intro K y;simp [nH]
 | cons x l ih =>
  intro K y
  show y∈nH (rQ K x) l↔_
  rw [ih,alf,gK,or_assoc]
theorem UW {l:List Int}:∀ {K:List Int},K.Nodup->(nH K l).Nodup:=by
 induction l with
 | nil=>intro K h;exact h
 | cons x l ih=>intro K h;exact ih (alh h)
theorem aaF {l:List Int}:∀ {K:List Int},(nH K l).length<=K.length+l.length:=by
 induction l with
 | nil=>intro K;simp [nH]
 | cons x l ih =>
  intro K;have h1:=ih (K:=rQ K x)
  have h2:(rQ K x).length<=K.length+1:=by unfold rQ;split <;> simp
  show (nH (rQ K x) l).length<=_
  rw [lW];omega
theorem alj {K:List Int} {x:Int} {α:Type} {f:α->Int} {A:List α} {k:Nat} (hk:k < A.length):rQ (nH K (x :: (A.take k).map f)) (f A[k])=nH K (x :: (A.take (k+1)).map f):=by
 rw [kG hk,kR,<- qm,MC];rfl
theorem alk {K B:List Int} {x:Int} {α:Type} {f:α->Int} {A:List α} {k:Nat} (hk:k < A.length):rQ (nH K (x :: (B++(A.take k).map f))) (f A[k])=nH K (x :: (B++(A.take (k+1)).map f)):=by
 rw [kG hk,kR,show x :: (B++((A.take k).map f++[A[k]].map f))=(x :: (B++(A.take k).map f))++[f A[k]] from by simp,MC];rfl
abbrev CY (b3 bm:Nat) (K:List Int):OL:=[(b3,.cells #[.map (some bm)] 131 (0,0)),(bm,fG (iV K))]
set_option maxHeartbeats 2000000 in
theorem ait (G:GH) (w0:World) (b3 bm:Nat) (K:List Int) (h:dN) (p d y:Option Addr × Nat × Nat) (hR:jr G h (aW p) (aW d) (aW y)) (hO:gJ G (CY b3 bm K) w0) :
  Calls prog 87 #[.agg #[aW p,vi h.marks.ins,vi h.marks.move,aW d,aW y],(aK b3 0)] w0 (fV w0 G (CY b3 bm K) fun _ G' L'=>L'=CY b3 bm (nH K (refs h))):=by
 obtain ⟨dA,dn,dc⟩:=d;obtain ⟨yA,yn,yc⟩:=y;have hml:maxLen=9223372036854775807:=rfl;have hd:=hR.bK;have hy:=hR.layers;dsimp only [aW] at hd hy;have e1:=hd.len;have e2:=hy.len;rw [bS] at e1 e2;subst e1 e2;obtain ⟨_,_,hu1,hd1,hd2,-⟩:=hd.slice;obtain ⟨_,_,hu2,hy1,hy2,-⟩:=hy.slice
 injection hu1 with q1 q2 q3
 subst q1 q3
 injection hu2 with q1 q2 q3
 subst q1 q3;rw [bS] at hd1 hy1;refine jA (N:=35) (T:=[(0,_),(1,_)]) func87 M ntmps87 M M hO ?_;intro a H;refine dz (fun _ K1=>?_);refine dR (cs:=[_,_,_,_,_]) H wn M M M ?_;clear H;intro b2 a w hb2 H;refine K1 _ _ ?_;clear K1;refine kP H (SR fun _ K2=>Ro vC 1 M (Rf qo M (bQ sV aF 0 M M ?_)));clear H;intro a H;refine ZL (i:=2) xu mF H wn M M M M ?_;clear H;intro w H;dsimp only [List.set] at H;refine K2 _ _ ?_;clear K2;refine kP H (SQ fun _ K3=>SR fun _ K4=>Rf qo M (bQ uq uK 0 M M (Rl oK M (Rm M (Kz K4 (SB ?_))))));clear H K4;intro a H;skip;refine eX (ι:=Nat) (Tc:=[(1,_),(2,_),(13,_),(14,_)]) (Lc:=[(_,_),(_,_)]) (fun gh=>[(15,vi gh)]) (fun gh=>[(bm,fG (iV (nH K (h.marks.ins :: (h.marks.bK.take gh).map gG.rev))))]) (fun gh=>G) (fun gh=>gh<=h.marks.bK.length) (fun gh=>h.marks.bK.length - gh) (0) (by exact H.sub ⟨M,M,M,M,M,aB⟩) ?_ ?_
 ·exact lg _
 clear H;intro i a w hI H;have hi:=hI;dsimp only [lca,bM] at H;refine kP H (SR fun _ K5=>Rc M (Kz K5 (SQ fun _ K6=>Cd M ?_ ?_))) <;> clear H K5
 ·intro h16 a H
  try have p16:=dT h16
  have hi2:i < h.marks.bK.length:=by omega
  obtain ⟨b,o,rfl,hrow⟩:=QK hd hi2;refine kP H (Kc K6 (SQ fun _ K7=>SB (SR fun _ K8=>Ri oK oJ M M ?_)));clear H K6;intro a H;refine aU oJ (cs:=[_,_]) H wn M M (fun j v hj=>H.hp.aH (hrow j v hj)) M ?_;clear H;intro a H;refine dJ oJ H wn M ?_;clear H;intro b4 a w hb4 H;refine bC oJ 0 (vs:=[_,_]) H wn M ?_;clear H;intro w H;refine K8 _ _ ?_;clear K8;refine kP H (SC (Ro vC 2 M (bQ EO aF 0 M M ?_)));clear H;intro a H;refine ZL (i:=3) xu mF H wn M M M M ?_;clear H;intro w H;dsimp only [List.set] at H;rw [alj hi2] at H;refine kH H (Kn K7 (SC (Rd M (Rm M ?_))));clear H K7;intro a H;refine aG ?_;refine dY (i+1) (by exact (H.fH (Pl:=[_,_,_,_]) (eD:=[_,_,_]) [1,2,3] Z M).sub ⟨M,M,M,M,M,aB⟩) ?_
  omega
 intro h16 a H
 try have p16:=dF h16
 obtain rfl:i=h.marks.bK.length:=by omega
 rw [yG] at H;refine dQ ?_;refine K3 _ _ ?_;clear K3;refine kP H (SR fun _ K9=>Rf qo M (bQ Au BA 0 M M (Rl lU M (Rm M (Kz K9 (SB ?_))))));clear H K9;intro a H;skip;refine eX (ι:=Nat) (Tc:=[(1,_),(25,_),(26,_)]) (Lc:=[(_,_),(_,_)]) (fun gh=>[(27,vi gh)]) (fun gh=>[(bm,fG (iV (nH K (h.marks.ins :: (h.marks.bK.map gG.rev++(h.marks.layers.take gh).map bZ.rev)))))]) (fun gh=>G) (fun gh=>gh<=h.marks.layers.length) (fun gh=>h.marks.layers.length - gh) (0) (by exact (by rw [List.take_zero,sP,ig];exact (H.sub ⟨M,M,M,M,aB⟩))) ?_ ?_
 ·exact lg _
 clear H;intro k a w hI H;have hk:=hI;dsimp only [lca,bM] at H;refine kP H (SR fun _ aR=>Rc M (Kz aR (SQ fun _ bq=>Cd M ?_ ?_))) <;> clear H aR
 ·intro fZ a H
  try have p28:=dT fZ
  have hk2:k < h.marks.layers.length:=by omega
  obtain ⟨b,o,rfl,hrow⟩:=Fz hy hk2;refine kP H (Kc bq (SQ fun _ bP=>SB (SR fun _ bU=>Ri lU jP M M ?_)));clear H bq;intro a H;refine aU jP (cs:=[_,_,_,_]) H wn M M (fun j v hj=>H.hp.aH (hrow j v hj)) M ?_;clear H;intro a H;refine dJ jP H wn M ?_;clear H;intro b6 a w hb6 H;refine bC jP 0 (vs:=[_,_,_,_]) H wn M ?_;clear H;intro w H;refine bU _ _ ?_;clear bU;refine kP H (SC (Ro vC 2 M (bQ QV aF 0 M M ?_)));clear H;intro a H;refine ZL (i:=3) xu mF H wn M M M M ?_;clear H;intro w H;dsimp only [List.set] at H;rw [alk hk2] at H;refine kH H (Kn bP (SC (Rd M (Rm M ?_))));clear H bP;intro a H;refine aG ?_;refine dY (k+1) (by exact (H.fH (Pl:=[_,_,_,_]) (eD:=[_,_,_]) [1,2,3] Z M).sub ⟨M,M,M,M,aB⟩) ?_
  omega
 intro fZ a H
 try have p28:=dF fZ
 obtain rfl:k=h.marks.layers.length:=by omega
 rw [yG] at H;refine dQ ?_;refine (leave0 H results87 ?_).2;exact H.hp.mW (L':=CY b3 bm _) (by repeat (first|exact lX _|apply List.Sublist.cons)) M
def LC (d:gu):List Int:=(ku d.flow).flatMap refs++refs d.fin
def nP (d:gu):List Int:=(nH [] (LC d)).filter fun q=>decide (q≠0)
theorem axa {G:GH} {b3 bm:Nat} {hs:List dN}:CbU prog (.func (.func 87) #[] #[(aK b3 0)]) G (hs.map HY) fun k _ L=>L=CY b3 bm (nH [] ((hs.take k).flatMap refs)):=by
 rintro k args G1 L w ⟨p,hp,h⟩ hG rfl hO;rw [tZ] at hp;obtain ⟨x,hx,rfl⟩:=qD.1 hp;obtain ⟨q1,q2,q3,rfl,hR⟩:=h;obtain ⟨hk,rfl⟩:=ko.1 hx;refine jy (caps:=[(aK b3 0)]) aff ((ait G1 w b3 bm _ hs[k] q1 q2 q3 hR hO).mono ?_);rintro e w' ⟨v,G',L',rfl,hc,rfl⟩;exact ⟨v,G',_,M,hc,by show CY b3 bm _=CY b3 bm (nH [] ((hs.take (k+1)).flatMap refs));rw [kG hk,List.flatMap_append,MC];simp⟩
theorem anV (G:GH) (w0:World) (hG:Hold G w0) (D:kN) (d:gu) (hR:oL G D d) (hz:dH d.flow<=4294967296) (hw:∀ k∈nP d,-9223372036854775808<=k∧k < 9223372036854775808) (hl:(nP d).length<=4294967296) :
  Calls prog 38 #[D.val] w0 (bG w0 G fun u G'=>ak G' (.sl 1 ((oI (nP d)).map fun k=>[li k])) u):=by
 refine eN [(0,_)] func38 M ntmps38 M M hG ?_;intro a H;refine dz (fun _ K1=>?_);refine dR (cs:=[_,_,_,_,_,_,_,_,_,_,_]) H wn M M M ?_;clear H;intro b1 a w hb1 H;refine kH H (aj K1 M (SQ fun _ K2=>?_));clear H K1;intro a H;obtain ⟨Ga,hma,hb1',HQ⟩:=H.fF;clear H;have H:=HQ;clear HQ;have hga:=fun j v hj=>lY hb1' 0 D.cells M j v hj
 have hgd:∀ j v,[aW D.p,vi d.fin.marks.ins,vi d.fin.marks.move,aW D.d,aW D.y][j]?=some v->aH Ga b1 (1+j)=some v:=fun j v hj=>by rw [<- hR.ins,<- hR.mv] at hj;exact lY hb1' 1 [aW D.p,vi D.ins,vi D.move,aW D.d,aW D.y] M j v hj
 replace hR:=hR.mono hma;refine nU ?_;refine FN H wn M ?_;clear H;intro b5 a w hb5 H;refine dJ vC H wn M ?_;clear H;intro b3 a w hb3 H;refine bC vC 0 (vs:=[_]) H wn M ?_;clear H;intro w H;refine aG ?_;refine K2 _ _ ?_;clear K2;refine dz (fun _ K3=>?_);refine uJ H wn M M ?_;clear H;intro a H;refine kH H (aj K3 M (SR fun _ K4=>Rf vX M (Rg kW M (hga 0 _ M) (Rm M ?_))));clear H K3;intro a H;refine gM WI (Li:=[]) (L:=CY b3 b5 []) H wn M (agv 4294967297 O _ Ga ((ku d.flow).map HY) (fun k _ L=>L=CY b3 b5 (nH [] (((ku d.flow).take k).flatMap refs))) Ga _ _ 0 d.flow _ (fun _ _ h=>h) axa (fun _ _ _ _ _ h=>h) M (Hp.owns (Li:=[]) H.hp) hR.fl O (fun i a h=>by rw [gy,tZ,h];rfl)) rfl ?_;clear H;rintro v10 EA L10 a w rfl DW H;rw [gy,yG] at H;dsimp only [List.nil_append] at H;refine K4 _ _ ?_;clear K4;refine kP H (SR fun _ K5=>Rm M (Rf Cj M ?_));clear H;intro a H;refine aU fB (cs:=[aW D.p,vi d.fin.marks.ins,vi d.fin.marks.move,aW D.d,aW D.y]) H wn M M (fun j v hj=>H.hp.aH (aC DW (hgd j v hj))) M ?_;clear H;intro a H;refine El (Li:=[]) (L:=CY b3 b5 _) H wn M M (jy (caps:=[(aK b3 0)]) aff (ait _ _ b3 b5 _ d.fin D.p D.d D.y (hR.hd.mono DW) (Hp.owns (Li:=[]) H.hp))) M ?_;clear H;rintro v14 EB L14 a w rfl D6 H;rw [<- MC] at H;dsimp only [List.nil_append] at H;refine K5 _ _ ?_;clear K5;refine kP H (SR fun _ K6=>Ro vC 0 M ?_);clear H;intro a H;refine azf (i:=1) xu mF (UW List.nodup_nil) H wn M M M ?_;clear H;intro es clock w hst hks H;dsimp only [List.set] at H;refine K6 _ _ ?_;clear K6;refine kP H (SR fun _ K7=>Ro vC 0 M ?_);clear H;intro a H;refine s_call aqJ H wn M (awu _ _ H.ro _) M ?_;clear H;rintro v17 BI a w ⟨bx,rfl,hbx⟩ tH H;refine s_call aqI H wn M (aAp _ _ H.ro b5 bx clock es (nP d) hbx (H.hp.own (b5,.map es clock) (by simp)) hst hks hw hl) M ?_;clear H;rintro v18 G18 a w R4 hm18 H;exact kH H (aj K7 M (LR results38 M fun H=>H.rt R4))
theorem XO {C:bE} {e:Int} {h:dN} (hE:iG C e h=0):∀ q∈refs h,q=0∨q∈C.kM:=by
 have z:=lN hE;have h3:=z (jX C h.marks) (by simp);have h4:=z (iX (uo C h.marks.bK) h.marks.bK.length) (by simp);have h6:=z (iX (xZ C e h.marks.layers) h.marks.layers.length) (by simp);intro q hq
 unfold refs at hq
 rcases gK.1 hq with rfl|hq
 ·unfold jX at h3
  by_cases h0:h.marks.ins=0
  ·exact .inl h0
  refine .inr (Classical.byContradiction fun hn=>?_);rw [aD ⟨h0,hn⟩] at h3;cases h3
 rcases jQ.1 hq with hq|hq
 ·obtain ⟨x,hx,rfl⟩:=List.mem_map.1 hq;obtain ⟨k,hk,rfl⟩:=List.getElem_of_mem hx;have h5:=BX h4 k hk
  unfold uo at h5
  rw [eB hk] at h5;dsimp only [uT] at h5;refine .inr (Classical.byContradiction fun hn=>?_);rw [aD hn] at h5;cases h5
 obtain ⟨x,hx,rfl⟩:=List.mem_map.1 hq;obtain ⟨k,hk,rfl⟩:=List.getElem_of_mem hx;have h5:=BX h6 k hk
 unfold xZ at h5
 rw [eB hk] at h5;dsimp only [Bn] at h5;refine .inr (Classical.byContradiction fun hn=>?_);rw [aD hn] at h5;cases h5
def qz (C:bE) (L:List dN):Prop:=∀ h∈L,∃ e,iG C e h=0
theorem qz.nil (C:bE):qz C []:=fun _ h=>by cases h
theorem qz.cons {C:bE} {e:Int} {h:dN} {L:List dN} (h1:iG C e h=0) (h2:qz C L):qz C (h :: L):=fun x hx=>by
 rcases gK.1 hx with rfl|hx
 ·exact ⟨e,h1⟩
 exact h2 x hx
theorem qz.app {C:bE} {A B:List dN} (h1:qz C A) (h2:qz C B):qz C (A++B):=fun x hx=>(jQ.1 hx).elim (h1 x) (h2 x)
mutual
theorem auv (C:bE) (body note:Bool) (t:Int):∀ (x:au) (s s':CS),fO C body note t x s=(0,s')->qz C (AO x)
 | .mk k c i tx h f r,s,s',e=>by
  have hf:=RO C false true t f;have hr:=agU C note (t+1) r;rw [fO] at e;(iterate 2 obtain ⟨-,e⟩:=nT e);obtain ⟨e1,e⟩:=nT e;rw [AO];refine qz.cons e1 ?_
  by_cases h6:k=6
  ·exact abP
  rw [av h6] at e |-;rw [mO]
  by_cases h7:k=7
  ·rw [aD h7] at e |-;exact hr _ _ (Zx e).2
  rw [av h7];exact qz.nil C
theorem RO (C:bE) (body note:Bool) (t:Int):∀ (l:List au) (s s':CS),jT C body note t l s=(0,s')->qz C (ku l)
 | [],_,_,_=>by rw [ku];exact qz.nil C
 | x :: r,s,s',e=>by
  rw [jT] at e;obtain ⟨e1,e⟩:=nT e;rw [ku];exact (auv C body note t x s _ (Prod.ext e1 M)).app (RO C body note t r _ _ e)
theorem auw (C:bE) (note:Bool) (t:Int):∀ (x:aV) (s s':CS),zX C note t x s=(0,s')->qz C (Fa x)
 | .mk h cs,s,s',e=>by
  have hc:=agT C note t cs;rw [zX] at e;obtain ⟨e1,e⟩:=nT e;rw [Fa];exact qz.cons (lN e1 _ dX) (hc _ _ e)
theorem agU (C:bE) (note:Bool) (t:Int):∀ (l:List aV) (s s':CS),jd C note t l s=(0,s')->qz C (pU l)
 | [],_,_,_=>by rw [pU];exact qz.nil C
 | x :: r,s,s',e=>by
  rw [jd] at e;obtain ⟨e1,e⟩:=nT e;rw [pU];exact (auw C note t x s _ (Prod.ext e1 M)).app (agU C note t r _ _ e)
theorem auu (C:bE) (note:Bool) (t:Int):∀ (x:aX) (s s':CS),cellC C note t x s=(0,s')->qz C (E8 x)
 | .mk i h f,s,s',e=>by
  have hf:=RO C false note t f;rw [cellC] at e;obtain ⟨-,e⟩:=nT e;obtain ⟨e1,e⟩:=nT e;rw [E8];exact qz.cons e1 (hf _ _ e)
theorem agT (C:bE) (note:Bool) (t:Int):∀ (l:List aX) (s s':CS),qR C note t l s=(0,s')->qz C (qH l)
 | [],_,_,_=>by rw [qH];exact qz.nil C
 | x :: r,s,s',e=>by
  rw [qR] at e;obtain ⟨e1,e⟩:=nT e;rw [qH];exact (auu C note t x s _ (Prod.ext e1 M)).app (agT C note t r _ _ e)
end
theorem Te {d:gu} (hc:iT d=0):∀ q∈LC d,q=0∨q∈d.revs.map bV.id:=by
 have z:=lN hc;have h2:=z (dO [iG d.kS 3 d.fin,dL (vg d.fin.marks) 21]) (by simp);have h3:=z (jT d.kS true false 0 d.flow ⟨0,[]⟩).1 (by simp);have hi:=RO d.kS true false 0 d.flow _ _ (V9 h3);intro q hq
 unfold LC at hq
 rcases jQ.1 hq with hq|hq
 ·obtain ⟨h,hh,hq⟩:=List.mem_flatMap.1 hq;obtain ⟨e,he⟩:=hi h hh;exact XO he q hq
 exact XO (lN h2 _ dX) q hq
theorem aiS {d:gu} (hc:iT d=0):(d.revs.map bV.id).Pairwise (· < ·)∧∀ q∈d.revs.map bV.id,1<=q∧q<=1073741824:=by
 have h:=lN (lN hc _ dX) (Dx d.revs) (by simp);have h1:=lN h _ (dX);have h2:=lN h _ (gW _ dX)
 have hl:d.revs.length<=256:=by
  unfold dL at h1
  by_cases hd:256 < (d.revs.length:Int)
  ·rw [aD (aI hd)] at h1;cases h1
  omega
 have hi:∀ i (hi:i < d.revs.length),1<=d.revs[i].id∧d.revs[i].id<=1073741824∧(∀ k (hk:k < d.revs.length),k+1=i->d.revs[k].id < d.revs[i].id):=by
  intro i hi;have h3:=BX h2 i O
  unfold CP at h3
  rw [eB hi] at h3;have h4:=R9 (lN h3 _ dX);rw [eB hi] at h4;refine ⟨h4.1,h4.2.1,fun k hk e=>?_⟩;subst e;have h5:=h4.2.2 O;rw [Nat.add_sub_cancel,eB hk] at h5;exact h5
 refine ⟨List.pairwise_iff_getElem.2 ?_,fun q hq=>?_⟩
 ·intro i j hi' hj hij;rw [bS] at hi' hj;rw [List.getElem_map,List.getElem_map]
  induction j with
  | zero=>omega
  | succ j ih =>
   have h1:=(hi (j+1) hj).2.2 j O M
   by_cases e:i=j
   ·subst e;exact h1
   exact Int.lt_trans (ih O O O) h1
 obtain ⟨x,hx,rfl⟩:=List.mem_map.1 hq;obtain ⟨k,hk,rfl⟩:=List.getElem_of_mem hx;exact ⟨(hi k hk).1,(hi k hk).2.1⟩
theorem aA0 {d:gu} (hc:iT d=0) {q:Int} (h:q∈nP d):1<=q∧q<=1073741824:=by
 unfold nP at h
 rw [List.mem_filter,oM,ME] at h;obtain ⟨h1|h1,h2⟩:=h
 ·cases h1
 exact (aiS hc).2 q ((Te hc q h1).resolve_left h2)
theorem aAZ {d:gu} (hc:iT d=0):(nP d).length<=d.revs.length:=by
 obtain ⟨hi,-⟩:=aiS hc
 have hnd:(d.revs.map bV.id).Nodup:=hi.imp fun h=>by omega
 have hu:(nP d).Nodup:=(UW List.nodup_nil).sublist List.filter_sublist
 have hp:=(List.perm_ext_iff_of_nodup (hnd.sublist (List.filter_sublist (p:=fun q=>decide (q∈nP d)))) hu).2 fun q=>by
  rw [List.mem_filter,oM];refine ⟨fun h=>h.2,fun h=>⟨?_,h⟩⟩;have h1:=h
  unfold nP at h1
  rw [List.mem_filter,oM,ME] at h1;obtain ⟨h2|h2,h3⟩:=h1
  ·cases h2
  exact (Te hc q h2).resolve_left h3
 rw [<- hp.length_eq];exact Nat.le_trans (List.length_filter_le _ _) (by rw [bS];exact eG _)
theorem aop:aS 113:=aT func113 M
theorem OM (G:GH) (x:bV):bB G x.dat x.cells:=by
 simp only [bV.dat,bV.cells,bB]
 exact abd
def pJ (l:List bV):List ah:=(l.map bV.cells).flatten
theorem TG:∀ l:List bV,(pJ l).length=l.length*3
 | []=>rfl
 | p :: l=>by
  have:=TG l
  simp only [pJ,fD,List.flatten_cons,iW] at this |-
  rw [this,show p.cells.length=3 from rfl,lW];omega
theorem ZG:∀ {l:List bV} {k:Nat} (h:k < l.length) (j:Nat),j < 3->(pJ l)[k*3+j]?=l[k].cells[j]?
 | p :: l,0,_,j,hj=>by
  simp only [pJ,fD,List.flatten_cons,Nat.zero_mul,gy,List.getElem_cons_zero]
  rw [zG (by rw [show p.cells.length=3 from rfl];exact hj)]
 | p :: l,k+1,h,j,hj=>by
  have ih:=ZG (l:=l) (k:=k) (by simpa using h) j hj
  simp only [pJ,fD,List.flatten_cons,List.getElem_cons_succ] at ih |-
  rw [uO (by rw [show p.cells.length=3 from rfl];omega),show p.cells.length=3 from rfl,show (k+1)*3+j - 3=k*3+j by omega];exact ih
theorem ZF (l m:List bV):pJ (l++m)=pJ l++pJ m:=by simp [pJ]
theorem ayB {w0 w:World} {F:Nat->Prop} {G0 G:GH} {L Lo:OL} {e c n:Nat} {A:Option Addr} {l:List bV} (h:dw e 3 (.slice A n c) n (pJ l) Lo) (hn:n=l.length) (H:Hp w0 F G0 G L w) (hsub:∀ x∈Lo,x∈L) {k:Nat} (hk:k < l.length) :
  ∃ b,A=some ⟨b,0,none⟩∧∀ j u,[vi l[k].id,.string l[k].author,vi l[k].time][j]?=some u->w.cell? ⟨b,0+k*3+j,none⟩=some u:=by
 rcases h.2 with ⟨_,h0,_⟩|⟨b,cap,cur,he,hl,h1,h2,h3,h4⟩
 ·omega
 injection he with e1 e2 e3
 refine ⟨b,e1,fun j u hu=>?_⟩
 have hj:j < 3:=by have:=(ko.1 hu).1;simpa using this
 refine H.yh (c:=cur) (e:=e) (fz:=(0,0)) (hsub _ (by rw [hl];exact List.mem_singleton_self _)) ?_;have h5:=ZG hk j hj;rw [<- h4,uN,nk,Array.getElem?_toList] at h5;rw [show 0+k*3+j=k*3+j by omega,h5];exact hu
theorem abw {p:Prop} (h:p:=by
 first
  | exact H.hp.gL ⟨M,by rw [YE hk2 hno h16];rfl⟩
  | exact H.hp.gL ⟨M,by rw [show l.take k=l from jF O] at hno;rw [hno];rfl⟩):p:=h
theorem avE {G:GH} {w0:World} {Lo:OL} {v fv:ah} (l:List bV) (p:bV->Bool) (hO:gJ G Lo w0) (hrw:dw 102 3 v l.length (pJ l) Lo) (hf:∀ x∈l,uM fv G x.dat (p x)) :
  Calls prog 113 #[v,fv] w0 (fV w0 G Lo fun u G' L'=>L'=Lo∧u=vi (oG (l.findIdx? p))):=by
 obtain ⟨A,c,rfl,hc1,hc2⟩:=hrw.shape;have hml:maxLen=9223372036854775807:=rfl;refine jA (N:=19) (T:=[(0,_),(1,_)]) func113 M ntmps113 M M hO ?_;intro a H;refine kP H (SR fun _ K1=>aj K1 M (SQ fun _ K2=>SR fun _ K3=>Rm M (Rl om M (Rm M (Kz K3 (SB ?_))))));clear H K1 K3;intro a H;skip;refine eX (ι:=Nat × GH) (Tc:=[(0,_),(1,_),(7,_)]) (Lc:=[]) (fun gh=>[(8,vi gh.1)]) (fun gh=>[]++Lo) (fun gh=>gh.2) (fun gh=>gh.1<=l.length∧(l.take gh.1).findIdx? p=none∧(∀ b o,G b=some o->gh.2 b=some o)) (fun gh=>l.length - gh.1) ((0,G)) (by exact H.sub ⟨M,M,M,M,aB⟩) ?_ ?_
 ·exact rU
 clear H;rintro ⟨k,g⟩ a w hI H;dsimp only at hI H;obtain ⟨hk,hno,hgm⟩:=hI;dsimp only [lca,bM] at H;refine kP H (SR fun _ K4=>Rc M (Kz K4 (SQ fun _ K5=>Cd M ?_ ?_))) <;> clear H K4
 ·intro h9 a H
  try have p9:=dT h9
  have hk2:k < l.length:=by omega
  obtain ⟨b,rfl,hrow⟩:=ayB hrw M H.hp (fun x hx=>by first|exact hx|exact gW _ hx|simpa using hx) hk2;refine kP H (Kc K5 (SQ fun _ K6=>SB (SR fun _ K7=>Rm M (aj K7 M (SR fun _ K8=>Rm M (Rm M (Rm M (Ri om oh M M ?_))))))));clear H K5 K7;intro a H;refine aU oh (cs:=[vi l[k].id,.string l[k].author,vi l[k].time]) H wn M M hrow M ?_;clear H;intro a H;refine jO H wn M M (hf _ (lq hk2) _ _ _ hgm H.ro (OM _ l[k])) M ?_;clear H;rintro v16 tX a w rfl nL H;refine K8 _ _ ?_;clear K8;refine jw H M ?_ ?_
  ·intro h16
   try have p16:=dT h16
   refine kP H (SR fun _ K9=>Rm M (aj K9 M ?_));clear H K9;intro a H;refine lr H results113 M ?_
   exact abw
  intro h16
  try have p16:=dF h16
  refine kP H (Kc K6 (SC (Rd M (Rm M ?_))));clear H K6;intro a H;refine aG ?_;refine dY ((k+1,tX)) (by exact H.sub ⟨M,M,M,M,aB⟩) ?_
  (try dsimp only);exact U2
 intro h9 a H
 try have p9:=dF h9
 refine dQ ?_;refine K2 _ _ ?_;clear K2;refine kP H (SR fun _ aR=>aj aR M ?_);clear H aR;intro a H;refine lr H results113 M ?_
 exact abw
theorem ayq {G:GH} {l:List bV} {xs:List ah} (h:dx G 3 (l.map bV.dat) xs):xs=pJ l:=by
 obtain ⟨css,rfl,h2,h3⟩:=h;rw [bS] at h2
 have e:css=l.map bV.cells:=by
  apply List.ext_getElem?
  intro j;rw [tZ]
  by_cases hj:j < l.length
  ·have h4:=(h3 j l[j].dat css[j] (by simp [hj]) (eB O)).1;rw [eB hj,eB O,OJ h4];rfl
  rw [List.getElem?_eq_none O,List.getElem?_eq_none O];rfl
 rw [e];rfl
theorem aye {l:List bV} {p:bV->Bool} {i:Nat} (h:l.findIdx? p=some i):∃ hi:i < l.length,(l.take (i+1)).filter (fun x=>!p x)=l.take i:=by
 obtain ⟨hi,h1,h2⟩:=List.findIdx?_eq_some_iff_getElem.1 h;refine ⟨hi,?_⟩;rw [kG hi,List.filter_append,List.filter_eq_self.2]
 ·simp [h1]
 intro x hx;obtain ⟨j,hj,rfl⟩:=List.getElem_of_mem hx;rw [List.getElem_take]
 have hj2:j < i:=by rw [List.length_take] at hj;omega
 have:=h2 j hj2
 simpa using this
theorem ayf {l:List bV} {p:bV->Bool} (h:l.findIdx? p=none):l.filter (fun x=>!p x)=l:=by
 rw [List.findIdx?_eq_none_iff] at h
 exact List.filter_eq_self.2 fun x hx=>by rw [h x hx];rfl
theorem ayg {cl:List ah} {i:Nat} {x y z:ah} (h:i*3+3<=cl.length):(setRow cl (0+i*3) [x,y,z]).length=cl.length∧(setRow cl (0+i*3) [x,y,z]).take ((i+1)*3)=cl.take (i*3)++[x,y,z]∧∀ m,(i+1)*3<=m->(setRow cl (0+i*3) [x,y,z])[m]?=cl[m]?:=by
 have e:setRow cl (0+i*3) [x,y,z]=cl.take (i*3)++[x,y,z]++cl.drop (i*3+3):=by
  rw [gy,TP _ _ _ (by simpa using h)];rfl
 have hl:(cl.take (i*3)++[x,y,z]).length=(i+1)*3:=by rw [iW,List.length_take];simp;omega
 refine ⟨ZR ..,?_,fun m hm=>?_⟩
 ·rw [e,<- hl,List.take_left]
 rw [e,uO O,hl,List.getElem?_drop];congr 1;omega
theorem ayd {l:List bV} {cl:List ah} {i:Nat} (hi:i < l.length) (h:cl.take (l.length*3)=pJ l):cl.take (i*3)=pJ (l.take i):=by
 have e:cl.take (i*3)=(cl.take (l.length*3)).take (i*3):=by rw [List.take_take,Nat.min_eq_left O]
 have h2:pJ l=pJ (l.take i)++pJ (l.drop i):=by rw [<- ZF,List.take_append_drop]
 have h3:(pJ (l.take i)).length=i*3:=by rw [TG,List.length_take];omega
 rw [e,h,h2,<- h3,List.take_left]
theorem ayh {l:List bV} {p:bV->Bool} {j:Nat} (hj:j < l.length):(l.take (j+1)).filter (fun x=>!p x)=(l.take j).filter (fun x=>!p x)++if p l[j] then [] else [l[j]]:=by
 rw [kG hj,List.filter_append]
 cases h:p l[j] <;> simp [h]
set_option maxHeartbeats 1000000 in
theorem anS {G:GH} {w0:World} {Lo:OL} {v fv:ah} (l:List bV) (p:bV->Bool) (hO:gJ G Lo w0) (hrw:dw 102 3 v l.length (pJ l) Lo) (hf:∀ x∈l,uM fv G x.dat (p x)) :
  Calls prog 59 #[v,fv] w0 (fV w0 G Lo fun u G' L'=>dw 102 3 u (l.filter fun x=>!p x).length (pJ (l.filter fun x=>!p x)) L'):=by
 obtain ⟨A,c,rfl,hc1,hc2⟩:=hrw.shape;have hml:maxLen=9223372036854775807:=rfl;have hdl:=TG l;refine jA (N:=42) (T:=[(0,_),(1,_)]) func59 M ntmps59 M M hO ?_;intro a H;refine kP H (SR fun _ K1=>aj K1 M (SR fun _ K2=>Rm M (Rm M ?_)));clear H K1;intro a H;refine gM aop (Li:=[]) (L:=Lo) H wn M (avE l p (Hp.owns (Li:=[]) H.hp) hrw hf) M ?_;clear H;rintro v10 EA L10 a w ⟨rfl,rfl⟩ DW H;dsimp only [List.nil_append] at H;obtain ⟨o,ho⟩:∃ o,o=l.findIdx? p:=⟨_,M⟩;rw [<- ho] at H;refine kH H (aj K2 M (SQ fun _ K3=>SR fun _ K4=>Rm M (Rc M (Kz K4 (Cd M ?_ ?_))))) <;> clear H K2 K4
 ·intro h12 a H
  try have rE:=dT h12
  obtain rfl:o=none:=by cases o with|none=>rfl|some i=>first|(simp [oG] at rE;done)|(simp [oG] at rE;omega)
  exact kP H (SR fun _ K5=>Rm M (aj K5 M (LR results59 M fun H=>H.hp.gL (by rw [ayf ho.symm];exact hrw))))
 intro h12 a H
 try have rE:=dF h12
 obtain ⟨i0,rfl⟩:∃ i,o=some i:=by cases o with|none=>simp [oG] at rE|some i=>exact ⟨i,M⟩
 obtain ⟨hi0,hinit⟩:=aye ho.symm
 rcases hrw.2 with ⟨_,h0,_⟩|⟨b,cap,cur,he,rfl,hcap1,hcap2,hsz,htk⟩
 ·omega
 injection he with e1 e2 e3
 subst e1;subst e3;obtain ⟨cl0,rfl⟩:∃ cl:List ah,cur=cl.toArray:=⟨cur.toList,by simp⟩;rw [List.size_toArray] at hsz;dsimp only [oG] at H;refine kP H (Kc K3 (SQ fun _ K6=>SR fun _ K7=>Rm M (Rd M (aj K7 M (SB ?_)))));clear H K3 K7;intro a H;skip;refine eX (ι:=Nat × Nat × List ah × GH) (Tc:=[(0,_),(1,_)]) (Lc:=[]) (fun gh=>[(5,vi gh.2.1),(6,vi gh.1)]) (fun gh=>[(b,.cells gh.2.2.1.toArray 102 (0,0))]) (fun gh=>gh.2.2.2) (fun gh=>gh.2.1 < gh.1∧gh.1<=l.length∧gh.2.2.1.length=c*3∧gh.2.1=((l.take gh.1).filter fun x=>!p x).length∧gh.2.2.1.take (gh.2.1*3)=pJ ((l.take gh.1).filter fun x=>!p x)∧(∀ m,gh.1*3<=m->m < l.length*3->gh.2.2.1[m]?=(pJ l)[m]?)∧(∀ b o,G b=some o->gh.2.2.2 b=some o)) (fun gh=>l.length - gh.1) ((i0+1,i0,cl0,EA)) (by exact H.sub ⟨M,M,M,M,aB⟩) ?_ ?_
 ·exact ⟨Nat.lt_succ_self _,hi0,hsz,by rw [hinit,List.length_take];exact (Nat.min_eq_left (Nat.le_of_lt hi0)).symm,by rw [hinit];exact ayd hi0 htk,fun m h1 h2=>by rw [<- htk,uN,aD h2],DW⟩
 clear H;rintro ⟨j,i,cl,g⟩ a w hI H;dsimp only at hI H;obtain ⟨hij,hj,hcl,hil,hkept,hrest,hgm⟩:=hI;dsimp only [lca,bM] at H;refine kP H (SQ fun _ K8=>SR fun _ K9=>Rm M (Rm M (Rl om M (Rc M (Kz K9 (Cd M ?_ ?_)))))) <;> clear H K9
 ·intro h19 a H
  try have rF:=dT h19
  have hj2:j < l.length:=by omega
  have hjc:∀ q u,[vi l[j].id,.string l[j].author,vi l[j].time][q]?=some u->cl.toArray[0+j*3+q]?=some u:=fun q u hq=>by
   have hq2:q < 3:=by have:=(ko.1 hq).1;simpa using this
   rw [List.getElem?_toArray,gy,hrest _ O O,ZG hj2 q hq2];exact hq
  have hdt:=ayh (p:=p) hj2;refine kP H (Kc K8 (SQ fun _ aR=>SB (SR fun _ bq=>Rm M (Rm M (Ri om oh M M ?_)))));clear H K8;intro a H;refine aU oh (cs:=[vi l[j].id,.string l[j].author,vi l[j].time]) H wn M M (fun q u hq=>H.hp.yh (c:=cl.toArray) dX (hjc q u hq)) M ?_;clear H;intro a H;refine dJ oh H wn M ?_;clear H;intro b7 a w xV H;refine bC oh 0 (vs:=[_,_,_]) H wn M ?_;clear H;intro w H;refine bq _ _ ?_;clear bq;refine kP H (SR fun _ bP=>Rm M ?_);clear H;intro a H;refine aU oh (cs:=[_,_,_]) H wn M M (H.hp.cB 0 M M) M ?_;clear H;intro a H;refine jO H wn M M (hf _ (lq hj2) _ _ _ hgm H.ro (OM _ l[j])) M ?_;clear H;rintro v28 Mj a w rfl NU H;refine kH H (Rn M (Kz bP (Cd M ?_ ?_))) <;> clear H bP
  ·intro iq a H
   try have p29:=dT iq
   rw [av (by simpa using iq)] at hdt;have hds:=ayg (cl:=cl) (i:=i) (x:=vi l[j].id) (y:=.string l[j].author) (z:=vi l[j].time) O;refine kP H (SR fun _ bU=>Rm M (Rm M ?_));clear H;intro a H;refine aU oh (cs:=[_,_,_]) H wn M M (H.hp.cB 0 M M) M ?_;clear H;intro a H;refine kH H (Ri om oh M M ?_);clear H;intro a H;refine LQ oh 1 (c:=cl) (vs:=[vi l[j].id,.string l[j].author,vi l[j].time]) _ H wn M M M M M M (Nat.ble_eq_true_of_le (by simp only [lW,List.length_nil];omega)) rfl ?_;clear H;intro w H;dsimp only [List.set] at H;refine bU _ _ ?_;clear bU;refine kP H (SC (Rm M (Rd M (bD aR M (SC (Rm M (Rd M (Ra M ?_))))))));clear H aR;intro a H;refine aG ?_;refine dY ((j+1,i+1,setRow cl (0+i*3) [vi l[j].id,.string l[j].author,vi l[j].time],Mj)) (by exact (H.fH (Pl:=[_,_]) (eD:=[_]) [1] Z M).sub ⟨M,M,M,M,aB⟩) ?_
   (try dsimp only);exact ⟨O,O,by rw [hds.1,hcl],by rw [hdt,iW,<- hil];rfl,by rw [hdt,ZF,<- hkept,hds.2.1];rfl,fun m h1 h2=>by rw [hds.2.2 m O,hrest m O h2],fun b o h=>NU b o (hgm b o h)⟩
  intro iq a H
  try have p29:=dF iq
  rw [aD (by simpa using iq),ig] at hdt;refine kP H (Kc aR (SC (Rm M (Rd M (Ra M ?_)))));clear H aR;intro a H;refine aG ?_;refine dY ((j+1,i,cl,Mj)) (by exact (H.fH (Pl:=[_,_]) (eD:=[_]) [1] Z M).sub ⟨M,M,M,M,aB⟩) ?_
  (try dsimp only);exact ⟨O,O,hcl,by rw [hdt];exact hil,by rw [hdt];exact hkept,fun m h1 h2=>hrest m O h2,fun b o h=>NU b o (hgm b o h)⟩
 intro h19 a H
 try have rF:=dF h19
 refine dQ ?_;refine K6 _ _ ?_;clear K6;refine kP H (SR fun _ dh=>Rm M (Rm M ?_));clear H;intro a H;refine CW om oh i H wn M M M O M ?_;clear H;intro a H;rw [dK,wH,add_lit] at H;refine ajp om oh M M 0 H wn M M O O ?_;clear H;intro cz w hz1 hz2 H;dsimp only [List.set] at H;refine dh _ _ ?_;clear dh;refine kP H (SR fun _ dZ=>Rm M (Rm M ?_));clear H;intro a H;refine IY om oh i H wn M M M O M ?_;clear H;intro a H;refine kH H (aj dZ M ?_);clear H dZ;intro a H;refine lr H results59 M ?_
 obtain rfl:j=l.length:=by omega
 rw [yG] at hil hkept;exact H.hp.gL ⟨TG _,.inr ⟨b,c,cz.toArray,by rw [<- hil],M,O,hcap2,by rw [List.size_toArray,hz1,hcl],by rw [<- hkept,<- hil];rw [gy] at hz2;exact hz2⟩⟩
theorem alT {p:Prop} (h:p:=by
 exact H.hp.gL ⟨[],dw.nil,dx.nil⟩):p:=h
theorem JG {p:Prop} (h:p:=by
 exact H.hp.gL ⟨[],dw.empty,dx.nil⟩):p:=h
theorem JJ {p:Prop} (h:p:=by
 have hr0:=hnil (by simpa using h4);subst hr0;exact alT):p:=h
theorem adR (G:GH) (w0:World) (hO:gJ G [] w0) (rows:List (List Dat)) (A:Option Addr) (n c:Nat) (hv:ak G (.sl 3 rows) (.slice A n c)) (hz:rows.length<=4294967296) :
  Calls prog 60 #[.slice A n c] w0 (fV w0 G [] fun u G' L'=>∃ xs,dw 102 3 u rows.length xs L'∧dx G' 3 rows xs):=by
 obtain ⟨hn,hc1,hc2,hnil,hx⟩:=hv.cells;refine jA (N:=8) (T:=[(0,_)]) func60 M ntmps60 M M hO ?_;intro a H;refine kP H (SR fun _ K1=>aj K1 M (SQ fun _ K2=>SR fun _ K3=>Rm M ?_));clear H K1;intro a H;refine CU om H wn M M ?_;clear H;intro a H;refine K3 _ _ ?_;clear K3;refine jw H M ?_ ?_
 ·intro h4
  refine kP H (SR fun _ K4=>aj K4 M ?_);clear H K4;intro a H;refine lr H results60 M ?_;exact JJ
 intro h4
 try have p4:=dF h4
 refine iE ?_;refine K2 _ _ ?_;clear K2;refine bO (fun _ K5=>?_)
 have hA:¬ A=none:=by intro e;rw [e] at h4;cases h4
 refine nU ?_;refine Bv om oh H wn M ?_;clear H;intro b5 a w hb5 H;refine kH H (Rm M ?_);clear H;intro a H
 by_cases hr0:rows=[]
 ·have hn0:n=0:=by rw [hn,hr0];rfl
  subst hn0;refine Bu om oh H wn M M (eG _) M ?_;clear H;intro a H;refine kH H (bD K5 M ?_);clear H K5;intro a H;refine lr H results60 M ?_;subst hr0;exact JG
 obtain ⟨b,o,xs,rfl,hxl,hxc,hx1,fK⟩:=hx hr0;refine og (Li:=[]) (Lo:=[_]) (news:=xs) om oh M M H wn M M dw.empty hxl (fun j u hj=>H.hp.aH (hxc j u hj)) hx1 O O M ?_;clear H;intro v7 Lo a w hrow H;dsimp only [List.nil_append] at H;exact kH H (bD K5 M (LR results60 M fun H=>H.hp.gL ⟨_,by rw [gy,hn] at hrow;exact hrow,fK⟩))
theorem anq (G:GH) (w0:World) (hO:gJ G [] w0) (rows:List (List Dat)) (A:Option Addr) (n c:Nat) (hv:ak G (.sl 6 rows) (.slice A n c)) (hz:rows.length<=4294967296) :
  Calls prog 175 #[.slice A n c] w0 (fV w0 G [] fun u G' L'=>∃ xs,dw 192 6 u rows.length xs L'∧dx G' 6 rows xs):=by
 obtain ⟨hn,hc1,hc2,hnil,hx⟩:=hv.cells;refine jA (N:=8) (T:=[(0,_)]) func175 M ntmps175 M M hO ?_;intro a H;refine kP H (SR fun _ K1=>aj K1 M (SQ fun _ K2=>SR fun _ K3=>Rm M ?_));clear H K1;intro a H;refine CU lJ H wn M M ?_;clear H;intro a H;refine K3 _ _ ?_;clear K3;refine jw H M ?_ ?_
 ·intro h4
  refine kP H (SR fun _ K4=>aj K4 M ?_);clear H K4;intro a H;refine lr H results175 M ?_;exact JJ
 intro h4
 try have p4:=dF h4
 refine iE ?_;refine K2 _ _ ?_;clear K2;refine bO (fun _ K5=>?_)
 have hA:¬ A=none:=by intro e;rw [e] at h4;cases h4
 refine nU ?_;refine Bv lJ jf H wn M ?_;clear H;intro b5 a w hb5 H;refine kH H (Rm M ?_);clear H;intro a H
 by_cases hr0:rows=[]
 ·have hn0:n=0:=by rw [hn,hr0];rfl
  subst hn0;refine Bu lJ jf H wn M M (eG _) M ?_;clear H;intro a H;refine kH H (bD K5 M ?_);clear H K5;intro a H;refine lr H results175 M ?_;subst hr0;exact JG
 obtain ⟨b,o,xs,rfl,hxl,hxc,hx1,fK⟩:=hx hr0;refine og (Li:=[]) (Lo:=[_]) (news:=xs) lJ jf M M H wn M M dw.empty hxl (fun j u hj=>H.hp.aH (hxc j u hj)) hx1 O O M ?_;clear H;intro v7 Lo a w hrow H;dsimp only [List.nil_append] at H;exact kH H (bD K5 M (LR results175 M fun H=>H.hp.gL ⟨_,by rw [gy,hn] at hrow;exact hrow,fK⟩))
theorem anp (G:GH) (w0:World) (hO:gJ G [] w0) (rows:List (List Dat)) (A:Option Addr) (n c:Nat) (hv:ak G (.sl 2 rows) (.slice A n c)) (hz:rows.length<=4294967296) :
  Calls prog 176 #[.slice A n c] w0 (fV w0 G [] fun u G' L'=>∃ xs,dw 93 2 u rows.length xs L'∧dx G' 2 rows xs):=by
 obtain ⟨hn,hc1,hc2,hnil,hx⟩:=hv.cells;refine jA (N:=8) (T:=[(0,_)]) func176 M ntmps176 M M hO ?_;intro a H;refine kP H (SR fun _ K1=>aj K1 M (SQ fun _ K2=>SR fun _ K3=>Rm M ?_));clear H K1;intro a H;refine CU tT H wn M M ?_;clear H;intro a H;refine K3 _ _ ?_;clear K3;refine jw H M ?_ ?_
 ·intro h4
  refine kP H (SR fun _ K4=>aj K4 M ?_);clear H K4;intro a H;refine lr H results176 M ?_;exact JJ
 intro h4
 try have p4:=dF h4
 refine iE ?_;refine K2 _ _ ?_;clear K2;refine bO (fun _ K5=>?_)
 have hA:¬ A=none:=by intro e;rw [e] at h4;cases h4
 refine nU ?_;refine Bv tT rJ H wn M ?_;clear H;intro b5 a w hb5 H;refine kH H (Rm M ?_);clear H;intro a H
 by_cases hr0:rows=[]
 ·have hn0:n=0:=by rw [hn,hr0];rfl
  subst hn0;refine Bu tT rJ H wn M M (eG _) M ?_;clear H;intro a H;refine kH H (bD K5 M ?_);clear H K5;intro a H;refine lr H results176 M ?_;subst hr0;exact JG
 obtain ⟨b,o,xs,rfl,hxl,hxc,hx1,fK⟩:=hx hr0;refine og (Li:=[]) (Lo:=[_]) (news:=xs) tT rJ M M H wn M M dw.empty hxl (fun j u hj=>H.hp.aH (hxc j u hj)) hx1 O O M ?_;clear H;intro v7 Lo a w hrow H;dsimp only [List.nil_append] at H;exact kH H (bD K5 M (LR results176 M fun H=>H.hp.gL ⟨_,by rw [gy,hn] at hrow;exact hrow,fK⟩))
theorem anm (G:GH) (w0:World) (hO:gJ G [] w0) (rows:List (List Dat)) (A:Option Addr) (n c:Nat) (hv:ak G (.sl 6 rows) (.slice A n c)) (hz:rows.length<=4294967296) :
  Calls prog 177 #[.slice A n c] w0 (fV w0 G [] fun u G' L'=>∃ xs,dw 107 6 u rows.length xs L'∧dx G' 6 rows xs):=by
 obtain ⟨hn,hc1,hc2,hnil,hx⟩:=hv.cells;refine jA (N:=8) (T:=[(0,_)]) func177 M ntmps177 M M hO ?_;intro a H;refine kP H (SR fun _ K1=>aj K1 M (SQ fun _ K2=>SR fun _ K3=>Rm M ?_));clear H K1;intro a H;refine CU vE H wn M M ?_;clear H;intro a H;refine K3 _ _ ?_;clear K3;refine jw H M ?_ ?_
 ·intro h4
  refine kP H (SR fun _ K4=>aj K4 M ?_);clear H K4;intro a H;refine lr H results177 M ?_;exact JJ
 intro h4
 try have p4:=dF h4
 refine iE ?_;refine K2 _ _ ?_;clear K2;refine bO (fun _ K5=>?_)
 have hA:¬ A=none:=by intro e;rw [e] at h4;cases h4
 refine nU ?_;refine Bv vE wZ H wn M ?_;clear H;intro b5 a w hb5 H;refine kH H (Rm M ?_);clear H;intro a H
 by_cases hr0:rows=[]
 ·have hn0:n=0:=by rw [hn,hr0];rfl
  subst hn0;refine Bu vE wZ H wn M M (eG _) M ?_;clear H;intro a H;refine kH H (bD K5 M ?_);clear H K5;intro a H;refine lr H results177 M ?_;subst hr0;exact JG
 obtain ⟨b,o,xs,rfl,hxl,hxc,hx1,fK⟩:=hx hr0;refine og (Li:=[]) (Lo:=[_]) (news:=xs) vE wZ M M H wn M M dw.empty hxl (fun j u hj=>H.hp.aH (hxc j u hj)) hx1 O O M ?_;clear H;intro v7 Lo a w hrow H;dsimp only [List.nil_append] at H;exact kH H (bD K5 M (LR results177 M fun H=>H.hp.gL ⟨_,by rw [gy,hn] at hrow;exact hrow,fK⟩))
theorem anh (G:GH) (w0:World) (hG:Hold G w0) (rows:List (List Dat)) (A:Option Addr) (n c:Nat) (hv:ak G (.sl 6 rows) (.slice A n c)) (hz:rows.length<=4294967296) :
  Calls prog 177 #[.slice A n c] w0 (bG w0 G fun u G'=>ak G' (.sl 6 rows) u):=JQ hG (anm G w0 (wY hG) rows A n c hv hz) M
theorem anr (G:GH) (w0:World) (hO:gJ G [] w0) (rows:List (List Dat)) (A:Option Addr) (n c:Nat) (hv:ak G (.sl 2 rows) (.slice A n c)) (hz:rows.length<=4294967296) :
  Calls prog 178 #[.slice A n c] w0 (fV w0 G [] fun u G' L'=>∃ xs,dw 110 2 u rows.length xs L'∧dx G' 2 rows xs):=by
 obtain ⟨hn,hc1,hc2,hnil,hx⟩:=hv.cells;refine jA (N:=8) (T:=[(0,_)]) func178 M ntmps178 M M hO ?_;intro a H;refine kP H (SR fun _ K1=>aj K1 M (SQ fun _ K2=>SR fun _ K3=>Rm M ?_));clear H K1;intro a H;refine CU sH H wn M M ?_;clear H;intro a H;refine K3 _ _ ?_;clear K3;refine jw H M ?_ ?_
 ·intro h4
  refine kP H (SR fun _ K4=>aj K4 M ?_);clear H K4;intro a H;refine lr H results178 M ?_;exact JJ
 intro h4
 try have p4:=dF h4
 refine iE ?_;refine K2 _ _ ?_;clear K2;refine bO (fun _ K5=>?_)
 have hA:¬ A=none:=by intro e;rw [e] at h4;cases h4
 refine nU ?_;refine Bv sH xg H wn M ?_;clear H;intro b5 a w hb5 H;refine kH H (Rm M ?_);clear H;intro a H
 by_cases hr0:rows=[]
 ·have hn0:n=0:=by rw [hn,hr0];rfl
  subst hn0;refine Bu sH xg H wn M M (eG _) M ?_;clear H;intro a H;refine kH H (bD K5 M ?_);clear H K5;intro a H;refine lr H results178 M ?_;subst hr0;exact JG
 obtain ⟨b,o,xs,rfl,hxl,hxc,hx1,fK⟩:=hx hr0;refine og (Li:=[]) (Lo:=[_]) (news:=xs) sH xg M M H wn M M dw.empty hxl (fun j u hj=>H.hp.aH (hxc j u hj)) hx1 O O M ?_;clear H;intro v7 Lo a w hrow H;dsimp only [List.nil_append] at H;exact kH H (bD K5 M (LR results178 M fun H=>H.hp.gL ⟨_,by rw [gy,hn] at hrow;exact hrow,fK⟩))
theorem anj (G:GH) (w0:World) (hG:Hold G w0) (rows:List (List Dat)) (A:Option Addr) (n c:Nat) (hv:ak G (.sl 2 rows) (.slice A n c)) (hz:rows.length<=4294967296) :
  Calls prog 178 #[.slice A n c] w0 (bG w0 G fun u G'=>ak G' (.sl 2 rows) u):=JQ hG (anr G w0 (wY hG) rows A n c hv hz) M
theorem ano (G:GH) (w0:World) (hO:gJ G [] w0) (rows:List (List Dat)) (A:Option Addr) (n c:Nat) (hv:ak G (.sl 4 rows) (.slice A n c)) (hz:rows.length<=4294967296) :
  Calls prog 179 #[.slice A n c] w0 (fV w0 G [] fun u G' L'=>∃ xs,dw 96 4 u rows.length xs L'∧dx G' 4 rows xs):=by
 obtain ⟨hn,hc1,hc2,hnil,hx⟩:=hv.cells;refine jA (N:=8) (T:=[(0,_)]) func179 M ntmps179 M M hO ?_;intro a H;refine kP H (SR fun _ K1=>aj K1 M (SQ fun _ K2=>SR fun _ K3=>Rm M ?_));clear H K1;intro a H;refine CU zu H wn M M ?_;clear H;intro a H;refine K3 _ _ ?_;clear K3;refine jw H M ?_ ?_
 ·intro h4
  refine kP H (SR fun _ K4=>aj K4 M ?_);clear H K4;intro a H;refine lr H results179 M ?_;exact JJ
 intro h4
 try have p4:=dF h4
 refine iE ?_;refine K2 _ _ ?_;clear K2;refine bO (fun _ K5=>?_)
 have hA:¬ A=none:=by intro e;rw [e] at h4;cases h4
 refine nU ?_;refine Bv zu BD H wn M ?_;clear H;intro b5 a w hb5 H;refine kH H (Rm M ?_);clear H;intro a H
 by_cases hr0:rows=[]
 ·have hn0:n=0:=by rw [hn,hr0];rfl
  subst hn0;refine Bu zu BD H wn M M (eG _) M ?_;clear H;intro a H;refine kH H (bD K5 M ?_);clear H K5;intro a H;refine lr H results179 M ?_;subst hr0;exact JG
 obtain ⟨b,o,xs,rfl,hxl,hxc,hx1,fK⟩:=hx hr0;refine og (Li:=[]) (Lo:=[_]) (news:=xs) zu BD M M H wn M M dw.empty hxl (fun j u hj=>H.hp.aH (hxc j u hj)) hx1 O O M ?_;clear H;intro v7 Lo a w hrow H;dsimp only [List.nil_append] at H;exact kH H (bD K5 M (LR results179 M fun H=>H.hp.gL ⟨_,by rw [gy,hn] at hrow;exact hrow,fK⟩))
theorem ani (G:GH) (w0:World) (hG:Hold G w0) (rows:List (List Dat)) (A:Option Addr) (n c:Nat) (hv:ak G (.sl 4 rows) (.slice A n c)) (hz:rows.length<=4294967296) :
  Calls prog 179 #[.slice A n c] w0 (bG w0 G fun u G'=>ak G' (.sl 4 rows) u):=JQ hG (ano G w0 (wY hG) rows A n c hv hz) M
theorem apb:aS 175:=aT func175 M
theorem apc:aS 176:=aT func176 M
theorem apd:aS 177:=aT func177 M
theorem ape:aS 178:=aT func178 M
theorem aAw:qQ prog 36 [(0,1),(1,1),(2,1),(3,1)] [.slice none 0 0,.slice none 0 0,.slice none 0 0,.slice none 0 0]:=⟨V,V⟩
theorem apf:aS 179:=aT func179 M
theorem bB.setAt {G:GH}:∀ {r:List Dat} {cs:List ah} {k:Nat} {d:Dat} {v:ah},bB G r cs->r[k]?=some d->ak G d v->bB G r (cs.set k v)
 | [],_,_,_,_,_,h,_=>by simp at h
 | e :: r,cs,k,d,v,h,hk,hv=>by
  simp only [bB] at h |-
  obtain ⟨x,vs,rfl,h1,h2⟩:=h
  cases k with
  | zero =>
   simp only [BU,pO] at hk
   subst hk;exact ⟨v,vs,M,hv,h2⟩
  | succ k=>exact ⟨x,vs.set k v,M,h1,bB.setAt h2 (by simpa using hk) hv⟩
theorem dx.setAt {G:GH} {sz:Nat}:∀ {rows:List (List Dat)} {xs:List ah} {i k:Nat} {r:List Dat} {d:Dat} {v:ah},dx G sz rows xs->rows[i]?=some r->r[k]?=some d->k < sz->ak G d v->dx G sz rows (xs.set (i*sz+k) v)
 | [],_,_,_,_,_,_,_,h,_,_,_=>by simp at h
 | q :: rows,xs,i,k,r,d,v,h,hr,hk,hs,hv=>by
  obtain ⟨css,rfl,h2,h3⟩:=h
  cases css with
  | nil=>simp at h2
  | cons c css =>
   obtain ⟨h4,h5⟩:=h3 0 q c M M;have h6:dx G sz rows css.flatten:=⟨css,M,by simpa using h2,fun j r' cs hr' hc=>h3 (j+1) r' cs (by simpa using hr') (by simpa using hc)⟩
   have h7:∀ {c' x':List ah},bB G q c'->c'.length=sz->dx G sz rows x'->dx G sz (q :: rows) (c'++x'):=fun a b e=>by
    have h8:=((dx.nil (G:=G) (sz:=sz)).snoc a b).append e
    simpa using h8
   rw [List.flatten_cons]
   cases i with
   | zero =>
    simp only [BU,pO] at hr
    subst hr;rw [Nat.zero_mul,gy,List.set_append_left _ _ O];exact h7 (h4.setAt hk hv) (by rw [List.length_set];exact h5) h6
   | succ i =>
    rw [List.set_append_right _ _ (by rw [h5,Nat.succ_mul];omega),h5,show (i+1)*sz+k - sz=i*sz+k by rw [Nat.succ_mul];omega];exact h7 h4 h5 (dx.setAt h6 (by simpa using hr) hk hs hv)
theorem aAB {G:GH} {l:List bY} {xs:List ah} {k:Nat} (h:dx G 6 (l.map bY.dat) xs) (hk:k < l.length):∃ A c,xs[k*6+5]?=some (.slice A l[k].props.length c)∧ak G (.sl 2 (l[k].props.map aO.dat)) (.slice A l[k].props.length c):=by
 obtain ⟨cs,hcl,hcx,hcr⟩:=h.at (k:=k) (r:=l[k].dat) (by simp [hk]);obtain ⟨A,c,rfl,hp⟩:=OW hcr;exact ⟨A,c,hcx 5 _ M,hp⟩
theorem avZ {G:GH} {l:List fC} {xs:List ah} {k:Nat} (h:dx G 2 (l.map fC.dat) xs) (hk:k < l.length):∃ A n c,xs[k*2+1]?=some (.slice A n c)∧ak G (.sl 4 (l[k].levels.map jW.dat)) (.slice A n c):=by
 obtain ⟨cs,hcl,hcx,hcr⟩:=h.at (k:=k) (r:=l[k].dat) (by simp [hk]);obtain ⟨v1,vs,rfl,-,v2,vs2,rfl,h2,-⟩:=hcr;obtain ⟨A,n,c,rfl⟩:=ak.form h2;exact ⟨A,n,c,hcx 1 _ M,h2⟩
theorem alU {p:Prop} (h:p:=by
 exact Ch HT Hb hG hv (iN aJ) H M):p:=h
theorem alV {p:Prop} (h:p:=by
 exact wL V (iN aJ) M M HT Hb hG hv Hr (uY) H):p:=h
theorem EK {p:Prop} (h:p:=by
 (iterate 15 (rcases i with _|i;(first|exact h|exact absurd hi Z|exact absurd hc Z)));exact trivial):p:=h
theorem vP {p:Prop} (h:p:=by
 clear H;intro a H;refine aG ⟨M,?_⟩;exact alU):p:=h
theorem adb {p:Prop} (h:p:=by
 refine gB [] M trivial V CB M M ?_;intro bH a w G1 hG HT H fin;exact kH H (Rf ET M fun _ H=>fin H iJ M)):p:=h
theorem adj {p:Prop} (h:p:=by
 refine gB [] M trivial V yZ M M ?_;intro bH a w G1 hG HT H fin;exact kH H (Rf ES M fun _ H=>fin H iJ M)):p:=h
theorem abU {p:Prop} (h:p:=by
 intro bH a w G1 hG HT H fin;exact kH H (Ro rH 0 M fun _ H=>fin H iJ M)):p:=h
theorem abV {p:Prop} (h:p:=by
 intro bH a w G1 hG HT H fin;exact kH H (Ro Ac 0 M fun _ H=>fin H iJ M)):p:=h
theorem abW {p:Prop} (h:p:=by
 clear H;rintro v14 EB a w uY Hr H;refine aG ⟨M,?_⟩;exact alV):p:=h
set_option maxHeartbeats 2000000 in
theorem anw (G:GH) (w0:World) (hG:Hold G w0) (s:BQ) (a1 b1_ c1 d1:ah) (hR:Am G s a1 b1_ c1 d1) (z1:s.styles.length<=4294967296) (z2:s.lists.length<=4294967296) (z3:s.comments.length<=4294967296) (z4:s.vars.length<=4294967296) (z5:∀ x∈s.styles,x.props.length<=4294967296) (z6:∀ x∈s.lists,x.levels.length<=4294967296) :
  Calls prog 116 #[.agg #[a1,b1_,c1,d1]] w0 (bG w0 G fun u G'=>∃ a' b' c' d',u=.agg #[a',b',c',d']∧Am G' s a' b' c' d'):=by
 have hml:maxLen=9223372036854775807:=rfl;obtain ⟨aA,an,ac,rfl⟩:=hR.st.form;obtain ⟨bA,bn,bc,rfl⟩:=hR.li.form;obtain ⟨cA,cn,cc,rfl⟩:=hR.cm.form;obtain ⟨dA,dn,dc,rfl⟩:=hR.va.form;obtain ⟨hs1,hs2,hs3,hs4⟩:=hR;refine eN [(0,_)] func116 M ntmps116 M M hG ?_;intro a H;refine dz (fun _ K1=>?_);refine dR (cs:=[_,_,_,_]) H wn M M M ?_;clear H;intro b1 a w hb1 H;refine dJ vD H wn M ?_;clear H;intro b2 a w hb2 H;refine K1 _ _ ?_;clear K1;refine bO (fun _ K2=>?_);have H:=H.fH (Pl:=[_,_]) (eD:=[_,_]) [1,0] Z M;obtain ⟨Ga,hma,hb1',H⟩:=H.fF;have hga:=fun j v hj=>lY hb1' 0 [.slice aA an ac,.slice bA bn bc,.slice cA cn cc,.slice dA dn dc] M j v hj;replace hs1:=hs1.mono hma;replace hs2:=hs2.mono hma;replace hs3:=hs3.mono hma;replace hs4:=hs4.mono hma
 have iN:Jm (fun (aJ:Nat->ah × OL) (bX:Nat) (v:ah) (G:GH)=>match bX with|0=>v=(aK b1 0)|1=>v=.slice aA an ac|2=>v=(aJ 2).1∧∃ xs,dw 192 6 v s.styles.length xs (aJ 2).2∧dx G 6 (s.styles.map bY.dat) xs|3=>v=(aK b1 1)|4=>v=.slice bA bn bc|5=>v=(aJ 5).1∧∃ xs,dw 93 2 v s.lists.length xs (aJ 5).2∧dx G 2 (s.lists.map fC.dat) xs|6=>v=(aK b1 2)|7=>v=.slice cA cn cc|8=>ak G (.sl 6 (s.comments.map gF.dat)) v|9=>v=(aK b1 3)|10=>v=.slice dA dn dc|11=>ak G (.sl 2 (s.vars.map jk.dat)) v|12=>∃ c' d',v=.agg #[(aJ 2).1,(aJ 5).1,c',d']∧ak G (.sl 6 (s.comments.map gF.dat)) c'∧ak G (.sl 2 (s.vars.map jk.dat)) d'|13=>∃ b,v=(aK b 0)∧aJ 13=((aK b 0),[(b,.cells #[.slice none 0 0,.slice none 0 0,.slice none 0 0,.slice none 0 0] 36 (0,0))])|_=>True):=by intro aJ bX v G G' hm h;(iterate 15 (rcases bX with _|bX;(first|exact h|exact let ⟨h1,xs,h2,h3⟩:=h;⟨h1,xs,h2,h3.mono hm⟩|exact ak.mono hm h|exact let ⟨c',d',h1,h2,h3⟩:=h;⟨c',d',h1,h2.mono hm,h3.mono hm⟩)));exact trivial
 refine VT [2,5,13] (hmx) [[],[0],[0,1],[],[3],ra 0 5,[],[6],ra 0 8,[],[9],ra 0 11,ra 0 12,[],ra 0 14] [14] V V Z V (fun (aJ:Nat->ah × OL) (bX:Nat) (v:ah) (G:GH)=>match bX with|0=>v=(aK b1 0)|1=>v=.slice aA an ac|2=>v=(aJ 2).1∧∃ xs,dw 192 6 v s.styles.length xs (aJ 2).2∧dx G 6 (s.styles.map bY.dat) xs|3=>v=(aK b1 1)|4=>v=.slice bA bn bc|5=>v=(aJ 5).1∧∃ xs,dw 93 2 v s.lists.length xs (aJ 5).2∧dx G 2 (s.lists.map fC.dat) xs|6=>v=(aK b1 2)|7=>v=.slice cA cn cc|8=>ak G (.sl 6 (s.comments.map gF.dat)) v|9=>v=(aK b1 3)|10=>v=.slice dA dn dc|11=>ak G (.sl 2 (s.vars.map jk.dat)) v|12=>∃ c' d',v=.agg #[(aJ 2).1,(aJ 5).1,c',d']∧ak G (.sl 6 (s.comments.map gF.dat)) c'∧ak G (.sl 2 (s.vars.map jk.dat)) d'|13=>∃ b,v=(aK b 0)∧aJ 13=((aK b 0),[(b,.cells #[.slice none 0 0,.slice none 0 0,.slice none 0 0,.slice none 0 0] 36 (0,0))])|_=>True) (fun m hm x y i v G hi hc h=>by
  have hm:m=2∨m=5∨m=13:=by simpa using hm
  rcases hm with rfl|rfl|rfl
  ·exact EK
  ·exact EK
  ·exact EK
  ) H ?_ ?_ ?_
 ·clear H;refine ay ?_ ?_ ?_ ?_ (ay ?_ ?_ ?_ ?_ (ay ?_ ?_ ?_ ?_ (bN ?_ (bN ?_ (bN ?_ dB)))))
  ·intro aJ dG bH a w G1 eP _ _ aM hc hG HT hv;have H:=HT;clear aM;have Hb:=H.full;have H:=Hb;clear hc;refine kH H (Rf ES M ?_);exact vP
  ·intro aJ dG bH a w G1 eP _ _ aM hc hG HT hv;have H:=HT;clear aM;have H:=H.aN (hv 0 6 (hc 0 Z) M) M;have Hb:=H.full;have H:=Hb;clear hc;refine kH H (Rg rH M (aC hG (hga 0 _ M)) ?_);exact vP
  ·exact uP
  ·intro aJ dG bH a w G1 eP _ _ aM hc hG HT hv;have H:=HT;clear aM;have Hb:=H.full;have H:=Hb;clear hc;refine kH H (Rf ET M ?_);exact vP
  ·intro aJ dG bH a w G1 eP _ _ aM hc hG HT hv;have H:=HT;clear aM;have H:=H.aN (hv 3 9 (hc 3 Z) M) M;have Hb:=H.full;have H:=Hb;clear hc;refine kH H (Rg Ac M (aC hG (hga 1 _ M)) ?_);exact vP
  ·exact uP
  ·intro aJ dG bH a w G1 eP _ _ aM hc hG HT hv;have H:=HT;clear aM;have Hb:=H.full;have H:=Hb;clear hc;refine kH H (Rf Ny M ?_);exact vP
  ·intro aJ dG bH a w G1 eP _ _ aM hc hG HT hv;have H:=HT;clear aM;have H:=H.aN (hv 6 12 (hc 6 Z) M) M;have Hb:=H.full;have H:=Hb;clear hc;refine kH H (Rg C9 M (aC hG (hga 2 _ M)) ?_);exact vP
  ·intro aJ dG bH a w G1 eP _ _ aM hc hG HT hv;have H:=HT;clear aM;have H:=H.aN (hv 7 13 (hc 7 Z) M) M;have Hb:=H.full;have H:=Hb;clear hc;refine s_call apd H wn M (anh _ _ H.ro _ _ _ _ (hs3.mono hG) (by simpa using z3)) M ?_;exact abW
  ·intro aJ dG bH a w G1 eP _ _ aM hc hG HT hv;have H:=HT;clear aM;have Hb:=H.full;have H:=Hb;clear hc;refine kH H (Rf Nz M ?_);exact vP
  ·intro aJ dG bH a w G1 eP _ _ aM hc hG HT hv;have H:=HT;clear aM;have H:=H.aN (hv 9 15 (hc 9 Z) M) M;have Hb:=H.full;have H:=Hb;clear hc;refine kH H (Rg xq M (aC hG (hga 3 _ M)) ?_);exact vP
  ·intro aJ dG bH a w G1 eP _ _ aM hc hG HT hv;have H:=HT;clear aM;have H:=H.aN (hv 10 16 (hc 10 Z) M) M;have Hb:=H.full;have H:=Hb;clear hc;refine s_call ape H wn M (anj _ _ H.ro _ _ _ _ (hs4.mono hG) (by simpa using z4)) M ?_;clear H;rintro v17 BI a w Ig asC H;refine aG ⟨M,?_⟩;exact wL V (iN aJ) M M HT Hb hG hv asC (Ig) H
  ·intro aJ dG bH a w G1 eP _ _ aM hc hG HT hv;have H:=HT;clear aM;obtain ⟨u8,Bh,pV⟩:=hv 2 8 (hc 2 Z) M;(try dsimp only at pV);obtain ⟨h8,Uh,Ea,Rw⟩:=pV;obtain ⟨sA,sc,rfl,-,-⟩:=Ea.shape;have H:=H.gZ Bh;obtain ⟨u11,Ip,xY⟩:=hv 5 11 (hc 5 Z) M;(try dsimp only at xY);obtain ⟨h11,Mg,zT,Kv⟩:=xY;obtain ⟨lA,lc,rfl,-,-⟩:=zT.shape;have H:=H.gZ Ip;obtain ⟨u14,Ot,uY⟩:=hv 8 14 (hc 8 Z) M;(try dsimp only at uY);obtain ⟨Um,n14,c14,rfl⟩:=uY.form;have H:=H.gZ Ot;obtain ⟨u17,Yn,Ig⟩:=hv 11 17 (hc 11 Z) M;(try dsimp only at Ig);obtain ⟨A17,n17,c17,rfl⟩:=Ig.form;have H:=H.gZ Yn;have Hb:=H.full;have H:=Hb;clear hc;refine jU aAw [_,_,_,_] H wn M M M M ?_;clear H;intro a H;refine aG ⟨M,?_⟩;exact wL V (iN aJ) M M HT Hb hG hv (fun _ _ h=>h) (⟨_,_,by rw [<- h8,<- h11],uY,Ig⟩) H
  ·exact uP
  exact GQ
 ·clear H;refine ay ?_ ?_ ?_ ?_ (ay ?_ ?_ ?_ ?_ (ay ?_ ?_ ?_ ?_ (bN ?_ (bN ?_ (bN ?_ dB)))))
  ·intro hB;exact fP
  ·intro hB;exact fP
  ·intro _ aJ dG bH a w G1 eP _ hc hG HT hv;have H:=HT;have H:=H.aN (hv (.bool false,[]) 1 7 Z (hc 1 Z) M) M;have Hb:=H.full;have H:=Hb;clear hc;refine gM apb (Li:=dG) (L:=[]) (H.cast (ig _).symm) wn M (anq _ _ (wY H.ro) _ _ _ _ (hs1.mono hG) (by simpa using z1)) M ?_;clear H;rintro v8 G8 L8 a w ⟨Uh,Ea,Rw⟩ tC H;rw [bS] at Ea;have H:=H.perm oO;refine aG ⟨M,(v8,L8),?_⟩;exact vQ V (iN (mG aJ 2 (v8,L8))) M HT Hb hG (fun j e h1 h2 h3=>hv (v8,L8) j e h1 h2 h3) tC (⟨M,Uh,Ea,Rw⟩) H
  ·intro hB;exact fP
  ·intro hB;exact fP
  ·intro _ aJ dG bH a w G1 eP _ hc hG HT hv;have H:=HT;have H:=H.aN (hv (.bool false,[]) 4 10 Z (hc 4 Z) M) M;have Hb:=H.full;have H:=Hb;clear hc;refine gM apc (Li:=dG) (L:=[]) (H.cast (ig _).symm) wn M (anp _ _ (wY H.ro) _ _ _ _ (hs2.mono hG) (by simpa using z2)) M ?_;clear H;rintro v11 zx F9 a w ⟨Mg,zT,Kv⟩ tu H;rw [bS] at zT;have H:=H.perm oO;refine aG ⟨M,(v11,F9),?_⟩;exact vQ V (iN (mG aJ 5 (v11,F9))) M HT Hb hG (fun j e h1 h2 h3=>hv (v11,F9) j e h1 h2 h3) tu (⟨M,Mg,zT,Kv⟩) H
  ·intro hB;exact fP
  ·intro hB;exact fP
  ·intro hB;exact fP
  ·intro hB;exact fP
  ·intro hB;exact fP
  ·intro hB;exact fP
  ·intro hB;exact fP
  ·intro _ aJ dG bH a w G1 eP _ hc hG HT hv;have H:=HT;have Hb:=H.full;have H:=Hb;clear hc;refine dJ vD H wn M ?_;clear H;intro b3 a w hb3 H;refine aG ⟨M,((aK b3 0),[(b3,.cells #[.slice none 0 0,.slice none 0 0,.slice none 0 0,.slice none 0 0] 36 (0,0))]),?_⟩;exact vQ V (iN (mG aJ 13 ((aK b3 0),[(b3,.cells #[.slice none 0 0,.slice none 0 0,.slice none 0 0,.slice none 0 0] 36 (0,0))]))) M HT Hb hG (fun j e h1 h2 h3=>hv ((aK b3 0),[(b3,.cells #[.slice none 0 0,.slice none 0 0,.slice none 0 0,.slice none 0 0] 36 (0,0))]) j e h1 h2 h3) (fun _ _ h=>h) (⟨b3,M,M⟩) H
  intro hB;exact fP
 clear H;intro aJ a w G jC H hv
 simp only [iM,List.flatMap_cons,List.flatMap_nil,cond_true,ig,jv] at H
 obtain ⟨u3,hu3,hp3⟩:=hv 13 3 Z M;(try dsimp only at hp3);obtain ⟨b3,rfl,e13⟩:=hp3;have H:=H.gZ hu3;obtain ⟨u8,Bh,pV⟩:=hv 2 8 Z M;(try dsimp only at pV);obtain ⟨h8,Uh,Ea,Rw⟩:=pV;obtain ⟨sA,sc,rfl,-,-⟩:=Ea.shape;have H:=H.gZ Bh;obtain ⟨u11,Ip,xY⟩:=hv 5 11 Z M;(try dsimp only at xY);obtain ⟨h11,Mg,zT,Kv⟩:=xY;obtain ⟨lA,lc,rfl,-,-⟩:=zT.shape;have H:=H.gZ Ip;obtain ⟨u18,Ou,Fv⟩:=hv 12 18 Z M;(try dsimp only at Fv);obtain ⟨aCK,aCL,rfl,hc18,ags⟩:=Fv;obtain ⟨eA,en,ec,rfl⟩:=hc18.form;obtain ⟨fA,fn,fc,rfl⟩:=ags.form;have H:=H.gZ Ou;clear hv;obtain ⟨⟨vS,LS⟩,eS⟩:∃ y,y=aJ 2:=⟨_,M⟩;obtain ⟨⟨vL,LL⟩,eL⟩:∃ y,y=aJ 5:=⟨_,M⟩;rw [<- eS,<- eL,e13] at H;rw [<- eS] at Ea h8;rw [<- eL] at zT h11;dsimp only at H Ea zT h8 h11;subst h8;subst h11;rw [<- jv] at H;have H:=H.perm (oO (l₁:=LS++LL) (l₂:=[_,_]));dsimp only [lca,bM] at H;refine bC vD 0 (vs:=[_,_,_,_]) H wn M ?_;clear H;intro w H;refine aG ⟨M,?_⟩;refine K2 _ _ ?_;clear K2;refine kP H (SQ fun _ K3=>SR fun _ K4=>bQ ES rH 0 M M (Rl lJ M (Rm M (Kz K4 (SB ?_)))));clear H K4;intro a H;skip;refine eX (ι:=Nat × List ah × OL × GH) (Tc:=[(2,_),(3,_),(21,_)]) (Lc:=[(_,_),(_,_)]) (fun gh=>[(22,vi gh.1)]) (fun gh=>[]++(gh.2.2.1++LL)) (fun gh=>gh.2.2.2) (fun gh=>gh.1<=s.styles.length∧dw 192 6 (.slice sA s.styles.length sc) s.styles.length gh.2.1 gh.2.2.1∧dx gh.2.2.2 6 (s.styles.map bY.dat) gh.2.1∧(∀ b o,G b=some o->gh.2.2.2 b=some o)) (fun gh=>s.styles.length - gh.1) ((0,Uh,LS,G)) (by exact H.sub ⟨M,M,M,M,aB⟩) ?_ ?_
 ·exact ⟨lg _,Ea,Rw,fun _ _ h=>h⟩
 clear H;rintro ⟨k,xs,Lo,g⟩ a w hI H;dsimp only at hI H;obtain ⟨hk,hrw,fK,hgm⟩:=hI;dsimp only [lca,bM] at H;refine kP H (SR fun _ K5=>Rc M (Kz K5 (SQ fun _ K6=>Cd M ?_ ?_))) <;> clear H K5
 ·intro h23 a H
  try have Br:=dT h23
  have hk2:k < s.styles.length:=by omega
  obtain ⟨bs,rfl⟩:=hrw.ptr O;obtain ⟨pA,pc,hpx,hpr⟩:=aAB fK hk2;obtain ⟨cur,-,rfl,hcur,hset⟩:=hrw.set1;have hpz:=z5 _ (lq hk2);refine kP H (Kc K6 (SQ fun _ K7=>SB (SR fun _ K8=>Rm M (aj K8 M ?_))));clear H K6 K8;intro a H
  have yZ:Di (fun (bX:Nat) (v:ah) (G:GH)=>match bX with|0=>v=(aK b3 0)|1=>v=.slice (some ⟨bs,0,none⟩) s.styles.length sc|2=>v=vi k|3=>v=(aK b3 0)|4=>v=.slice (some ⟨bs,0,none⟩) s.styles.length sc|5=>v=vi k|6=>v=(aK bs (0+k*6))|7=>v=(aK bs (0+k*6+5))|8=>v=.slice pA s.styles[k].props.length pc|9=>ak G (.sl 2 (s.styles[k].props.map aO.dat)) v|_=>True):=by intro bX v G G' hm h;(iterate 13 (rcases bX with _|bX;(first|exact h|exact ak.mono hm h)));exact trivial
  refine Ce (hmx) [[],[0],[],[],[3],[],[3,4,5],ra 3 4,ra 3 5,ra 3 6,ra 0 10,ra 0 11,ra 0 12] [10,11,12] V V _ yZ H ?_ ?_
  ·clear H;refine ay ?_ ?_ ?_ ?_ (ay ?_ ?_ ?_ ?_ (ay ?_ ?_ (bT M) (bT M) (bN (bT M) dB)))
   ·exact adj
   ·refine gB [(0,25,_)] M ⟨fun _ _ h=>h,aB⟩ V yZ M M ?_;exact abU
   ·refine gB [] M trivial V yZ M M ?_;exact MZ
   ·exact adj
   ·refine gB [(3,28,_)] M ⟨fun _ _ h=>h,aB⟩ V yZ M M ?_;exact abU
   ·refine gB [] M trivial V yZ M M ?_;exact MZ
   ·refine gB [(4,29,_),(5,30,_)] M ⟨fun _ _ h=>h,fun _ _ h=>h,aB⟩ V yZ M M ?_;intro bH a w G1 hG HT H fin;exact kH H (Ri lJ jf M M fun _ H=>fin H iJ M)
   ·refine gB [(6,31,_)] M ⟨fun _ _ h=>h,aB⟩ V yZ M M ?_;intro bH a w G1 hG HT H fin;exact kH H (Rf J7 M fun _ H=>fin H iJ M)
   ·refine gB [(7,32,_)] M ⟨fun _ _ h=>h,aB⟩ V yZ M M ?_;intro bH a w G1 hG HT H fin;refine rG tO H wn M (hrw.at H.hp (fun x hx=>gW _ (gW _ (List.mem_append_left _ hx))) (by rw [gy];exact hpx)) M ?_;exact jG
   refine gB [(8,33,_)] M ⟨fun _ _ h=>h,aB⟩ V yZ M M ?_;intro bH a w G1 hG HT H fin;refine s_call QN H wn M (V4 _ _ H.ro _ _ _ _ (hpr.mono hG) (by simpa using hpz)) M ?_;clear H;rintro v34 Mk a w Fw asL H;exact fin H asL (Fw)
  clear H;intro a w G oD H hv;have H:=H.aN (hv 1 26 M M) M;have H:=H.aN (hv 2 27 M M) M;obtain ⟨u34,avk,Fw⟩:=hv 9 34 Z M;(try dsimp only at Fw);obtain ⟨Ey,n34,c34,rfl⟩:=Fw.form;have H:=H.gZ avk;clear hv;refine kH H (Ri lJ jf M M (Rf J7 M ?_));clear H;intro a H;refine LQ tO 2 (c:=cur) (vs:=[.slice Ey n34 c34]) (cur.set (k*6+5) (.slice Ey n34 c34)) H wn M M M M M M (by simp;omega) (by rw [gy];rfl) ?_;clear H;intro w H;dsimp only [List.set,List.cons_append,List.nil_append] at H;have hrwn:=hset (k*6+5) (.slice Ey n34 c34);have atE:=(fK.mono oD).setAt (i:=k) (k:=5) (r:=s.styles[k].dat) (v:=.slice Ey n34 c34) (by simp [hk2]) M Z Fw;refine aG ⟨M,?_⟩;refine K7 _ _ ?_;clear K7;refine kP H (SC (Rd M (Rm M ?_)));clear H;intro a H;refine aG ?_;refine dY ((k+1,xs.set (k*6+5) (.slice Ey n34 c34),[(bs,.cells (cur.set (k*6+5) (.slice Ey n34 c34)).toArray 192 (0,0))],_)) (by exact H.sub ⟨M,M,M,M,aB⟩) ?_
  (try dsimp only);exact ⟨O,hrwn,atE,fun b o h=>oD b o (hgm b o h)⟩
 intro h23 a H
 try have Br:=dF h23
 obtain rfl:k=s.styles.length:=by omega
 refine dQ ?_;refine K3 _ _ ?_;clear K3;refine kP H (SQ fun _ K9=>SR fun _ aR=>bQ ET Ac 0 M M (Rl tT M (Rm M (Kz aR (SB ?_)))));clear H aR;intro a H;skip;refine eX (ι:=Nat × List ah × OL × GH) (Tc:=[(2,_),(3,_),(40,_)]) (Lc:=[(_,_),(_,_)]) (fun gh=>[(41,vi gh.1)]) (fun gh=>[]++(Lo++gh.2.2.1)) (fun gh=>gh.2.2.2) (fun gh=>gh.1<=s.lists.length∧dw 93 2 (.slice lA s.lists.length lc) s.lists.length gh.2.1 gh.2.2.1∧dx gh.2.2.2 2 (s.lists.map fC.dat) gh.2.1∧(∀ b o,g b=some o->gh.2.2.2 b=some o)) (fun gh=>s.lists.length - gh.1) ((0,Mg,LL,g)) (by exact H.sub ⟨M,M,M,M,aB⟩) ?_ ?_
 ·exact ⟨lg _,zT,Kv.mono hgm,fun _ _ h=>h⟩
 clear H;rintro ⟨k2,xs2,Lo2,g2⟩ a w hI H;dsimp only at hI H;obtain ⟨hk2,hrw2,zQ,lQ⟩:=hI;dsimp only [lca,bM] at H;refine kP H (SR fun _ bq=>Rc M (Kz bq (SQ fun _ bP=>Cd M ?_ ?_))) <;> clear H bq
 ·intro jR a H
  try have p42:=dT jR
  have hk3:k2 < s.lists.length:=by omega
  obtain ⟨bl,rfl⟩:=hrw2.ptr O;obtain ⟨qA,qn,qc,hqx,hqr⟩:=avZ zQ hk3;obtain ⟨EN,-,rfl,aB6,auX⟩:=hrw2.set1;have hqz:=z6 _ (lq hk3);refine kP H (Kc bP (SQ fun _ bU=>SB (SR fun _ dh=>Rm M (aj dh M ?_))));clear H bP dh;intro a H
  have CB:Di (fun (bX:Nat) (v:ah) (G:GH)=>match bX with|0=>v=(aK b3 1)|1=>v=.slice (some ⟨bl,0,none⟩) s.lists.length lc|2=>v=vi k2|3=>v=(aK b3 1)|4=>v=.slice (some ⟨bl,0,none⟩) s.lists.length lc|5=>v=vi k2|6=>v=(aK bl (0+k2*2))|7=>v=(aK bl (0+k2*2+1))|8=>v=.slice qA qn qc|9=>ak G (.sl 4 (s.lists[k2].levels.map jW.dat)) v|_=>True):=by intro bX v G G' hm h;(iterate 13 (rcases bX with _|bX;(first|exact h|exact ak.mono hm h)));exact trivial
  refine Ce (hmx) [[],[0],[],[],[3],[],[3,4,5],ra 3 4,ra 3 5,ra 3 6,ra 0 10,ra 0 11,ra 0 12] [10,11,12] V V _ CB H ?_ ?_
  ·clear H;refine ay ?_ ?_ ?_ ?_ (ay ?_ ?_ ?_ ?_ (ay ?_ ?_ (bT M) (bT M) (bN (bT M) dB)))
   ·exact adb
   ·refine gB [(0,44,_)] M ⟨fun _ _ h=>h,aB⟩ V CB M M ?_;exact abV
   ·refine gB [] M trivial V CB M M ?_;exact MZ
   ·exact adb
   ·refine gB [(3,47,_)] M ⟨fun _ _ h=>h,aB⟩ V CB M M ?_;exact abV
   ·refine gB [] M trivial V CB M M ?_;exact MZ
   ·refine gB [(4,48,_),(5,49,_)] M ⟨fun _ _ h=>h,fun _ _ h=>h,aB⟩ V CB M M ?_;intro bH a w G1 hG HT H fin;exact kH H (Ri tT rJ M M fun _ H=>fin H iJ M)
   ·refine gB [(6,50,_)] M ⟨fun _ _ h=>h,aB⟩ V CB M M ?_;intro bH a w G1 hG HT H fin;exact kH H (Rf NC M fun _ H=>fin H iJ M)
   ·refine gB [(7,51,_)] M ⟨fun _ _ h=>h,aB⟩ V CB M M ?_;intro bH a w G1 hG HT H fin;refine rG O4 H wn M (hrw2.at H.hp (fun x hx=>gW _ (gW _ (List.mem_append_right _ hx))) (by rw [gy];exact hqx)) M ?_;exact jG
   refine gB [(8,52,_)] M ⟨fun _ _ h=>h,aB⟩ V CB M M ?_;intro bH a w G1 hG HT H fin;refine s_call apf H wn M (ani _ _ H.ro _ _ _ _ (hqr.mono hG) (by simpa using hqz)) M ?_;clear H;rintro v53 G53 a w Cz Xy H;exact fin H Xy (Cz)
  clear H;intro a w G wR H hv;have H:=H.aN (hv 1 45 M M) M;have H:=H.aN (hv 2 46 M M) M;obtain ⟨u53,Yq,Cz⟩:=hv 9 53 Z M;(try dsimp only at Cz);obtain ⟨Ah,n53,c53,rfl⟩:=Cz.form;have H:=H.gZ Yq;clear hv;refine kH H (Ri tT rJ M M (Rf NC M ?_));clear H;intro a H;refine LQ O4 (2+Lo.length) (c:=EN) (vs:=[.slice Ah n53 c53]) (EN.set (k2*2+1) (.slice Ah n53 c53)) H wn M (avw [_,_] Lo _) M M M M (by simp;omega) (by rw [gy];rfl) ?_;clear H;intro w H;have H:=H.cast (azL [_,_] Lo _ _);have auW:=auX (k2*2+1) (.slice Ah n53 c53);have atF:=(zQ.mono wR).setAt (i:=k2) (k:=1) (r:=s.lists[k2].dat) (v:=.slice Ah n53 c53) (by simp [hk3]) M Z Cz;refine aG ⟨M,?_⟩;refine bU _ _ ?_;clear bU;refine kP H (SC (Rd M (Rm M ?_)));clear H;intro a H;refine aG ?_;refine dY ((k2+1,xs2.set (k2*2+1) (.slice Ah n53 c53),[(bl,.cells (EN.set (k2*2+1) (.slice Ah n53 c53)).toArray 93 (0,0))],_)) (by exact H.sub ⟨M,M,M,M,aB⟩) ?_
  (try dsimp only);exact ⟨O,auW,atF,fun b o h=>wR b o (lQ b o h)⟩
 intro jR a H
 try have p42:=dF jR
 obtain rfl:k2=s.lists.length:=by omega
 refine dQ ?_;refine K9 _ _ ?_;clear K9;refine dz (fun _ dZ=>?_);refine aU vD (cs:=[_,_,_,_]) H wn M M (H.hp.cB 0 M M) M ?_;clear H;intro a H;refine bC vD 1 (vs:=[_,_,_,_]) H wn M ?_;clear H;intro w H;refine dZ _ _ ?_;clear dZ;refine fE ?_;have H:=H.un (A:=[_,_]);obtain ⟨Gr,hmr,Il,H⟩:=St.qp (Li:=[_,_]++Lo) H hrw2 (rows:=s.lists.map fC.dat) (by simp) zQ;obtain ⟨Gs,hms,auI,H⟩:=St.qp (Li:=[_,_]) H hrw (rows:=s.styles.map bY.dat) (by simp) ((fK.mono lQ).mono hmr);refine (leave1 H results116 (.cons (ny vD (cs:=[_,_,_,_]) H M M (H.hp.cB 1 M M)) .nil) ?_).1;exact H.rt ⟨_,_,_,_,M,auI,Il.mono hms,(((hc18.mono hgm).mono lQ).mono hmr).mono hms,(((ags.mono hgm).mono lQ).mono hmr).mono hms⟩
theorem afc:aS 60:=aT func60 M
theorem aos:aS 116:=aT func116 M
theorem ZV:qQ prog 38 [(0,1),(1,5),(6,1),(7,4)] [.slice none 0 0,.slice none 0 0,.int .i64 0,.int .i64 0,.slice none 0 0,.slice none 0 0,.slice none 0 0,.slice none 0 0,.slice none 0 0,.slice none 0 0,.slice none 0 0]:=⟨V,V⟩
theorem ank (G:GH) (w0:World) (hO:gJ G [] w0) (l:List au) (v:ah) (hv:ak G (.sl 11 (l.map au.dat)) v) (hz:dH l<=4294967296) :
  Calls prog 80 #[v] w0 (fV w0 G [] fun u G' L'=>∃ xs,dw 68 11 u l.length xs L'∧dx G' 11 (l.map au.dat) xs):=by
 have ih:=V5 4294967297 O;have hl:=Mh l;refine jA (N:=5) (T:=[(0,_)]) func80 M ntmps80 M M hO ?_;intro a H;refine kP H (SR fun _ K1=>aj K1 M (SR fun _ K2=>Rm M ?_));clear H K1;intro a H;refine gM aeJ (Li:=[]) (L:=[]) H wn M (aez (fun x=>x) _ _ (wY H.ro) l _ _ hv O (fun y hy=>adQ (n:=4294967296) (V5 4294967296 O) O y (by have:=aar hy;omega))) rfl ?_;clear H;rintro v4 G4 L4 a w ⟨xs4,auO,atB⟩ NW H;dsimp only [List.nil_append] at H;exact kH H (aj K2 M (LR results80 M fun H=>H.hp.gL ⟨xs4,auO,atB⟩))
def akM (G:GH) (D:kN) (d:gu) (L:OL):Prop :=
 ∃ xf Lf xr Lr,L=Lf++Lr∧dw 68 11 (aW D.f) d.flow.length xf Lf∧dx G 11 (d.flow.map au.dat) xf∧dw 102 3 (aW D.r) d.revs.length xr Lr∧dx G 3 (d.revs.map bV.dat) xr ∧
  jr G d.fin (aW D.p) (aW D.d) (aW D.y)∧D.ins=d.fin.marks.ins∧D.move=d.fin.marks.move∧Am G d.iH (aW D.s1) (aW D.s2) (aW D.s3) (aW D.s4)
theorem abC {p:Prop} (h:p:=by
 (iterate 14 (rcases i with _|i;(first|exact h|exact absurd hi Z|exact absurd hc Z)));exact trivial):p:=h
set_option maxHeartbeats 2000000 in
theorem anT (G:GH) (w0:World) (hO:gJ G [] w0) (D:kN) (d:gu) (hR:oL G D d) (hz:Aj d) :
  Calls prog 63 #[D.val] w0 (fV w0 G [] fun u G' L'=>∃ D':kN,u=D'.val∧akM G' D' d L'):=by
 obtain ⟨hfl,hhd,hins,hmv,qJ,hst⟩:=hR;obtain ⟨zf,zh,zr,zt,zs,I9⟩:=hz;refine jA (N:=16) (T:=[(0,_)]) func63 M ntmps63 M M hO ?_;intro a H;refine dz (fun _ K1=>?_);refine dR (cs:=[_,_,_,_,_,_,_,_,_,_,_]) H wn M M M ?_;clear H;intro b1 a w hb1 H;refine dJ iB H wn M ?_;clear H;intro b2 a w hb2 H;refine K1 _ _ ?_;clear K1;refine bO (fun _ K2=>?_);have H:=H.fH (Pl:=[_,_]) (eD:=[_,_]) [1,0] Z M;obtain ⟨Ga,hma,hb1',H⟩:=H.fF;have hga:=fun j v hj=>lY hb1' 0 D.cells M j v hj;replace hfl:=hfl.mono hma;replace hhd:=hhd.mono hma;replace qJ:=qJ.mono hma;replace hst:=hst.mono hma
 have iN:Jm (fun (aJ:Nat->ah × OL) (bX:Nat) (v:ah) (G:GH)=>match bX with|0=>v=(aK b1 0)|1=>v=aW D.f|2=>v=(aJ 2).1∧∃ xs,dw 68 11 v d.flow.length xs (aJ 2).2∧dx G 11 (d.flow.map au.dat) xs|3=>v=(aK b1 1)|4=>v=sj d.fin (aW D.p) (aW D.d) (aW D.y)|5=>∃ p y z,v=.agg #[p,vi d.fin.marks.ins,vi d.fin.marks.move,y,z]∧jr G d.fin p y z|6=>v=(aK b1 6)|7=>v=aW D.r|8=>v=(aJ 8).1∧∃ xs,dw 102 3 v d.revs.length xs (aJ 8).2∧dx G 3 (d.revs.map bV.dat) xs|9=>v=(aK b1 7)|10=>v=.agg #[aW D.s1,aW D.s2,aW D.s3,aW D.s4]|11=>∃ a' b' c' d',v=.agg #[a',b',c',d']∧Am G d.iH a' b' c' d'|_=>True):=by intro aJ bX v G G' hm h;(iterate 14 (rcases bX with _|bX;(first|exact h|exact let ⟨h1,xs,h2,h3⟩:=h;⟨h1,xs,h2,h3.mono hm⟩|exact let ⟨p,y,z,h1,h2⟩:=h;⟨p,y,z,h1,h2.mono hm⟩|exact let ⟨p,q,y,z,h1,h2⟩:=h;⟨p,q,y,z,h1,h2.mono hm⟩)));exact trivial
 refine VT [2,8] (hmx) [[],[0],[0,1],[],[3],ra 0 5,[],[6],ra 0 8,[],[9],ra 0 11,ra 0 12,ra 0 13] [12,13] V V Z V (fun (aJ:Nat->ah × OL) (bX:Nat) (v:ah) (G:GH)=>match bX with|0=>v=(aK b1 0)|1=>v=aW D.f|2=>v=(aJ 2).1∧∃ xs,dw 68 11 v d.flow.length xs (aJ 2).2∧dx G 11 (d.flow.map au.dat) xs|3=>v=(aK b1 1)|4=>v=sj d.fin (aW D.p) (aW D.d) (aW D.y)|5=>∃ p y z,v=.agg #[p,vi d.fin.marks.ins,vi d.fin.marks.move,y,z]∧jr G d.fin p y z|6=>v=(aK b1 6)|7=>v=aW D.r|8=>v=(aJ 8).1∧∃ xs,dw 102 3 v d.revs.length xs (aJ 8).2∧dx G 3 (d.revs.map bV.dat) xs|9=>v=(aK b1 7)|10=>v=.agg #[aW D.s1,aW D.s2,aW D.s3,aW D.s4]|11=>∃ a' b' c' d',v=.agg #[a',b',c',d']∧Am G d.iH a' b' c' d'|_=>True) (fun m hm x y i v G hi hc h=>by
  have hm:m=2∨m=8:=by simpa using hm
  rcases hm with rfl|rfl
  ·exact abC
  ·exact abC
  ) H ?_ ?_ ?_
 ·clear H;refine ay ?_ ?_ ?_ ?_ (ay ?_ ?_ ?_ ?_ (ay ?_ ?_ ?_ ?_ (bN ?_ (bN ?_ dB))))
  ·intro aJ dG bH a w G1 eP _ _ aM hc hG HT hv;have H:=HT;clear aM;have Hb:=H.full;have H:=Hb;clear hc;refine kH H (Rf vX M ?_);exact vP
  ·intro aJ dG bH a w G1 eP _ _ aM hc hG HT hv;have H:=HT;clear aM;have H:=H.aN (hv 0 3 (hc 0 Z) M) M;have Hb:=H.full;have H:=Hb;clear hc;refine kH H (Rg kW M (aC hG (hga 0 _ M)) ?_);exact vP
  ·exact uP
  ·intro aJ dG bH a w G1 eP _ _ aM hc hG HT hv;have H:=HT;clear aM;have Hb:=H.full;have H:=Hb;clear hc;refine kH H (Rf Cj M ?_);exact vP
  ·intro aJ dG bH a w G1 eP _ _ aM hc hG HT hv;have H:=HT;clear aM;have H:=H.aN (hv 3 6 (hc 3 Z) M) M;have Hb:=H.full;have H:=Hb;clear hc;refine aU fB (cs:=[aW D.p,vi d.fin.marks.ins,vi d.fin.marks.move,aW D.d,aW D.y]) H wn M M (fun j v hj=>H.hp.aH (aC hG (by rw [<- hins,<- hmv] at hj;exact lY hb1' 1 _ M j v hj))) M ?_;exact vP
  ·intro aJ dG bH a w G1 eP _ _ aM hc hG HT hv;have H:=HT;clear aM;have H:=H.aN (hv 4 7 (hc 4 Z) M) M;have Hb:=H.full;have H:=Hb;clear hc;refine s_call QM H wn M (QC _ _ H.ro d.fin _ _ _ _ _ _ _ _ _ (hhd.mono hG) zh) M ?_;clear H;rintro v8 G8 a w pV tC H;refine aG ⟨M,?_⟩;exact wL V (iN aJ) M M HT Hb hG hv tC (pV) H
  ·intro aJ dG bH a w G1 eP _ _ aM hc hG HT hv;have H:=HT;clear aM;have Hb:=H.full;have H:=Hb;clear hc;refine kH H (Rf Ck M ?_);exact vP
  ·intro aJ dG bH a w G1 eP _ _ aM hc hG HT hv;have H:=HT;clear aM;have H:=H.aN (hv 6 9 (hc 6 Z) M) M;have Hb:=H.full;have H:=Hb;clear hc;refine kH H (Rg xk M (aC hG (hga 6 _ M)) ?_);exact vP
  ·exact uP
  ·intro aJ dG bH a w G1 eP _ _ aM hc hG HT hv;have H:=HT;clear aM;have Hb:=H.full;have H:=Hb;clear hc;refine kH H (Rf J8 M ?_);exact vP
  ·intro aJ dG bH a w G1 eP _ _ aM hc hG HT hv;have H:=HT;clear aM;have H:=H.aN (hv 9 12 (hc 9 Z) M) M;have Hb:=H.full;have H:=Hb;clear hc;refine aU vD (cs:=[aW D.s1,aW D.s2,aW D.s3,aW D.s4]) H wn M M (fun j v hj=>H.hp.aH (aC hG (lY hb1' 7 _ M j v hj))) M ?_;exact vP
  ·intro aJ dG bH a w G1 eP _ _ aM hc hG HT hv;have H:=HT;clear aM;have H:=H.aN (hv 10 13 (hc 10 Z) M) M;have Hb:=H.full;have H:=Hb;clear hc;refine s_call aos H wn M (anw _ _ H.ro d.iH _ _ _ _ (hst.mono hG) zs I9.ln I9.cn I9.vn I9.pl I9.ll) M ?_;exact abW
  ·exact MP
  exact GQ
 ·clear H;refine ay ?_ ?_ ?_ ?_ (ay ?_ ?_ ?_ ?_ (ay ?_ ?_ ?_ ?_ (bN ?_ (bN ?_ dB))))
  ·intro hB;exact fP
  ·intro hB;exact fP
  ·intro _ aJ dG bH a w G1 eP _ hc hG HT hv;have H:=HT;have H:=H.aN (hv (.bool false,[]) 1 4 Z (hc 1 Z) M) M;have Hb:=H.full;have H:=Hb;clear hc;refine gM WH (Li:=dG) (L:=[]) (H.cast (ig _).symm) wn M (ank _ _ (wY H.ro) d.flow _ (hfl.mono hG) O) M ?_;clear H;rintro v5 G5 L5 a w ⟨xs5,auP,atC⟩ oD H;have H:=H.perm oO;refine aG ⟨M,(v5,L5),?_⟩;exact vQ V (iN (mG aJ 2 (v5,L5))) M HT Hb hG (fun j e h1 h2 h3=>hv (v5,L5) j e h1 h2 h3) oD (⟨M,xs5,auP,atC⟩) H
  ·intro hB;exact fP
  ·intro hB;exact fP
  ·intro hB;exact fP
  ·intro hB;exact fP
  ·intro hB;exact fP
  ·intro _ aJ dG bH a w G1 eP _ hc hG HT hv;have H:=HT;have H:=H.aN (hv (.bool false,[]) 7 10 Z (hc 7 Z) M) M;have Hb:=H.full;have H:=Hb;clear hc;refine gM afc (Li:=dG) (L:=[]) (H.cast (ig _).symm) wn M (adR _ _ (wY H.ro) _ _ _ _ (qJ.mono hG) (by simpa using zr)) M ?_;clear H;rintro v11 zx F9 a w ⟨Mg,zT,Kv⟩ tu H;rw [bS] at zT;have H:=H.perm oO;refine aG ⟨M,(v11,F9),?_⟩;exact vQ V (iN (mG aJ 8 (v11,F9))) M HT Hb hG (fun j e h1 h2 h3=>hv (v11,F9) j e h1 h2 h3) tu (⟨M,Mg,zT,Kv⟩) H
  ·intro hB;exact fP
  ·intro hB;exact fP
  ·intro hB;exact fP
  ·intro hB;exact fP
  intro hB;exact fP
 clear H;intro aJ a w G jC H hv
 simp only [iM,List.flatMap_cons,List.flatMap_nil,cond_true,ig,jv] at H
 obtain ⟨u5,Iq,wo⟩:=hv 2 5 Z M;(try dsimp only at wo);obtain ⟨h5,xf,KT,XK⟩:=wo;obtain ⟨fA,fc,rfl,-,-⟩:=KT.shape;have H:=H.gZ Iq;obtain ⟨u8,Bh,pV⟩:=hv 5 8 Z M;(try dsimp only at pV);obtain ⟨p8,y8,z8,rfl,Ky⟩:=pV;obtain ⟨a1,a2,a3,rfl⟩:=Ky.props.form;obtain ⟨a4,a5,a6,rfl⟩:=Ky.bK.form;obtain ⟨a7,a8,a9,rfl⟩:=Ky.layers.form;have H:=H.gZ Bh;obtain ⟨u11,Ip,xY⟩:=hv 8 11 Z M;(try dsimp only at xY);obtain ⟨h11,xr,KU,XL⟩:=xY;obtain ⟨rA,rc,rfl,-,-⟩:=KU.shape;have H:=H.gZ Ip;obtain ⟨u14,Ot,uY⟩:=hv 11 14 Z M;(try dsimp only at uY);obtain ⟨lS,q14,y14,z14,rfl,Oo⟩:=uY;obtain ⟨c1,c2,c3,rfl⟩:=Oo.st.form;obtain ⟨c4,c5,c6,rfl⟩:=Oo.li.form;obtain ⟨c7,c8,c9,rfl⟩:=Oo.cm.form;obtain ⟨d1,d2,d3,rfl⟩:=Oo.va.form;have H:=H.gZ Ot;clear hv;obtain ⟨⟨vF,LF⟩,eF⟩:∃ y,y=aJ 2:=⟨_,M⟩;obtain ⟨⟨vR,LR⟩,eR⟩:∃ y,y=aJ 8:=⟨_,M⟩;rw [<- eF,<- eR] at H;rw [<- eF] at KT h5;rw [<- eR] at KU h11;dsimp only at H KT KU h5 h11;subst h5;subst h11;rw [<- jv] at H;have H:=H.perm (oO (l₁:=LF++LR) (l₂:=[_]));dsimp only [lca,bM] at H;refine jU ZV [_,_,_,_,_,_,_,_,_,_,_] H wn M M M M ?_;clear H;intro a H;refine bC iB 0 (vs:=[_,_,_,_,_,_,_,_,_,_,_]) H wn M ?_;clear H;intro w H;refine aG ⟨M,?_⟩;refine K2 _ _ ?_;clear K2;refine fE ?_;refine (leave1 H results63 (.cons (ny iB (cs:=[_,_,_,_,_,_,_,_,_,_,_]) H M M (H.hp.cB 0 M M)) .nil) ?_).1;exact H.hp.mW (L':=LF++LR) (Dp _ _) ⟨⟨(fA,d.flow.length,fc),(a1,a2,a3),(a4,a5,a6),(a7,a8,a9),(rA,d.revs.length,rc),(c1,c2,c3),(c4,c5,c6),(c7,c8,c9),(d1,d2,d3),d.fin.marks.ins,d.fin.marks.move⟩,M,xf,LF,xr,LR,M,KT,XK,KU,XL,Ky,M,M,Oo⟩
theorem WE:aS 58:=aT func58 M
theorem aom:aS 109:=aT func109 M
theorem Nn:aS 52:=aT func52 M
theorem aoo:aS 112:=aT func112 M
theorem apa:aS 173:=aT func173 M
theorem aon:aS 111:=aT func111 M
theorem awY {G:GH} (r:aV):uM (.func (.func 112) #[] #[]) G r.dat (decide (r.cells.length=0)):=by
 intro G1 w0 cs hm hG hr;refine jy (caps:=[]) aoo ?_;obtain ⟨pA,pn,pc,dA,dn,dc,yA,yn,yc,fA,fn,fc,rfl,-,hf⟩:=hr.row;have hn:=hf.len;rw [bS] at hn;subst hn;refine eN [(0,_)] func112 M ntmps112 M M hG ?_;intro a H;refine dz (fun _ K1=>?_);refine dR (cs:=[_,_,_,_,_,_]) H wn M M M ?_;clear H;intro b1 a w hb1 H;exact kH H (aj K1 M (SR fun _ K2=>bQ zM Ad 0 M M (Rl qh M (Rc M (aj K2 M (LR results112 M fun H=>H.rt (gH (decide_eq_decide.2 O))))))))
theorem anR (G:GH) (w0:World) (hG:Hold G w0) (l:List aV) (v:ah) (hv:ak G (.sl 6 (l.map aV.dat)) v) (hne:∀ r∈l,r.cells≠[]) :
  Calls prog 109 #[v,.func (.func 112) #[] #[]] w0 (bG w0 G fun u G'=>ak G' (.sl 6 (l.map aV.dat)) u):=by
 obtain ⟨A,n,c,rfl⟩:=hv.form
 have hno:l.findIdx? (fun r=>decide (r.cells.length=0))=none:=by
  rw [List.findIdx?_eq_none_iff];intro r hr;exact mY fun h=>hne r hr (List.length_eq_zero_iff.1 h)
 refine eN [(0,_),(1,_)] func109 M ntmps109 M M hG ?_;intro a H;refine kP H (SR fun _ K1=>aj K1 M (SR fun _ K2=>Rm M (Rm M ?_)));clear H K1;intro a H;refine s_call aoZ H wn M (avA _ _ H.ro l (fun r=>decide (r.cells.length=0)) _ _ hv (fun r _=>awY r)) M ?_;clear H;rintro v10 EA a w rfl DW H;rw [hno] at H;refine kH H (aj K2 M (SQ fun _ K3=>SR fun _ K4=>Rm M (Rc M (Kz K4 (Cd M ?_ ?_))))) <;> clear H K2 K4
 ·intro h12 a H
  exact kP H (SR fun _ K5=>Rm M (aj K5 M (LR results109 M fun H=>H.rt (hv.mono DW))))
 intro h12 a H
 try have rE:=dF h12
 exact absurd M rE
def Gm (n:Nat):Prop:=∀ (G:GH) (w0:World),Hold G w0->∀ (l:List au) (v:ah),ak G (.sl 11 (l.map au.dat)) v->wX l->dH l < n ->
 Calls prog 58 #[v] w0 (bG w0 G fun u G'=>ak G' (.sl 11 ((kK l).map au.dat)) u)
theorem awT {n:Nat} (ih:Gm n) (hn:n<=4294967296) (G:GH) (w0:World) (hG:Hold G w0) (x:aX) (cs:List ah) (hv:bB G x.dat cs) (hne:FH x) (hz:dD x.dat < n+1) :
  Calls prog 173 #[.agg cs.toArray] w0 (bG w0 G fun u G'=>∃ cs',u=.agg cs'.toArray∧bB G' (nC x).dat cs'):=by
 have he:=Ev x;obtain ⟨pA,pn,pc,dA,dn,dc,yA,yn,yc,fA,fn,fc,rfl,hh,hf⟩:=hv.cell;rw [awH] at hne;refine eN [(0,_)] func173 M ntmps173 M M hG ?_;intro a H;refine dz (fun _ K1=>?_);refine dR (cs:=[_,_,_,_,_,_,_]) H wn M M M ?_;clear H;intro b1 a w hb1 H;refine dJ kE H wn M ?_;clear H;intro b2 a w hb2 H;refine K1 _ _ ?_;clear K1;refine bO (fun _ K2=>?_)
 have iN:Di (fun (bX:Nat) (v:ah) (G:GH)=>match bX with|0=>v=(aK b1 0)|1=>v=vi x.id|2=>v=(aK b1 1)|3=>v=.agg #[.slice pA pn pc,vi x.head.marks.ins,vi x.head.marks.move,.slice dA dn dc,.slice yA yn yc]|4=>∃ p d l,v=.agg #[p,vi x.head.marks.ins,vi x.head.marks.move,d,l]∧jr G x.head p d l|5=>v=(aK b1 6)|6=>v=.slice fA fn fc|7=>ak G (.sl 11 ((kK x.flow).map au.dat)) v|_=>True):=by intro bX v G G' hm h;(iterate 10 (rcases bX with _|bX;(first|exact h|exact let ⟨p,d,l,h1,h2⟩:=h;⟨p,d,l,h1,h2.mono hm⟩|exact ak.mono hm h)));exact trivial
 refine Ce (hmx) [[],[0],[],[2],[2,3],[],[5],ra 2 5,ra 0 8,ra 0 9] [8,9] V V _ iN H ?_ ?_
 ·clear H;refine ay ?_ ?_ ?_ ?_ (ay ?_ ?_ ?_ ?_ (bN (bT M) (bN (bT M) dB)))
  ·exact ade
  ·exact ada
  ·exact adf
  ·exact acv
  ·exact acF
  ·exact adg
  ·exact adk
  refine gB [(6,9,_)] M ⟨fun _ _ h=>h,aB⟩ V iN M M ?_;intro bH a w G1 hG HT H fin;refine s_call WE H wn M (ih _ _ H.ro x.flow _ (hf.mono hG) hne O) M ?_;exact Vj
 clear H;intro a w G jC H hv;have H:=H.aN (hv 1 4 M M) M;obtain ⟨u7,Yr,tJ⟩:=hv 4 7 Z M;(try dsimp only at tJ);obtain ⟨p7,d7,l7,rfl,AZ⟩:=tJ;obtain ⟨a1,a2,a3,rfl⟩:=AZ.props.form;obtain ⟨a4,a5,a6,rfl⟩:=AZ.bK.form;obtain ⟨a7,a8,a9,rfl⟩:=AZ.layers.form;have H:=H.gZ Yr;obtain ⟨u10,Oq,yY⟩:=hv 7 10 Z M;(try dsimp only at yY);obtain ⟨A10,n10,c10,rfl⟩:=yY.form;have H:=H.gZ Oq;clear hv;refine jU ZY [_,_,_,_,_,_,_] H wn M M M M ?_;clear H;intro a H;refine bC kE 0 (vs:=[_,_,_,_,_,_,_]) H wn M ?_;clear H;intro w H;refine aG ⟨M,?_⟩;refine K2 _ _ ?_;clear K2;refine fE ?_;refine (leave1 H results173 (.cons (ny kE (cs:=[_,_,_,_,_,_,_]) H M M (H.hp.cB 0 M M)) .nil) ?_).1;exact H.rt ⟨_,M,by rw [aww];exact bB.Sq (x:=.mk x.id x.head (kK x.flow)) AZ yY⟩
theorem awU {n:Nat} (ih:Gm n) (hn:n<=4294967296) {G:GH} {w0:World} (x:aX) (hne:FH x) (hz:dD x.dat < n+1):Db (.func (.func 173) #[] #[]) w0 G x.dat (nC x).dat:=by
 intro G1 w1 cs hm1 hG1 hr;have h:=awT ih hn _ _ hG1 x cs hr hne hz;have h2:=jy (P:=prog) (caps:=[]) (args:=[.agg cs.toArray]) apa h;exact h2
theorem awV {n:Nat} (ih:Gm n) (hn:n<=4294967296) (G:GH) (w0:World) (hG:Hold G w0) (x:aV) (cs:List ah) (hv:bB G x.dat cs) (hne:FJ x) (hz:dD x.dat < n+1) :
  Calls prog 111 #[.agg cs.toArray] w0 (bG w0 G fun u G'=>∃ cs',u=.agg cs'.toArray∧bB G' (nR x).dat cs'):=by
 have he:=Ew x;have hl:=Px x.cells;obtain ⟨pA,pn,pc,dA,dn,dc,yA,yn,yc,fA,fn,fc,rfl,hh,hf⟩:=hv.row;rw [aio] at hne;refine eN [(0,_)] func111 M ntmps111 M M hG ?_;intro a H;refine dz (fun _ K1=>?_);refine dR (cs:=[_,_,_,_,_,_]) H wn M M M ?_;clear H;intro b1 a w hb1 H;refine dJ jK H wn M ?_;clear H;intro b2 a w hb2 H;refine K1 _ _ ?_;clear K1;refine bO (fun _ K2=>?_)
 have iN:Di (fun (bX:Nat) (v:ah) (G:GH)=>match bX with|0=>v=(aK b1 0)|1=>v=.agg #[.slice pA pn pc,vi x.head.marks.ins,vi x.head.marks.move,.slice dA dn dc,.slice yA yn yc]|2=>∃ p d l,v=.agg #[p,vi x.head.marks.ins,vi x.head.marks.move,d,l]∧jr G x.head p d l|3=>v=(aK b1 5)|4=>v=.slice fA fn fc|5=>ak G (.sl 7 (x.cells.map fun y=>(nC y).dat)) v|_=>True):=by intro bX v G G' hm h;(iterate 8 (rcases bX with _|bX;(first|exact h|exact let ⟨p,d,l,h1,h2⟩:=h;⟨p,d,l,h1,h2.mono hm⟩|exact ak.mono hm h)));exact trivial
 refine Ce (hmx) [[],[0],[0,1],[],[3],ra 0 5,ra 0 6,ra 0 7] [6,7] V V _ iN H ?_ ?_
 ·clear H;refine ay ?_ ?_ ?_ ?_ (ay ?_ ?_ (bT M) (bT M) dB)
  ·exact adh
  ·exact Vw
  ·exact Vy
  ·exact adi
  ·exact acZ
  refine gB [(4,7,_)] M ⟨fun _ _ h=>h,aB⟩ V iN M M ?_;intro bH a w G1 hG HT H fin;refine s_call aeN H wn M (aeA nC _ _ H.ro x.cells _ _ (hf.mono hG) O (fun y hy=>awU ih hn y (ail hne.2 y hy) (by have:=akB hy;omega))) rfl ?_;exact Vl
 clear H;intro a w G jC H hv;obtain ⟨u5,Iq,wo⟩:=hv 2 5 Z M;(try dsimp only at wo);obtain ⟨p5,d5,l5,rfl,uD⟩:=wo;obtain ⟨a1,a2,a3,rfl⟩:=uD.props.form;obtain ⟨a4,a5,a6,rfl⟩:=uD.bK.form;obtain ⟨a7,a8,a9,rfl⟩:=uD.layers.form;have H:=H.gZ Iq;obtain ⟨u8,Bh,pV⟩:=hv 5 8 Z M;(try dsimp only at pV);obtain ⟨A8,n8,c8,rfl⟩:=pV.form;have H:=H.gZ Bh;clear hv;refine jU ZX [_,_,_,_,_,_] H wn M M M M ?_;clear H;intro a H;refine bC jK 0 (vs:=[_,_,_,_,_,_]) H wn M ?_;clear H;intro w H;refine aG ⟨M,?_⟩;refine K2 _ _ ?_;clear K2;refine fE ?_;refine (leave1 H results111 (.cons (ny jK (cs:=[_,_,_,_,_,_]) H M M (H.hp.cB 0 M M)) .nil) ?_).1;exact H.rt ⟨_,M,by rw [aie];exact bB.Sr (x:=.mk x.head (x.cells.map nC)) uD (by show ak _ (.sl 7 ((x.cells.map nC).map aX.dat)) _;rw [List.map_map];exact pV)⟩
theorem awW {n:Nat} (ih:Gm n) (hn:n<=4294967296) {G:GH} {w0:World} (x:aV) (hne:FJ x) (hz:dD x.dat < n+1):Db (.func (.func 111) #[] #[]) w0 G x.dat (nR x).dat:=by
 intro G1 w1 cs hm1 hG1 hr;have h:=awV ih hn _ _ hG1 x cs hr hne hz;have h2:=jy (P:=prog) (caps:=[]) (args:=[.agg cs.toArray]) aon h;exact h2
theorem joined {G:GH} {o:List au} {z y:au} {x0:List ah} {s p d q f r:ah} (hc:dx G 11 (o.map au.dat) x0) (hl:x0.length=o.length*11) (hh:jr G z.head p d q) (hf:ak G (.sl 11 (z.flow.map au.dat)) f) (hr:ak G (.sl 6 (z.rows.map aV.dat)) r) (hs:s=.string (z.text++y.text)) :
  dx G 11 ((o++[mU z y]).map au.dat) ((x0++[vi z.kind,vi z.code,vi z.id,.string z.text,p,vi z.head.marks.ins,vi z.head.marks.move,d,q,f,r]).set (((o++[z]).length - 1)*11+3) s):=by
 rw [kR,iW,List.length_singleton,Nat.add_sub_cancel,List.set_append_right _ _ O,hl,MG];refine hc.snoc ?_ M;rw [hs];exact bB.mkItem (x:=mU z y) hh hf hr
theorem Qu {s:ByteArray} {k:Int} {n:Nat} (hk:k=1):(s.toList == (⟨#[]⟩:ByteArray).toList)=true↔(k=7∧n=0)∨(k=1∧s.size=0):=by
 rw [beq_iff_eq,ByteArray.toList_eq,ByteArray.toList_eq]
 constructor
 ·intro h;refine .inr ⟨hk,?_⟩;have:=cZ List.length h
  simpa using this
 rintro (⟨h,-⟩|⟨-,h⟩)
 ·omega
 have:s.data.toList.length=0:=by simpa using h
 rw [List.length_eq_zero_iff.1 this]
theorem abx {p:Prop} (h:p:=by
 exact fin H iJ (by show _=_;first|rfl|exact cZ (fun A=>Value.slice A out.length vc) (hvA c2))):p:=h
theorem MN {p:Prop} (h:p:=by
 first
  | exact absurd ((aI c4).symm.trans h) Z
  | (rw [hos]
     refine Dn hnd fun o2 z2 e2 hj=>?_;rw [pW,hyk,hyh] at hj;obtain ⟨j1,j2,j3⟩:=hj
     first
       | exact c1 j1
       | (have c2':0 < (out.length:Int):=by rw [e2,iW,List.length_singleton];omega
          obtain ⟨o,z,_,_,_,e,_,epk,_⟩:=KN c2';obtain ⟨-,ez⟩:=List.append_inj' (e2.symm.trans e) M
          injection ez with ez
          subst ez
          first
            | exact c2 c2'
            | exact c3 (by rw [epk];exact j2)
            | exact c4 (by rw [epk];exact j3)))):p:=h
theorem acB {p:Prop} (h:p:=by
 refine eT 21 74 16 69 M M fun _ a w G1 hG HT H fin=>?_;obtain ⟨_,_,_,_,_,_,rfl,_,_,_,_,_,_,_,_,hx⟩:=KN c2
 refine aU fB (cs:=[pp,vi pk.1.marks.ins,vi pk.1.marks.move,pd,pl]) H (wg H M M (aI c3)) M M (fun j u hj=>hrw.at H.hp (fun x hx=>gW _ hx) (by
     rw [gy,Nat.add_assoc];refine hx (4+j) u ?_
     match j,hj with
     | 0,hj=>exact hj
     | 1,hj=>exact hj
     | 2,hj=>exact hj
     | 3,hj=>exact hj
     | 4,hj=>exact hj)) M ?_;clear H;intro a H
 exact JE):p:=h
theorem acC {p:Prop} (h:p:=by
 refine Dj 22 75 24 77 16 69 M M fun _ a w G1 hG HT H fin=>?_;refine s_call Nn H (wg H M M (aI c3)) M (Nq _ _ H.ro pk.1 l[k].head _ _ _ _ _ _ (by obtain ⟨_,_,_,_,_,_,_,e,_,_,_,_,hh,_⟩:=KN c2;rw [e];exact hh.mono hG) (NS.mono fun b o h=>hG b o (KC b o (H7 b o (uE b o h))))) M ?_;clear H;rintro v78 G78 a w rfl asX H;exact fin H asX (rfl)):p:=h
theorem VI {p:Prop} (h:p:=by
 refine gN 7 60 M M fun _ a w G1 hG HT H fin=>?_;refine kH H (YM (aI c2) M ?_);clear H;intro a H;exact abx):p:=h
theorem abE {p:Prop} (h:p:=by
 refine gN 16 69 M M fun _ a w G1 hG HT H fin=>?_;refine kH H (YM (aI c3) M ?_);clear H;intro a H;exact abx):p:=h
theorem Vp {p:Prop} (h:p:=by
 refine eT 12 65 7 60 M M fun _ a w G1 hG HT H fin=>?_;obtain ⟨_,_,_,_,_,_,rfl,_,_,_,_,_,_,_,_,hx⟩:=KN c2;refine rG aF H (wg H M M (aI c2)) M (hrw.at H.hp (fun x hx=>gW _ hx) (by rw [gy];exact hx 0 _ M)) M ?_;exact jG):p:=h
theorem Vq {p:Prop} (h:p:=by
 refine eT 9 62 7 60 M M fun _ a w G1 hG HT H fin=>?_;refine zo _ H (wg H M M (aI c2)) M M M O O M ?_;exact MR):p:=h
theorem abY {p:Prop} (h:p:=by
 refine eT 23 76 16 69 M M fun _ a w G1 hG HT H fin=>?_;refine aU fB (cs:=[_,_,_,_,_]) H (wg H M M (aI c3)) M M (H.hp.cB 0 M M) M ?_;exact jG):p:=h
set_option maxHeartbeats 4000000 in
theorem awX {n:Nat} (ih:Gm n) (hn:n<=1073741824):Gm (n+1):=by
  intro G w0 hG l v hv hne hz;obtain ⟨A,c,rfl,hc1,hc2,hg⟩:=hv.slice
  have hml:4294967297<=maxLen:=by decide
  have htl:pz l<=dH l:=ajU l;have hll:l.length<=pz l:=YZ l;rw [bS] at *;refine eN [(0,_)] func58 M ntmps58 M M hG ?_;intro a H;refine kP H (SR fun _ K1=>aj K1 M (SR fun _ K2=>aj K2 M (SQ fun _ K3=>SR fun _ K4=>Rm M (Rl jq M (Rm M (Kz K4 (SB ?_)))))));clear H K1 K2 K4;intro a H;skip;refine eX (ι:=Nat × ah × List ah × OL × GH) (Tc:=[(7,_),(8,_)]) (Lc:=[]) (fun gh=>[(3,gh.2.1),(9,vi gh.1)]) (fun gh=>[]++gh.2.2.2.1) (fun gh=>gh.2.2.2.2) (fun gh=>gh.1<=l.length∧dw 68 11 gh.2.1 (vk l gh.1).length gh.2.2.1 gh.2.2.2.1∧dx gh.2.2.2.2 11 ((vk l gh.1).map au.dat) gh.2.2.1∧(∀ b o,G b=some o->gh.2.2.2.2 b=some o)) (fun gh=>l.length - gh.1) ((0,.slice none 0 0,[],[],G)) (by exact H.sub ⟨M,M,M,M,aB⟩) ?_ ?_
  · exact JF
  clear H;rintro ⟨k,v,xs,Lo,g⟩ a w hI H;dsimp only at hI H;obtain ⟨hk,hrw,fK,hgm⟩:=hI;have hol:=axi hk;obtain ⟨out,hout⟩:∃ o,o=vk l k:=⟨_,M⟩;rw [<- hout] at hrw fK hol;dsimp only [lca,bM] at H;refine kP H (SR fun _ K5=>Rc M (Kz K5 (SQ fun _ K6=>Cd M ?_ ?_))) <;> clear H K5
  · intro h10 a H
    try have jc:=dT h10
    have hk2:k < l.length:=by omega
    have hos:=aiA hk2;have hot:=Zl (l:=l) (k:=k) O;have htt:=ajV l (k+1);rw [kG hk2,I5] at htt
    simp only [pz] at htt
    rw [<- hout] at hos hot;obtain ⟨vA,vc,rfl,-,-⟩:=hrw.shape;obtain ⟨b,o,pA,pn,pc,dA,dn,dc,yA,yn,yc,fA,fn,fc,rA,rn,rc,rfl,hrow,hhd,hfl,hrs⟩:=Kh hk2 hg;replace hrow:=fun j u hj=>aC hgm (hrow j u hj);have hnx:=ain hne _ (lq hk2);rw [awI] at hnx;obtain ⟨hnf,hnr⟩:=hnx;have hzi:=Py hk2;have hze:=Ag l[k];have hrl:=Pz l[k].rows
    have auJ:∀ r∈l[k].rows.map nR,r.cells≠[]:=fun r hr=>by
      obtain ⟨x,hx,rfl⟩:=List.mem_map.1 hr;have h1:=Zf hnr x hx;rw [aio] at h1;rw [aie];exact fun e=>h1.1 (List.map_eq_nil_iff.1 e)
    refine kP H (Kc K6 (SQ fun _ K7=>SB (SR fun _ K8=>Ri jq gI M M ?_)));clear H K6;intro a H;refine aU gI (cs:=[_,_,_,_,_,_,_,_,_,_,_]) H wn M M (fun j v hj=>H.hp.aH (hrow j v hj)) M ?_;clear H;intro a H;refine dJ gI H wn M ?_;clear H;intro b5 a w hb5 H;refine bC gI 0 (vs:=[_,_,_,_,_,_,_,_,_,_,_]) H wn M ?_;clear H;intro w H;refine K8 _ _ ?_;clear K8;refine kP H (SR fun _ K9=>Rf wN M ?_);clear H;intro a H;refine aU fB (cs:=[_,_,_,_,_]) H wn M M (H.hp.cB 0 M M) M ?_;clear H;intro a H;refine s_call QM H wn M (QC _ _ H.ro _ _ _ _ _ _ _ _ _ _ (hhd.mono hgm) O) M ?_;clear H;rintro v15 Dg a w ⟨tL,d15,l15,rfl,NS⟩ A9 H;obtain ⟨a1,a2,a3,rfl⟩:=NS.props.form;obtain ⟨a4,a5,a6,rfl⟩:=NS.bK.form;obtain ⟨a7,a8,a9,rfl⟩:=NS.layers.form;refine kH H (Rf wN M ?_);clear H;intro a H;refine bC fB 0 (vs:=[_,_,_,_,_]) H wn M ?_;clear H;intro w H;refine K9 _ _ ?_;clear K9;refine kP H (SR fun _ aR=>bQ zL kW 0 M M ?_);clear H;intro a H;refine s_call WE H wn M (ih _ _ H.ro l[k].flow _ (hfl.mono fun b o h=>A9 b o (hgm b o h)) hnf O) M ?_;clear H;rintro v19 Jf a w Od uE H;obtain ⟨Jb,n19,c19,rfl⟩:=Od.form;refine kH H (Rf zL M ?_);clear H;intro a H;refine bC kW 0 (vs:=[_]) H wn M ?_;clear H;intro w H;refine aR _ _ ?_;clear aR;refine kP H (SR fun _ bq=>bQ uw uL 0 M M ?_);clear H;intro a H;refine s_call aeE H wn M (aeB nR _ _ H.ro l[k].rows _ _ (hrs.mono fun b o h=>uE b o (A9 b o (hgm b o h))) O (fun x hx=>awW ih O x (Zf hnr x hx) (by have:=akF hx;omega))) rfl ?_;clear H;rintro v23 G23 a w Yb H7 H;rw [show (l[k].rows.map fun x=>(nR x).dat)=(l[k].rows.map nR).map aV.dat by rw [List.map_map];rfl] at Yb;obtain ⟨A23,n23,c23,rfl⟩:=Yb.form;refine s_call aom H wn M (anR _ _ H.ro (l[k].rows.map nR) _ Yb auJ) M ?_;clear H;rintro v24 EC a w Yc KC H;obtain ⟨Un,n24,c24,rfl⟩:=Yc.form;have agP:=Yc.len;rw [bS,bS] at agP;subst agP;refine kH H (Rf uw M ?_);clear H;intro a H;refine bC uL 0 (vs:=[_]) H wn M ?_;clear H;intro w H;refine bq _ _ ?_;clear bq;refine bO (fun _ bP=>?_);obtain ⟨y,hy⟩:∃ y,y=nI l[k]:=⟨_,M⟩;have hye:=hy.trans (aic l[k])
    have hyk:y.kind=l[k].kind:=by rw [hye];rfl
    have Ov:y.text=l[k].text:=by rw [hye];rfl
    have hyh:y.head=l[k].head:=by rw [hye];rfl
    have R8:y.rows.length=l[k].rows.length:=by rw [hye];simp [au.rows]
    rw [<- hy] at hos;obtain ⟨Wd,Rx⟩:∃ x,x=[vi l[k].kind,vi l[k].code,vi l[k].id,.string l[k].text,.slice a1 a2 a3,vi l[k].head.marks.ins,vi l[k].head.marks.move,.slice a4 a5 a6,.slice a7 a8 a9,.slice Jb n19 c19,.slice Un l[k].rows.length c24]:=⟨_,M⟩
    have ahg:bB EC y.dat Wd:=by
      rw [Rx,hye];exact bB.mkItem (x:=.mk l[k].kind l[k].code l[k].id l[k].text l[k].head (kK l[k].flow) (l[k].rows.map nR)) (NS.mono fun b o h=>KC b o (H7 b o (uE b o h))) (Od.mono fun b o h=>KC b o (H7 b o h)) Yc
    have Ru:=fK.mono fun b o h=>KC b o (H7 b o (uE b o (A9 b o h)));have agy:∀ b o,G b=some o->EC b=some o:=fun b o h=>KC b o (H7 b o (uE b o (A9 b o (hgm b o h))));refine kP H (SC (Rm M (Rl jq M (bD bP M (SB ?_)))));clear H bP;intro a H;refine uj (ι:=Bool) (Tc:=[(3,_),(5,_),(6,_),(7,_),(8,_),(9,_)]) (Lc:=[]) (fun gh=>[(32,.bool gh)]) (fun gh=>[(b5,.cells [vi l[k].kind,vi l[k].code,vi l[k].id,.string l[k].text,.slice a1 a2 a3,vi l[k].head.marks.ins,vi l[k].head.marks.move,.slice a4 a5 a6,.slice a7 a8 a9,.slice Jb n19 c19,.slice Un l[k].rows.length c24].toArray 68 (0,0))]++Lo) (fun gh=>EC) (fun gh=>gh=true↔qX y) (by exact H.sub ⟨M,M,M,M,M,M,aB⟩) ?_ ?_
    · skip;refine kP H (SC (bQ lM aF 0 M M (Rc M (Rm M (Sp 36 M ?_ ?_))))) <;> clear H
      · intro tq a H
        try have p36:=dT tq
        refine kH H (YF uw tq M (YO uL 0 tq M (YL nO tq M (YC tq M (Pt tq M (Rm M (Sp 42 M ?_ ?_))))))) <;> clear H
        · intro jR a H
          try have p42:=dT jR
          refine kH H (aL jR M (aL jR M (Ku M (Ku M (Ku M (Ks jR M (Pt jR M (Ra M ?_))))))));clear H;intro a H;refine aG ?_;refine ⟨_,by exact H.sub ⟨M,M,M,M,M,M,M,aB⟩,?_⟩;rw [qX,hyk,R8,Ov]
          first
            | exact ⟨fun _=>.inl ⟨p36,O⟩,fun _=>by first|rfl|exact mP p42⟩
            | exact ⟨fun h=>(by cases h),fun h=>(by exfalso;omega)⟩
            | exact Qu p46
            | fail
        intro jR a H
        try have p42:=dF jR
        refine kH H (YF lM jR M (YO aF 0 jR M (YC jR M (YM jR M (Sp 46 M ?_ ?_))))) <;> clear H
        · intro h46 a H
          try have p46:=dT h46
          exfalso;omega
        intro h46 a H
        try have p46:=dF h46
        refine kH H (aP h46 M (PF jR h46 M (Pf jR M (Ra M ?_))));clear H;intro a H;refine aG ?_;refine ⟨_,by exact H.sub ⟨M,M,M,M,M,M,M,aB⟩,?_⟩;rw [qX,hyk,R8,Ov]
        first
          | exact ⟨fun _=>.inl ⟨p36,O⟩,fun _=>by first|rfl|exact mP p42⟩
          | exact ⟨fun h=>(by cases h),fun h=>(by exfalso;omega)⟩
          | exact Qu p46
          | fail
      intro tq a H
      try have p36:=dF tq
      refine kH H (aL tq M (aL tq M (Pf tq M (Rm M ?_))));clear H;intro a H;refine LK lM H (wg H M M M) M M ?_;clear H;intro a H;refine rG aF H (wg H M M M) M (H.hp.yu 0 M M) M ?_;clear H;intro a H;refine LJ H (wg H M M M) M M M M ?_;clear H;intro a H;refine LM H (wg H M M M) M M ?_;clear H;intro a H;refine ZM H 46 M ?_ ?_
      · intro h46
        try have p46:=dT h46
        refine kH H (YF vY h46 M (YO iP 0 h46 M ?_));clear H;intro a H;refine CV H (wg H M M h46) M M M ?_;clear H;intro a H;refine OQ H (wg H M M M) M h46 M M ?_;clear H;intro a H;refine kH H (Pf M M (Ra M ?_));clear H;intro a H;refine aG ?_;refine ⟨_,by exact H.sub ⟨M,M,M,M,M,M,M,aB⟩,?_⟩;rw [qX,hyk,R8,Ov]
        first
          | exact ⟨fun _=>.inl ⟨p36,O⟩,fun _=>by first|rfl|exact mP p42⟩
          | exact ⟨fun h=>(by cases h),fun h=>(by exfalso;omega)⟩
          | exact Qu p46
          | fail
      intro h46
      try have p46:=dF h46
      refine kH H (aP h46 M ?_);clear H;intro a H;refine TM H (wg H M M M) M h46 M M ?_;clear H;intro a H;refine kH H (Pf M M (Ra M ?_));clear H;intro a H;refine aG ?_;refine ⟨_,by exact H.sub ⟨M,M,M,M,M,M,M,aB⟩,?_⟩;rw [qX,hyk,R8,Ov]
      first
        | exact ⟨fun _=>.inl ⟨p36,O⟩,fun _=>by first|rfl|exact mP p42⟩
        | exact ⟨fun h=>(by cases h),fun h=>(by exfalso;omega)⟩
        | exact Qu p46
        | fail
    clear H;intro db a w hI H;skip;dsimp only [lca,bM] at H;refine jw H M ?_ ?_
    · intro h32
      try have p32:=dT h32
      have hdp:=hI.1 (by assumption);rw [Jt hdp] at hos;refine kP H (Kc K7 (SC (Rd M (Rm M ?_))));clear H K7;intro a H;refine aG ?_;refine dY ((k+1,_,xs,Lo,_)) (by exact (H.fH (Pl:=[_]) (eD:=[]) [] Z M).sub ⟨M,M,M,M,aB⟩) ?_
      (try dsimp only);exact ⟨O,by rw [hos];exact hrw,by rw [hos];exact Ru,agy⟩
    intro h32
    try have p32:=dF h32
    have hnd:¬ qX y:=fun h=>by have:=hI.2 h;simp_all
    obtain ⟨bo,pk,pt,pp,pd,pl,KN⟩:∃ (bo:Nat) (pk:dN × Int) (pt:ByteArray) (pp pd pl:ah),0 < (out.length:Int)->∃ (o:List au) (z:au) (x0:List ah) (f r:ah),out=o++[z]∧vA=some ⟨bo,0,none⟩∧pk=(z.head,z.kind)∧pt=z.text ∧
        xs=x0++[vi z.kind,vi z.code,vi z.id,.string z.text,pp,vi z.head.marks.ins,vi z.head.marks.move,pd,pl,f,r]∧x0.length=o.length*11∧dx EC 11 (o.map au.dat) x0∧jr EC z.head pp pd pl∧ak EC (.sl 11 (z.flow.map au.dat)) f∧ak EC (.sl 6 (z.rows.map aV.dat)) r ∧
        ∀ j u,[vi pk.2,vi z.code,vi z.id,.string pt,pp,vi pk.1.marks.ins,vi pk.1.marks.move,pd,pl][j]?=some u->xs[(out.length - 1)*11+j]?=some u:=by
      by_cases h0:0 < out.length
      · obtain ⟨bo,hbo⟩:=hrw.ptr h0;obtain ⟨o,z,e⟩:∃ o z,out=o++[z]:=⟨_,_,(List.dropLast_concat_getLast (fun e=>by rw [e] at h0;simp at h0)).symm⟩;rw [e,kR] at Ru;obtain ⟨x0,cs,hxs,hc0,hrz,hcl,hxl⟩:=Ru.aAj;obtain ⟨qA,qn,qc,sA,sn,sc,tA,tn,tc,J2,Kj,J3,rA2,rn2,rc2,rfl,hh,hf2,hr2⟩:=hrz.item;rw [bS] at hxl;refine ⟨bo,(z.head,z.kind),z.text,.slice qA qn qc,.slice sA sn sc,.slice tA tn tc,fun _=>⟨o,z,x0,_,_,e,hbo,M,M,hxs,hxl,hc0,hh,hf2,hr2,fun j u hj=>?_⟩⟩;rw [hxs,e,iW,List.length_singleton,Nat.add_sub_cancel,uO O,hxl,MG];rw [<- hj]
        match j,hj with
        | 0,hj=>rfl
        | 1,hj=>rfl
        | 2,hj=>rfl
        | 3,hj=>rfl
        | 4,hj=>rfl
        | 5,hj=>rfl
        | 6,hj=>rfl
        | 7,hj=>rfl
        | 8,hj=>rfl
        | _+9,hj=>simp at hj
      exact ⟨0,(⟨[],⟨0,0,[],[]⟩⟩,0),⟨#[]⟩,.slice none 0 0,.slice none 0 0,.slice none 0 0,fun h=>by omega⟩
    have hvA:0 < (out.length:Int)->vA=some ⟨bo,0,none⟩:=fun h=>by obtain ⟨_,_,_,_,_,_,e,_⟩:=KN h;exact e
    refine uj (ι:=Bool × GH) (Tc:=[(3,_),(5,_),(6,_),(7,_),(8,_),(9,_)]) (Lc:=[]) (fun gh=>[(52,.bool gh.1)]) (fun gh=>[(b5,.cells [vi l[k].kind,vi l[k].code,vi l[k].id,.string l[k].text,.slice a1 a2 a3,vi l[k].head.marks.ins,vi l[k].head.marks.move,.slice a4 a5 a6,.slice a7 a8 a9,.slice Jb n19 c19,.slice Un l[k].rows.length c24].toArray 68 (0,0))]++Lo) (fun gh=>gh.2) (fun gh=>(gh.1=true->(l[k].kind=1∧0 < (out.length:Int)∧pk.2=1∧pk.1=l[k].head))∧(gh.1=false->vk l (k+1)=out++[y])∧(∀ b o,EC b=some o->gh.2 b=some o)) (by exact H.sub ⟨M,M,M,M,M,M,aB⟩) ?_ ?_
    · skip
      by_cases c1:l[k].kind=1
      · skip
        by_cases c2:0 < (out.length:Int)
        · skip
          by_cases c3:pk.2=1
          · skip
            by_cases c4:pk.1=l[k].head
            · skip;refine dI hmx [[],[0],[0,1],[0,1,2],ra 0 4,ra 0 5,ra 0 6,ra 0 7,ra 0 8,ra 0 8,(ra 0 8++[9]),ra 0 11,ra 0 12,ra 0 13,ra 0 14,ra 0 15,ra 0 16,ra 0 17,ra 0 17,(ra 0 17++[18]),ra 0 20,ra 0 21,ra 0 22,ra 0 17,(ra 0 17++[23]),ra 0 25,ra 0 26,ra 0 27] [] V [_,vi l[k].kind,_,_,_,_,_,_,.slice (some ⟨bo,0,none⟩) out.length vc,_,vi ((out.length - 1:Nat):Int),_,_,vi pk.2,_,_,_,.slice (some ⟨bo,0,none⟩) out.length vc,_,vi ((out.length - 1:Nat):Int),_,_,sj pk.1 pp pd pl,_,sj l[k].head (.slice a1 a2 a3) (.slice a4 a5 a6) (.slice a7 a8 a9),.bool (decide (pk.1=l[k].head)),_,_] H (ay (Z0 M (Rf lM M)) (Z1 0 53 M (Ro aF 0 M)) (Z1 1 54 M (Rc M)) (Z1 2 55 M (Rm M)) (ay (Z1 3 56 M (YM (aI c1) M)) (Z2 4 57 3 56 M (YC (aI c1) M)) (Z2 3 56 5 58 M (Pt (aI c1) M)) (Z1 6 59 M (Rm M)) (ay ?_ (Z1 7 60 M (YM (aI c2) M)) ?_ (Z3 8 61 10 63 7 60 M (YI jq gI (aI c2) M M)) (ay (Z2 11 64 7 60 M (YF lM (aI c2) M)) ?_ (Z2 13 66 7 60 M (YC (aI c2) M)) (Z2 7 60 14 67 M (Pt (aI c2) M)) (ay (Z1 15 68 M (Rm M)) ?_ (Z1 16 69 M (YM (aI c3) M)) ?_ (ay (Z3 17 70 19 72 16 69 M (YI jq gI (aI c3) M M)) (Z2 20 73 16 69 M (YF wN (aI c3) M)) ?_ (Z1 16 69 M (YF wN (aI c3) M)) (ay ?_ ?_ (Z2 16 69 25 78 M (Pt (aI c3) M)) (Z1 26 79 M (Ra M)) dB))))))) ?_
              · exact VI
              · exact Vq
              · exact Vp
              · exact abE
              · refine eT 18 71 16 69 M M fun _ a w G1 hG HT H fin=>?_;exact Ql
              · exact acB
              · exact abY
              · exact acC
              clear H;intro a w G tu H hv;have H:=H.aN (hv 27 52 M M) M;clear hv;refine aG ⟨M,?_⟩;refine ⟨(_,_),by exact H.sub ⟨M,M,M,M,M,M,M,aB⟩,?_⟩;(try dsimp only);refine ⟨fun h=>by first|exact absurd h Z|exact ⟨c1,c2,c3,pQ h⟩,fun h=>?_,tu⟩
              exact MN
            skip;refine dI hmx [[],[0],[0,1],[0,1,2],ra 0 4,ra 0 5,ra 0 6,ra 0 7,ra 0 8,ra 0 8,(ra 0 8++[9]),ra 0 11,ra 0 12,ra 0 13,ra 0 14,ra 0 15,ra 0 16,ra 0 17,ra 0 17,(ra 0 17++[18]),ra 0 20,ra 0 21,ra 0 22,ra 0 17,(ra 0 17++[23]),ra 0 25,ra 0 26,ra 0 27] [] V [_,vi l[k].kind,_,_,_,_,_,_,.slice (some ⟨bo,0,none⟩) out.length vc,_,vi ((out.length - 1:Nat):Int),_,_,vi pk.2,_,_,_,.slice (some ⟨bo,0,none⟩) out.length vc,_,vi ((out.length - 1:Nat):Int),_,_,sj pk.1 pp pd pl,_,sj l[k].head (.slice a1 a2 a3) (.slice a4 a5 a6) (.slice a7 a8 a9),.bool (decide (pk.1=l[k].head)),_,_] H (ay (Z0 M (Rf lM M)) (Z1 0 53 M (Ro aF 0 M)) (Z1 1 54 M (Rc M)) (Z1 2 55 M (Rm M)) (ay (Z1 3 56 M (YM (aI c1) M)) (Z2 4 57 3 56 M (YC (aI c1) M)) (Z2 3 56 5 58 M (Pt (aI c1) M)) (Z1 6 59 M (Rm M)) (ay ?_ (Z1 7 60 M (YM (aI c2) M)) ?_ (Z3 8 61 10 63 7 60 M (YI jq gI (aI c2) M M)) (ay (Z2 11 64 7 60 M (YF lM (aI c2) M)) ?_ (Z2 13 66 7 60 M (YC (aI c2) M)) (Z2 7 60 14 67 M (Pt (aI c2) M)) (ay (Z1 15 68 M (Rm M)) ?_ (Z1 16 69 M (YM (aI c3) M)) ?_ (ay (Z3 17 70 19 72 16 69 M (YI jq gI (aI c3) M M)) (Z2 20 73 16 69 M (YF wN (aI c3) M)) ?_ (Z1 16 69 M (YF wN (aI c3) M)) (ay ?_ ?_ (Z2 16 69 25 78 M (Pt (aI c3) M)) (Z1 26 79 M (Ra M)) dB))))))) ?_
            · exact VI
            · exact Vq
            · exact Vp
            · exact abE
            · refine eT 18 71 16 69 M M fun _ a w G1 hG HT H fin=>?_;exact Ql
            · exact acB
            · exact abY
            · exact acC
            clear H;intro a w G tu H hv;have H:=H.aN (hv 27 52 M M) M;clear hv;refine aG ⟨M,?_⟩;refine ⟨(_,_),by exact H.sub ⟨M,M,M,M,M,M,M,aB⟩,?_⟩;(try dsimp only);refine ⟨fun h=>by first|exact absurd h Z|exact ⟨c1,c2,c3,pQ h⟩,fun h=>?_,tu⟩
            exact MN
          skip;refine dI hmx [[],[0],[0,1],[0,1,2],ra 0 4,ra 0 5,ra 0 6,ra 0 7,ra 0 8,ra 0 8,(ra 0 8++[9]),ra 0 11,ra 0 12,ra 0 13,ra 0 14,ra 0 15,ra 0 16,ra 0 17,ra 0 17,(ra 0 17++[18]),ra 0 20,ra 0 21,ra 0 22,ra 0 17,(ra 0 17++[23]),ra 0 25,ra 0 26,ra 0 27] [] V [_,vi l[k].kind,_,_,_,_,_,_,.slice (some ⟨bo,0,none⟩) out.length vc,_,vi ((out.length - 1:Nat):Int),_,_,vi pk.2,_,_,_,undef,undef,undef,undef,undef,undef,undef,undef,undef,_,_] H (ay (Z0 M (Rf lM M)) (Z1 0 53 M (Ro aF 0 M)) (Z1 1 54 M (Rc M)) (Z1 2 55 M (Rm M)) (ay (Z1 3 56 M (YM (aI c1) M)) (Z2 4 57 3 56 M (YC (aI c1) M)) (Z2 3 56 5 58 M (Pt (aI c1) M)) (Z1 6 59 M (Rm M)) (ay ?_ (Z1 7 60 M (YM (aI c2) M)) ?_ (Z3 8 61 10 63 7 60 M (YI jq gI (aI c2) M M)) (ay (Z2 11 64 7 60 M (YF lM (aI c2) M)) ?_ (Z2 13 66 7 60 M (YC (aI c2) M)) (Z2 7 60 14 67 M (Pt (aI c2) M)) (ay (Z1 15 68 M (Rm M)) (aZ 16 (aY c3) M M) (aZ 16 (aY c3) M M) (aZ 16 (aY c3) M M) (ay (aZ 16 (aY c3) M M) (aZ 16 (aY c3) M M) (aZ 16 (aY c3) M M) (aZ 16 (aY c3) M M) (ay (aZ 16 (aY c3) M M) (aZ 16 (aY c3) M M) (Z2 16 69 25 78 M (Pf (aY c3) M)) (Z1 26 79 M (Ra M)) dB))))))) ?_
          · exact VI
          · exact Vq
          · exact Vp
          clear H;intro a w G tu H hv;have H:=H.aN (hv 27 52 M M) M;clear hv;refine aG ⟨M,?_⟩;refine ⟨(_,_),by exact H.sub ⟨M,M,M,M,M,M,M,aB⟩,?_⟩;(try dsimp only);refine ⟨fun h=>by first|exact absurd h Z|exact ⟨c1,c2,c3,pQ h⟩,fun h=>?_,tu⟩
          exact MN
        skip;refine dI hmx [[],[0],[0,1],[0,1,2],ra 0 4,ra 0 5,ra 0 6,ra 0 7,ra 0 8,ra 0 8,(ra 0 8++[9]),ra 0 11,ra 0 12,ra 0 13,ra 0 14,ra 0 15,ra 0 16,ra 0 17,ra 0 17,(ra 0 17++[18]),ra 0 20,ra 0 21,ra 0 22,ra 0 17,(ra 0 17++[23]),ra 0 25,ra 0 26,ra 0 27] [] V [_,vi l[k].kind,_,_,_,_,_,_,undef,undef,undef,undef,undef,undef,undef,_,_,undef,undef,undef,undef,undef,undef,undef,undef,undef,_,_] H (ay (Z0 M (Rf lM M)) (Z1 0 53 M (Ro aF 0 M)) (Z1 1 54 M (Rc M)) (Z1 2 55 M (Rm M)) (ay (Z1 3 56 M (YM (aI c1) M)) (Z2 4 57 3 56 M (YC (aI c1) M)) (Z2 3 56 5 58 M (Pt (aI c1) M)) (Z1 6 59 M (Rm M)) (ay (aZ 7 (aY c2) M M) (aZ 7 (aY c2) M M) (aZ 7 (aY c2) M M) (aZ 7 (aY c2) M M) (ay (aZ 7 (aY c2) M M) (aZ 7 (aY c2) M M) (aZ 7 (aY c2) M M) (Z2 7 60 14 67 M (Pf (aY c2) M)) (ay (Z1 15 68 M (Rm M)) (aZ 16 M M M) (aZ 16 M M M) (aZ 16 M M M) (ay (aZ 16 M M M) (aZ 16 M M M) (aZ 16 M M M) (aZ 16 M M M) (ay (aZ 16 M M M) (aZ 16 M M M) (Z2 16 69 25 78 M (Pf M M)) (Z1 26 79 M (Ra M)) dB))))))) ?_
        clear H;intro a w G tu H hv;have H:=H.aN (hv 27 52 M M) M;clear hv;refine aG ⟨M,?_⟩;refine ⟨(_,_),by exact H.sub ⟨M,M,M,M,M,M,M,aB⟩,?_⟩;(try dsimp only);refine ⟨fun h=>by first|exact absurd h Z|exact ⟨c1,c2,c3,pQ h⟩,fun h=>?_,tu⟩
        exact MN
      skip;refine dI hmx [[],[0],[0,1],[0,1,2],ra 0 4,ra 0 5,ra 0 6,ra 0 7,ra 0 8,ra 0 8,(ra 0 8++[9]),ra 0 11,ra 0 12,ra 0 13,ra 0 14,ra 0 15,ra 0 16,ra 0 17,ra 0 17,(ra 0 17++[18]),ra 0 20,ra 0 21,ra 0 22,ra 0 17,(ra 0 17++[23]),ra 0 25,ra 0 26,ra 0 27] [] V [_,vi l[k].kind,_,_,undef,undef,_,_,undef,undef,undef,undef,undef,undef,undef,_,_,undef,undef,undef,undef,undef,undef,undef,undef,undef,_,_] H (ay (Z0 M (Rf lM M)) (Z1 0 53 M (Ro aF 0 M)) (Z1 1 54 M (Rc M)) (Z1 2 55 M (Rm M)) (ay (aZ 3 (aY c1) M M) (aZ 3 (aY c1) M M) (Z2 3 56 5 58 M (Pf (aY c1) M)) (Z1 6 59 M (Rm M)) (ay (aZ 7 M M M) (aZ 7 M M M) (aZ 7 M M M) (aZ 7 M M M) (ay (aZ 7 M M M) (aZ 7 M M M) (aZ 7 M M M) (Z2 7 60 14 67 M (Pf M M)) (ay (Z1 15 68 M (Rm M)) (aZ 16 M M M) (aZ 16 M M M) (aZ 16 M M M) (ay (aZ 16 M M M) (aZ 16 M M M) (aZ 16 M M M) (aZ 16 M M M) (ay (aZ 16 M M M) (aZ 16 M M M) (Z2 16 69 25 78 M (Pf M M)) (Z1 26 79 M (Ra M)) dB))))))) ?_
      clear H;intro a w G tu H hv;have H:=H.aN (hv 27 52 M M) M;clear hv;refine aG ⟨M,?_⟩;refine ⟨(_,_),by exact H.sub ⟨M,M,M,M,M,M,M,aB⟩,?_⟩;(try dsimp only);refine ⟨fun h=>by first|exact absurd h Z|exact ⟨c1,c2,c3,pQ h⟩,fun h=>?_,tu⟩
      exact MN
    clear H;rintro ⟨jb,g9⟩ a w hI H;dsimp only at hI H;obtain ⟨hjy,hjn,Cv⟩:=hI;have atD:=Ru.mono Cv;have Oj:=ahg.mono Cv;have agz:∀ b o,G b=some o->g9 b=some o:=fun b o h=>Cv b o (agy b o h);dsimp only [lca,bM] at H;refine jw H M ?_ ?_
    · intro qw
      try have p52:=dT qw
      obtain ⟨c1,c2,c3,c4⟩:=hjy (by assumption);obtain ⟨oo,z,x0,zf,zr,RQ,rfl,rfl,rfl,hxs,hxl,hc0,hhz,hfz,hrz,hxj⟩:=KN c2
      have hzt:z.text.size<=pz out:=by
        rw [RQ,I5];simp only [pz];omega
      obtain ⟨cur,-,rfl,hcur,hset⟩:=hrw.set1;refine dI hmx [[],[],[1],[0,1,2],ra 0 4,ra 0 5,[],[6],ra 0 8,ra 0 9,ra 0 10,ra 0 11] [9,10,11] V [_,_,vi ((out.length - 1:Nat):Int),_,_,.string z.text,_,.string l[k].text,.string (z.text++l[k].text)] H (ay (Z0 M (Rm M)) (Z0 M (Rm M)) ?_ (Z2 0 80 2 82 M (Ri jq gI M M)) (ay (Z1 3 83 M (Rf vY M)) ?_ (Z0 M (Rf vY M)) (Z1 6 86 M (Ro iP 0 M)) (ay ?_ (bT M) (bT M) (bT M) dB))) ?_
      · refine gN 1 81 M M fun _ a w G1 hG HT H fin=>?_;refine kH H (Rs M ?_);exact MR
      · refine gN 4 84 M M fun _ a w G1 hG HT H fin=>?_;refine rG iP H wn M (hrw.at H.hp (fun x hx=>gW _ hx) (by rw [gy];exact hxj 3 _ M)) M ?_;exact jG
      · refine eT 5 85 7 87 M M fun _ a w G1 hG HT H fin=>?_;refine aze H wn M M O M ?_;exact jG
      clear H;intro a w G oQ H hv;have H:=H.aN (hv 0 80 M M) M;have H:=H.aN (hv 2 82 M M) M;have H:=H.aN (hv 8 88 M M) M;clear hv;refine kH H (Ri jq gI M M (Rf vY M ?_));clear H;intro a H;refine LQ iP 1 (c:=cur) (vs:=[.string (z.text++l[k].text)]) (cur.set ((out.length - 1)*11+3) (.string (z.text++l[k].text))) H wn M M M M M M (by simp;omega) (by rw [gy];rfl) ?_;clear H;intro w H;dsimp only [List.set] at H;have auV:=hset ((out.length - 1)*11+3) (.string (z.text++l[k].text))
      have hnj:vk l (k+1)=oo++[mU z y]:=by rw [hos,RQ];exact BR hnd ⟨by rw [hyk];exact c1,c3,by rw [hyh];exact c4⟩
      refine aG ⟨M,?_⟩;refine K7 _ _ ?_;clear K7;refine kP H (SC (Rd M (Rm M ?_)));clear H;intro a H;refine aG ?_;refine dY ((k+1,_,xs.set ((out.length - 1)*11+3) (.string (z.text++l[k].text)),_,_)) (by exact (H.fH (Pl:=[_]) (eD:=[]) [] Z M).sub ⟨M,M,M,M,aB⟩) ?_
      (try dsimp only);exact ⟨O,by rw [hnj,show (oo++[mU z y]).length=out.length by rw [RQ];simp];exact auV,by rw [hnj,hxs,RQ];exact joined (hc0.mono fun b o h=>oQ b o (Cv b o h)) hxl (hhz.mono fun b o h=>oQ b o (Cv b o h)) (hfz.mono fun b o h=>oQ b o (Cv b o h)) (hrz.mono fun b o h=>oQ b o (Cv b o h)) (by rw [Ov]),fun b o h=>oQ b o (agz b o h)⟩
    intro qw
    try have p52:=dF qw
    have hnx:=hjn (by assumption);refine kP H (SC (Rm M ?_));clear H;intro a H;refine aU gI (cs:=[_,_,_,_,_,_,_,_,_,_,_]) H wn M M (H.hp.cB 0 M M) M ?_;clear H;intro a H;refine iC jq gI [_,_,_,_,_,_,_,_,_,_,_] [_,_,_,_,_,_,_,_,_,_,_] H wn M M M M M (by intro i q h;match i,h with|0,h=>exact h|n+1,h=>simp at h) M M ?_;clear H;intro zH a w XD H;refine og (Li:=[_,_]) (Lo:=Lo) (news:=Wd) jq gI M M H wn M M hrw (by rw [Rx];rfl) (by rw [Rx];exact H.hp.cB 0 M M) ahg.one O O M ?_;clear H;intro v31 UF a w KR H;refine kH H (bD K7 M (SC (Rd M (Rm M ?_))));clear H K7;intro a H;refine aG ?_;refine dY ((k+1,v31,xs++Wd,UF,_)) (by exact (H.fH (Pl:=[_,_]) (eD:=[]) [] Z M).sub ⟨M,M,M,M,aB⟩) ?_
    (try dsimp only);exact ⟨O,by rw [hnx,iW];exact KR,by rw [hnx,kR];exact (atD.snoc Oj (by rw [Rx];rfl)),agz⟩
  intro h10 a H
  try have jc:=dF h10
  refine dQ ?_;refine K3 _ _ ?_;clear K3;refine bO (fun _ bU=>?_)
  obtain rfl:k=l.length:=by omega
  obtain ⟨G',hm,hrep,H⟩:=H.qp (Li:=[]) hrw (rows:=out.map au.dat) (by simp) fK;exact kP H (SC (Rm M (bD bU M (LR results58 M fun H=>H.rt (by rw [kK,<- hout];exact hrep)))))
theorem ais:∀ n:Nat,n<=1073741825->Gm n
 | 0,_=>fun _ _ _ _ _ _ _ h=>absurd h O
 | n+1,hn=>awX (ais n O) O
theorem awZ (G:GH) (w0:World) (hG:Hold G w0) (l:List au) (v:ah) (hv:ak G (.sl 11 (l.map au.dat)) v) (hne:wX l) (hz:dH l<=1073741824) :
  Calls prog 58 #[v] w0 (bG w0 G fun u G'=>ak G' (.sl 11 ((kK l).map au.dat)) u):=ais 1073741825 O G w0 hG l v hv hne O
theorem aqy:aS 59:=aT func59 M
theorem aqA:aS 63:=aT func63 M
theorem aqz:aS 61:=aT func61 M
theorem aAX {G:GH} {b3:Nat} {us:List Int} {uv:ah} (hb:aH G b3 0=some uv) (hu:ak G (.sl 1 (us.map fun k=>[li k])) uv) (hl:us.length<=4294967296) (x:bV):uM (.func (.func 61) #[] #[(aK b3 0)]) G x.dat (!oU us x.id):=by
 intro G1 w0 cs hm hG hr;obtain rfl:=OJ hr;replace hb:=aC hm hb;replace hu:=hu.mono hm;obtain ⟨uA,uc,rfl,-,-,-⟩:=hu.slice;refine jy (caps:=[(aK b3 0)]) aqz ?_;refine eN [(0,_),(1,_)] func61 M ntmps61 M M hG ?_;intro a H;refine dz (fun _ K1=>?_);refine dR (cs:=[_,_,_]) H wn M M M ?_;clear H;intro b2 a w hb2 H;refine kH H (aj K1 M (SR fun _ K2=>Rg mE M hb (bQ WO aF 0 M M ?_)));clear H K1;intro a H;refine s_call afd H wn M (adr _ _ H.ro us x.id _ hu hl) M ?_;clear H;rintro v10 EA a w ⟨rfl,rfl⟩ DW H;refine kH H (Rm M ?_);clear H;intro a H;(iterate 2 refine lT H wn M M M ?_;clear H;intro a H);exact kH H (Ra M (aj K2 M (SR fun _ K3=>Rm M (Rn M (aj K3 M (LR results61 M fun H=>H.rt M))))))
def oZ (d:gu):gu:=⟨kK d.flow,d.fin,d.revs,d.iH⟩
def nD (d:gu):gu:=⟨kK d.flow,d.fin,d.revs.filter fun r=>oU (oI (nP (oZ d))) r.id,d.iH⟩
theorem ayp (G:GH) (l:List bV):dx G 3 (l.map bV.dat) (pJ l):=by
 have h:∀ (B A:List bV),dx G 3 (A.map bV.dat) (pJ A)->dx G 3 ((A++B).map bV.dat) (pJ (A++B)):=by
  intro B
  induction B with
  | nil=>intro A h;rw [ig];exact h
  | cons x B ih =>
   intro A h;have h2:=h.snoc (OM G x) M;have h3:=ih (A++[x]) (by rw [ZF,kR];exact h2)
   simpa using h3
 exact h l [] dx.nil
set_option maxHeartbeats 2000000 in
set_option maxRecDepth 8000 in
theorem anU (G:GH) (w0:World) (hG:Hold G w0) (D:kN) (d:gu) (hR:oL G D d) (hz:Aj d) (hne:wX d.flow) (hz2:dH (kK d.flow)<=1073741824) (hw:∀ k∈nP (oZ d),-9223372036854775808<=k∧k < 9223372036854775808) (hl:(nP (oZ d)).length<=4294967296) :
  Calls prog 17 #[D.val] w0 (bG w0 G fun u G'=>∃ D':kN,u=D'.val∧oL G' D' (nD d)):=by
 obtain ⟨df,dp,dd,dy,dr,d1,d2,d3,d4,ins,mv⟩:=D;obtain ⟨zf,zh,zr,zt,zs,I9⟩:=hz;refine eN [(0,_)] func17 M ntmps17 M M hG ?_;intro a H;refine dz (fun _ K1=>?_);refine dR (cs:=[_,_,_,_,_,_,_,_,_,_,_]) H wn M M M ?_;clear H;intro b1 a w hb1 H;refine dJ iB H wn M ?_;clear H;intro b2 a w hb2 H;refine K1 _ _ ?_;clear K1;refine kP H (SR fun _ K2=>bQ vX kW 1 M M ?_);clear H;intro a H;refine s_call WE H wn M (awZ _ _ H.ro d.flow _ hR.fl hne zf) M ?_;clear H;rintro v6 G6 a w hv6 H9 H;obtain ⟨fA,fn,fc,rfl⟩:=hv6.form;have yU:oL G6 ⟨(fA,fn,fc),dp,dd,dy,dr,d1,d2,d3,d4,ins,mv⟩ (oZ d):=⟨hv6,hR.hd.mono H9,hR.ins,hR.mv,hR.rv.mono H9,hR.st.mono H9⟩;refine kH H (Rf vX M ?_);clear H;intro a H;refine bC kW 1 (vs:=[_]) H wn M ?_;clear H;intro w H;refine K2 _ _ ?_;clear K2;refine dz (fun _ K3=>?_);refine aU iB (cs:=(⟨(fA,fn,fc),dp,dd,dy,dr,d1,d2,d3,d4,ins,mv⟩:kN).cells) H wn M M (H.hp.cB 1 M M) M ?_;clear H;intro a H;refine s_call aqm H wn M (anV _ _ H.ro _ _ yU (by show dH (kK d.flow)<=_;omega) hw hl) rfl ?_;clear H;rintro v9 G9 a w R5 Bc H;obtain ⟨uA,un,uc,rfl⟩:=R5.form;refine dJ mE H wn M ?_;clear H;intro b3 a w hb3 H;refine bC mE 0 (vs:=[_]) H wn M ?_;clear H;intro w H;refine K3 _ _ ?_;clear K3;refine bO (fun _ K4=>?_);obtain ⟨Gb,hmb,tF,H⟩:=H.fF;have hq3:aH Gb b3 0=some (.slice uA un uc):=lY tF 0 [.slice uA un uc] M 0 _ M;replace R5:=R5.mono hmb;replace yU:=(yU.mono Bc).mono hmb;refine kP H (SC (bQ Ck xk 1 M M ?_));clear H;intro a H;refine gM afc (Li:=[_,_]) (L:=[]) H wn M (adR _ _ (wY H.ro) _ _ _ _ yU.rv (by simpa [oZ] using zr)) M ?_;clear H;rintro v12 Df L12 a w ⟨aCM,Yj,atA⟩ DZ H;obtain rfl:=ayq atA;rw [bS] at Yj;obtain ⟨rA,rc,rfl,-,-⟩:=Yj.shape;refine uJ H wn M M ?_;clear H;intro a H;refine gM aqy (Li:=[_,_]) (L:=L12) H wn M (anS d.revs (fun r=>!oU (oI (nP (oZ d))) r.id) (Hp.owns (Li:=[_,_]) H.hp) Yj (fun x _=>aAX (aC DZ hq3) (R5.mono DZ) (by rw [oI,List.length_mergeSort];exact hl) x)) M ?_;clear H;rintro v14 EB L14 a w Ol D6 H
 simp only [Bool.not_not] at Ol
 obtain ⟨Gr,hmr,ahj,H⟩:=St.qp (Li:=[_,_]) H Ol (rows:=(nD d).revs.map bV.dat) (by simp [nD]) (ayp _ _);obtain ⟨rB,rn,rd,rfl⟩:=ahj.form;replace yU:=((yU.mono DZ).mono D6).mono hmr;have hR2:oL Gr ⟨(fA,fn,fc),dp,dd,dy,(rB,rn,rd),d1,d2,d3,d4,ins,mv⟩ (nD d):=⟨yU.fl,yU.hd,yU.ins,yU.mv,ahj,yU.st⟩;refine kH H (Rf Ck M ?_);clear H;intro a H;refine bC xk 1 (vs:=[_]) H wn M ?_;clear H;intro w H;refine aG ?_;refine K4 _ _ ?_;clear K4;refine dz (fun _ K5=>?_);refine aU iB (cs:=(⟨(fA,fn,fc),dp,dd,dy,(rB,rn,rd),d1,d2,d3,d4,ins,mv⟩:kN).cells) H wn M M (H.hp.cB 1 M M) M ?_;clear H;intro a H;refine gM aqA (Li:=[_,_]) (L:=[]) H wn M (anT _ _ (wY H.ro) _ _ hR2 ⟨by show dH (kK d.flow)<=_;omega,zh,Nat.le_trans (List.length_filter_le _ _) zr,fun x hx=>zt x (List.mem_filter.1 hx).1,zs,I9⟩) M ?_;clear H;rintro v17 BI UC a w ⟨D',rfl,xf,Lf,xr,Lr,rfl,KT,XK,KU,XL,auf,aug,aup,hst'⟩ tH H;obtain ⟨Gs,hms,auK,H⟩:=St.qp (Li:=[_,_]++Lf) (by rw [jv];exact H) KU (rows:=(nD d).revs.map bV.dat) (by simp) XL;obtain ⟨Gt,hmt,aua,H⟩:=St.qp (Li:=[_,_]) H KT (rows:=(nD d).flow.map au.dat) (by simp) (XK.mono hms);refine bC iB 0 (vs:=[_,_,_,_,_,_,_,_,_,_,_]) H wn M ?_;clear H;intro w H;refine K5 _ _ ?_;clear K5;refine fE ?_;refine (leave1 H results17 (.cons (ny iB (cs:=[_,_,_,_,_,_,_,_,_,_,_]) H M M (H.hp.cB 0 M M)) .nil) ?_).1;exact H.rt ⟨D',M,aua,(auf.mono hms).mono hmt,aug,aup,auK.mono hmt,(hst'.mono hms).mono hmt⟩
theorem EX {l:List Int} (h:∀ x∈l,x=0):dO l=0:=by
 induction l with
 | nil=>rfl
 | cons x l ih=>rw [h x dX];simp only [dO,ne_eq,not_true_eq_false,if_false];exact ih fun y hy=>h y (gW _ hy)
theorem Jw {E:Nat->Int} {n:Nat} (h:∀ i,i < n->E i=0):iX E n=0:=EX fun x hx=>by
 obtain ⟨i,hi,rfl⟩:=List.mem_map.1 hx;exact h i (vN.1 hi)
def F5 (kM:List Int) (h:dN):Prop:=∀ q∈refs h,q≠0->q∈kM
theorem NQ {C C':bE} {e:Int} {h:dN} (h1:C'.st=C.st) (h2:C'.nM=C.nM) (h0:0∉C.kM) (hin:F5 C'.kM h) (hE:iG C e h=0):iG C' e h=0:=by
 have z:=lN hE;have z1:=z (qU e h.props) (by simp);have z2:=z (zl C h.props) (by simp);have z3:=z (jX C h.marks) (by simp);have z4:=z (iX (uo C h.marks.bK) h.marks.bK.length) (by simp);have z5:=z (dL (decide (64 < (h.marks.layers.length:Int))) 9) (by simp);have z6:=z (iX (xZ C e h.marks.layers) h.marks.layers.length) (by simp);have hr:∀ q∈refs h,q=0∨q∈C.kM:=XO hE;refine EX fun x hx=>?_
 simp only [gK,List.not_mem_nil,or_false] at hx
 rcases hx with rfl|rfl|rfl|rfl|rfl|rfl
 ·exact z1
 ·rw [zl,h1,h2];exact z2
 ·unfold jX at z3 |-
  have hi:¬ (h.marks.ins≠0∧h.marks.ins∉C'.kM):=fun hn=>hn.2 (hin _ (by simp [refs]) hn.1)
  by_cases hq:h.marks.ins≠0∧h.marks.ins∉C.kM
  ·rw [aD hq] at z3;cases z3
  rw [av hq] at z3;rw [av hi];exact z3
 ·refine Jw fun k hk=>?_;have h5:=BX z4 k hk
  unfold uo at h5 |-
  rw [eB hk] at h5 |-;dsimp only [uT] at h5 |-
  have hm:h.marks.bK[k].rev∈refs h:=by simp only [refs,gK,jQ,List.mem_map];exact .inr (.inl ⟨_,lq hk,M⟩)
  by_cases hq:h.marks.bK[k].rev∉C.kM
  ·rw [aD hq] at h5;cases h5
  rw [av hq] at h5;rw [av (fun hn=>hn (hin _ hm fun e=>h0 (e ▸ oN.1 hq)))];exact h5
 ·exact z5
 refine Jw fun k hk=>?_;have h5:=BX z6 k hk
 unfold xZ at h5 |-
 rw [eB hk] at h5 |-;dsimp only [Bn] at h5 |-
 have hm:h.marks.layers[k].rev∈refs h:=by simp only [refs,gK,jQ,List.mem_map];exact .inr (.inr ⟨_,lq hk,M⟩)
 by_cases hq:h.marks.layers[k].rev∉C.kM
 ·rw [aD hq] at h5;cases h5
 rw [av hq] at h5;rw [av (fun hn=>hn (hin _ hm fun e=>h0 (e ▸ oN.1 hq))),h1,h2];exact h5
mutual
theorem ayW {C C':bE} (h1:C'.st=C.st) (h2:C'.nM=C.nM) (h0:0∉C.kM) (body note:Bool) (t:Int):∀ x:au,(∀ h∈AO x,F5 C'.kM h)->mq C body note t x->mq C' body note t x
 | .mk k c i tx h f r,hh,hx=>by
  have hf:=OO h1 h2 h0 false true t f;have hr:=ajo h1 h2 h0 note (t+1) r;rw [AO] at hh;rw [mq] at hx |-;refine ⟨hx.1,hx.2.1,NQ h1 h2 h0 (hh h dX) hx.2.2.1,fun e=>?_,fun e=>⟨(hx.2.2.2.2 e).1,?_⟩⟩
  ·subst e;exact hf (fun y hy=>hh y (gW _ (by simpa using hy))) (hx.2.2.2.1 M)
  subst e;exact hr (fun y hy=>hh y (gW _ (by simpa using hy))) (hx.2.2.2.2 M).2
theorem ayX {C C':bE} (h1:C'.st=C.st) (h2:C'.nM=C.nM) (h0:0∉C.kM) (note:Bool) (t:Int):∀ x:aV,(∀ h∈Fa x,F5 C'.kM h)->pY C note t x->pY C' note t x
 | .mk h cs,hh,hx=>by
  have hc:=ajn h1 h2 h0 note t cs;rw [Fa] at hh;rw [pY] at hx |-;refine ⟨EX fun y hy=>?_,hc (fun y hy=>hh y (gW _ hy)) hx.2⟩;have z:=lN hx.1
  simp only [gK,List.not_mem_nil,or_false] at hy
  rcases hy with rfl|rfl|rfl
  ·exact NQ h1 h2 h0 (hh h dX) (z _ dX)
  ·exact z _ (by simp)
  exact z _ (by simp)
theorem ayV {C C':bE} (h1:C'.st=C.st) (h2:C'.nM=C.nM) (h0:0∉C.kM) (note:Bool) (t:Int):∀ x:aX,(∀ h∈E8 x,F5 C'.kM h)->pX C note t x->pX C' note t x
 | .mk i h f,hh,hx=>by
  have hf:=OO h1 h2 h0 false note t f;rw [E8] at hh;rw [pX] at hx |-;exact ⟨NQ h1 h2 h0 (hh h dX) hx.1,hf (fun y hy=>hh y (gW _ hy)) hx.2⟩
theorem OO {C C':bE} (h1:C'.st=C.st) (h2:C'.nM=C.nM) (h0:0∉C.kM) (body note:Bool) (t:Int):∀ l:List au,(∀ h∈ku l,F5 C'.kM h)->iU C body note t l->iU C' body note t l
 | [],_,_=>by rw [iU];trivial
 | x :: l,hh,h=>by
  rw [ku] at hh;rw [iU] at h |-;exact ⟨ayW h1 h2 h0 body note t x (fun y hy=>hh y (List.mem_append_left _ hy)) h.1,OO h1 h2 h0 body note t l (fun y hy=>hh y (List.mem_append_right _ hy)) h.2⟩
theorem ajo {C C':bE} (h1:C'.st=C.st) (h2:C'.nM=C.nM) (h0:0∉C.kM) (note:Bool) (t:Int):∀ l:List aV,(∀ h∈pU l,F5 C'.kM h)->kL C note t l->kL C' note t l
 | [],_,_=>by rw [kL];trivial
 | x :: l,hh,h=>by
  rw [pU] at hh;rw [kL] at h |-;exact ⟨ayX h1 h2 h0 note t x (fun y hy=>hh y (List.mem_append_left _ hy)) h.1,ajo h1 h2 h0 note t l (fun y hy=>hh y (List.mem_append_right _ hy)) h.2⟩
theorem ajn {C C':bE} (h1:C'.st=C.st) (h2:C'.nM=C.nM) (h0:0∉C.kM) (note:Bool) (t:Int):∀ l:List aX,(∀ h∈qH l,F5 C'.kM h)->lH C note t l->lH C' note t l
 | [],_,_=>by rw [lH];trivial
 | x :: l,hh,h=>by
  rw [qH] at hh;rw [lH] at h |-;exact ⟨ayV h1 h2 h0 note t x (fun y hy=>hh y (List.mem_append_left _ hy)) h.1,ajn h1 h2 h0 note t l (fun y hy=>hh y (List.mem_append_right _ hy)) h.2⟩
end
end Go.Proofs.YtdiflmikikiedaaGreat
