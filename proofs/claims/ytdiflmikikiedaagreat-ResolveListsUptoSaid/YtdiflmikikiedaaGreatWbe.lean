/-
  What the claim stands on, part 5: De24 Dnn Rw24 Ni13 Mn Lay Srt Ms Ids Usd Rf0 Dlr Ccl Cst Dcl Nm Nml Nd13.
-/
import Derived.Test.YtdiflmikikiedaaGreatWbd
import Derived.Shelf.SlIterI.Nil
import Derived.Shelf.SortM.Plain
import Derived.Shelf.SortM.SortNone
namespace Go.Proofs.YtdiflmikikiedaaGreat
set_option linter.all false
open Go.Proofs.Tryz
set_option maxRecDepth 20000
set_option maxHeartbeats 4000000
section
open Go.RowKit
instance:Ty prog 232 1 8 [.nilFunc] false:=⟨by kernel_rfl,by kernel_rfl⟩
theorem X6:∀ args w,(callFunc 157 args).run prog w=.ok (.enter 157 args) w:=enters func157 rfl (by kernel_rfl)
theorem FK:prog.underlying 240=some (.slice 242):=by kernel_rfl
instance:kg prog 240 (.slice 242):=⟨FK⟩
theorem IB:oO prog 29 [(0,1),(1,4)] [.slice none 0 0,.int .i64 0,.int .i64 0,.slice none 0 0,.slice none 0 0]:=⟨by kernel_rfl,by kernel_rfl⟩
theorem Vo:oO prog 27 [(0,1),(1,1),(2,1),(3,1)] [.int .i64 0,.int .i64 0,.slice none 0 0,.slice none 0 0]:=⟨by kernel_rfl,by kernel_rfl⟩
theorem agW:∀ args w,(callFunc 160 args).run prog w=.ok (.enter 160 args) w:=enters func160 rfl (by kernel_rfl)
theorem agX:∀ args w,(callFunc 161 args).run prog w=.ok (.enter 161 args) w:=enters func161 rfl (by kernel_rfl)
theorem agY:∀ args w,(callFunc 162 args).run prog w=.ok (.enter 162 args) w:=enters func162 rfl (by kernel_rfl)
theorem agZ:∀ args w,(callFunc 163 args).run prog w=.ok (.enter 163 args) w:=enters func163 rfl (by kernel_rfl)
theorem aha:∀ args w,(callFunc 164 args).run prog w=.ok (.enter 164 args) w:=enters func164 rfl (by kernel_rfl)
theorem agS:∀ args w,(callFunc 155 args).run prog w=.ok (.enter 155 args) w:=enters func155 rfl (by kernel_rfl)
theorem agT:∀ args w,(callFunc 156 args).run prog w=.ok (.enter 156 args) w:=enters func156 rfl (by kernel_rfl)
theorem agU:∀ args w,(callFunc 158 args).run prog w=.ok (.enter 158 args) w:=enters func158 rfl (by kernel_rfl)
def Bq (vv:aj) (G:GH) (acc rej:Int→Bool):Prop:=∀ (G1:GH) (w1:World),(∀ b o,G b=some o→G1 b=some o)→Hold G1 w1→∀ r:Int,qp prog vv [vi r] w1 (bB w1 G1 fun u G'=>u=.tuple #[.bool (acc r),.bool (rej r)])
def yL (fv:aj) (G:GH) (f:Int→Bool):Prop:=∀ (G1:GH) (w1:World),(∀ b o,G b=some o→G1 b=some o)→Hold G1 w1→∀ r:Int,qp prog fv [vi r] w1 (bB w1 G1 fun u G'=>u=.bool (f r))
theorem Bq.mono {vv:aj} {G G':GH} {acc rej:Int→Bool} (hm:∀ b o,G b=some o→G' b=some o) (h:Bq vv G acc rej):Bq vv G' acc rej:=fun G1 w1 h1=>h G1 w1 fun b o hb=>h1 b o (hm b o hb)
theorem yL.mono {vv:aj} {G G':GH} {f:Int→Bool} (hm:∀ b o,G b=some o→G' b=some o) (h:yL vv G f):yL vv G' f:=fun G1 w1 h1=>h G1 w1 fun b o hb=>h1 b o (hm b o hb)
abbrev Mv (b:Nat):aj:=.func (.func 155) #[] #[(aG b 0)]
abbrev OM (b:Nat):aj:=.func (.func 156) #[] #[(aG b 0)]
theorem adX {G:GH} {b:Nat} {vv:aj} {acc rej:Int→Bool} (hb:aI G b 0=some vv) (hv:Bq vv G acc rej):yL (Mv b) G acc:=by
 intro G1 w0 hm hG r;refine iN (caps:=[(aG b 0)]) agS ?_;replace hb:=aH hm hb;refine eN [(0,_),(1,_)] func155 rfl ntmps155 rfl rfl hG ?_;refine ak 6 ?_;intro a H;refine ji H wn rfl rfl (hv _ _ hm H.ro r) rfl ?_;clear H;rintro v9 G9 a w rfl wT H;refine aD 1 H ?_;clear H;intro a H;(iterate 2 refine jK H wn rfl rfl rfl ?_;clear H;intro a H);refine fH 7 H ?_;exact rfl
theorem apL {G:GH} {b:Nat} {vv:aj} {acc rej:Int→Bool} (hb:aI G b 0=some vv) (hv:Bq vv G acc rej):yL (OM b) G rej:=by
 intro G1 w0 hm hG r;refine iN (caps:=[(aG b 0)]) agT ?_;replace hb:=aH hm hb;refine eN [(0,_),(1,_)] func156 rfl ntmps156 rfl rfl hG ?_;refine ak 6 ?_;intro a H;refine ji H wn rfl rfl (hv _ _ hm H.ro r) rfl ?_;clear H;rintro v9 G9 a w rfl wT H;refine aD 1 H ?_;clear H;intro a H;(iterate 2 refine jK H wn rfl rfl rfl ?_;clear H;intro a H);refine fH 7 H ?_;exact rfl
theorem XM {G:GH} {b:Nat} {fv:aj} {acc:Int→Bool} (hb:aI G b 0=some fv) (hv:yL fv G acc) (x:fE):rC (.func (.func 158) #[] #[(aG b 0)]) G x.dat (acc x.rev):=by
 intro G1 w0 cs hm hG hr;obtain rfl:=Jq hr;refine iN (caps:=[(aG b 0)]) agU ?_;replace hb:=aH hm hb;refine eN [(0,_),(1,_)] func158 rfl ntmps158 rfl rfl hG ?_;refine ak 1 ?_;intro a H;refine dP (cs:=[_,_]) H wn rfl rfl rfl ?_;clear H;intro b2 a w hb2 H;refine aD 6 H ?_;clear H;intro a H;refine ji H wn rfl rfl (hv _ _ hm H.ro x.rev) rfl ?_;clear H;rintro v7 G7 a w rfl wS H;refine fH 2 H ?_;exact rfl
theorem apk (G:GH) (w0:World) (hG:Hold G w0) (l:List aT) (v:aj) (hv:au G (.sl 2 (l.map aT.dat)) v) (hz:l.length≤4294967296) :
  Calls prog 159 #[v] w0 (bB w0 G fun u G'=>au G' (.sl 2 (l.map aT.dat)) u):=by
 obtain ⟨A,n,c,rfl⟩:=hv.form;refine eN [(0,_)] func159 rfl ntmps159 rfl rfl hG ?_;refine ak 5 ?_;intro a H;refine s_call M6 H wn rfl (QC _ _ H.ro _ _ _ _ hv (by simpa using hz)) rfl ?_;clear H;rintro v4 G4 a w TA Av H;refine fH 2 H ?_;exact TA
abbrev Lb (s:Int × Bool):List Dat:=[li s.1,.lf (.bool s.2)]
theorem acB (G:GH) (s:Int × Bool):aW G (Lb s) [vi s.1,.bool s.2]:=by simp [aW,au,Value.oneCell']
theorem acE {G:GH} {l:List (Int × Bool)} {A:Option Addr} {n c k:Nat} (hv:au G (.sl 2 (l.map Lb)) (.slice A n c)) (hk:k < l.length):∃ b o,A=some ⟨b,o,none⟩∧∀ j u,[vi l[k].1,.bool l[k].2][j]?=some u→aI G b (o+k*2+j)=some u:=by
 obtain ⟨b,o,cs,h1,h2,h3,h4⟩:=hv.at_ k (Lb l[k]) (by simp [hk])
 simp only [aW,au] at h4
 obtain ⟨_,_,rfl,⟨rfl,-⟩,_,_,rfl,⟨rfl,-⟩,rfl⟩:=h4;exact ⟨b,o,h1,h3⟩
theorem anR (G:GH) (y:cK):aW G y.dat y.cells:=by simp [cK.dat,cK.cells,aW,au,Value.oneCell']
theorem XL (G:GH) (y:fE):aW G y.dat y.cells:=by simp [fE.dat,fE.cells,aW,au,Value.oneCell']
theorem arV (props:List aT) (key:Int) (l:List cK):(pJ props key l).length=l.length+1:=by simp [pJ]
theorem GZ {l:List fE} {p:fE→Bool}:(l.findIdx? p).isSome=true↔∃ x∈l,p x=true:=by rw [List.findIdx?_isSome,List.any_eq_true]
theorem akq {L:List (Int × List cK)} {l:List cK} (h:L.flatMap Prod.snd=l) (hn:∀ q∈L,q.2≠[]) (k:Nat) (hk:k≤L.length):k≤((L.take k).flatMap Prod.snd).length∧((L.take k).flatMap Prod.snd).length≤l.length:=by
 constructor
 ·induction k with
  | zero=>exact gW _
  | succ k ih =>
   have:=ih (by omega);rw [fQ (by omega),List.flatMap_append,iC];have h2:=List.length_pos_iff.2 (hn L[k] (lD (by omega)))
   simp only [List.flatMap_cons,List.flatMap_nil,gD]
   omega
 have e:l=(L.take k).flatMap Prod.snd++(L.drop k).flatMap Prod.snd:=by rw [← List.flatMap_append,List.take_append_drop,h]
 rw [e,iC];omega
def nk (acc rej:Int→Bool) (h:dW) (u:aj) (G:GH):Prop:=if kX acc rej h then WI false zQ u G else WI true (lF acc rej h) u G
theorem UA (G:GH) (w0:World) (hG:Hold G w0) (acc rej:Int→Bool) (vv:aj) (hvv:Bq vv G acc rej) (hcv:vv.cells=#[vv]) (h:dW) (p d l:aj) (hh:fC G h p d l) (hz:kV h≤1073741824) :
    Calls prog 96 #[pq h p d l,vv] w0 (bB w0 G (nk acc rej h)):=by
  have hml:maxLen=9223372036854775807:=rfl;have hzh:=D9 h;have hz1:=oM (h.props.map aT.dat);have hz2:=oM (h.marks.bL.map fE.dat);have hz3:=oM (h.marks.layers.map cK.dat)
  simp only [bM] at hz1 hz2 hz3
  obtain ⟨pA,pn,pc,rfl⟩:=hh.props.form;obtain ⟨dA,dn,dc,rfl⟩:=hh.bL.form;obtain ⟨lA,ln,lc,rfl⟩:=hh.layers.form;have hdn:=hh.bL.len;rw [bM] at hdn;subst hdn;refine eN [(0,_),(1,_)] func96 rfl ntmps96 rfl rfl hG ?_;refine ak 1 ?_;intro a H;refine dP (cs:=[_,_,_,_,_]) H wn rfl rfl rfl ?_;clear H;intro b2 a w hb2 H;refine dP (cs:=[vv]) H wn rfl hcv rfl ?_;clear H;intro b3 a w hb3 H;refine dz dw H wn rfl ?_;clear H;intro b4 a w hb4 H;refine aD 3 H ?_;clear H;intro a H;refine nS H wn rfl rfl ?_;clear H;intro a H;refine dz FD H wn rfl ?_;clear H;intro b6 a w hb6 H;refine aV FD 0 (vs:=[_]) _ H wn rfl rfl rfl rfl rfl rfl rfl rfl ?_;clear H;intro w H;dsimp only [List.set,setRow] at H;refine aD 2 H ?_;clear H;intro a H;refine nS H wn rfl rfl ?_;clear H;intro a H;refine dz FD H wn rfl ?_;clear H;intro b7 a w uM H;refine aV FD 0 (vs:=[_]) _ H wn rfl rfl rfl rfl rfl rfl rfl rfl ?_;clear H;intro w H;dsimp only [List.set,setRow] at H;refine aD 3 H ?_;clear H;intro a H;refine aS CB (cs:=[_,_,_,_]) H wn rfl rfl (H.hp.bN 4 rfl rfl) rfl ?_;clear H;intro a H;refine dz CB H wn rfl ?_;clear H;intro b8 a w Ar H;refine aV CB 0 (vs:=[_,_,_,_]) _ H wn rfl rfl rfl rfl rfl rfl rfl rfl ?_;clear H;intro w H;dsimp only [List.set,setRow] at H;have H:=H.dY (Pl:=[_,_,_,_,_,_]) (dM:=[_,_,_,_,_,_]) [5,4,2,1,0,3] (by decide) rfl;obtain ⟨Ga,hma,hb2',H⟩:=H.dZ;obtain ⟨Gb,hmb,uL,H⟩:=H.dZ;obtain ⟨Gc,hmc,SN,H⟩:=H.dZ;obtain ⟨Gd,hmd,SV,H⟩:=H.dZ;obtain ⟨Ge,hme,alu,H⟩:=H.dZ;have Dl:∀ b o,G b=some o→Ge b=some o:=fun b o h=>hme b o (hmd b o (hmc b o (hmb b o (hma b o h))));have q2:∀ j v,[.slice pA pn pc,vi h.marks.ins,vi h.marks.move,.slice dA h.marks.bL.length dc,.slice lA ln lc][j]?=some v→aI Ge b2 (0+j)=some v:=fun j v hj=>aH (fun b o h=>hme b o (hmd b o (hmc b o (hmb b o h)))) (kL hb2' 0 _ rfl j v hj);have q8:∀ j v,[vi h.marks.ins,vi h.marks.move,.slice dA h.marks.bL.length dc,.slice lA ln lc][j]?=some v→aI Ge b8 (0+j)=some v:=fun j v hj=>kL alu 0 _ rfl j v hj;have hvb:aI Gb b3 0=some vv:=kL uL 0 [vv] rfl 0 _ rfl;have vP:yL (Mv b3) Ge acc:=(adX hvb (hvv.mono fun b o h=>hmb b o (hma b o h))).mono fun b o h=>hme b o (hmd b o (hmc b o h));have wQ:yL (OM b3) Ge rej:=(apL hvb (hvv.mono fun b o h=>hmb b o (hma b o h))).mono fun b o h=>hme b o (hmd b o (hmc b o h));have q6:aI Ge b6 0=some (Mv b3):=aH (fun b o h=>hme b o (hmd b o h)) (kL SN 0 [Mv b3] rfl 0 _ rfl);have q7:aI Ge b7 0=some (OM b3):=aH hme (kL SV 0 [OM b3] rfl 0 _ rfl);replace hh:=hh.mono Dl;refine aC ?_;refine dR ?_;refine qz (ι:=GH) (Tc:=[(2,_),(4,_),(6,_),(7,_),(8,_)]) (Lc:=[(_,_)]) (fun gh=>[]) (fun gh=>[]) (fun gh=>gh) (fun gh=>¬ kX acc rej h∧(∀ b o,Ge b=some o→gh b=some o)) sB ?_ ?_
  · refine fO 2 H ?_;clear H;intro a H;refine iF bR H wn rfl (H.hp.aI (q8 0 _ rfl)) rfl ?_;clear H;refine jV 2 29 ?_ ?_
    · intro oH
      try have p29:=dT oH
      refine ak 2 ?_;intro a H;refine iF bR H (wg H rfl rfl oH) rfl (H.hp.aI (q8 0 _ rfl)) rfl ?_;clear H;intro a H;refine ji H (wg H rfl rfl oH) rfl rfl (wQ _ _ (fun _ _ h=>h) H.ro h.marks.ins) rfl ?_;clear H;rintro v33 G33 a w rfl ZF H;refine kT 2 35 H ?_ ?_ <;> clear H
      · intro yZ
        try have p35:=dT yZ
        refine ak 8 ?_;intro a H;refine iy IB [_,_,_,_,_] H wn rfl rfl rfl rfl ?_;clear H;intro a H;refine aV dw 0 (vs:=[_,_,_,_,_]) _ H wn rfl rfl rfl rfl rfl rfl rfl rfl ?_;clear H;intro w H;dsimp only [List.set,setRow] at H;refine aD 2 H ?_;clear H;intro a H;refine bZ ?_;refine (eT H results96 (.cons (kF dw (cs:=[_,_,_,_,_]) H rfl rfl (H.hp.bN 0 rfl rfl)) (.cons (bq H rfl) .nil)) ?_).1
        first
          | exact H.rt (by rw [nk,av (by first|exact .inl ⟨by assumption,by assumption⟩|exact .inr (GZ.1 (by assumption)))];exact ⟨_,_,_,rfl,FQ _⟩)
          | (obtain ⟨P7,zx,rV,H⟩:=St.mR (Li:=[_,_]) H hrw (rows:=ly.map cK.dat) (by simp) dV
             exact H.rt (by rw [nk,ah tK,NJ];exact ⟨_,_,_,rfl,⟨hpv.mono zx,(hdr.mono jv).mono zx,rV⟩⟩))
      intro yZ
      try have p35:=dF yZ
      refine ak 1 ?_;intro a H;refine iF Cz H (wg H rfl rfl yZ) rfl (H.hp.aI (aH (by first|assumption|exact fun _ _ h=>h) (q8 2 _ rfl))) rfl ?_;clear H;intro a H;refine nS H (wg H rfl rfl yZ) rfl rfl ?_;clear H;intro a H;refine s_call X6 H (wg H rfl rfl yZ) rfl (XA _ _ H.ro h.marks.bL (fun x=>acc x.rev) _ _ (hh.bL.mono (by first|assumption|exact fun _ _ h=>h)) (fun x _=>XM (aH (by first|assumption|exact fun _ _ h=>h) q6) (vP.mono (by first|assumption|exact fun _ _ h=>h)) x)) rfl ?_;clear H;rintro v39 Me a w rfl zu H;refine gQ 2 H ?_ ?_ <;> clear H
      · intro p40
        refine ak 1 ?_;intro a H;refine iy IB [_,_,_,_,_] H wn rfl rfl rfl rfl ?_;clear H;intro a H;refine aV dw 0 (vs:=[_,_,_,_,_]) _ H wn rfl rfl rfl rfl rfl rfl rfl rfl ?_;clear H;intro w H;dsimp only [List.set,setRow] at H;refine aD 2 H ?_;clear H;intro a H;refine bZ ?_;refine (eT H results96 (.cons (kF dw (cs:=[_,_,_,_,_]) H rfl rfl (H.hp.bN 0 rfl rfl)) (.cons (bq H rfl) .nil)) ?_).1
        first
          | exact H.rt (by rw [nk,av (by first|exact .inl ⟨by assumption,by assumption⟩|exact .inr (GZ.1 (by assumption)))];exact ⟨_,_,_,rfl,FQ _⟩)
          | (obtain ⟨P7,zx,rV,H⟩:=St.mR (Li:=[_,_]) H hrw (rows:=ly.map cK.dat) (by simp) dV
             exact H.rt (by rw [nk,ah tK,NJ];exact ⟨_,_,_,rfl,⟨hpv.mono zx,(hdr.mono jv).mono zx,rV⟩⟩))
      intro p40
      intro a H;refine jB ?_;refine ⟨_,sB,?_⟩;exact ⟨fun hg=>hg.elim (fun g=>by simp_all) (fun g=>by have g4:=GZ.2 g;simp_all),by first|assumption|exact fun b o h=>zu b o (ZF b o h)⟩
    intro oH
    try have p29:=dF oH
    refine ak 6 ?_;intro a H;refine Iz GV H (wg H rfl rfl rfl) rfl rfl ?_;clear H;intro a H;refine iF Cz H (wg H rfl rfl rfl) rfl (H.hp.aI (aH (by first|assumption|exact fun _ _ h=>h) (q8 2 _ rfl))) rfl ?_;clear H;intro a H;refine nS H (wg H rfl rfl rfl) rfl rfl ?_;clear H;intro a H;refine s_call X6 H (wg H rfl rfl rfl) rfl (XA _ _ H.ro h.marks.bL (fun x=>acc x.rev) _ _ (hh.bL.mono (by first|assumption|exact fun _ _ h=>h)) (fun x _=>XM (aH (by first|assumption|exact fun _ _ h=>h) q6) (vP.mono (by first|assumption|exact fun _ _ h=>h)) x)) rfl ?_;clear H;rintro v39 Me a w rfl zu H;refine gQ 2 H ?_ ?_ <;> clear H
    · intro p40
      refine ak 1 ?_;intro a H;refine iy IB [_,_,_,_,_] H wn rfl rfl rfl rfl ?_;clear H;intro a H;refine aV dw 0 (vs:=[_,_,_,_,_]) _ H wn rfl rfl rfl rfl rfl rfl rfl rfl ?_;clear H;intro w H;dsimp only [List.set,setRow] at H;refine aD 2 H ?_;clear H;intro a H;refine bZ ?_;refine (eT H results96 (.cons (kF dw (cs:=[_,_,_,_,_]) H rfl rfl (H.hp.bN 0 rfl rfl)) (.cons (bq H rfl) .nil)) ?_).1
      first
        | exact H.rt (by rw [nk,av (by first|exact .inl ⟨by assumption,by assumption⟩|exact .inr (GZ.1 (by assumption)))];exact ⟨_,_,_,rfl,FQ _⟩)
        | (obtain ⟨P7,zx,rV,H⟩:=St.mR (Li:=[_,_]) H hrw (rows:=ly.map cK.dat) (by simp) dV
           exact H.rt (by rw [nk,ah tK,NJ];exact ⟨_,_,_,rfl,⟨hpv.mono zx,(hdr.mono jv).mono zx,rV⟩⟩))
    intro p40
    intro a H;refine jB ?_;refine ⟨_,sB,?_⟩;exact ⟨fun hg=>hg.elim (fun g=>by simp_all) (fun g=>by have g4:=GZ.2 g;simp_all),by first|assumption|exact fun b o h=>zu b o (ZF b o h)⟩
  clear H;intro gj a w hI H;obtain ⟨tK,hgj⟩:=hI;replace q2:=fun j v hj=>aH hgj (q2 j v hj);replace q8:=fun j v hj=>aH hgj (q8 j v hj);replace q6:=aH hgj q6;replace q7:=aH hgj q7;replace vP:=vP.mono hgj;replace wQ:=wQ.mono hgj;replace hh:=hh.mono hgj;dsimp only [lca,bG] at H;refine Dh ?_
  have BZ:∀ (aJ aP:Nat) (v:aj) (G G':GH),(∀ k o,G k=some o→G' k=some o)→(fun (aJ aP:Nat) (v:aj) (G:GH)=>match aP with|0=>v=(aG b2 0)|1=>v=.slice pA pn pc|2=>au G (.sl 2 (h.props.map aT.dat)) v|3=>v=(aG b8 0)|4=>v=vi h.marks.ins|5=>v=(aG b8 1)|6=>v=vi h.marks.move|7=>v=.agg #[vi h.marks.ins,vi h.marks.move,.slice none 0 0,.slice none 0 0]|8=>∃ A n c,v=.agg #[.slice A n c,vi h.marks.ins,vi h.marks.move,.slice none 0 0,.slice none 0 0]∧au G (.sl 2 (h.props.map aT.dat)) (.slice A n c)|9=>v=(aG aJ 0)|_=>True) aJ aP v G→(fun (aJ aP:Nat) (v:aj) (G:GH)=>match aP with|0=>v=(aG b2 0)|1=>v=.slice pA pn pc|2=>au G (.sl 2 (h.props.map aT.dat)) v|3=>v=(aG b8 0)|4=>v=vi h.marks.ins|5=>v=(aG b8 1)|6=>v=vi h.marks.move|7=>v=.agg #[vi h.marks.ins,vi h.marks.move,.slice none 0 0,.slice none 0 0]|8=>∃ A n c,v=.agg #[.slice A n c,vi h.marks.ins,vi h.marks.move,.slice none 0 0,.slice none 0 0]∧au G (.sl 2 (h.props.map aT.dat)) (.slice A n c)|9=>v=(aG aJ 0)|_=>True) aJ aP v G':=by
    intro aJ aP v G G' hm h
    match aP,h with
    | 0,h=>exact h
    | 1,h=>exact h
    | 2,h=>exact au.mono hm h
    | 3,h=>exact h
    | 4,h=>exact h
    | 5,h=>exact h
    | 6,h=>exact h
    | 7,h=>exact h
    | 8,h=>exact let ⟨A,n,c,h1,h2⟩:=h;⟨A,n,c,h1,h2.mono hm⟩
    | 9,h=>exact h
    | 10,h=>exact trivial
    | _+11,h=>exact trivial
  refine aep (hmx) [[],[0],[0,1],[],[3],[],[5],(ra 3 4),(ra 0 8),[],(ra 0 10)] [10] (by kernel_rfl) (by kernel_rfl) 9 (by decide) (.cells #[.slice none 0 0,vi 0,vi 0,.slice none 0 0,.slice none 0 0] 29 (0,0)) (fun (aJ aP:Nat) (v:aj) (G:GH)=>match aP with|0=>v=(aG b2 0)|1=>v=.slice pA pn pc|2=>au G (.sl 2 (h.props.map aT.dat)) v|3=>v=(aG b8 0)|4=>v=vi h.marks.ins|5=>v=(aG b8 1)|6=>v=vi h.marks.move|7=>v=.agg #[vi h.marks.ins,vi h.marks.move,.slice none 0 0,.slice none 0 0]|8=>∃ A n c,v=.agg #[.slice A n c,vi h.marks.ins,vi h.marks.move,.slice none 0 0,.slice none 0 0]∧au G (.sl 2 (h.props.map aT.dat)) (.slice A n c)|9=>v=(aG aJ 0)|_=>True) (fun _ _ i v G hi h=>by
    match i,hi,h with
    | 0,hi,h=>exact h
    | 1,hi,h=>exact h
    | 2,hi,h=>exact h
    | 3,hi,h=>exact h
    | 4,hi,h=>exact h
    | 5,hi,h=>exact h
    | 6,hi,h=>exact h
    | 7,hi,h=>exact h
    | 8,hi,h=>exact h
    | 9,hi,h=>exact absurd rfl hi
    | 10,hi,h=>exact trivial
    | _+11,_,h=>exact trivial) H ?_ ?_ ?_ (by kernel_rfl)
  · clear H;refine aF ?_ ?_ ?_ ?_ (aF ?_ ?_ ?_ ?_ (bH ?_ (bH ?_ (bH ?_ cZ))))
    · intro aJ dL aR a w G1 _ _ aL hc hG HT hv;have H:=HT;clear aL;have Hb:=H.full;have H:=Hb;clear hc;refine aD 1 H ?_;clear H;intro a H;refine aC ⟨rfl,?_⟩;exact dG (by kernel_rfl) (BZ aJ) rfl rfl HT Hb hG hv (fun _ _ h=>h) (rfl) H
    · intro aJ dL aR a w G1 _ _ aL hc hG HT hv;have H:=HT;clear aL;have H:=H.aN (hv 0 42 (hc 0 (by decide)) rfl) rfl;have Hb:=H.full;have H:=Hb;clear hc;refine iF FE H wn rfl (H.hp.aI (aH hG (q2 0 _ rfl))) rfl ?_;clear H;intro a H;refine aC ⟨rfl,?_⟩;exact dG (by kernel_rfl) (BZ aJ) rfl rfl HT Hb hG hv (fun _ _ h=>h) (rfl) H
    · intro aJ dL aR a w G1 _ _ aL hc hG HT hv;have H:=HT;clear aL;have H:=H.aN (hv 1 43 (hc 1 (by decide)) rfl) rfl;have Hb:=H.full;have H:=Hb;clear hc;refine s_call QX H wn rfl (apk _ _ H.ro h.props _ (hh.props.mono hG) (by omega)) rfl ?_;clear H;rintro v44 Wd a w Ko akF H;refine aC ⟨rfl,?_⟩;exact dG (by kernel_rfl) (BZ aJ) rfl rfl HT Hb hG hv akF (Ko) H
    · intro aJ dL aR a w G1 _ _ aL hc hG HT hv;have H:=HT;clear aL;have Hb:=H.full;have H:=Hb;clear hc;refine aD 1 H ?_;clear H;intro a H;refine aC ⟨rfl,?_⟩;exact dG (by kernel_rfl) (BZ aJ) rfl rfl HT Hb hG hv (fun _ _ h=>h) (rfl) H
    · intro aJ dL aR a w G1 _ _ aL hc hG HT hv;have H:=HT;clear aL;have H:=H.aN (hv 3 45 (hc 3 (by decide)) rfl) rfl;have Hb:=H.full;have H:=Hb;clear hc;refine iF bR H wn rfl (H.hp.aI (aH hG (q8 0 _ rfl))) rfl ?_;clear H;intro a H;refine aC ⟨rfl,?_⟩;exact dG (by kernel_rfl) (BZ aJ) rfl rfl HT Hb hG hv (fun _ _ h=>h) (rfl) H
    · intro aJ dL aR a w G1 _ _ aL hc hG HT hv;have H:=HT;clear aL;have Hb:=H.full;have H:=Hb;clear hc;refine aD 1 H ?_;clear H;intro a H;refine aC ⟨rfl,?_⟩;exact dG (by kernel_rfl) (BZ aJ) rfl rfl HT Hb hG hv (fun _ _ h=>h) (rfl) H
    · intro aJ dL aR a w G1 _ _ aL hc hG HT hv;have H:=HT;clear aL;have H:=H.aN (hv 5 47 (hc 5 (by decide)) rfl) rfl;have Hb:=H.full;have H:=Hb;clear hc;refine iF bR H wn rfl (H.hp.aI (aH hG (q8 1 _ rfl))) rfl ?_;clear H;intro a H;refine aC ⟨rfl,?_⟩;exact dG (by kernel_rfl) (BZ aJ) rfl rfl HT Hb hG hv (fun _ _ h=>h) (rfl) H
    · intro aJ dL aR a w G1 _ _ aL hc hG HT hv;have H:=HT;clear aL;have H:=H.aN (hv 4 46 (hc 4 (by decide)) rfl) rfl;have H:=H.aN (hv 6 48 (hc 6 (by decide)) rfl) rfl;have Hb:=H.full;have H:=Hb;clear hc;refine iy Vo [_,_,_,_] H wn rfl rfl rfl rfl ?_;clear H;intro a H;refine aC ⟨rfl,?_⟩;exact dG (by kernel_rfl) (BZ aJ) rfl rfl HT Hb hG hv (fun _ _ h=>h) (rfl) H
    · intro aJ dL aR a w G1 _ _ aL hc hG HT hv;have H:=HT;clear aL;obtain ⟨u44,anf,Ko⟩:=hv 2 44 (hc 2 (by decide)) rfl;(try dsimp only at Ko);obtain ⟨A44,n44,c44,rfl⟩:=Ko.form;have H:=H.gV anf;have H:=H.aN (hv 7 49 (hc 7 (by decide)) rfl) rfl;have Hb:=H.full;have H:=Hb;clear hc;refine iy IB [_,_,_,_,_] H wn rfl rfl rfl rfl ?_;clear H;intro a H;refine aC ⟨rfl,?_⟩;exact dG (by kernel_rfl) (BZ aJ) rfl rfl HT Hb hG hv (fun _ _ h=>h) (⟨_,_,_,rfl,Ko⟩) H
    · intro _ _ _ _ _ _ _ hB;exact absurd hB (by decide)
    intro _ _ _ _ _ _ hB;exact absurd hB (by decide)
  · clear H;intro o_ aR a w G1 jW _ hc hG HT hv;obtain rfl:_=o_:=Option.some.inj jW;clear jW;have H:=HT;have Hb:=H.full;have H:=Hb;clear hc;refine dz dw H wn rfl ?_;clear H;intro b9 a w rQ H;refine aC ⟨rfl,b9,?_⟩;exact Er (by kernel_rfl) rfl HT Hb hG (fun j e h1 h2 h3=>hv _ j e h1 h2 h3) (rfl) H
  clear H;intro b9 a w G gI H hv;have H:=H.aN (hv 9 9 rfl rfl) rfl;obtain ⟨u50,ang,ZY⟩:=hv 8 50 (by decide) rfl;(try dsimp only at ZY);obtain ⟨qA,qn,qc,rfl,ES⟩:=ZY;have H:=H.gV ang;clear hv;refine aV dw 0 (vs:=[_,_,_,_,_]) _ H wn rfl rfl rfl rfl rfl rfl rfl rfl ?_;clear H;intro w H;dsimp only [List.set,setRow] at H;replace q2:=fun j v hj=>aH gI (q2 j v hj);replace q8:=fun j v hj=>aH gI (q8 j v hj);replace q6:=aH gI q6;replace q7:=aH gI q7;replace vP:=vP.mono gI;replace wQ:=wQ.mono gI;replace hh:=hh.mono gI;obtain ⟨Gf,hGf⟩:∃ g,g=G:=⟨_,rfl⟩;refine aC ⟨rfl,?_⟩;refine dR ?_;refine qz (ι:=Int × Int × GH) (Tc:=[(2,_),(4,_),(6,_),(7,_),(8,_),(9,_)]) (Lc:=[(_,_)]) (fun gh=>[]) (fun gh=>[(b9,.cells #[.slice qA qn qc,vi gh.1,vi gh.2.1,.slice none 0 0,.slice none 0 0] 29 (0,0))]) (fun gh=>gh.2.2) (fun gh=>gh.1=(if tN acc h then 0 else h.marks.ins)∧gh.2.1=(if tN acc h then 0 else h.marks.move)∧(∀ b o,G b=some o→gh.2.2 b=some o)) (by exact (H.dY (Pl:=[_,_]) (dM:=[_,_]) [1,0] (by decide) rfl).sub ⟨rfl,rfl,rfl,rfl,rfl,rfl,aU⟩) ?_ ?_
  · refine fO 2 H ?_;clear H;intro a H;refine iF bR H wn rfl (H.hp.aI (q8 0 _ rfl)) rfl ?_;clear H;refine jV 2 54 ?_ ?_
    · intro tF
      try have p54:=dT tF
      refine ak 2 ?_;intro a H;refine iF bR H (wg H rfl rfl tF) rfl (H.hp.aI (q8 0 _ rfl)) rfl ?_;clear H;intro a H;refine ji H (wg H rfl rfl tF) rfl rfl (vP _ _ (fun _ _ h=>h) H.ro h.marks.ins) rfl ?_;clear H;rintro v58 Wm a w rfl ZI H;refine gQ 2 H ?_ ?_ <;> clear H
      · intro p59
        refine ak 3 ?_;intro a H;refine aV bR 0 (vs:=[_]) _ H wn rfl rfl rfl rfl rfl rfl rfl rfl ?_;clear H;intro w H;dsimp only [List.set,setRow] at H;refine aD 2 H ?_;clear H;intro a H;refine aV bR 0 (vs:=[_]) _ H wn rfl rfl rfl rfl rfl rfl rfl rfl ?_;clear H;intro w H;dsimp only [List.set,setRow] at H;refine aC ?_;refine ⟨(_,_,_),by exact (H.dY (Pl:=[_,_]) (dM:=[_,_]) [1,0] (by decide) rfl).sub ⟨rfl,rfl,rfl,rfl,rfl,rfl,aU⟩,?_⟩;(try dsimp only)
        first
        | exact ⟨(av ⟨by assumption,by assumption⟩).symm,(av ⟨by assumption,by assumption⟩).symm,by assumption⟩
        | exact ⟨(ah (fun hi=>by simp_all [tN])).symm,(ah (fun hi=>by simp_all [tN])).symm,by first|assumption|exact fun _ _ h=>h⟩
      intro p59
      intro a H;refine jB ?_;refine ⟨(_,_,_),by exact (H.dY (Pl:=[_,_]) (dM:=[_,_]) [1,0] (by decide) rfl).sub ⟨rfl,rfl,rfl,rfl,rfl,rfl,aU⟩,?_⟩;(try dsimp only)
      first
      | exact ⟨(av ⟨by assumption,by assumption⟩).symm,(av ⟨by assumption,by assumption⟩).symm,by assumption⟩
      | exact ⟨(ah (fun hi=>by simp_all [tN])).symm,(ah (fun hi=>by simp_all [tN])).symm,by first|assumption|exact fun _ _ h=>h⟩
    intro tF
    try have p54:=dF tF
    refine ak 7 ?_;intro a H;refine jB ?_;refine ⟨(_,_,_),by exact (H.dY (Pl:=[_,_]) (dM:=[_,_]) [1,0] (by decide) rfl).sub ⟨rfl,rfl,rfl,rfl,rfl,rfl,aU⟩,?_⟩;(try dsimp only)
    first
    | exact ⟨(av ⟨by assumption,by assumption⟩).symm,(av ⟨by assumption,by assumption⟩).symm,by assumption⟩
    | exact ⟨(ah (fun hi=>by simp_all [tN])).symm,(ah (fun hi=>by simp_all [tN])).symm,by first|assumption|exact fun _ _ h=>h⟩
  clear H;rintro ⟨io,mo,gk⟩ a w hI H;dsimp only at hI H;obtain ⟨hio,hmo,lg⟩:=hI;replace q2:=fun j v hj=>aH lg (q2 j v hj);replace q8:=fun j v hj=>aH lg (q8 j v hj);replace q6:=aH lg q6;replace q7:=aH lg q7;replace vP:=vP.mono lg;replace wQ:=wQ.mono lg;replace hh:=hh.mono lg;replace ES:=ES.mono lg;dsimp only [lca,bG] at H;refine fO 3 H ?_;clear H;intro a H;refine iF Cz H wn rfl (H.hp.aI (q8 2 _ rfl)) rfl ?_;clear H;refine ak 4 ?_;intro a H;refine eH (ι:=Nat × aj × List aj × OL × GH) (Tc:=[(2,_),(4,_),(6,_),(7,_),(9,_),(65,_),(66,_)]) (Lc:=[(_,_)]) (fun gh=>[(67,vi gh.1)]) (fun gh=>[(b9,.cells #[.slice qA qn qc,vi io,vi mo,gh.2.1,.slice none 0 0] 29 (0,0))]++gh.2.2.2.1) (fun gh=>gh.2.2.2.2) (fun gh=>gh.1≤h.marks.bL.length∧bV 159 2 gh.2.1 ((h.marks.bL.take gh.1).filter fun x=>!rej x.rev).length gh.2.2.1 gh.2.2.2.1∧bU gh.2.2.2.2 2 (((h.marks.bL.take gh.1).filter fun x=>!rej x.rev).map fE.dat) gh.2.2.1∧(∀ b o,gk b=some o→gh.2.2.2.2 b=some o)) (fun gh=>h.marks.bL.length - gh.1) ((0,.slice none 0 0,[],[],gk)) (by exact (H.Im (A:=[_,_])).sub ⟨rfl,rfl,rfl,rfl,rfl,rfl,rfl,rfl,aU⟩) ?_ ?_
  · exact ⟨by omega,bV.nil,bU.nil,fun _ _ h=>h⟩
  clear H;rintro ⟨k,v,xs,Ld,g⟩ a w hI H;dsimp only at hI H;obtain ⟨hk,hrw,dV,hgm⟩:=hI;have hfl:=List.length_filter_le (fun x:fE=>!rej x.rev) (h.marks.bL.take k);rw [List.length_take] at hfl;dsimp only [lca,bG] at H;refine dQ 4 H ?_ ?_ <;> clear H
  · intro p68
    have hk2:k < h.marks.bL.length:=by omega
    obtain ⟨bd,od,rfl,hrow⟩:=M0 (hh.bL.mono hgm) hk2;refine ak 5 ?_;intro a H;refine aS oz (cs:=[_,_]) H wn rfl rfl (fun j v hj=>H.hp.aI (hrow j v hj)) rfl ?_;clear H;intro a H;refine dz oz H wn rfl ?_;clear H;intro b11 a w EA H;refine aV oz 0 (vs:=[_,_]) _ H wn rfl rfl rfl rfl rfl rfl rfl rfl ?_;clear H;intro w H;dsimp only [List.set,setRow] at H;refine aD 2 H ?_;clear H;intro a H;refine iF FD H wn rfl (H.hp.aI (aH hgm q7)) rfl ?_;clear H;refine ak 2 ?_;intro a H;refine ji H wn rfl rfl (wQ _ _ hgm H.ro h.marks.bL[k].rev) rfl ?_;clear H;rintro v74 Wn a w rfl NQ H;refine gQ 2 H ?_ ?_ <;> clear H
    · intro p75
      refine ak 4 ?_;intro a H;refine aS oz (cs:=[_,_]) H wn rfl rfl (H.hp.bN 0 rfl rfl) rfl ?_;clear H;intro a H;refine gJ yF oz [_,_] [_,_] H wn rfl rfl rfl rfl rfl (by intro i q h;match i,h with|0,h=>exact h|n+1,h=>simp at h) rfl rfl ?_;clear H;intro b80 a w Zi H;refine lJ (Li:=[_,_,_,_]) (Lo:=Ld) (news:=h.marks.bL[k].cells) yF oz rfl rfl H wn rfl rfl hrw rfl (H.hp.bN 0 rfl rfl) rfl (by omega) (by omega) rfl ?_;clear H;intro v81 adI a w aao H;obtain ⟨A81,c81,rfl,-,-⟩:=aao.shape;refine aD 2 H ?_;clear H;intro a H;refine aV Cz 3 (vs:=[_]) _ H wn rfl rfl rfl rfl rfl rfl rfl rfl ?_;clear H;intro w H;dsimp only [List.set,setRow] at H;refine aD 4 H ?_;clear H;intro a H;refine aC ?_;refine cB ((k+1,_,xs++h.marks.bL[k].cells,adI,Wn)) (by exact (H.dY (Pl:=[_,_,_,_]) (dM:=[_,_]) [2,3] (by decide) rfl).sub ⟨rfl,rfl,rfl,rfl,rfl,rfl,rfl,rfl,aU⟩) ?_ ?_
      · (try dsimp only);exact ⟨by omega,by rw [fQ hk2,List.filter_append,List.filter_cons_of_pos (by simp_all),List.filter_nil,iC];exact aao,by rw [fQ hk2,List.filter_append,List.filter_cons_of_pos (by simp_all),List.filter_nil,kQ];exact (dV.mono NQ).snoc (XL _ _) rfl,fun b o h=>NQ b o (hgm b o h)⟩
      first|omega|(dsimp only;omega)
    intro p75
    refine ak 4 ?_;intro a H;refine aC ?_;refine cB ((k+1,v,xs,Ld,Wn)) (by exact (H.dY (Pl:=[_,_,_]) (dM:=[_,_]) [1,2] (by decide) rfl).sub ⟨rfl,rfl,rfl,rfl,rfl,rfl,rfl,rfl,aU⟩) ?_ ?_
    · (try dsimp only);exact ⟨by omega,by rw [fQ hk2,List.filter_append,List.filter_cons_of_neg (by simp_all),List.filter_nil,gD];exact hrw,by rw [fQ hk2,List.filter_append,List.filter_cons_of_neg (by simp_all),List.filter_nil,gD];exact dV.mono NQ,fun b o h=>NQ b o (hgm b o h)⟩
    first|omega|(dsimp only;omega)
  intro p68
  obtain rfl:k=h.marks.bL.length:=by omega
  rw [vE] at hrw dV;intro a H;obtain ⟨Gr,hmr,hdr,H⟩:=St.mR (Li:=[_,_]) H hrw (rows:=(h.marks.bL.filter fun x=>!rej x.rev).map fE.dat) (by simp) dV;obtain ⟨rA,rn,rc,rfl⟩:=hdr.form;(try dsimp only [lca,bG] at H);have hgr:∀ b o,gk b=some o→Gr b=some o:=fun b o h=>hmr b o (hgm b o h);replace q2:=fun j v hj=>aH hgr (q2 j v hj);replace q8:=fun j v hj=>aH hgr (q8 j v hj);replace q6:=aH hgr q6;replace q7:=aH hgr q7;replace vP:=vP.mono hgr;replace wQ:=wQ.mono hgr;replace hh:=hh.mono hgr;replace ES:=ES.mono hgr;refine fO 3 H ?_;clear H;intro a H;refine aS dw (cs:=[.slice pA pn pc,vi h.marks.ins,vi h.marks.move,.slice dA h.marks.bL.length dc,.slice lA ln lc]) H wn rfl rfl (fun j v hj=>H.hp.aI (q2 j v hj)) rfl ?_;clear H;intro a H;refine s_call agW H wn rfl (aol _ _ H.ro h _ _ _ hh (by omega)) rfl ?_;clear H;rintro v86 G86 a w ⟨bg,rfl,hit⟩ Dm H;obtain ⟨all,hall⟩:∃ L,L=pV h.marks.layers.length h.marks.layers:=⟨_,rfl⟩;rw [← hall] at hit;obtain ⟨hfl,hne⟩:=JB h.marks.layers.length h.marks.layers (bP _);rw [← hall] at hfl hne;have hsum:∀ k,k≤all.length→k≤((all.take k).flatMap Prod.snd).length∧((all.take k).flatMap Prod.snd).length≤h.marks.layers.length:=akq hfl hne;replace q2:=fun j v hj=>aH Dm (q2 j v hj);replace q6:=aH Dm q6;replace q7:=aH Dm q7;replace vP:=vP.mono Dm;replace wQ:=wQ.mono Dm;replace hh:=hh.mono Dm;replace ES:=ES.mono Dm;replace hdr:=hdr.mono Dm;refine aD 2 H ?_;clear H;intro a H;refine aeB (ι:=aj × List aT × aj × List cK × List aj × OL) (κ:=Empty) (Lc:=[(_,_)]) (fun (k:Nat) (gh:aj × List aT × aj × List cK × List aj × OL)=>[(b9,.cells #[gh.1,vi io,vi mo,.slice rA rn rc,gh.2.2.1] 29 (0,0))]) (fun (k:Nat) (gh:aj × List aT × aj × List cK × List aj × OL)=>gh.2.2.2.2.2) (fun (k:Nat) (gh:aj × List aT × aj × List cK × List aj × OL) (g:GH)=>au g (.sl 2 (gh.2.1.map aT.dat)) gh.1∧bV 161 4 gh.2.2.1 gh.2.2.2.1.length gh.2.2.2.2.1 gh.2.2.2.2.2∧bU g 4 (gh.2.2.2.1.map cK.dat) gh.2.2.2.2.1∧vM acc rej h.props (all.drop k) (gh.2.1,gh.2.2.2.1)=vM acc rej h.props all (h.props,[])∧gh.2.1.length≤h.props.length+k∧gh.2.2.2.1.length≤((all.take k).flatMap Prod.snd).length) (fun x=>x.elim) (fun x=>x.elim) (fun x=>x.elim) (fun x=>x.elim) ((.slice qA qn qc,h.props,.slice none 0 0,[],[],[])) (by exact H.Im (A:=[_,_])) rfl Ya (hit) (fun _ _ h=>h) rfl (fun k args g h=>by obtain ⟨_,_,_,rfl,_⟩:=Y0 h;rfl) (fun k i G G' hm h=>⟨h.1.mono hm,h.2.1,h.2.2.1.mono hm,h.2.2.2⟩) (fun x=>x.elim) (⟨ES,bV.nil,bU.nil,rfl,bP _,gW _⟩) ?_ ?_ ?_
  · clear H;intro l16 Fv Bv bk k args gh nV w16 F16 B16 a amg jv hI alx amt aud H;obtain ⟨pv,ps,vy,ly,xs,Ly⟩:=gh;dsimp only at hI H;obtain ⟨hk,tA,tc,rfl,hlr⟩:=Y0 amg;dsimp only [Ae,List.cons_append,List.nil_append] at H;obtain ⟨hpv,hrw,dV,hdc,hpl,hll⟩:=hI;obtain ⟨pvA,pvn,pvc,rfl⟩:=hpv.form;obtain ⟨vyA,vyc,rfl,-,-⟩:=hrw.shape;obtain ⟨key,hkey⟩:∃ x,x=all[k].1:=⟨_,rfl⟩;obtain ⟨ls,hls⟩:∃ x,x=all[k].2:=⟨_,rfl⟩;rw [← hls] at hlr;rw [← hkey,← hls] at H;have hs1:=hsum k (by omega);have hs2:=hsum (k+1) (by omega)
    have hs3:((all.take (k+1)).flatMap Prod.snd).length=((all.take k).flatMap Prod.snd).length+ls.length:=by rw [fQ hk,List.flatMap_append,iC,hls];simp
    have ET:=arV h.props key ls;refine fO 5 H ?_;clear H;intro a H;refine aC ?_;refine alx _ _ _ _ _ _ (by exact H) ?_;clear H;intro w H;refine fO 11 H ?_;clear H;intro a H;refine eH (ι:=Nat × aj × List aj × OL × GH) (Tc:=[(2,_),(6,_),(7,_),(9,_),(12,_),(13,_),(89,_),(90,_)]) (Lc:=[(_,_),(_,_),(_,_)]) (fun gh=>[(14,gh.2.1),(91,vi gh.1)]) (fun gh=>[]++((bk++Ly)++gh.2.2.2.1)) (fun gh=>gh.2.2.2.2) (fun gh=>gh.1≤ls.length∧bV 242 2 gh.2.1 gh.1 gh.2.2.1 gh.2.2.2.1∧bU gh.2.2.2.2 2 ((ls.take gh.1).map fun y=>Lb (y.before,y.had)) gh.2.2.1∧(∀ b o,nV b=some o→gh.2.2.2.2 b=some o)) (fun gh=>ls.length - gh.1) ((0,.slice none 0 0,[],[],nV)) (by exact (H.Im (A:=[_,_,_])).sub ⟨rfl,rfl,rfl,rfl,rfl,rfl,rfl,rfl,rfl,rfl,aU⟩) ?_ ?_
    · exact ⟨by omega,bV.nil,bU.nil,fun _ _ h=>h⟩
    clear H;rintro ⟨i,vs,xs2,Ls,g2⟩ a w hI H;dsimp only at hI H;obtain ⟨hi,hrw2,rR,iV⟩:=hI;dsimp only [lca,bG] at H;refine dQ 4 H ?_ ?_ <;> clear H
    · intro Iq
      have hi2:i < ls.length:=by omega
      obtain ⟨bl,ol,rfl,hrow⟩:=Dx (hlr.mono iV) hi2;refine ak 5 ?_;intro a H;refine aS jw (cs:=[_,_,_,_]) H wn rfl rfl (fun j v hj=>H.hp.aI (hrow j v hj)) rfl ?_;clear H;intro a H;refine dz jw H wn rfl ?_;clear H;intro b16 a w Zf H;refine aV jw 0 (vs:=[_,_,_,_]) _ H wn rfl rfl rfl rfl rfl rfl rfl rfl ?_;clear H;intro w H;dsimp only [List.set,setRow] at H;refine aD 3 H ?_;clear H;intro a H;refine aS jw (cs:=[_,_,_,_]) H wn rfl rfl (H.hp.bN 0 rfl rfl) rfl ?_;clear H;intro a H;refine s_call agX H wn rfl (aej _ _ H.ro ls[i]) rfl ?_;clear H;rintro v97 G97 a w rfl ZL H;refine gJ FK qK [_,_] [_,_] H wn rfl rfl rfl rfl rfl (by intro i q h;match i,h with|0,h=>exact h|n+1,h=>simp at h) rfl rfl ?_;clear H;intro b98 a w atI H;refine lJ (Li:=[_,_,_,_,_]++(bk++Ly)) (Lo:=Ls) (news:=[vi ls[i].before,.bool ls[i].had]) FK qK rfl rfl (St.un (A:=[_,_,_,_,_]) H) wn rfl rfl hrw2 rfl (H.hp.bN 0 rfl rfl) rfl (by omega) (by omega) rfl ?_;clear H;intro v99 adR a w amQ H;have H:=H.assoc;dsimp only [lca,bG] at H;refine aD 5 H ?_;clear H;intro a H;refine aC ?_;refine cB ((i+1,v99,xs2++[vi ls[i].before,.bool ls[i].had],adR,G97)) (by exact (H.dY (Pl:=[_,_,_,_,_]) (dM:=[_,_,_]) [2,3,4] (by decide) rfl).sub ⟨rfl,rfl,rfl,rfl,rfl,rfl,rfl,rfl,rfl,rfl,aU⟩) ?_ ?_
      · (try dsimp only);exact ⟨by omega,amQ,by rw [fQ hi2,kQ];exact (rR.mono ZL).snoc (acB _ (ls[i].before,ls[i].had)) rfl,fun b o h=>ZL b o (iV b o h)⟩
      first|omega|(dsimp only;omega)
    intro Iq
    obtain rfl:i=ls.length:=by omega
    rw [vE] at rR;refine ak 3 ?_;intro a H;refine aS dw (cs:=[.slice pA pn pc,vi h.marks.ins,vi h.marks.move,.slice dA h.marks.bL.length dc,.slice lA ln lc]) H wn rfl rfl (fun j v hj=>H.hp.aI (aH iV (aH jv (q2 j v hj)))) rfl ?_;clear H;refine ak 1 ?_;intro a H;refine s_call agY H wn rfl (apq _ _ H.ro h _ _ _ (hh.mono fun b o h=>iV b o (jv b o h)) key (by omega)) rfl ?_;clear H;rintro asB ata a w rfl ZA H;refine gJ FK qK [_,_] [_,_] H wn rfl rfl rfl rfl rfl (by intro i q h;match i,h with|0,h=>exact h|n+1,h=>simp at h) rfl rfl ?_;clear H;intro atj a w atr H;refine lJ (Li:=[_,_,_,_]++(bk++Ly)) (Lo:=Ls) (news:=[vi (yV h.props key).1,.bool (yV h.props key).2]) FK qK rfl rfl (St.un (A:=[_,_,_,_]) H) wn rfl rfl hrw2 rfl (H.hp.bN 0 rfl rfl) rfl (by omega) (by omega) rfl ?_;clear H;intro auq ath a w amI H;obtain ⟨Gs,hms,Oa,H⟩:=St.mR (Li:=[_,_,_,_]++(bk++Ly)) H amI (rows:=(pJ h.props key ls).map Lb) (by simp [pJ]) (by have h1:=(rR.mono ZA).snoc (acB _ (yV h.props key)) rfl;simpa [pJ,kQ,List.map_map,Function.comp_def] using h1);dsimp only [lca,bG] at H;obtain ⟨sA,sc,rfl,-,-,-⟩:=Oa.slice;rw [bM,ET] at Oa H;have hgs:∀ b o,nV b=some o→Gs b=some o:=fun b o h=>hms b o (ZA b o (iV b o h));refine aD 12 H ?_;clear H;intro a H;refine eH (ι:=Nat × Nat × GH) (Tc:=[(6,_),(7,_),(9,_),(12,_),(13,_),(14,_),(107,_),(108,_)]) (Lc:=[(_,_),(_,_),(_,_),(_,_)]) (fun gh=>[(17,vi gh.2.1),(109,vi gh.1)]) (fun gh=>[]++(bk++Ly)) (fun gh=>gh.2.2) (fun gh=>gh.1≤ls.length∧gh.2.1≤gh.1∧mQ acc (ls.drop gh.1) gh.1 gh.2.1=mQ acc ls 0 0∧(∀ b o,Gs b=some o→gh.2.2 b=some o)) (fun gh=>ls.length - gh.1) ((0,0,Gs)) sB ?_ ?_
    · exact ⟨by omega,bP _,by rw [List.drop_zero],fun _ _ h=>h⟩
    clear H;rintro ⟨i2,c2,g3⟩ a w hI H;dsimp only at hI H;obtain ⟨hi3,hc3,hfs,vV⟩:=hI;dsimp only [lca,bG] at H;refine dQ 4 H ?_ ?_ <;> clear H
    · intro aoX
      have hi4:i2 < ls.length:=by omega
      obtain ⟨bl,ol,rfl,hrow⟩:=Dx (hlr.mono fun b o h=>vV b o (hgs b o h)) hi4;refine ak 6 ?_;intro a H;refine aS jw (cs:=[_,_,_,_]) H wn rfl rfl (fun j v hj=>H.hp.aI (hrow j v hj)) rfl ?_;clear H;intro a H;refine dz jw H wn rfl ?_;clear H;intro b19 a w ali H;refine aD 1 H ?_;clear H;intro a H;refine aV jw 0 (vs:=[_,_,_,_]) _ H wn rfl rfl rfl rfl rfl rfl rfl rfl ?_;clear H;intro w H;dsimp only [List.set,setRow] at H;refine aD 2 H ?_;clear H;intro a H;refine iF FD H wn rfl (H.hp.aI (aH vV (aH hgs (aH jv q6)))) rfl ?_;clear H;refine ak 2 ?_;intro a H;refine ji H wn rfl rfl (vP _ _ (fun b o h=>vV b o (hgs b o (jv b o h))) H.ro ls[i2].rev) rfl ?_;clear H;rintro v117 V5 a w rfl ZB H;refine gQ 1 H ?_ ?_ <;> clear H
      · intro apa
        refine ak 8 ?_;intro a H;refine aC ?_;refine cB ((i2+1,i2+1,V5)) (by exact (H.dY (Pl:=[_,_,_,_,_]) (dM:=[_,_,_,_]) [1,2,3,4] (by decide) rfl).sub ⟨rfl,rfl,rfl,rfl,rfl,rfl,rfl,rfl,rfl,rfl,aU⟩) ?_ ?_
        · (try dsimp only);exact ⟨by omega,bP _,by rw [pO hi4,mQ,av (by assumption)] at hfs;exact hfs,fun b o h=>ZB b o (vV b o h)⟩
        first|omega|(dsimp only;omega)
      intro apa
      refine ak 4 ?_;intro a H;refine aC ?_;refine cB ((i2+1,c2,V5)) (by exact (H.dY (Pl:=[_,_,_,_,_]) (dM:=[_,_,_,_]) [1,2,3,4] (by decide) rfl).sub ⟨rfl,rfl,rfl,rfl,rfl,rfl,rfl,rfl,rfl,rfl,aU⟩) ?_ ?_
      · (try dsimp only);exact ⟨by omega,by omega,by rw [pO hi4,mQ,ah (by simp_all)] at hfs;exact hfs,fun b o h=>ZB b o (vV b o h)⟩
      first|omega|(dsimp only;omega)
    intro aoX
    obtain rfl:i2=ls.length:=by omega
    rw [List.drop_length,mQ] at hfs;have hgt:∀ b o,nV b=some o→g3 b=some o:=fun b o h=>vV b o (hgs b o h);obtain ⟨bs,os,rfl,hr2⟩:=acE (Oa.mono vV) (k:=c2) (by rw [ET];omega);obtain ⟨Oy,hn0⟩:∃ s,s=(pJ h.props key ls)[c2]'(by rw [ET];omega):=⟨_,rfl⟩;rw [← hn0] at hr2
    intro a H;have hgd:(pJ h.props key ls).getD c2 (0,false)=Oy:=by rw [hn0,List.getD_eq_getElem?_getD,eO (show c2 < (pJ h.props key ls).length by rw [ET];omega)];rfl
    refine fO 4 H ?_;clear H;intro a H;refine xq FK qK c2 H wn rfl rfl rfl (by omega) rfl ?_;clear H;intro a H;refine aS qK (cs:=[vi Oy.1,.bool Oy.2]) H wn rfl rfl (fun j v hj=>H.hp.aI (hr2 j v hj)) rfl ?_;clear H;intro a H;refine dz qK H wn rfl ?_;clear H;intro b20 a w atu H;refine aV qK 0 (vs:=[_,_]) _ H wn rfl rfl rfl rfl rfl rfl rfl rfl ?_;clear H;intro w H;dsimp only [List.set,setRow] at H;refine aD 7 H ?_;clear H;intro a H;refine eH (ι:=Nat × (Int × Bool) × aj × List cK × List aj × OL × GH) (Tc:=[(7,_),(9,_),(12,_),(13,_),(14,_),(20,_)]) (Lc:=[(_,_),(_,_),(_,_)]) (fun gh=>[(21,vi gh.1)]) (fun gh=>[(b20,.cells #[vi gh.2.1.1,.bool gh.2.1.2] 242 (0,0)),(b9,.cells #[.slice pvA pvn pvc,vi io,vi mo,.slice rA rn rc,gh.2.2.1] 29 (0,0))]++(bk++gh.2.2.2.2.2.1)) (fun gh=>gh.2.2.2.2.2.2) (fun gh=>c2≤gh.1∧gh.1≤ls.length∧bV 161 4 gh.2.2.1 gh.2.2.2.1.length gh.2.2.2.2.1 gh.2.2.2.2.2.1∧bU gh.2.2.2.2.2.2 4 (gh.2.2.2.1.map cK.dat) gh.2.2.2.2.1∧gh.2.2.2.1++(wo rej (pJ h.props key ls) (ls.drop gh.1) gh.1 gh.2.1).1=ly++(qE acc rej h.props key ls).1∧(wo rej (pJ h.props key ls) (ls.drop gh.1) gh.1 gh.2.1).2=(qE acc rej h.props key ls).2∧gh.2.2.2.1.length≤ly.length+gh.1∧(∀ b o,g3 b=some o→gh.2.2.2.2.2.2 b=some o)) (fun gh=>ls.length - gh.1) ((c2,Oy,.slice vyA ly.length vyc,ly,xs,Ly,g3)) (by exact (H.dY (Pl:=[_,_,_,_,_]) (dM:=[_,_,_,_,_]) [1,2,3,0,4] (by decide) rfl).sub ⟨rfl,rfl,rfl,rfl,rfl,rfl,rfl,aU⟩) ?_ ?_
    · exact ⟨bP _,by omega,hrw,dV.mono hgt,by rw [qE,← hfs,hgd],by rw [qE,← hfs,hgd],by show ly.length≤ly.length+c2;omega,fun _ _ h=>h⟩
    clear H;rintro ⟨i3,now,vy3,Ce,VO,Qg,g4⟩ a w hI H;dsimp only at hI H;obtain ⟨hi5,hi6,hrw3,SX,hq1,hq2,hq3,NM⟩:=hI;obtain ⟨Pz,PD,rfl,-,-⟩:=hrw3.shape;have hgu:∀ b o,nV b=some o→g4 b=some o:=fun b o h=>NM b o (hgt b o h);dsimp only [lca,bG] at H;refine dQ 7 H ?_ ?_ <;> clear H
    · intro apc
      have Zw:i3 < ls.length:=by omega
      obtain ⟨bl,ol,rfl,hrow⟩:=Dx (hlr.mono hgu) Zw;rw [pO Zw,wo] at hq1 hq2;refine ak 5 ?_;intro a H;refine dI hmx [[],[],[],[1,2],[1,2,3],(ra 1 4),(ra 0 6)] [6] (by kernel_rfl) [_,_,_,(aG bl (ol+i3*4)),_,_] H (aF (X0 rfl fun hG=>Rg FD rfl (aH hG (aH hgu (aH jv q7)))) (Z0 rfl (Rm rfl)) (Z0 rfl (Rm rfl)) ?_ (bH (Z1 3 135 rfl (Rf Yx rfl)) (bH (X1 4 136 rfl fun hG=>Rg bR rfl (aH hG (hrow 0 _ rfl))) (bH (bQ rfl) cZ)))) ?_
      · refine dH 1 133 2 134 rfl rfl fun _ a w G1 hG HT H fin=>?_;refine xq oC jw i3 H wn rfl rfl rfl (by omega) rfl ?_;clear H;intro a H;exact fin H iJ rfl
      clear H;intro a w G Ez H hv;have H:=H.aN (hv 0 132 rfl rfl) rfl;have H:=H.aN (hv 5 137 rfl rfl) rfl;clear hv;refine ji H wn rfl rfl (wQ _ _ (fun b o h=>Ez b o (hgu b o (jv b o h))) H.ro ls[i3].rev) rfl ?_;clear H;rintro v138 adF a w rfl Hy H;refine aC ⟨rfl,?_⟩;refine dR ?_;refine dQ 0 H ?_ ?_ <;> clear H
      · intro ape
        refine ak 5 ?_;intro a H;refine aC ?_;refine cB ((i3+1,now,.slice Pz Ce.length PD,Ce,VO,Qg,adF)) sB ?_ ?_
        · (try dsimp only);exact ⟨by omega,by omega,hrw3,SX.mono fun b o h=>Hy b o (Ez b o h),by rw [av (by assumption)] at hq1;exact hq1,by rw [av (by assumption)] at hq2;exact hq2,by omega,fun b o h=>Hy b o (Ez b o (NM b o h))⟩
        first|omega|(dsimp only;omega)
      intro ape
      rw [ah (by simp_all)] at hq1 hq2;refine ak 2 ?_
      have BX:∀ (aJ aP:Nat) (v:aj) (G G':GH),(∀ k o,G k=some o→G' k=some o)→(fun (aJ aP:Nat) (v:aj) (G:GH)=>match aP with|0=>v=(aG b9 1)|1=>v=(aG b9 4)|2=>v=.slice Pz Ce.length PD|3=>v=.slice (some ⟨bl,ol,none⟩) ls.length tc|4=>v=vi i3|5=>v=(aG bl (ol+i3*4))|6=>v=.agg ls[i3].cells.toArray|7=>v=Fz now|8=>v=.agg (cK.cells ⟨ls[i3].rev,ls[i3].key,now.1,now.2⟩).toArray|9=>v=.slice (some ⟨aJ,0,none⟩) 1 1|_=>True) aJ aP v G→(fun (aJ aP:Nat) (v:aj) (G:GH)=>match aP with|0=>v=(aG b9 1)|1=>v=(aG b9 4)|2=>v=.slice Pz Ce.length PD|3=>v=.slice (some ⟨bl,ol,none⟩) ls.length tc|4=>v=vi i3|5=>v=(aG bl (ol+i3*4))|6=>v=.agg ls[i3].cells.toArray|7=>v=Fz now|8=>v=.agg (cK.cells ⟨ls[i3].rev,ls[i3].key,now.1,now.2⟩).toArray|9=>v=.slice (some ⟨aJ,0,none⟩) 1 1|_=>True) aJ aP v G':=by
        intro aJ aP v G G' hm h
        match aP,h with
        | 0,h=>exact h
        | 1,h=>exact h
        | 2,h=>exact h
        | 3,h=>exact h
        | 4,h=>exact h
        | 5,h=>exact h
        | 6,h=>exact h
        | 7,h=>exact h
        | 8,h=>exact h
        | 9,h=>exact h
        | 10,h=>exact trivial
        | 11,h=>exact trivial
        | 12,h=>exact trivial
        | 13,h=>exact trivial
        | _+14,h=>exact trivial
      intro a H;refine aer (hmx) [[],[0],[0,1],[],[],[3,4],[3,4,5],[],(ra 3 5),(ra 3 6),(ra 0 10),(ra 0 11),(ra 0 12),(ra 0 13)] (ra 10 4) (by kernel_rfl) (by kernel_rfl) 9 (by decide) (.cells #[vi ls[i3].rev,vi ls[i3].key,vi now.1,.bool now.2] 161 (0,0)) (fun (aJ aP:Nat) (v:aj) (G:GH)=>match aP with|0=>v=(aG b9 1)|1=>v=(aG b9 4)|2=>v=.slice Pz Ce.length PD|3=>v=.slice (some ⟨bl,ol,none⟩) ls.length tc|4=>v=vi i3|5=>v=(aG bl (ol+i3*4))|6=>v=.agg ls[i3].cells.toArray|7=>v=Fz now|8=>v=.agg (cK.cells ⟨ls[i3].rev,ls[i3].key,now.1,now.2⟩).toArray|9=>v=.slice (some ⟨aJ,0,none⟩) 1 1|_=>True) (fun _ _ i v G hi h=>by
        match i,hi,h with
        | 0,hi,h=>exact h
        | 1,hi,h=>exact h
        | 2,hi,h=>exact h
        | 3,hi,h=>exact h
        | 4,hi,h=>exact h
        | 5,hi,h=>exact h
        | 6,hi,h=>exact h
        | 7,hi,h=>exact h
        | 8,hi,h=>exact h
        | 9,hi,h=>exact absurd rfl hi
        | 10,hi,h=>exact trivial
        | 11,hi,h=>exact trivial
        | 12,hi,h=>exact trivial
        | 13,hi,h=>exact trivial
        | _+14,_,h=>exact trivial) H ?_ ?_ ?_ (by kernel_rfl)
      · clear H;refine aF ?_ ?_ ?_ ?_ (aF ?_ ?_ ?_ ?_ (aF ?_ ?_ ?_ ?_ (bH ?_ (bH ?_ cZ))))
        · intro aJ dL aR a w G1 dO _ _ aL hc hG HT hv;have H:=HT;clear aL;have Hb:=H.full;have H:=Hb;clear hc;refine aD 1 H ?_;clear H;intro a H;refine aC ⟨rfl,?_⟩;exact dG (by kernel_rfl) (BX aJ) rfl rfl HT Hb hG hv (fun _ _ h=>h) (rfl) H
        · intro aJ dL aR a w G1 dO _ _ aL hc hG HT hv;have H:=HT;clear aL;have H:=H.aN (hv 0 139 (hc 0 (by decide)) rfl) rfl;have Hb:=H.full;have H:=Hb;clear hc;refine aD 1 H ?_;clear H;intro a H;refine aC ⟨rfl,?_⟩;exact dG (by kernel_rfl) (BX aJ) rfl rfl HT Hb hG hv (fun _ _ h=>h) (rfl) H
        · intro aJ dL aR a w G1 dO _ _ aL hc hG HT hv;have H:=HT;clear aL;have H:=H.aN (hv 1 140 (hc 1 (by decide)) rfl) rfl;have Hb:=H.full;have H:=Hb;clear hc;refine iF Pp H wn rfl (H.hp.wY (dO _ (gH _ (gH _ (gH _ (gH _ fM))))) rfl) rfl ?_;clear H;intro a H;refine aC ⟨rfl,?_⟩;exact dG (by kernel_rfl) (BX aJ) rfl rfl HT Hb hG hv (fun _ _ h=>h) (rfl) H
        · intro aJ dL aR a w G1 dO _ _ aL hc hG HT hv;have H:=HT;clear aL;have Hb:=H.full;have H:=Hb;clear hc;refine aD 1 H ?_;clear H;intro a H;refine aC ⟨rfl,?_⟩;exact dG (by kernel_rfl) (BX aJ) rfl rfl HT Hb hG hv (fun _ _ h=>h) (rfl) H
        · intro aJ dL aR a w G1 dO _ _ aL hc hG HT hv;have H:=HT;clear aL;have Hb:=H.full;have H:=Hb;clear hc;refine aD 1 H ?_;clear H;intro a H;refine aC ⟨rfl,?_⟩;exact dG (by kernel_rfl) (BX aJ) rfl rfl HT Hb hG hv (fun _ _ h=>h) (rfl) H
        · intro aJ dL aR a w G1 dO _ _ aL hc hG HT hv;have H:=HT;clear aL;have H:=H.aN (hv 3 142 (hc 3 (by decide)) rfl) rfl;have H:=H.aN (hv 4 143 (hc 4 (by decide)) rfl) rfl;have Hb:=H.full;have H:=Hb;clear hc;refine xq oC jw i3 H wn rfl rfl rfl (by omega) rfl ?_;clear H;intro a H;refine aC ⟨rfl,?_⟩;exact dG (by kernel_rfl) (BX aJ) rfl rfl HT Hb hG hv (fun _ _ h=>h) (rfl) H
        · intro aJ dL aR a w G1 dO _ _ aL hc hG HT hv;have H:=HT;clear aL;have H:=H.aN (hv 5 144 (hc 5 (by decide)) rfl) rfl;have Hb:=H.full;have H:=Hb;clear hc;refine aS jw (cs:=ls[i3].cells) H wn rfl rfl (fun j v hj=>H.hp.aI (aH hG (aH Hy (aH Ez (hrow j v hj))))) rfl ?_;clear H;intro a H;refine aC ⟨rfl,?_⟩;exact dG (by kernel_rfl) (BX aJ) rfl rfl HT Hb hG hv (fun _ _ h=>h) (rfl) H
        · intro aJ dL aR a w G1 dO _ _ aL hc hG HT hv;have H:=HT;clear aL;have Hb:=H.full;have H:=Hb;clear hc;refine aS qK (cs:=[vi now.1,.bool now.2]) H wn rfl rfl (fun j v hj=>H.hp.wY (dO _ (gH _ (gH _ (gH _ fM)))) (by simpa using hj)) rfl ?_;clear H;intro a H;refine aC ⟨rfl,?_⟩;exact dG (by kernel_rfl) (BX aJ) rfl rfl HT Hb hG hv (fun _ _ h=>h) (rfl) H
        · intro aJ dL aR a w G1 dO _ _ aL hc hG HT hv;have H:=HT;clear aL;have H:=H.aN (hv 6 145 (hc 6 (by decide)) rfl) rfl;have H:=H.aN (hv 7 146 (hc 7 (by decide)) rfl) rfl;have Hb:=H.full;have H:=Hb;clear hc;refine s_call agZ H wn rfl (akl _ _ H.ro ls[i3] now) rfl ?_;clear H;rintro aut atc a w rfl akv H;refine aC ⟨rfl,?_⟩;exact dG (by kernel_rfl) (BX aJ) rfl rfl HT Hb hG hv akv (rfl) H
        · intro _ _ _ _ _ _ _ _ hB;exact absurd hB (by decide)
        · intro _ _ _ _ _ _ _ hB;exact absurd hB (by decide)
        · intro _ _ _ _ _ _ _ hB;exact absurd hB (by decide)
        · intro _ _ _ _ _ _ _ hB;exact absurd hB (by decide)
        intro _ _ _ _ _ _ _ hB;exact absurd hB (by decide)
      · clear H;intro o_ aR a w G1 jW _ hc hG HT hv;obtain rfl:_=o_:=Option.some.inj jW;clear jW;have H:=HT;have H:=H.aN (hv 0 8 147 (by decide) (hc 8 (by decide)) rfl) rfl;have Hb:=H.full;have H:=Hb;clear hc;refine gJ oC jw [_,_,_,_] [_,_,_,_] H wn rfl rfl rfl rfl rfl (by intro i q h;match i,h with|0,h=>exact h|n+1,h=>simp at h) rfl rfl ?_;clear H;intro WU a w att H;refine aC ⟨rfl,WU,?_⟩;exact Er (by kernel_rfl) rfl HT Hb hG (fun j e h1 h2 h3=>hv _ j e h1 h2 h3) (rfl) H
      clear H;intro WU a w G Sk H hv;have H:=H.aN (hv 2 141 rfl rfl) rfl;have H:=H.aN (hv 9 148 rfl rfl) rfl;clear hv;refine lJ (Li:=[_,_,_,_,_,_]++bk) (Lo:=Qg) (news:=cK.cells ⟨ls[i3].rev,ls[i3].key,now.1,now.2⟩) oC jw rfl rfl (St.un (A:=[_,_,_,_,_,_]) H) wn rfl rfl hrw3 rfl (H.hp.bN 0 rfl rfl) rfl (by omega) (by omega) rfl ?_;clear H;intro auu adW a w aak H;obtain ⟨asY,atm,rfl,-,-⟩:=aak.shape;have H:=H.assoc;dsimp only [lca,bG] at H;refine kH H (Rf Jz rfl (Rf RF rfl ?_));clear H;intro a H;refine aV Pp 5 (vs:=[_]) _ H wn rfl rfl rfl rfl rfl rfl rfl rfl ?_;clear H;intro w H;dsimp only [List.set,setRow] at H;refine aC ⟨rfl,?_⟩;refine dR ?_;obtain ⟨_,_,he,hr3⟩:=acE (Oa.mono fun b o h=>Sk b o (Hy b o (Ez b o (NM b o (vV b o h))))) (k:=i3+1) (by rw [ET];omega)
      injection he with he
      injection he with e1 e2
      subst e1 e2;obtain ⟨nx,hn1⟩:∃ s,s=(pJ h.props key ls)[i3+1]'(by rw [ET];omega):=⟨_,rfl⟩;rw [← hn1] at hr3
      have hnx:nx=(pJ h.props key ls).getD (i3+1) (0,false):=by rw [hn1,List.getD_eq_getElem?_getD,eO (show i3+1 < (pJ h.props key ls).length by rw [ET];omega)];rfl
      refine fO 4 H ?_;clear H;intro a H;refine xq FK qK (i3+1) H wn rfl rfl (by omega) (by omega) rfl ?_;clear H;intro a H;refine aS qK (cs:=[vi nx.1,.bool nx.2]) H wn rfl rfl (fun j v hj=>H.hp.aI (hr3 j v hj)) rfl ?_;clear H;intro a H;refine aV qK 4 (vs:=[_,_]) _ H wn rfl rfl rfl rfl rfl rfl rfl rfl ?_;clear H;intro w H;dsimp only [List.set,setRow] at H;refine aD 5 H ?_;clear H;intro a H;refine aC ?_;refine cB ((i3+1,nx,_,Ce++[⟨ls[i3].rev,ls[i3].key,now.1,now.2⟩],VO++cK.cells ⟨ls[i3].rev,ls[i3].key,now.1,now.2⟩,adW,_)) (by exact (H.dY (Pl:=[_,_,_,_,_,_]) (dM:=[_,_,_,_,_]) [1,2,3,4,5] (by decide) rfl).sub ⟨rfl,rfl,rfl,rfl,rfl,rfl,rfl,aU⟩) ?_ ?_
      · (try dsimp only);exact ⟨by omega,by omega,by rw [iC];exact aak,by rw [kQ];exact (SX.mono fun b o h=>Sk b o (Hy b o (Ez b o h))).snoc (anR _ ⟨ls[i3].rev,ls[i3].key,now.1,now.2⟩) rfl,by rw [jd,hnx];exact hq1,by rw [hnx];exact hq2,by rw [iC];show Ce.length+1≤_;omega,fun b o h=>Sk b o (Hy b o (Ez b o (NM b o h)))⟩
      first|omega|(dsimp only;omega)
    intro apc
    obtain rfl:i3=ls.length:=by omega
    rw [List.drop_length,wo] at hq1 hq2;rw [gD] at hq1;have hq4:=R7 acc rej h.props key ls;refine ak 2 ?_;intro a H;refine aS dw (cs:=[_,_,_,_,_]) H wn rfl rfl (H.hp.bN 4 rfl rfl) rfl ?_;clear H;refine ak 1 ?_;intro a H;refine aS qK (cs:=[_,_]) H wn rfl rfl (H.hp.bN 3 rfl rfl) rfl ?_;clear H;intro a H;refine s_call aha H wn rfl (asM _ _ H.ro ps io mo _ _ _ _ _ _ _ (hpv.mono hgu) key now (by omega)) rfl ?_;clear H;rintro v160 atd a w ⟨aup,rfl,ZV⟩ ami H;obtain ⟨adB,n160,c160,rfl⟩:=ZV.form;refine aV dw 4 (vs:=[_,_,_,_,_]) _ H wn rfl rfl rfl rfl rfl rfl rfl rfl ?_;clear H;intro w H;dsimp only [List.set,setRow] at H;refine aC ?_;refine amt ((.slice adB n160 c160,yG ps key now,_,Ce,VO,Qg)) _ _ _ _ _ (by exact H.dY (Pl:=[_,_,_,_,_]) (dM:=[_,_,_]) [1,2,4] (by decide) rfl) ?_;exact ⟨ZV,hrw3,SX.mono ami,by rw [← hdc,pO hk,vM,← hkey,← hls,← hq1,← hq2],by have:=adl ps key now;show (yG ps key now).length≤_;omega,by show Ce.length≤_;rw [hs3,hq1,iC];omega⟩
  · clear H;intro asZ gh ate a w jv hI H;obtain ⟨pv,ps,vy,ly,xs,Ly⟩:=gh;dsimp only at hI H;dsimp only [lca,bG] at H;obtain ⟨hpv,hrw,dV,hdc,hpl,hll⟩:=hI;rw [bM,List.drop_length,vM] at hdc;obtain ⟨pvA,pvn,pvc,rfl⟩:=hpv.form;obtain ⟨vyA,vyc,rfl,-,-⟩:=hrw.shape
    have NJ:lF acc rej h=⟨ps,⟨io,mo,h.marks.bL.filter fun x=>!rej x.rev,ly⟩⟩:=by unfold lF;rw [← hall,← hdc,hio,hmo]
    refine dR ?_;refine Am ?_;refine aS dw (cs:=[_,_,_,_,_]) H wn rfl rfl (H.hp.bN 2 rfl rfl) rfl ?_;clear H;intro a H;refine aV dw 1 (vs:=[_,_,_,_,_]) _ H wn rfl rfl rfl rfl rfl rfl rfl rfl ?_;clear H;intro w H;dsimp only [List.set,setRow] at H;refine aD 2 H ?_;clear H;intro a H;refine bZ ?_;refine (Uq H 0 rfl ?_).1;clear H;intro a w H;dsimp only [List.eraseIdx_cons_succ,List.eraseIdx_cons_zero] at H;refine (eT H results96 (.cons (kF dw (cs:=[_,_,_,_,_]) H rfl rfl (H.hp.bN 0 rfl rfl)) (.cons (bq H rfl) .nil)) ?_).1
    first
      | exact H.rt (by rw [nk,av (by first|exact .inl ⟨by assumption,by assumption⟩|exact .inr (GZ.1 (by assumption)))];exact ⟨_,_,_,rfl,FQ _⟩)
      | (obtain ⟨P7,zx,rV,H⟩:=St.mR (Li:=[_,_]) H hrw (rows:=ly.map cK.dat) (by simp) dV
         exact H.rt (by rw [nk,ah tK,NJ];exact ⟨_,_,_,rfl,⟨hpv.mono zx,(hdr.mono jv).mono zx,rV⟩⟩))
  intro Dk x;exact x.elim
end
section
open Go.RowKit
def vo (x:Nat→aj × OL) (m:Nat) (y:aj × OL):Nat→aj × OL:=fun j=>if j=m then y else x j
theorem asn (x:Nat→aj × OL) (m:Nat) (y:aj × OL):vo x m y m=y:=av rfl
theorem acV {x:Nat→aj × OL} {m j:Nat} {y:aj × OL} (h:j≠m):vo x m y j=x j:=ah h
def oG (ms:List Nat) (S:Nat→Bool) (x:Nat→aj × OL):OL:=ms.flatMap fun m=>bif S m then (x m).2 else []
theorem YS {S:Nat→Bool} {x:Nat→aj × OL} {y:aj × OL} {m:Nat}:∀ {ms:List Nat},m∉ms→oG ms (dh S m) (vo x m y)=oG ms S x
 | [],_=>rfl
 | k :: ms,h=>by
  have hk:k≠m:=fun e=>h (by simp [e])
  have ih:=YS (S:=S) (x:=x) (y:=y) (ms:=ms) fun hm=>h (gH _ hm)
  unfold oG at ih ⊢
  rw [List.flatMap_cons,List.flatMap_cons,ih,acV hk,show dh S m k=S k from ah hk]
theorem YT {S:Nat→Bool} {x:Nat→aj × OL} {y:aj × OL} {m:Nat} (hS:S m=false):∀ {ms:List Nat},ms.Nodup→m∈ms→(y.2++oG ms S x).Perm (oG ms (dh S m) (vo x m y))
 | k :: ms,hn,hm=>by
  rw [List.nodup_cons] at hn
  by_cases hk:k=m
  ·subst hk
   have e:=YS (S:=S) (x:=x) (y:=y) hn.1
   unfold oG at e ⊢
   rw [List.flatMap_cons,List.flatMap_cons,e,asn,hS,show dh S k k=true from av rfl]
   exact List.Perm.refl _
  ·have ih:=YT (S:=S) (x:=x) (y:=y) hS hn.2 (by
    rcases ko.1 hm with e|h
    ·exact absurd e.symm hk
    ·exact h)
   unfold oG at ih ⊢
   rw [List.flatMap_cons,List.flatMap_cons,acV hk,show dh S m k=S k from ah hk,← jd]
   refine (List.Perm.append_right _ uq).trans ?_
   rw [jd]
   exact List.Perm.append_left _ ih
section
variable {N:Nat} {D:List Deferred} {w0:World} {F:Nat→Prop} {G0 G G1 G2:GH} {L L1 L2:OL} {T Xs:List (Nat × aj)}
variable {r:Option Nat} {P:Program} {Q:Exit→Act→World→Prop} {l:List Oper} {a a':Act} {w w':World}
theorem MJ {id:Nat} (ms:List Nat) (hm:P.follows .mixedOrders=true) (bJ:List (List Nat)) (B:List Nat) (hk:wK l bJ=true) (hB:uY l bJ B=true) (hnd:ms.Nodup) (hms:(ms.all fun m=>Nat.blt m l.length && !B.contains m)=true) (pr:(Nat→aj × OL)→Nat→aj→GH→Prop)
  (hp:∀ m,ms.contains m=true→∀ x y i v G,Nat.beq i m=false→(bJ.getD i []).contains m=false→pr x i v G→pr (vo x m y) i v G)
  (H:St N D w0 F G0 G L T a w)
  (hstep:allI (fun i o=>∀ x L' S a w G1,(∀ q,q∈L→q∈L')→B.contains i=false→ms.contains i=false→S i=false→(∀ j∈bJ.getD i [],S j=true)→(∀ k o,G k=some o→G1 k=some o)→St N D w0 F G0 G1 L' T a w→(∀ i d,S i=true→dX l i=some d→∃ v,a.tmps[d]?=some v∧pr x i v G1) →
   WL r P l.toArray (fun e a' w'=>e=.normal∧DX N D w0 F G0 G L' T l (pr x) (dh S i) a' w') [o] a w) 0 l)
  (hmid:allI (fun m o=>ms.contains m=true→∀ x L' S a w G1,(∀ q,q∈L→q∈L')→S m=false→(∀ j∈bJ.getD m [],S j=true)→(∀ k o,G k=some o→G1 k=some o)→St N D w0 F G0 G1 L' T a w→(∀ y i d,i≠m→S i=true→dX l i=some d→∃ v,a.tmps[d]?=some v∧pr (vo x m y) i v G1) →
   WL r P l.toArray (fun e a' w'=>e=.normal∧∃ y,DX N D w0 F G0 G (y.2++L') T l (pr (vo x m y)) (dh S m) a' w') [o] a w) 0 l)
  (hend:∀ x a w G1,(∀ k o,G k=some o→G1 k=some o)→St N D w0 F G0 G1 (oG ms (fun _=>true) x++L) T a w→(∀ i d,B.contains i=false→dX l i=some d→∃ v,a.tmps[d]?=some v∧pr x i v G1)→WL r P l.toArray (fun e a w=>e=.normal∧Q .normal a w) (oq l B) a w):WP r P (.region id l.toArray true) Q a w:=by
 refine El hm bJ B hk hB (fun S a w=>∃ x,DX N D w0 F G0 G (oG ms S x++L) T l (pr x) S a w)
  ⟨fun _=>(.bool false,[]),DX.perm (L1:=L) ⟨G,fun _ _ h=>h,H.move H.hp.drew,fun _ _ h=>absurd (show false=true from h) (by decide)⟩ (by
   have:∀ ms:List Nat,oG ms (fun _=>false) (fun _=>(.bool false,[]))=[]:=fun ms=>by
    induction ms with
    | nil=>rfl
    | cons k ms ih=>unfold oG at ih ⊢;rw [List.flatMap_cons,ih];rfl
   rw [this];exact List.Perm.refl _)⟩ ?_ ?_
 ·rintro i o S a w ho hb aL iL hdesc ⟨x,G1,hG,HS,hv⟩
  have hsub:∀ q,q∈L→q∈oG ms S x++L:=fun q hq=>List.mem_append_right _ hq
  have hno:∀ j,j < l.length→S j=true→(bJ.getD j []).contains i=false:=fun j hjl hj=>by
   cases hc:(bJ.getD j []).contains i with
   | false=>rfl
   | true =>
    have:=hdesc j hjl (by simpa using hc)
    rw [this] at hj;cases hj
  cases hi:ms.contains i with
  | true =>
   have h:=yP hmid i o ho
   rw [fV] at h
   have h:=h hi x _ S a w G1 hsub aL iL hG HS fun y j d hj hSj hd=>by
    obtain ⟨v,hv1,hv2⟩:=hv j d hSj hd
    exact ⟨v,hv1,hp i hi x y j v _ (nX hj) (hno j (qB hd) hSj) hv2⟩
   refine lC (fun e a' w' ⟨he,y,hD⟩=>⟨he,vo x i y,hD.perm ?_⟩) h
   rw [← jd]
   exact List.Perm.append_right L (YT aL hnd (by simpa using hi))
  | false =>
   have h:=yP hstep i o ho
   rw [fV] at h
   have e:∀ ms:List Nat,i∉ms→oG ms (dh S i) x=oG ms S x:=fun ms hn=>by
    induction ms with
    | nil=>rfl
    | cons k ms ih =>
     have ih:=ih fun h=>hn (gH _ h)
     unfold oG at ih ⊢
     rw [List.flatMap_cons,List.flatMap_cons,ih,show dh S i k=S k from ah fun e=>hn (by simp [e])]
   refine lC (fun e' a' w' ⟨he,hD⟩=>⟨he,x,?_⟩) (h x _ S a w G1 hsub hb hi aL iL hG HS hv)
   rw [e ms (by simpa using hi)]
   exact hD
 ·rintro S a w hall Ic ⟨x,G1,hG,HS,hv⟩
  have hS:∀ m∈ms,S m=true:=fun m hmm=>by
   have h:=jS.1 hms m hmm
   rw [mq] at h
   exact hall m (Eq.mp Nat.blt_eq h.1) (by simpa using h.2)
  have e:∀ ms:List Nat,(∀ m∈ms,S m=true)→oG ms S x=oG ms (fun _=>true) x:=fun ms h=>by
   induction ms with
   | nil=>rfl
   | cons k ms ih =>
    have ih:=ih fun m hm=>h m (gH _ hm)
    unfold oG at ih ⊢
    rw [List.flatMap_cons,List.flatMap_cons,ih,h k fM]
  replace e:=e ms hS
  rw [e] at HS
  exact hend x a w G1 hG HS fun j d hb hd=>hv j d (hall j (qB hd) hb) hd
end
end
section
open Go.RowKit
theorem RA:∀ args w,(callFunc 98 args).run prog w=.ok (.enter 98 args) w:=enters func98 rfl (by kernel_rfl)
theorem ahb:∀ args w,(callFunc 165 args).run prog w=.ok (.enter 165 args) w:=enters func165 rfl (by kernel_rfl)
def Bp (fv:aj) (G:GH) (acc rej:Int→Bool):Prop:=∀ (G1:GH) (w1:World),(∀ b o,G b=some o→G1 b=some o)→Hold G1 w1→∀ (h:dW) (p d l:aj),fC G1 h p d l→kV h≤1073741824→qp prog fv [pq h p d l] w1 (bB w1 G1 (nk acc rej h))
theorem Bp.mono {fv:aj} {G G':GH} {acc rej:Int→Bool} (hm:∀ b o,G b=some o→G' b=some o) (h:Bp fv G acc rej):Bp fv G' acc rej:=fun G1 w1 h1=>h G1 w1 fun b o hb=>h1 b o (hm b o hb)
variable {acc rej:Int→Bool}
def aY (acc rej:Int→Bool) (h:dW):dW:=if kX acc rej h then zQ else lF acc rej h
theorem nk.ans {h:dW} {u:aj} {G:GH} (hd:nk acc rej h u G):∃ pA pn pc dA dn dc lA ln lc,u=.tuple #[.agg #[.slice pA pn pc,vi (aY acc rej h).marks.ins,vi (aY acc rej h).marks.move,.slice dA dn dc,.slice lA ln lc],.bool (!decide (kX acc rej h))]∧fC G (aY acc rej h) (.slice pA pn pc) (.slice dA dn dc) (.slice lA ln lc):=by
 unfold nk at hd
 unfold aY
 by_cases hg:kX acc rej h
 ·rw [av hg] at hd ⊢;obtain ⟨p,d,l,rfl,hh⟩:=hd;obtain ⟨pA,pn,pc,rfl⟩:=hh.props.form;obtain ⟨dA,dn,dc,rfl⟩:=hh.bL.form;obtain ⟨lA,ln,lc,rfl⟩:=hh.layers.form;exact ⟨pA,pn,pc,dA,dn,dc,lA,ln,lc,by simp [hg],hh⟩
 rw [ah hg] at hd ⊢;obtain ⟨p,d,l,rfl,hh⟩:=hd;obtain ⟨pA,pn,pc,rfl⟩:=hh.props.form;obtain ⟨dA,dn,dc,rfl⟩:=hh.bL.form;obtain ⟨lA,ln,lc,rfl⟩:=hh.layers.form;exact ⟨pA,pn,pc,dA,dn,dc,lA,ln,lc,by simp [hg],hh⟩
def Mt (fv:aj) (acc rej:Int→Bool) (n:Nat):Prop:=∀ (G:GH) (w0:World),Hold G w0→Bp fv G acc rej→∀ (l:List ay) (v:aj),au G (.sl 11 (l.map ay.dat)) v→cu l < n →
 Calls prog 98 #[fv,v] w0 (bB w0 G fun u G'=>au G' (.sl 11 ((fB acc rej l).map ay.dat)) u)
theorem aqe {fv:aj} {n:Nat} (ih:Mt fv acc rej n) (hn:n≤536870913) (G:GH) (w0:World) (hG:Hold G w0) (hf:Bp fv G acc rej) (l:List aX) (v:aj) (hv:au G (.sl 6 (l.map aX.dat)) v) (hz:gK l < n) :
  Calls prog 165 #[fv,v] w0 (bB w0 G fun u G'=>au G' (.sl 6 ((jE acc rej l).map aX.dat)) u):=by
 obtain ⟨A,c,rfl,hc1,hc2,hg⟩:=hv.slice
 have hml:4294967297≤maxLen:=by decide
 have hll:=IV l;rw [bM] at *;refine eN [(0,_),(1,_)] func165 rfl ntmps165 rfl rfl hG ?_;refine ak 13 ?_;intro a H;refine eH (ι:=Nat × aj × List aj × OL × GH) (Tc:=[(0,_),(15,_),(16,_)]) (Lc:=[]) (fun gh=>[(5,gh.2.1),(17,vi gh.1)]) (fun gh=>[]++gh.2.2.2.1) (fun gh=>gh.2.2.2.2) (fun gh=>gh.1≤l.length∧bV 74 6 gh.2.1 (jE acc rej (l.take gh.1)).length gh.2.2.1 gh.2.2.2.1∧bU gh.2.2.2.2 6 ((jE acc rej (l.take gh.1)).map aX.dat) gh.2.2.1∧(∀ b o,G b=some o→gh.2.2.2.2 b=some o)) (fun gh=>l.length - gh.1) ((0,.slice none 0 0,[],[],G)) sB ?_ ?_
 ·exact ⟨by omega,bV.nil,bU.nil,fun _ _ h=>h⟩
 clear H;rintro ⟨k,v,xs,Lo,g⟩ a w hI H;dsimp only at hI H;obtain ⟨hk,hrw,dV,hgm⟩:=hI;have hrl:=OT (acc:=acc) (rej:=rej) (l.take k);rw [List.length_take] at hrl;dsimp only [lca,bG] at H;refine dQ 4 H ?_ ?_ <;> clear H
 ·intro qJ
  have hk2:k < l.length:=by omega
  obtain ⟨b_,o_,pA,pn,pc,dA,dn,dc,yA,yn,yc,cA,cn,cc,rfl,hrow,hhd,hcl⟩:=KS hk2 hg;replace hrow:=fun j u hj=>aH hgm (hrow j u hj);replace hhd:=hhd.mono hgm;replace hcl:=hcl.mono hgm;have hzr:=LW hk2;have hce:=U9 (acc:=acc) (rej:=rej) l[k];refine ak 5 ?_;intro a H;refine aS jL (cs:=[_,_,_,_,_,_]) H wn rfl rfl (fun j v hj=>H.hp.aI (hrow j v hj)) rfl ?_;clear H;intro a H;refine dz jL H wn rfl ?_;clear H;intro b7 a w uM H;refine aV jL 0 (vs:=[_,_,_,_,_,_]) _ H wn rfl rfl rfl rfl rfl rfl rfl rfl ?_;clear H;intro w H;dsimp only [List.set,setRow] at H;refine aD 4 H ?_;clear H;intro a H;refine aS dw (cs:=[_,_,_,_,_]) H wn rfl rfl (H.hp.bN 0 rfl rfl) rfl ?_;clear H;intro a H;refine ji H wn rfl rfl (hf _ _ hgm H.ro l[k].head _ _ _ hhd (by omega)) rfl ?_;clear H;rintro v25 IZ a w hd25 tJ H;obtain ⟨q1,q2,q3,q4,q5,q6,q7,q8,q9,rfl,amb⟩:=hd25.ans;refine aD 1 H ?_;clear H;intro a H;(iterate 2 refine jK H wn rfl rfl rfl ?_;clear H;intro a H);refine dz dw H wn rfl ?_;clear H;intro b8 a w Ar H;refine aV dw 0 (vs:=[_,_,_,_,_]) _ H wn rfl rfl rfl rfl rfl rfl rfl rfl ?_;clear H;intro w H;dsimp only [List.set,setRow] at H;refine iU 7 H ?_ ?_ <;> clear H
  ·intro oH
   try have p29:=dT oH
   have hone:sD acc rej l[k]=[]:=by rw [hce,av (by simpa using oH)]
   have lg:=tJ;refine ak 4 ?_;intro a H;refine aC ?_;refine cB ((k+1,v,xs,Lo,_)) (by exact (H.dY (Pl:=[_,_]) (dM:=[]) [] (by decide) rfl).sub ⟨rfl,rfl,rfl,rfl,rfl,aU⟩) ?_ ?_
   ·(try dsimp only);exact ⟨by omega,by rw [yu hk2,hone,gD];exact hrw,by rw [yu hk2,hone,gD];exact dV.mono lg,fun b o h=>lg b o (hgm b o h)⟩
   first|omega|(dsimp only;omega)
  intro oH
  try have p29:=dF oH
  have tK:¬ kX acc rej l[k].head:=by simpa using oH
  rw [ah tK] at hce;obtain ⟨cA',cc',hcs,Ta,alF,hgc⟩:=hcl.slice
  intro a H;injection hcs with e1 e2 e3
  rw [bM] at e2 Ta;subst e1 e2 e3;have alI:=IQ l[k].cells;refine fO 12 H ?_;clear H;intro a H;refine eH (ι:=Nat × aj × List aj × OL × GH) (Tc:=[(0,_),(5,_),(8,_),(15,_),(16,_),(17,_),(31,_),(32,_)]) (Lc:=[(_,_),(_,_)]) (fun gh=>[(10,gh.2.1),(33,vi gh.1)]) (fun gh=>[]++(Lo++gh.2.2.2.1)) (fun gh=>gh.2.2.2.2) (fun gh=>gh.1≤l[k].cells.length∧bV 76 7 gh.2.1 (iq acc rej (l[k].cells.take gh.1)).length gh.2.2.1 gh.2.2.2.1∧bU gh.2.2.2.2 7 ((iq acc rej (l[k].cells.take gh.1)).map bC.dat) gh.2.2.1∧(∀ b o,IZ b=some o→gh.2.2.2.2 b=some o)) (fun gh=>l[k].cells.length - gh.1) ((0,.slice none 0 0,[],[],IZ)) (by exact (H.Im (A:=[_,_])).sub ⟨rfl,rfl,rfl,rfl,rfl,rfl,rfl,rfl,rfl,rfl,aU⟩) ?_ ?_
  ·exact ⟨by omega,bV.nil,bU.nil,fun _ _ h=>h⟩
  clear H;rintro ⟨i,v2,xs2,Lc,g2⟩ a w hI H;dsimp only at hI H;obtain ⟨hi,hrw2,rR,iV⟩:=hI;have hrl2:=OQ (acc:=acc) (rej:=rej) (l[k].cells.take i);rw [List.length_take] at hrl2;obtain ⟨xA,xB,rfl,-,-⟩:=hrw2.shape;dsimp only [lca,bG] at H;refine dQ 4 H ?_ ?_ <;> clear H
  ·intro p34
   have hi2:i < l[k].cells.length:=by omega
   obtain ⟨b2_,o2_,aA,an,ac,gA,gn,gc,uA,un,uc,wA,FN,wc,rfl,hrow2,EI,EG⟩:=Jg hi2 hgc;have hgx:∀ b o,g b=some o→g2 b=some o:=fun b o h=>iV b o (tJ b o h);replace hrow2:=fun j u hj=>aH hgx (hrow2 j u hj);replace EI:=EI.mono hgx;replace EG:=EG.mono hgx;have hzc:=LV hi2;have J2:=U6 (acc:=acc) (rej:=rej) l[k].cells[i];refine ak 5 ?_;intro a H;refine aS jQ (cs:=[_,_,_,_,_,_,_]) H wn rfl rfl (fun j v hj=>H.hp.aI (hrow2 j v hj)) rfl ?_;clear H;intro a H;refine dz jQ H wn rfl ?_;clear H;intro b12 a w EB H;refine aV jQ 0 (vs:=[_,_,_,_,_,_,_]) _ H wn rfl rfl rfl rfl rfl rfl rfl rfl ?_;clear H;intro w H;dsimp only [List.set,setRow] at H;refine aD 4 H ?_;clear H;intro a H;refine aS dw (cs:=[_,_,_,_,_]) H wn rfl rfl (H.hp.bN 0 rfl rfl) rfl ?_;clear H;intro a H;refine ji H wn rfl rfl (hf _ _ (fun b o h=>hgx b o (hgm b o h)) H.ro l[k].cells[i].head _ _ _ EI (by omega)) rfl ?_;clear H;rintro v41 FY a w alL uN H;obtain ⟨r1,r2,r3,r4,r5,r6,r7,r8,r9,rfl,amc⟩:=alL.ans;refine aD 1 H ?_;clear H;intro a H;(iterate 2 refine jK H wn rfl rfl rfl ?_;clear H;intro a H);refine dz dw H wn rfl ?_;clear H;intro b13 a w NA H;refine aV dw 0 (vs:=[_,_,_,_,_]) _ H wn rfl rfl rfl rfl rfl rfl rfl rfl ?_;clear H;intro w H;dsimp only [List.set,setRow] at H;refine iU 5 H ?_ ?_ <;> clear H
   ·intro JD
    try have p44:=dT JD
    have Kh:¬ kX acc rej l[k].cells[i].head:=by simpa using JD
    have zy:uX acc rej l[k].cells[i]=[.mk l[k].cells[i].id (aY acc rej l[k].cells[i].head) (fB acc rej l[k].cells[i].flow)]:=by rw [J2,ah Kh,aY,ah Kh]
    have Az:∀ (aJ:Nat→aj × OL) (aP:Nat) (v:aj) (G G':GH),(∀ k o,G k=some o→G' k=some o)→(fun (aJ:Nat→aj × OL) (aP:Nat) (v:aj) (G:GH)=>match aP with|0=>v=.slice xA (iq acc rej (l[k].cells.take i)).length xB|1=>v=(aG b12 0)|2=>v=vi l[k].cells[i].id|3=>v=.agg #[.slice r1 r2 r3,vi (aY acc rej l[k].cells[i].head).marks.ins,vi (aY acc rej l[k].cells[i].head).marks.move,.slice r4 r5 r6,.slice r7 r8 r9]|4=>v=fv|5=>v=(aG b12 6)|6=>v=.slice wA FN wc|7=>au G (.sl 11 ((fB acc rej l[k].cells[i].flow).map ay.dat)) v|8=>∃ A n c,v=.agg #[vi l[k].cells[i].id,.slice r1 r2 r3,vi (aY acc rej l[k].cells[i].head).marks.ins,vi (aY acc rej l[k].cells[i].head).marks.move,.slice r4 r5 r6,.slice r7 r8 r9,.slice A n c]∧au G (.sl 11 ((fB acc rej l[k].cells[i].flow).map ay.dat)) (.slice A n c)|9=>∃ b A n c,v=.slice (some ⟨b,0,none⟩) 1 1∧aJ 9=(.slice (some ⟨b,0,none⟩) 1 1,[(b,.cells #[vi l[k].cells[i].id,.slice r1 r2 r3,vi (aY acc rej l[k].cells[i].head).marks.ins,vi (aY acc rej l[k].cells[i].head).marks.move,.slice r4 r5 r6,.slice r7 r8 r9,.slice A n c] 76 (0,0))])∧au G (.sl 11 ((fB acc rej l[k].cells[i].flow).map ay.dat)) (.slice A n c)|_=>True) aJ aP v G→(fun (aJ:Nat→aj × OL) (aP:Nat) (v:aj) (G:GH)=>match aP with|0=>v=.slice xA (iq acc rej (l[k].cells.take i)).length xB|1=>v=(aG b12 0)|2=>v=vi l[k].cells[i].id|3=>v=.agg #[.slice r1 r2 r3,vi (aY acc rej l[k].cells[i].head).marks.ins,vi (aY acc rej l[k].cells[i].head).marks.move,.slice r4 r5 r6,.slice r7 r8 r9]|4=>v=fv|5=>v=(aG b12 6)|6=>v=.slice wA FN wc|7=>au G (.sl 11 ((fB acc rej l[k].cells[i].flow).map ay.dat)) v|8=>∃ A n c,v=.agg #[vi l[k].cells[i].id,.slice r1 r2 r3,vi (aY acc rej l[k].cells[i].head).marks.ins,vi (aY acc rej l[k].cells[i].head).marks.move,.slice r4 r5 r6,.slice r7 r8 r9,.slice A n c]∧au G (.sl 11 ((fB acc rej l[k].cells[i].flow).map ay.dat)) (.slice A n c)|9=>∃ b A n c,v=.slice (some ⟨b,0,none⟩) 1 1∧aJ 9=(.slice (some ⟨b,0,none⟩) 1 1,[(b,.cells #[vi l[k].cells[i].id,.slice r1 r2 r3,vi (aY acc rej l[k].cells[i].head).marks.ins,vi (aY acc rej l[k].cells[i].head).marks.move,.slice r4 r5 r6,.slice r7 r8 r9,.slice A n c] 76 (0,0))])∧au G (.sl 11 ((fB acc rej l[k].cells[i].flow).map ay.dat)) (.slice A n c)|_=>True) aJ aP v G':=by
     intro aJ aP v G G' hm h
     match aP,h with
     | 0,h=>exact h
     | 1,h=>exact h
     | 2,h=>exact h
     | 3,h=>exact h
     | 4,h=>exact h
     | 5,h=>exact h
     | 6,h=>exact h
     | 7,h=>exact au.mono hm h
     | 8,h=>exact let ⟨A,n,c,h1,h2⟩:=h;⟨A,n,c,h1,h2.mono hm⟩
     | 9,h=>exact let ⟨b,A,n,c,h0,h1,h2⟩:=h;⟨b,A,n,c,h0,h1,h2.mono hm⟩
     | 10,h=>exact trivial
     | 11,h=>exact trivial
     | _+12,h=>exact trivial
    intro a H;refine MJ [9] (hmx) [[],[],[1],[],[],[],[5],[4,5,6],(ra 1 7),(ra 1 8),(ra 0 10),(ra 0 11)] [10,11] (by kernel_rfl) (by kernel_rfl) (by decide) (by kernel_rfl) (fun (aJ:Nat→aj × OL) (aP:Nat) (v:aj) (G:GH)=>match aP with|0=>v=.slice xA (iq acc rej (l[k].cells.take i)).length xB|1=>v=(aG b12 0)|2=>v=vi l[k].cells[i].id|3=>v=.agg #[.slice r1 r2 r3,vi (aY acc rej l[k].cells[i].head).marks.ins,vi (aY acc rej l[k].cells[i].head).marks.move,.slice r4 r5 r6,.slice r7 r8 r9]|4=>v=fv|5=>v=(aG b12 6)|6=>v=.slice wA FN wc|7=>au G (.sl 11 ((fB acc rej l[k].cells[i].flow).map ay.dat)) v|8=>∃ A n c,v=.agg #[vi l[k].cells[i].id,.slice r1 r2 r3,vi (aY acc rej l[k].cells[i].head).marks.ins,vi (aY acc rej l[k].cells[i].head).marks.move,.slice r4 r5 r6,.slice r7 r8 r9,.slice A n c]∧au G (.sl 11 ((fB acc rej l[k].cells[i].flow).map ay.dat)) (.slice A n c)|9=>∃ b A n c,v=.slice (some ⟨b,0,none⟩) 1 1∧aJ 9=(.slice (some ⟨b,0,none⟩) 1 1,[(b,.cells #[vi l[k].cells[i].id,.slice r1 r2 r3,vi (aY acc rej l[k].cells[i].head).marks.ins,vi (aY acc rej l[k].cells[i].head).marks.move,.slice r4 r5 r6,.slice r7 r8 r9,.slice A n c] 76 (0,0))])∧au G (.sl 11 ((fB acc rej l[k].cells[i].flow).map ay.dat)) (.slice A n c)|_=>True) (fun m hm x y i v G hi hc h=>by
     have hm:m=9:=by simpa using hm
     rcases hm with rfl
     ·match i,hi,hc,h with
      | 0,_,_,h=>exact h
      | 1,_,_,h=>exact h
      | 2,_,_,h=>exact h
      | 3,_,_,h=>exact h
      | 4,_,_,h=>exact h
      | 5,_,_,h=>exact h
      | 6,_,_,h=>exact h
      | 7,_,_,h=>exact h
      | 8,_,_,h=>exact h
      | 9,hi,_,_=>exact absurd hi (by decide)
      | 10,_,hc,_=>exact absurd hc (by decide)
      | 11,_,hc,_=>exact absurd hc (by decide)
      | _+12,_,_,_=>exact trivial
     ) H ?_ ?_ ?_
    ·clear H;refine aF ?_ ?_ ?_ ?_ (aF ?_ ?_ ?_ ?_ (aF ?_ ?_ ?_ ?_ cZ))
     ·intro aJ dL aR a w G1 dO _ _ aL hc hG HT hv;have H:=HT;clear aL;have Hb:=H.full;have H:=Hb;clear hc;refine aD 1 H ?_;clear H;intro a H;refine aC ⟨rfl,?_⟩;exact dG (by kernel_rfl) (Az aJ) rfl rfl HT Hb hG hv (fun _ _ h=>h) (rfl) H
     ·intro aJ dL aR a w G1 dO _ _ aL hc hG HT hv;have H:=HT;clear aL;have Hb:=H.full;have H:=Hb;clear hc;refine aD 1 H ?_;clear H;intro a H;refine aC ⟨rfl,?_⟩;exact dG (by kernel_rfl) (Az aJ) rfl rfl HT Hb hG hv (fun _ _ h=>h) (rfl) H
     ·intro aJ dL aR a w G1 dO _ _ aL hc hG HT hv;have H:=HT;clear aL;have H:=H.aN (hv 1 46 (hc 1 (by decide)) rfl) rfl;have Hb:=H.full;have H:=Hb;clear hc;refine iF bR H wn rfl (H.hp.wY (dO _ (gH _ fM)) rfl) rfl ?_;clear H;intro a H;refine aC ⟨rfl,?_⟩;exact dG (by kernel_rfl) (Az aJ) rfl rfl HT Hb hG hv (fun _ _ h=>h) (rfl) H
     ·intro aJ dL aR a w G1 dO _ _ aL hc hG HT hv;have H:=HT;clear aL;have Hb:=H.full;have H:=Hb;clear hc;refine aS dw (cs:=[.slice r1 r2 r3,vi (aY acc rej l[k].cells[i].head).marks.ins,vi (aY acc rej l[k].cells[i].head).marks.move,.slice r4 r5 r6,.slice r7 r8 r9]) H wn rfl rfl (fun j v hj=>H.hp.wY (dO _ fM) (by simpa using hj)) rfl ?_;clear H;intro a H;refine aC ⟨rfl,?_⟩;exact dG (by kernel_rfl) (Az aJ) rfl rfl HT Hb hG hv (fun _ _ h=>h) (rfl) H
     ·intro aJ dL aR a w G1 dO _ _ aL hc hG HT hv;have H:=HT;clear aL;have Hb:=H.full;have H:=Hb;clear hc;refine aD 1 H ?_;clear H;intro a H;refine aC ⟨rfl,?_⟩;exact dG (by kernel_rfl) (Az aJ) rfl rfl HT Hb hG hv (fun _ _ h=>h) (rfl) H
     ·intro aJ dL aR a w G1 dO _ _ aL hc hG HT hv;have H:=HT;clear aL;have Hb:=H.full;have H:=Hb;clear hc;refine aD 1 H ?_;clear H;intro a H;refine aC ⟨rfl,?_⟩;exact dG (by kernel_rfl) (Az aJ) rfl rfl HT Hb hG hv (fun _ _ h=>h) (rfl) H
     ·intro aJ dL aR a w G1 dO _ _ aL hc hG HT hv;have H:=HT;clear aL;have H:=H.aN (hv 5 50 (hc 5 (by decide)) rfl) rfl;have Hb:=H.full;have H:=Hb;clear hc;refine iF pK H wn rfl (H.hp.wY (dO _ (gH _ fM)) rfl) rfl ?_;clear H;intro a H;refine aC ⟨rfl,?_⟩;exact dG (by kernel_rfl) (Az aJ) rfl rfl HT Hb hG hv (fun _ _ h=>h) (rfl) H
     ·intro aJ dL aR a w G1 dO _ _ aL hc hG HT hv;have H:=HT;clear aL;have H:=H.aN (hv 4 49 (hc 4 (by decide)) rfl) rfl;have H:=H.aN (hv 6 51 (hc 6 (by decide)) rfl) rfl;have Hb:=H.full;have H:=Hb;clear hc;refine s_call RA H wn rfl (ih _ _ H.ro (hf.mono fun b o h=>hG b o (uN b o (hgx b o (hgm b o h)))) l[k].cells[i].flow _ (EG.mono fun b o h=>hG b o (uN b o h)) (by omega)) rfl ?_;clear H;rintro v52 Wj a w BS akG H;refine aC ⟨rfl,?_⟩;exact dG (by kernel_rfl) (Az aJ) rfl rfl HT Hb hG hv akG (BS) H
     ·intro aJ dL aR a w G1 dO _ _ aL hc hG HT hv;have H:=HT;clear aL;have H:=H.aN (hv 2 47 (hc 2 (by decide)) rfl) rfl;have H:=H.aN (hv 3 48 (hc 3 (by decide)) rfl) rfl;obtain ⟨u52,anh,BS⟩:=hv 7 52 (hc 7 (by decide)) rfl;(try dsimp only at BS);obtain ⟨yK,n52,yQ,rfl⟩:=BS.form;have H:=H.gV anh;have Hb:=H.full;have H:=Hb;clear hc;refine iy Pb [_,_,_,_,_,_,_] H wn rfl rfl rfl rfl ?_;clear H;intro a H;refine aC ⟨rfl,?_⟩;exact dG (by kernel_rfl) (Az aJ) rfl rfl HT Hb hG hv (fun _ _ h=>h) (⟨_,_,_,rfl,BS⟩) H
     ·intro _ _ _ _ _ _ _ _ hB;exact absurd hB (by decide)
     ·intro _ _ _ _ _ _ _ hB;exact absurd hB (by decide)
     intro _ _ _ _ _ _ _ hB;exact absurd hB (by decide)
    ·clear H;refine aF ?_ ?_ ?_ ?_ (aF ?_ ?_ ?_ ?_ (aF ?_ ?_ ?_ ?_ cZ))
     ·intro hB;exact absurd hB (by decide)
     ·intro hB;exact absurd hB (by decide)
     ·intro hB;exact absurd hB (by decide)
     ·intro hB;exact absurd hB (by decide)
     ·intro hB;exact absurd hB (by decide)
     ·intro hB;exact absurd hB (by decide)
     ·intro hB;exact absurd hB (by decide)
     ·intro hB;exact absurd hB (by decide)
     ·intro hB;exact absurd hB (by decide)
     ·intro _ aJ dL aR a w G1 dO _ hc hG HT hv;have H:=HT;obtain ⟨u53,TQ,Ay⟩:=hv (.bool false,[]) 8 53 (by decide) (hc 8 (by decide)) rfl;(try dsimp only at Ay);obtain ⟨sN,n53,c53,rfl,Ay⟩:=Ay;have H:=H.gV TQ;have Hb:=H.full;have H:=Hb;clear hc;refine gJ CF jQ [_,_,_,_,_,_,_] [_,_,_,_,_,_,_] H wn rfl rfl rfl rfl rfl (by intro i q h;match i,h with|0,h=>exact h|n+1,h=>simp at h) rfl rfl ?_;clear H;intro Af a w Zh H;refine aC ⟨rfl,(.slice (some ⟨Af,0,none⟩) 1 1,[(Af,.cells #[vi l[k].cells[i].id,.slice r1 r2 r3,vi (aY acc rej l[k].cells[i].head).marks.ins,vi (aY acc rej l[k].cells[i].head).marks.move,.slice r4 r5 r6,.slice r7 r8 r9,.slice sN n53 c53] 76 (0,0))]),?_⟩;exact Bz (by kernel_rfl) (Az (vo aJ 9 (.slice (some ⟨Af,0,none⟩) 1 1,[(Af,.cells #[vi l[k].cells[i].id,.slice r1 r2 r3,vi (aY acc rej l[k].cells[i].head).marks.ins,vi (aY acc rej l[k].cells[i].head).marks.move,.slice r4 r5 r6,.slice r7 r8 r9,.slice sN n53 c53] 76 (0,0))]))) rfl HT Hb hG (fun j e h1 h2 h3=>hv (.slice (some ⟨Af,0,none⟩) 1 1,[(Af,.cells #[vi l[k].cells[i].id,.slice r1 r2 r3,vi (aY acc rej l[k].cells[i].head).marks.ins,vi (aY acc rej l[k].cells[i].head).marks.move,.slice r4 r5 r6,.slice r7 r8 r9,.slice sN n53 c53] 76 (0,0))]) j e h1 h2 h3) (fun _ _ h=>h) (⟨Af,sN,n53,c53,rfl,rfl,Ay⟩) H
     ·intro hB;exact absurd hB (by decide)
     intro hB;exact absurd hB (by decide)
    clear H;intro aJ a w G JI H hv
    simp only [oG,List.flatMap_cons,List.flatMap_nil,cond_true,gD,jd] at H
    have H:=H.aN (hv 0 45 rfl rfl) rfl;obtain ⟨u54,ani,Z4⟩:=hv 9 54 (by decide) rfl;(try dsimp only at Z4);obtain ⟨Af,yK,n52,yQ,rfl,e54,BS⟩:=Z4;have H:=H.gV ani;clear hv;rw [e54] at H;dsimp only [lca,bG] at H;have aae:aW G (bC.dat (.mk l[k].cells[i].id (aY acc rej l[k].cells[i].head) (fB acc rej l[k].cells[i].flow))) [vi l[k].cells[i].id,.slice r1 r2 r3,vi (aY acc rej l[k].cells[i].head).marks.ins,vi (aY acc rej l[k].cells[i].head).marks.move,.slice r4 r5 r6,.slice r7 r8 r9,.slice yK n52 yQ]:=aW.KM (x:=.mk l[k].cells[i].id (aY acc rej l[k].cells[i].head) (fB acc rej l[k].cells[i].flow)) (amc.mono JI) BS;refine lJ (Li:=[_,_,_,_,_]++Lo) (Lo:=Lc) (news:=[vi l[k].cells[i].id,.slice r1 r2 r3,vi (aY acc rej l[k].cells[i].head).marks.ins,vi (aY acc rej l[k].cells[i].head).marks.move,.slice r4 r5 r6,.slice r7 r8 r9,.slice yK n52 yQ]) CF jQ rfl rfl (St.un (A:=[_,_,_,_,_]) H) wn rfl rfl hrw2 rfl (H.hp.bN 0 rfl rfl) aae.one (by omega) (by omega) rfl ?_;clear H;intro v55 adG a w amN H;have H:=H.assoc;dsimp only [lca,bG] at H;refine kH H (Ra rfl ?_);clear H;intro a H;refine aC ⟨rfl,?_⟩;refine dR ?_;refine fO 3 H ?_;clear H;intro a H;refine aC ?_;refine cB ((i+1,v55,xs2++[vi l[k].cells[i].id,.slice r1 r2 r3,vi (aY acc rej l[k].cells[i].head).marks.ins,vi (aY acc rej l[k].cells[i].head).marks.move,.slice r4 r5 r6,.slice r7 r8 r9,.slice yK n52 yQ],adG,_)) (by exact (H.dY (Pl:=[_,_,_,_,_]) (dM:=[_,_]) [3,4] (by decide) rfl).sub ⟨rfl,rfl,rfl,rfl,rfl,rfl,rfl,rfl,rfl,rfl,aU⟩) ?_ ?_
    ·(try dsimp only);exact ⟨by omega,by rw [DN hi2,zy,iC];exact amN,by rw [DN hi2,zy,kQ];exact (rR.mono fun b o h=>JI b o (uN b o h)).snoc aae rfl,fun b o h=>JI b o (uN b o (iV b o h))⟩
    first|omega|(dsimp only;omega)
   intro JD
   try have p44:=dF JD
   have zy:uX acc rej l[k].cells[i]=[]:=by rw [J2,av (by simpa using JD)]
   refine ak 4 ?_;intro a H;refine aC ?_;refine cB ((i+1,_,xs2,Lc,_)) (by exact (H.dY (Pl:=[_,_,_,_]) (dM:=[_,_]) [2,3] (by decide) rfl).sub ⟨rfl,rfl,rfl,rfl,rfl,rfl,rfl,rfl,rfl,rfl,aU⟩) ?_ ?_
   ·(try dsimp only);exact ⟨by omega,by rw [DN hi2,zy,gD];exact hrw2,by rw [DN hi2,zy,gD];exact rR.mono uN,fun b o h=>uN b o (iV b o h)⟩
   first|omega|(dsimp only;omega)
  intro p34
  obtain rfl:i=l[k].cells.length:=by omega
  intro a H;rw [vE] at hrw2 rR hrl2 H;have H:=H.un (A:=[_,_]);obtain ⟨Gr,hmr,hrep,H⟩:=St.mR (Li:=[_,_]++Lo) H hrw2 (rows:=(iq acc rej l[k].cells).map bC.dat) (by simp) rR;have lg:∀ b o,g b=some o→Gr b=some o:=fun b o h=>hmr b o (iV b o (tJ b o h));dsimp only [lca,bG] at H;refine dQ 6 H ?_ ?_ <;> clear H
  ·intro p59
   have hone:sD acc rej l[k]=[.mk (aY acc rej l[k].head) (iq acc rej l[k].cells)]:=by rw [hce,ah (by omega),aY,ah tK]
   have aaf:aW Gr (aX.dat (.mk (aY acc rej l[k].head) (iq acc rej l[k].cells))) [.slice q1 q2 q3,vi (aY acc rej l[k].head).marks.ins,vi (aY acc rej l[k].head).marks.move,.slice q4 q5 q6,.slice q7 q8 q9,.slice xA (iq acc rej l[k].cells).length xB]:=aW.KN (x:=.mk (aY acc rej l[k].head) (iq acc rej l[k].cells)) (amb.mono fun b o h=>hmr b o (iV b o h)) hrep;refine ak 2 ?_;intro a H;refine aS dw (cs:=[_,_,_,_,_]) H wn rfl rfl (H.hp.bN 0 rfl rfl) rfl ?_;clear H;refine ak 1 ?_;intro a H;refine iy O9 [_,_,_,_,_,_] H wn rfl rfl rfl rfl ?_;clear H;intro a H;refine gJ FL jL [_,_,_,_,_,_] [_,_,_,_,_,_] H wn rfl rfl rfl rfl rfl (by intro i q h;match i,h with|0,h=>exact h|n+1,h=>simp at h) rfl rfl ?_;clear H;intro b64 a w atF H;refine lJ (Li:=[_,_,_]) (Lo:=Lo) (news:=[.slice q1 q2 q3,vi (aY acc rej l[k].head).marks.ins,vi (aY acc rej l[k].head).marks.move,.slice q4 q5 q6,.slice q7 q8 q9,.slice xA (iq acc rej l[k].cells).length xB]) FL jL rfl rfl H wn rfl rfl hrw rfl (H.hp.bN 0 rfl rfl) aaf.one (by omega) (by omega) rfl ?_;clear H;intro v65 adN a w amO H;refine aD 5 H ?_;clear H;intro a H;refine aC ?_;refine cB ((k+1,v65,xs++[.slice q1 q2 q3,vi (aY acc rej l[k].head).marks.ins,vi (aY acc rej l[k].head).marks.move,.slice q4 q5 q6,.slice q7 q8 q9,.slice xA (iq acc rej l[k].cells).length xB],adN,_)) (by exact (H.dY (Pl:=[_,_,_]) (dM:=[]) [] (by decide) rfl).sub ⟨rfl,rfl,rfl,rfl,rfl,aU⟩) ?_ ?_
   ·(try dsimp only);exact ⟨by omega,by rw [yu hk2,hone,iC];exact amO,by rw [yu hk2,hone,kQ];exact (dV.mono lg).snoc aaf rfl,fun b o h=>lg b o (hgm b o h)⟩
   first|omega|(dsimp only;omega)
  intro p59
  have hone:sD acc rej l[k]=[]:=by rw [hce,av (by omega)]
  refine ak 4 ?_;intro a H;refine aC ?_;refine cB ((k+1,v,xs,Lo,_)) (by exact (H.dY (Pl:=[_,_]) (dM:=[]) [] (by decide) rfl).sub ⟨rfl,rfl,rfl,rfl,rfl,aU⟩) ?_ ?_
  ·(try dsimp only);exact ⟨by omega,by rw [yu hk2,hone,gD];exact hrw,by rw [yu hk2,hone,gD];exact dV.mono lg,fun b o h=>lg b o (hgm b o h)⟩
  first|omega|(dsimp only;omega)
 intro qJ
 obtain rfl:k=l.length:=by omega
 rw [vE] at hrw dV;refine ak 5 ?_;intro a H;refine bZ ?_;obtain ⟨G',hm,rV,H⟩:=H.mR (Li:=[]) hrw (rows:=(jE acc rej l).map aX.dat) (by simp) dV;refine lv H results165 rfl ?_;exact H.rt rV
theorem aqc {fv:aj} {n:Nat} (ih:Mt fv acc rej n) (hn:n≤536870912):Mt fv acc rej (n+1):=by
 intro G w0 hG hf l v hv hz;obtain ⟨A,c,rfl,hc1,hc2,hg⟩:=hv.slice
 have hml:4294967297≤maxLen:=by decide
 have hll:=FP l;rw [bM] at *;refine eN [(0,_),(1,_)] func98 rfl ntmps98 rfl rfl hG ?_;refine ak 13 ?_;intro a H;refine eH (ι:=Nat × aj × List aj × OL × GH) (Tc:=[(0,_),(10,_),(11,_)]) (Lc:=[]) (fun gh=>[(5,gh.2.1),(12,vi gh.1)]) (fun gh=>[]++gh.2.2.2.1) (fun gh=>gh.2.2.2.2) (fun gh=>gh.1≤l.length∧bV 68 11 gh.2.1 (fB acc rej (l.take gh.1)).length gh.2.2.1 gh.2.2.2.1∧bU gh.2.2.2.2 11 ((fB acc rej (l.take gh.1)).map ay.dat) gh.2.2.1∧(∀ b o,G b=some o→gh.2.2.2.2 b=some o)) (fun gh=>l.length - gh.1) ((0,.slice none 0 0,[],[],G)) sB ?_ ?_
 ·exact ⟨by omega,bV.nil,bU.nil,fun _ _ h=>h⟩
 clear H;rintro ⟨k,v,xs,Lo,g⟩ a w hI H;dsimp only at hI H;obtain ⟨hk,hrw,dV,hgm⟩:=hI;have hrl:=U8 (acc:=acc) (rej:=rej) (l.take k);rw [List.length_take] at hrl;dsimp only [lca,bG] at H;refine dQ 4 H ?_ ?_ <;> clear H
 ·intro oJ
  have hk2:k < l.length:=by omega
  obtain ⟨b_,o_,pA,pn,pc,dA,dn,dc,yA,yn,yc,fA,fn,fc,rA,rn,rc,rfl,hrow,hhd,hfl,hrs⟩:=Eu hk2 hg;replace hrow:=fun j u hj=>aH hgm (hrow j u hj);replace hhd:=hhd.mono hgm;replace hfl:=hfl.mono hgm;replace hrs:=hrs.mono hgm;have hzi:=IU hk2;have hce:=U7 (acc:=acc) (rej:=rej) l[k];refine ak 5 ?_;intro a H;refine aS gB (cs:=[_,_,_,_,_,_,_,_,_,_,_]) H wn rfl rfl (fun j v hj=>H.hp.aI (hrow j v hj)) rfl ?_;clear H;intro a H;refine dz gB H wn rfl ?_;clear H;intro b7 a w uM H;refine aV gB 0 (vs:=[_,_,_,_,_,_,_,_,_,_,_]) _ H wn rfl rfl rfl rfl rfl rfl rfl rfl ?_;clear H;intro w H;dsimp only [List.set,setRow] at H;refine aD 4 H ?_;clear H;intro a H;refine aS dw (cs:=[_,_,_,_,_]) H wn rfl rfl (H.hp.bN 0 rfl rfl) rfl ?_;clear H;intro a H;refine ji H wn rfl rfl (hf _ _ hgm H.ro l[k].head _ _ _ hhd (by omega)) rfl ?_;clear H;rintro v20 IX a w alK qG H;obtain ⟨q1,q2,q3,q4,q5,q6,q7,q8,q9,rfl,Tk⟩:=alK.ans;refine aD 1 H ?_;clear H;intro a H;(iterate 2 refine jK H wn rfl rfl rfl ?_;clear H;intro a H);refine dz dw H wn rfl ?_;clear H;intro b8 a w Ar H;refine aV dw 0 (vs:=[_,_,_,_,_]) _ H wn rfl rfl rfl rfl rfl rfl rfl rfl ?_;clear H;intro w H;dsimp only [List.set,setRow] at H;refine iU 7 H ?_ ?_ <;> clear H
  ·intro fu
   try have jq:=dT fu
   have hone:qY acc rej l[k]=[]:=by rw [hce,av (by simpa using fu)]
   refine ak 4 ?_;intro a H;refine aC ?_;refine cB ((k+1,v,xs,Lo,_)) (by exact (H.dY (Pl:=[_,_]) (dM:=[]) [] (by decide) rfl).sub ⟨rfl,rfl,rfl,rfl,rfl,aU⟩) ?_ ?_
   ·(try dsimp only);exact ⟨by omega,by rw [wC hk2,hone,gD];exact hrw,by rw [wC hk2,hone,gD];exact dV.mono qG,fun b o h=>qG b o (hgm b o h)⟩
   first|omega|(dsimp only;omega)
  intro fu
  try have jq:=dF fu
  have tK:¬ kX acc rej l[k].head:=by simpa using fu
  rw [ah tK] at hce;have han:aY acc rej l[k].head=lF acc rej l[k].head:=ah tK;refine ak 2 ?_;intro a H;refine aS dw (cs:=[_,_,_,_,_]) H wn rfl rfl (H.hp.bN 0 rfl rfl) rfl ?_;clear H;refine ak 1 ?_;intro a H;refine aV dw 1 (vs:=[_,_,_,_,_]) _ H wn rfl rfl rfl rfl rfl rfl rfl rfl ?_;clear H;intro w H;dsimp only [List.set,setRow] at H;refine aC ?_;refine dR ?_;refine qz (ι:=ay × List aj × GH) (Tc:=[(0,_),(5,_),(7,_),(10,_),(11,_),(12,_)]) (Lc:=[(_,_)]) (fun gh=>[]) (fun gh=>[(b7,.cells gh.2.1.toArray 68 (0,0))]++Lo) (fun gh=>gh.2.2) (fun gh=>qY acc rej l[k]=[gh.1]∧aW gh.2.2 gh.1.dat gh.2.1∧(∀ b o,IX b=some o→gh.2.2 b=some o)) sB ?_ ?_
  ·refine dQ 9 H ?_ ?_ <;> clear H
   ·intro p29
    refine ak 4 ?_;intro a H;refine s_call RA H wn rfl (ih _ _ H.ro (hf.mono fun b o h=>qG b o (hgm b o h)) l[k].flow _ (hfl.mono qG) (by omega)) rfl ?_;clear H;rintro v34 Md a w Dw HZ H;obtain ⟨CO,n34,c34,rfl⟩:=Dw.form;refine aD 1 H ?_;clear H;intro a H;refine aV pK 1 (vs:=[_]) _ H wn rfl rfl rfl rfl rfl rfl rfl rfl ?_;clear H;intro w H;dsimp only [List.set,setRow] at H;refine aC ?_;refine ⟨(.mk l[k].kind l[k].code l[k].id l[k].text (aY acc rej l[k].head) (fB acc rej l[k].flow) l[k].rows,[vi l[k].kind,vi l[k].code,vi l[k].id,.string l[k].text,.slice q1 q2 q3,vi (aY acc rej l[k].head).marks.ins,vi (aY acc rej l[k].head).marks.move,.slice q4 q5 q6,.slice q7 q8 q9,.slice CO n34 c34,.slice rA rn rc],Md),sB,?_⟩;(try dsimp only);exact ⟨by rw [hce,av p29,han],aW.mkItem (x:=.mk l[k].kind l[k].code l[k].id l[k].text (aY acc rej l[k].head) (fB acc rej l[k].flow) l[k].rows) (Tk.mono HZ) Dw (hrs.mono fun b o h=>HZ b o (qG b o h)),HZ⟩
   intro p29
   refine goB 4 ?_ ?_
   ·intro p36
    refine ak 4 ?_;intro a H;refine s_call ahb H wn rfl (aqe ih (by omega) _ _ H.ro (hf.mono fun b o h=>qG b o (hgm b o h)) l[k].rows _ (hrs.mono qG) (by omega)) rfl ?_;clear H;rintro v41 FY a w TB uN H;obtain ⟨A41,n41,c41,rfl⟩:=TB.form;have ZP:=TB.len;rw [bM] at ZP;subst ZP;refine aD 1 H ?_;clear H;intro a H;refine aV Ll 1 (vs:=[_]) _ H wn rfl rfl rfl rfl rfl rfl rfl rfl ?_;clear H;intro w H;dsimp only [List.set,setRow] at H;refine gQ 7 H ?_ ?_ <;> clear H
    ·intro p46
     have hone:qY acc rej l[k]=[]:=by rw [hce,ah p29,av p36,av (by omega)]
     refine ak 4 ?_;intro a H;refine aC ?_;refine cB ((k+1,v,xs,Lo,_)) (by exact (H.dY (Pl:=[_,_]) (dM:=[]) [] (by decide) rfl).sub ⟨rfl,rfl,rfl,rfl,rfl,aU⟩) ?_ ?_
     ·(try dsimp only);exact ⟨by omega,by rw [wC hk2,hone,gD];exact hrw,by rw [wC hk2,hone,gD];exact dV.mono fun b o h=>uN b o (qG b o h),fun b o h=>uN b o (qG b o (hgm b o h))⟩
     first|omega|(dsimp only;omega)
    intro p46
    intro a H;refine jB ?_;refine ⟨(.mk l[k].kind l[k].code l[k].id l[k].text (aY acc rej l[k].head) l[k].flow (jE acc rej l[k].rows),[vi l[k].kind,vi l[k].code,vi l[k].id,.string l[k].text,.slice q1 q2 q3,vi (aY acc rej l[k].head).marks.ins,vi (aY acc rej l[k].head).marks.move,.slice q4 q5 q6,.slice q7 q8 q9,.slice fA fn fc,.slice A41 (jE acc rej l[k].rows).length c41],FY),sB,?_⟩;(try dsimp only);exact ⟨by rw [hce,ah p29,av p36,ah (by omega),han],aW.mkItem (x:=.mk l[k].kind l[k].code l[k].id l[k].text (aY acc rej l[k].head) l[k].flow (jE acc rej l[k].rows)) (Tk.mono uN) (hfl.mono fun b o h=>uN b o (qG b o h)) TB,uN⟩
   intro p36
   intro a H;refine jB ?_;refine ⟨(.mk l[k].kind l[k].code l[k].id l[k].text (aY acc rej l[k].head) l[k].flow l[k].rows,[vi l[k].kind,vi l[k].code,vi l[k].id,.string l[k].text,.slice q1 q2 q3,vi (aY acc rej l[k].head).marks.ins,vi (aY acc rej l[k].head).marks.move,.slice q4 q5 q6,.slice q7 q8 q9,.slice fA fn fc,.slice rA rn rc],_),sB,?_⟩;(try dsimp only);exact ⟨by rw [hce,ah p29,ah p36,han],aW.mkItem (x:=.mk l[k].kind l[k].code l[k].id l[k].text (aY acc rej l[k].head) l[k].flow l[k].rows) Tk (hfl.mono qG) (hrs.mono qG),fun _ _ h=>h⟩
  clear H;rintro ⟨y,C9,g9⟩ a w hI H;dsimp only at hI H;obtain ⟨hone,wV,qR⟩:=hI;obtain ⟨e1,e2,e3,e4,e5,e6,e7,e8,e9,f1,f2,f3,f4,f5,f6,vU,-,-,-⟩:=wV.item;rw [vU] at H;dsimp only [lca,bG] at H;refine fO 2 H ?_;clear H;intro a H;refine aS gB (cs:=[_,_,_,_,_,_,_,_,_,_,_]) H wn rfl rfl (H.hp.bN 1 rfl rfl) rfl ?_;clear H;intro a H;refine gJ nU gB [_,_,_,_,_,_,_,_,_,_,_] [_,_,_,_,_,_,_,_,_,_,_] H wn rfl rfl rfl rfl rfl (by intro i q h;match i,h with|0,h=>exact h|n+1,h=>simp at h) rfl rfl ?_;clear H;intro b49 a w atD H;refine lJ (Li:=[_,_,_]) (Lo:=Lo) (news:=C9) nU gB rfl rfl H wn rfl rfl hrw (by rw [vU];rfl) (by rw [vU];exact H.hp.bN 0 rfl rfl) wV.one (by omega) (by omega) rfl ?_;clear H;intro v50 adL a w amM H;refine aD 5 H ?_;clear H;intro a H;refine aC ?_;refine cB ((k+1,v50,xs++C9,adL,_)) (by exact (H.dY (Pl:=[_,_,_]) (dM:=[]) [] (by decide) rfl).sub ⟨rfl,rfl,rfl,rfl,rfl,aU⟩) ?_ ?_
  ·(try dsimp only);exact ⟨by omega,by rw [wC hk2,hone,iC];exact amM,by rw [wC hk2,hone,kQ];exact (dV.mono fun b o h=>qR b o (qG b o h)).snoc wV (by rw [vU];rfl),fun b o h=>qR b o (qG b o (hgm b o h))⟩
  first|omega|(dsimp only;omega)
 intro oJ
 obtain rfl:k=l.length:=by omega
 rw [vE] at hrw dV;refine ak 5 ?_;intro a H;refine bZ ?_;obtain ⟨G',hm,rV,H⟩:=H.mR (Li:=[]) hrw (rows:=(fB acc rej l).map ay.dat) (by simp) dV;refine lv H results98 rfl ?_;exact H.rt rV
theorem abP {fv:aj}:∀ n:Nat,n≤536870913→Mt fv acc rej n
 | 0,_=>fun _ _ _ _ _ _ _ h=>absurd h (by omega)
 | n+1,hn=>aqc (abP n (by omega)) (by omega)
end
section
open Go.RowKit
end
section
open Go.RowKit
section
variable {N:Nat} {D:List Deferred} {w0:World} {F:Nat→Prop} {G0 G:GH} {L:OL} {T:List (Nat × aj)}
variable {r:Option Nat} {P:Program} {ops:Array Oper} {Q:Exit→Act→World→Prop} {rest:List Oper} {a:Act} {w:World}
variable {d:Nat} {ty:TypeId} {pos:String} {aO:Array Edge} {g:Option (Nat × Bool)}
end
end
section
open Go.RowKit
def aaI:Go.Shelf.Ren:=⟨fun|7=>90|10=>150|n=>n,fun|0=>0|3=>4|4=>4|23=>131|26=>3|27=>165|28=>166|33=>137|n=>n,fun n=>n⟩
theorem aaH:Go.Proofs.SlLaysZI.n7 prog aaI where
 mixed:=by kernel_rfl
 f7:=⟨f90.name,by kernel_rfl,func90.trans (aB some (by kernel_rfl))⟩
 f10:=⟨f150.name,by kernel_rfl,func150.trans (aB some (by kernel_rfl))⟩
 t0:=underlying0
 a0:=isAgg0
 z0:=sizeOf0
 v0:=zeroValue0
 t4:=underlying4
 a4:=isAgg4
 z4:=sizeOf4
 v4:=zeroValue4
 t23:=underlying131
 a23:=isAgg131
 z23:=sizeOf131
 v23:=zeroValue131
 t26:=underlying3
 a26:=isAgg3
 z26:=sizeOf3
 v26:=zeroValue3
 t27:=underlying165
 a27:=isAgg165
 z27:=sizeOf165
 v27:=zeroValue165
 t28:=underlying166
 a28:=isAgg166
 z28:=sizeOf166
 v28:=zeroValue166
 t33:=underlying137
 a33:=isAgg137
 z33:=sizeOf137
 v33:=zeroValue137
def acu:Go.Shelf.Ren:=⟨fun|6=>89|8=>149|9=>148|11=>209|n=>n,fun|0=>0|24=>41|26=>3|28=>166|33=>137|n=>n,fun n=>n⟩
theorem arJ:Go.Proofs.SlLaysZI.n6 prog acu where
 mixed:=by kernel_rfl
 f6:=⟨f89.name,by kernel_rfl,func89.trans (aB some (by kernel_rfl))⟩
 f8:=⟨f149.name,by kernel_rfl,func149.trans (aB some (by kernel_rfl))⟩
 f11:=⟨f209.name,by kernel_rfl,func209.trans (aB some (by kernel_rfl))⟩
 t0:=underlying0
 a0:=isAgg0
 z0:=sizeOf0
 v0:=zeroValue0
 t24:=underlying41
 a24:=isAgg41
 z24:=sizeOf41
 v24:=zeroValue41
 t26:=underlying3
 a26:=isAgg3
 z26:=sizeOf3
 v26:=zeroValue3
 t28:=underlying166
 a28:=isAgg166
 z28:=sizeOf166
 v28:=zeroValue166
 i26:=by kernel_rfl
def arI:Go.Shelf.Ren:=⟨fun|5=>148|7=>207|8=>208|10=>230|11=>231|12=>232|13=>233|14=>234|15=>235|16=>114|17=>236|18=>237|19=>238|20=>239|30=>255|31=>256|32=>257|33=>258|34=>259|35=>174|40=>269|n=>n,fun|0=>0|3=>3|4=>4|5=>5|9=>9|22=>41|23=>41|25=>3|32=>199|35=>301|36=>302|41=>114|44=>308|46=>310|53=>328|57=>180|63=>344|64=>345|n=>n,fun n=>n⟩
theorem acs:Go.Proofs.SlLaysM.n5 prog arI where
 mixed:=by kernel_rfl
 f5:=⟨f148.name,by kernel_rfl,func148.trans (aB some (by kernel_rfl))⟩
 f7:=⟨f207.name,by kernel_rfl,func207.trans (aB some (by kernel_rfl))⟩
 f8:=func208.trans (aB some (by kernel_rfl))
 f10:=⟨f230.name,by kernel_rfl,func230.trans (aB some (by kernel_rfl))⟩
 f11:=⟨f231.name,by kernel_rfl,func231.trans (aB some (by kernel_rfl))⟩
 f12:=⟨f232.name,by kernel_rfl,func232.trans (aB some (by kernel_rfl))⟩
 f13:=⟨f233.name,by kernel_rfl,func233.trans (aB some (by kernel_rfl))⟩
 f14:=⟨f234.name,by kernel_rfl,func234.trans (aB some (by kernel_rfl))⟩
 f15:=⟨f235.name,by kernel_rfl,func235.trans (aB some (by kernel_rfl))⟩
 f16:=⟨f114.name,by kernel_rfl,func114.trans (aB some (by kernel_rfl))⟩
 f17:=⟨f236.name,by kernel_rfl,func236.trans (aB some (by kernel_rfl))⟩
 f18:=⟨f237.name,by kernel_rfl,func237.trans (aB some (by kernel_rfl))⟩
 f19:=func238.trans (aB some (by kernel_rfl))
 f20:=func239.trans (aB some (by kernel_rfl))
 f30:=⟨f255.name,by kernel_rfl,func255.trans (aB some (by kernel_rfl))⟩
 f31:=func256.trans (aB some (by kernel_rfl))
 f32:=func257.trans (aB some (by kernel_rfl))
 f33:=⟨f258.name,by kernel_rfl,func258.trans (aB some (by kernel_rfl))⟩
 f34:=⟨f259.name,by kernel_rfl,func259.trans (aB some (by kernel_rfl))⟩
 f35:=⟨f174.name,by kernel_rfl,func174.trans (aB some (by kernel_rfl))⟩
 f40:=⟨f269.name,by kernel_rfl,func269.trans (aB some (by kernel_rfl))⟩
 t0:=underlying0
 a0:=isAgg0
 z0:=sizeOf0
 v0:=zeroValue0
 t3:=underlying3
 a3:=isAgg3
 z3:=sizeOf3
 v3:=zeroValue3
 t4:=underlying4
 a4:=isAgg4
 z4:=sizeOf4
 v4:=zeroValue4
 t5:=underlying5
 a5:=isAgg5
 z5:=sizeOf5
 v5:=zeroValue5
 t9:=underlying9
 a9:=isAgg9
 z9:=sizeOf9
 v9:=zeroValue9
 t22:=underlying41
 a22:=isAgg41
 z22:=sizeOf41
 v22:=zeroValue41
 t23:=underlying41
 a23:=isAgg41
 z23:=sizeOf41
 v23:=zeroValue41
 t25:=underlying3
 a25:=isAgg3
 z25:=sizeOf3
 v25:=zeroValue3
 t32:=underlying199
 a32:=isAgg199
 z32:=sizeOf199
 v32:=zeroValue199
 t35:=underlying301
 a35:=isAgg301
 z35:=sizeOf301
 v35:=zeroValue301
 t36:=underlying302
 a36:=isAgg302
 z36:=sizeOf302
 v36:=zeroValue302
 t41:=underlying114
 a41:=isAgg114
 z41:=sizeOf114
 v41:=zeroValue114
 t44:=underlying308
 a44:=isAgg308
 z44:=sizeOf308
 v44:=zeroValue308
 t46:=underlying310
 a46:=isAgg310
 z46:=sizeOf310
 v46:=zeroValue310
 t53:=underlying328
 a53:=isAgg328
 z53:=sizeOf328
 v53:=zeroValue328
 t57:=underlying180
 a57:=isAgg180
 z57:=sizeOf180
 v57:=zeroValue180
 t63:=underlying344
 a63:=isAgg344
 z63:=sizeOf344
 v63:=zeroValue344
 t64:=underlying345
 a64:=isAgg345
 z64:=sizeOf345
 v64:=zeroValue345
end
section
open Go.RowKit Go.Maps
theorem agO:∀ args w,(callFunc 148 args).run prog w=.ok (.enter 148 args) w:=enters func148 rfl (by kernel_rfl)
theorem agQ:∀ args w,(callFunc 150 args).run prog w=.ok (.enter 150 args) w:=enters func150 rfl (by kernel_rfl)
theorem amB {G:GH} {w:World} (h:Hold G w) {b:Nat} (hb:w.heap.size≤b):G b=none:=by
 cases hg:G b with
 | none=>rfl
 | some o=>exact absurd (lt_of_heap (h b o hg)) (by omega)
theorem Yt {G:GH} {w w':World} (h:Hold G w) (hb:Below w.heap.size w w') {b:Nat} {o:Obj} (hn:w.heap.size≤b) (ho:w'.heap[b]?=some o):Ext w.heap.size G (G.add b o) w':=by
 refine ⟨fun k o' hk=>GH.Gg G (amB h hn) k o' hk,fun k o' hk=>?_,fun k o' hk=>?_⟩
 ·unfold GH.add at hk
  split at hk
  ·rename_i e;exact .inr (e ▸ hn)
  exact .inl hk
 unfold GH.add at hk
 split at hk
 ·rename_i e;rw [e,ho,hk]
 exact (hb.block k (lt_of_heap (h k o' hk))).trans (h k o' hk)
theorem aok (G:GH) (w0:World) (hG:Hold G w0) (mb:Option Nat) :
  Calls prog 90 #[.map mb] w0 (bB w0 G fun u G'=>∃ bx,u=.func (.func 150) #[] #[(aG bx 0)]∧G' bx=some (.cells #[.map mb] 131 (0,0))):=by
 have h:CallsIn Fence.wide 5 prog 90 #[.map mb] w0 fun e w'=>e=.returned (.func (.func 150) #[] #[(aG w0.heap.size 0)])∧w'=w0.alloc (.cells #[.map mb] 131):=AnyZI.keys_in aaH Fence.wide 5 trivial rfl mb w0;refine ((callsIn_wide (n:=5)).1 h).mono ?_;rintro e w' ⟨rfl,rfl⟩;have hb:Below w0.heap.size w0 (w0.alloc (.cells #[.map mb] 131)):=(Below.refl _ w0).alloc (bP _) _;exact ⟨_,_,rfl,hb,Yt hG hb (bP _) (show (w0.heap.push _)[w0.heap.size]?=_ by simp),_,rfl,GH.Gj _ _ _⟩
def Fu (_:aj):Option (DataW Unit × List MemPlace):=some (.nil,[])
theorem aoU {w:World} {b clock:Nat} {es:Array MapEntry} {l:List Int} (hb:w.heap[b]?=some (.map es clock)) (hs:MapKept.Stamped es clock) (hk:es.toList.map (·.key)=l.map (Value.int .i64)) (hw:∀ k∈l,-9223372036854775808≤k∧k < 9223372036854775808) (hl:l.length≤4294967296) :
  ∃ D:DataW Unit,w.ownsMap prog 3 Fu b l.length D∧(intKeys D).Perm l∧Maps.size D=l.length:=by
 have hlen:es.size=l.length:=by
  have:=aB List.length hk
  simpa using this
 have hml:maxLen=9223372036854775807:=rfl
 have hr:∀ x∈es.toList,∃ k∈l,Go.WideElems.rd prog 3 Fu x=some (.int .i64 k,.nil):=by
  intro x hx
  have h1:x.key∈l.map (Value.int .i64):=by rw [← hk];exact List.mem_map_of_mem hx
  obtain ⟨k,h2,h3⟩:=List.mem_map.1 h1;obtain ⟨h4,h5⟩:=hw k h2
  have hwf:(Lit.int .i64 k).wf=true:=by
   show (decide (IntKind.i64.min≤k) && decide (k≤IntKind.i64.max))=true
   rw [show IntKind.i64.min=-9223372036854775808 by decide,show IntKind.i64.max=9223372036854775807 by decide]
   simp;omega
  refine ⟨k,h2,?_⟩
  unfold Go.WideElems.rd
  rw [← h3]
  have h6:keyOf prog 3 (.int .i64 k)=some (.int .i64 k):=by
   unfold keyOf mapKey
   rw [underlying3]
   simp [hwf]
  rw [h6]
  rfl
 refine ⟨_,⟨es,clock,hb,⟨by omega,hs,fun x hx=>?_⟩,by omega,rfl⟩,?_,?_⟩
 ·obtain ⟨k,-,h⟩:=hr x hx;exact ⟨_,h⟩
 ·show (((es.toList.map (Go.WideElems.rg prog 3 Fu)).foldr DataW.insert []).map fun p=>Go.intOf p.1).Perm l
  refine ((Go.WideShapes.sorted_perm _).map _).trans ?_;rw [List.map_map]
  have h1:es.toList.map ((fun p:Lit × DataW Unit=>Go.intOf p.1) ∘ Go.WideElems.rg prog 3 Fu)=l:=by
   have h2:es.toList.map ((fun p:Lit × DataW Unit=>Go.intOf p.1) ∘ Go.WideElems.rg prog 3 Fu)=(es.toList.map (·.key)).map fun v=>match v with|.int _ a=>a|_=>0:=by
    rw [List.map_map];refine List.map_congr_left fun x hx=>?_;obtain ⟨k,hkl,h⟩:=hr x hx
    obtain ⟨k',h3,h4⟩:∃ k',Go.WideElems.rd prog 3 Fu x=some (.int .i64 k',.nil)∧x.key=.int .i64 k':=by
     have h5:x.key∈l.map (Value.int .i64):=by rw [← hk];exact List.mem_map_of_mem hx
     obtain ⟨k',h6,h7⟩:=List.mem_map.1 h5;refine ⟨k,h,?_⟩;have h8:=Go.WideElems.rd_key h;obtain ⟨z,h9,h10,-⟩:=Maps.keyOf_i64 underlying3 h8
     cases h10
     exact h9
    simp only [Function.comp,Go.WideElems.rg_of h3,h4,Go.intOf]
   rw [h2,hk,List.map_map]
   simp [Function.comp_def]
  rw [h1]
 show ((es.toList.map (Go.WideElems.rg prog 3 Fu)).foldr DataW.insert []).length=_
 rw [(Go.WideShapes.sorted_perm _).length_eq,bM,sP,hlen]
theorem arL (m:Nat):AnyZI.SortsIn prog acu Fence.wide m :=
  ⟨fun blk off cap ss W hH hblk hsz=>callsIn_wide.2 (AnyM.slices_Sort_int acs blk off cap ss W hH hblk hsz),
   fun p cap W=>callsIn_wide.2 (AnyM.slices_Sort_int_none acs p cap W)⟩
def Cv (l:List Int):List Int:=l.mergeSort leI
theorem arK (G:GH) (w0:World) (hG:Hold G w0) (b bx clock:Nat) (es:Array MapEntry) (l:List Int) (hbx:G bx=some (.cells #[.map (some b)] 131 (0,0))) (hb:w0.heap[b]?=some (.map es clock)) (hs:MapKept.Stamped es clock) (hk:es.toList.map (·.key)=l.map (Value.int .i64))
  (hw:∀ k∈l,-9223372036854775808≤k∧k < 9223372036854775808) (hl:l.length≤4294967296) :
  Calls prog 89 #[.func (.func 150) #[] #[(aG bx 0)]] w0 (bB w0 G fun u G'=>au G' (.sl 1 ((Cv l).map fun k=>[li k])) u):=by
 obtain ⟨D0,hown,hperm,hsize⟩:=aoU hb hs hk hw hl;have hml:maxLen=9223372036854775807:=rfl
 have hseq:SeqGives Fence.wide 2 prog 150 #[(aG bx 0)] encZ (fun ss=>ss.Perm (intKeys D0)) (Maps.size D0) w0 :=
  AnyZI.keys_gives (ρ:=aaI) { aaH with } Fence.wide _ trivial rfl (by omega) bx b l.length D0 _ (lt_of_heap (hG _ _ hbx)) (by simp [World.cell?,hG _ _ hbx]) hown
 have cS:=AnyZI.sorted_in arJ Fence.wide 5 trivial trivial trivial trivial rfl (by omega) (arL _) agO 150 #[(aG bx 0)] trivial agQ _ _ (by omega) (by omega) _ hseq
 change CallsIn _ _ prog 89 _ _ _ at cS
 refine ((callsIn_wide (n:=5)).1 cS).mono ?_;rintro e w' ⟨v,ss,rfl,hS,hrow,-,hbel⟩;have hS2:ss.mergeSort (fun x y=>decide (x≤y))=Cv l:=mergeSort_of_perm_i (hS.trans hperm);rw [hS2] at hrow
 have hlen:ss.length=(Cv l).length:=by rw [Cv,List.length_mergeSort,hS.length_eq,hperm.length_eq]
 have dV:∀ (G1:GH) (xs:List Int),bU G1 1 (xs.map fun k=>[li k]) (xs.map encZ):=by
  intro G1 xs
  induction xs with
  | nil=>exact bU.nil
  | cons x xs ih =>
   have h8:=((bU.nil (G:=G1) (sz:=1)).snoc (q:=[li x]) (cs:=[encZ x]) (by simp [aW,au,li,Value.oneCell']) rfl).append ih
   simpa using h8
 rcases hrow.2 with ⟨rfl,hz⟩|⟨gb,cap,cur,rfl,hbase,hgb,r1,r2,r3,r4⟩
 ·refine ⟨_,G,rfl,hbel,⟨fun _ _ h=>h,fun _ _ h=>.inl h,fun k o hk=>(hbel.block k (lt_of_heap (hG k o hk))).trans (hG k o hk)⟩,?_⟩;rw [List.eq_nil_of_length_eq_zero (by omega:(Cv l).length=0)]
  simp only [au]
  exact ⟨none,0,by simp,by simp,by simp [maxLen],fun h=>absurd rfl h⟩
 exact ⟨_,_,rfl,hbel,Yt hG hbel hbase hgb,au.eX (GH.Gj G gb _) (by simp [hlen]) r1 r2 (by simpa using r4) (dV _ _)⟩
end
section
open Go.RowKit
abbrev jk (l:List Int):List (Int × aj):=l.map fun q=>(q,.bool true)
theorem acn (l:List Int):(jk l).map (·.1)=l:=by rw [List.map_map];simp [Function.comp_def]
theorem arb (l r:List Int):jk (l++r)=jk l++jk r:=kQ
theorem Uy:∀ (i:Nat) (l:List (Int × aj)),(iI i l).map (·.key)=l.map fun x=>Value.int .i64 x.1
 | _,[]=>rfl
 | i,(k,v) :: r=>by rw [iI,fq,fq,Uy (i+1) r]
theorem Ux:∀ (i:Nat) (l:List (Int × aj)),(iI i l).map (·.born)=List.range' i l.length
 | _,[]=>rfl
 | i,(k,v) :: r=>by rw [iI,fq,Ux (i+1) r];rfl
theorem aaR:∀ (i n:Nat) (l:List (Int × aj)),(iI i l)[n]?=(l[n]?).map fun x=>⟨.int .i64 x.1,x.2,i+n⟩
 | _,_,[]=>rfl
 | i,0,(k,v) :: r=>rfl
 | i,n+1,(k,v) :: r=>by rw [iI,List.getElem?_cons_succ,List.getElem?_cons_succ,aaR (i+1) n r,show i+1+n=i+(n+1) by omega]
theorem aoj {l:List (Int × aj)} (h:(l.map (·.1)).Nodup):MapKept.Stamped (iI 0 l).toArray l.length:=by
 refine ⟨fun x hx=>?_,?_,?_⟩
 ·have h1:=List.mem_map_of_mem (f:=(·.born)) hx
  rw [Ux] at h1
  have:=List.mem_range'_1.1 h1
  omega
 ·show ((iI 0 l).map (·.born)).Nodup
  rw [Ux];exact List.nodup_range'
 ·show ((iI 0 l).map (·.key)).Nodup
  rw [Uy,show (fun x:Int × aj=>Value.int .i64 x.1)=Value.int .i64 ∘ (·.1) from rfl,← List.map_map]
  exact List.pairwise_map.2 (h.imp fun hne e=>hne (by injection e))
theorem RS (x:Int):∀ (i j:Nat) (l:List Int),∃ an,Instr.findNow (.int .i64) (.int .i64 x) (iI i (jk l)) j=some an∧((x∈l∧∃ n,an=some (j+n,.bool true)∧l[n]?=some x)∨(x∉l∧an=none))
 | _,_,[]=>⟨none,rfl,.inr ⟨by simp,rfl⟩⟩
 | i,j,k :: r=>by
  by_cases e:k=x
  ·subst e
   exact ⟨some (j,.bool true),by simp only [jk,fq,iI,Instr.findNow,Instr.sameNow,av,beq_self_eq_true],.inl ⟨fM,0,rfl,rfl⟩⟩
  ·have hb:(x == k)=false:=by simp;exact fun h=>e h.symm
   obtain ⟨an,h1,h2⟩:=RS x (i+1) (j+1) r
   refine ⟨an,by simpa only [jk,fq,iI,Instr.findNow,Instr.sameNow,av,hb] using h1,?_⟩
   rcases h2 with ⟨h3,n,h4,h5⟩|⟨h3,h4⟩
   ·exact .inl ⟨gH _ h3,n+1,by rw [h4,show j+1+n=j+(n+1) by omega],h5⟩
   ·exact .inr ⟨fun h=>(ko.1 h).elim (fun h=>e h.symm) h3,h4⟩
theorem Uz {α β:Type} (f:α→β):∀ (l:List α) (j:Nat),(l.eraseIdx j).map f=(l.map f).eraseIdx j
 | [],_=>rfl
 | x :: l,0=>rfl
 | x :: l,j+1=>by rw [List.eraseIdx_cons_succ,fq,fq,List.eraseIdx_cons_succ,Uz f l j]
def wF (l:List Int) (x:Int):List Int:=if x∈l then l else l++[x]
theorem adZ {l:List Int} {x y:Int}:y∈wF l x↔y∈l∨y=x:=by
 unfold wF
 split
 ·rename_i h
  exact ⟨.inl,fun h2=>h2.elim id fun e=>e ▸ h⟩
 ·simp
theorem aea {l:List Int} {x:Int} (h:l.Nodup):(wF l x).Nodup:=by
 unfold wF
 split
 ·exact h
 ·rename_i hx
  exact List.nodup_append.2 ⟨h,List.pairwise_singleton _ _,fun a ha b hb e=>hx (by rw [sS] at hb;rw [← hb,← e];exact ha)⟩
section
variable {N:Nat} {D:List Deferred} {w0:World} {F:Nat→Prop} {G0 G:GH} {L:OL} {T:List (Nat × aj)}
variable {r:Option Nat} {P:Program} {ops:Array Oper} {Q:Exit→Act→World→Prop} {rest:List Oper} {a:Act} {w:World}
variable {d:Nat} {ty:TypeId} {pos:String} {aO:Array Edge} {g:Option (Nat × Bool)}
theorem Vi {t kt et:TypeId} {x y z:Operand} {b i:Nat} {l:List Int} {ky:Int} (hm:P.underlying t=some (.map kt et)) (hk:P.underlying kt=some (.int .i64)) (H:St N D w0 F G0 G L T a w)
  (hw:Region.wanted ⟨none,.mapUpdate t x y z,ty,pos,aO,g⟩ (yielded ops a.tmps)=true) (hx:ev T x=some (.map (some b))) (hy:ev T y=some (.int .i64 ky)) (hzv:ev T z=some (.bool true)) (hi:L[i]?=some (b,eU (jk l)))
  (k:∀ w',St N D w0 F G0 G (L.set i (b,eU (jk (wF l ky)))) T a w'→WL r P ops Q rest a w'):WL r P ops Q (⟨none,.mapUpdate t x y z,ty,pos,aO,g⟩ :: rest) a w:=by
 obtain ⟨an,hf,han⟩:=RS ky 0 0 l
 rcases han with ⟨hm2,n,rfl,hn⟩|⟨hm2,rfl⟩
 ·have hkey:MapKept.IsKey (.int .i64) (.int .i64 ky):=by trivial
  have hb:w.heap[b]?=some (.map (iI 0 (jk l)).toArray (jk l).length):=H.hp.own _ (kr hi)
  have h1:=MapKept.run_checkKey (P:=P) (w:=w) hk hkey false 9999
  have h2:=MapKept.run_findKey (P:=P) (w:=w) (l:=(iI 0 (jk l)).toArray.toList) hk (by simpa using hf)
  have h3:=MapKept.run_keyThatStays (P:=P) (w:=w) hkey
  have hgn:(iI 0 (jk l))[n]?=some ⟨.int .i64 ky,.bool true,0+n⟩:=by
   rw [aaR];unfold jk;rw [qM,hn];rfl
  have hg:((iI 0 (jk l)).toArray[n]?.map (·.key)).getD (.int .i64 ky)=.int .i64 ky:=by
   rw [List.getElem?_toArray,hgn];rfl
  have hmod:(iI 0 (jk l)).toArray.modify n (fun e=>{ e with key:=.int .i64 ky,val:=.bool true })=(iI 0 (jk l)).toArray:=by
   apply Array.ext_getElem?
   intro j
   rw [Array.getElem?_modify]
   by_cases hij:n=j
   ·subst hij
    rw [av rfl,List.getElem?_toArray,hgn];rfl
   ·rw [ah hij]
  have ha:wF l ky=l:=by unfold wF;rw [av hm2]
  rw [ha] at k
  refine VL (w':={ w with heap:=w.heap.setIfInBounds b (eU (jk l)) }) hw rfl ?_ (k _ (H.move (H.hp.upd hi (VG hb))))
  show (execOp a.eval _).run P w=.ok _ { w with heap:=w.heap.setIfInBounds b (.map (iI 0 (jk l)).toArray (jk l).length) }
  generalize (iI 0 (jk l)).toArray=es at hb h2 hg hmod ⊢
  simp [execOp,Instr.mapUpdate,H.ev hx,H.ev hy,H.ev hzv,dU,lZ hm,MapKept.run_getObj_map hb,h1,h2,hg,h3,hmod,MapKept.run_setObj_map _ hb,Result.andThen]
 ·refine KX hm hk H hw hx hy hzv hi (KI (by rw [acn];exact hm2)) fun w' H'=>k w' ?_
  have ha:wF l ky=l++[ky]:=by unfold wF;rw [ah hm2]
  rw [ha,arb]
  exact H'
theorem aqy {t kt et:TypeId} {x y:Operand} {b i:Nat} {l:List Int} {ky:Int} (hm:P.underlying t=some (.map kt et)) (hk:P.underlying kt=some (.int .i64)) (hnd:l.Nodup) (H:St N D w0 F G0 G L T a w)
  (hw:Region.wanted ⟨none,.call { callee:=.builtin .delete,args:=#[x,y],argTypes:=#[t,kt] },ty,pos,aO,g⟩ (yielded ops a.tmps)=true) (hx:ev T x=some (.map (some b))) (hy:ev T y=some (.int .i64 ky)) (hi:L[i]?=some (b,eU (jk l)))
  (k:∀ es clock w',MapKept.Stamped es clock→es.toList.map (·.key)=(l.filter fun q=>decide (q≠ky)).map (Value.int .i64)→St N D w0 F G0 G (L.set i (b,.map es clock)) T a w'→WL r P ops Q rest a w'):WL r P ops Q (⟨none,.call { callee:=.builtin .delete,args:=#[x,y],argTypes:=#[t,kt] },ty,pos,aO,g⟩ :: rest) a w:=by
 obtain ⟨an,hf,han⟩:=RS ky 0 0 l
 have hkey:MapKept.IsKey (.int .i64) (.int .i64 ky):=by trivial
 have hb:w.heap[b]?=some (.map (iI 0 (jk l)).toArray (jk l).length):=H.hp.own _ (kr hi)
 have hst:=aoj (l:=jk l) (by rw [acn];exact hnd)
 have hks:(iI 0 (jk l)).toArray.toList.map (·.key)=l.map (Value.int .i64):=by
  show (iI 0 (jk l)).map (·.key)=_
  rw [Uy,List.map_map];rfl
 have h2:=fun es':Array MapEntry=>VG (o:=.map es' (jk l).length) hb
 have h3:=MapKept.run_findKey (P:=P) (w:=w) (l:=(iI 0 (jk l)).toArray.toList) hk (by simpa using hf)
 rcases han with ⟨hm2,n,rfl,hn⟩|⟨hm2,rfl⟩
 ·have hnl:n < l.length:=(jA.1 hn).1
  have hln:l[n]=ky:=(jA.1 hn).2
  have hsz:n < (iI 0 (jk l)).toArray.size:=by
   have:=aB List.length hks
   simp at this
   simp;omega
  have alX:((iI 0 (jk l)).toArray.eraseIdxIfInBounds n).toList=(iI 0 (jk l)).toArray.toList.eraseIdx n:=by
   unfold Array.eraseIdxIfInBounds
   rw [dif_pos hsz]
   simp
  refine eZ (v:=.tuple #[]) (w':={ w with heap:=w.heap.setIfInBounds b (.map ((iI 0 (jk l)).toArray.eraseIdxIfInBounds n) (jk l).length) }) hw rfl ?_
   (k _ _ _ (MapKept.stamped_erase hst n) ?_ (H.move (H.hp.upd hi (h2 _))))
  ·generalize (iI 0 (jk l)).toArray=es at hb h3 ⊢
   have h1:=MapKept.run_checkKey (P:=P) (w:=w) hk hkey es.isEmpty 9999
   simp [execOp,resolve,invoke,builtin,Builtin.delete_,H.ev hx,H.ev hy,dU,lZ hm,MapKept.run_getObj_map hb,h1,h3,MapKept.run_setObj_map _ hb,Result.andThen]
  ·rw [alX,Uz,hks,← Uz]
   congr 1
   have he:l.erase ky=l.eraseIdx n:=by
    have:=hnd.idxOf_getElem n hnl
    rw [hln] at this
    rw [← this];exact List.erase_eq_eraseIdx_of_idxOf rfl
   rw [← he,hnd.erase_eq_filter]
   exact List.filter_congr fun x _=>by by_cases h:x=ky <;> simp [h]
 ·refine eZ (v:=.tuple #[]) (w':={ w with heap:=w.heap.setIfInBounds b (.map (iI 0 (jk l)).toArray (jk l).length) }) hw rfl ?_ (k _ _ _ hst ?_ (H.move (H.hp.upd hi (h2 _))))
  ·generalize (iI 0 (jk l)).toArray=es at hb h3 ⊢
   have h1:=MapKept.run_checkKey (P:=P) (w:=w) hk hkey es.isEmpty 9999
   simp [execOp,resolve,invoke,builtin,Builtin.delete_,H.ev hx,H.ev hy,dU,lZ hm,MapKept.run_getObj_map hb,h1,h3,MapKept.run_setObj_map _ hb,Result.andThen]
  ·rw [hks,List.filter_eq_self.2 fun x hx=>iT (show ¬ x=ky from fun e=>hm2 (e ▸ hx))]
end
end
section
open Go.RowKit
theorem aiP:∀ args w,(callFunc 90 args).run prog w=.ok (.enter 90 args) w:=enters func90 rfl (by kernel_rfl)
theorem aiO:∀ args w,(callFunc 89 args).run prog w=.ok (.enter 89 args) w:=enters func89 rfl (by kernel_rfl)
end
section
open Go.RowKit
theorem Yn:∀ args w,(callFunc 87 args).run prog w=.ok (.enter 87 args) w:=enters func87 rfl (by kernel_rfl)
theorem aiu:∀ args w,(callFunc 38 args).run prog w=.ok (.enter 38 args) w:=enters func38 rfl (by kernel_rfl)
def refs (h:dW):List Int:=h.marks.ins :: (h.marks.bL.map fE.rev++h.marks.layers.map cK.rev)
def qL (K l:List Int):List Int:=l.foldl wF K
theorem Mw (K l r:List Int):qL K (l++r)=qL (qL K l) r:=List.foldl_append
theorem WK {l:List Int}:∀ {K:List Int} {y:Int},y∈qL K l↔y∈K∨y∈l:=by
 induction l with
 | nil=>intro K y;simp [qL]
 | cons x l ih =>
  intro K y
  show y∈qL (wF K x) l↔_
  rw [ih,adZ,ko,or_assoc]
theorem WM {l:List Int}:∀ {K:List Int},K.Nodup→(qL K l).Nodup:=by
 induction l with
 | nil=>intro K h;exact h
 | cons x l ih=>intro K h;exact ih (aea h)
theorem aeb {K:List Int} {x:Int} {α:Type} {f:α→Int} {A:List α} {k:Nat} (hk:k < A.length):wF (qL K (x :: (A.take k).map f)) (f A[k])=qL K (x :: (A.take (k+1)).map f):=by
 rw [fQ hk,kQ,← nu,Mw];rfl
theorem aec {K B:List Int} {x:Int} {α:Type} {f:α→Int} {A:List α} {k:Nat} (hk:k < A.length):wF (qL K (x :: (B++(A.take k).map f))) (f A[k])=qL K (x :: (B++(A.take (k+1)).map f)):=by
 rw [fQ hk,kQ,show x :: (B++((A.take k).map f++[A[k]].map f))=(x :: (B++(A.take k).map f))++[f A[k]] from by simp,Mw];rfl
abbrev A9 (b3 bm:Nat) (K:List Int):OL:=[(b3,.cells #[.map (some bm)] 131 (0,0)),(bm,eU (jk K))]
theorem abl (G:GH) (w0:World) (b3 bm:Nat) (K:List Int) (h:dW) (p d y:Option Addr × Nat × Nat) (hR:fC G h (aM p) (aM d) (aM y)) (hO:fU G (A9 b3 bm K) w0) :
  Calls prog 87 #[.agg #[aM p,vi h.marks.ins,vi h.marks.move,aM d,aM y],(aG b3 0)] w0 (fJ w0 G (A9 b3 bm K) fun _ G' L'=>L'=A9 b3 bm (qL K (refs h))):=by
 obtain ⟨dA,dn,dc⟩:=d;obtain ⟨yA,yn,yc⟩:=y;have hml:maxLen=9223372036854775807:=rfl;have hd:=hR.bL;have hy:=hR.layers;dsimp only [aM] at hd hy;have e1:=hd.len;have e2:=hy.len;rw [bM] at e1 e2;subst e1 e2;obtain ⟨_,_,hu1,hd1,hd2,-⟩:=hd.slice;obtain ⟨_,_,hu2,hy1,hy2,-⟩:=hy.slice
 injection hu1 with q1 q2 q3
 subst q1 q3
 injection hu2 with q1 q2 q3
 subst q1 q3;rw [bM] at hd1 hy1;refine jg (N:=35) (T:=[(0,_),(1,_)]) func87 rfl ntmps87 rfl rfl hO ?_;refine ak 1 ?_;intro a H;refine dP (cs:=[_,_,_,_,_]) H wn rfl rfl rfl ?_;clear H;intro b2 a w hb2 H;refine aD 6 H ?_;clear H;intro a H;refine Vi (i:=2) vg kI H wn rfl rfl rfl rfl ?_;clear H;intro w H;dsimp only [List.set] at H;refine aD 10 H ?_;clear H;intro a H;refine eH (ι:=Nat) (Tc:=[(1,_),(2,_),(13,_),(14,_)]) (Lc:=[(_,_),(_,_)]) (fun gh=>[(15,vi gh)]) (fun gh=>[(bm,eU (jk (qL K (h.marks.ins :: (h.marks.bL.take gh).map fE.rev))))]) (fun gh=>G) (fun gh=>gh≤h.marks.bL.length) (fun gh=>h.marks.bL.length - gh) (0) sB ?_ ?_
 ·exact gW _
 clear H;intro i a w hI H;have hi:=hI;dsimp only [lca,bG] at H;refine dQ 4 H ?_ ?_ <;> clear H
 ·intro p16
  have hi2:i < h.marks.bL.length:=by omega
  obtain ⟨b,o,rfl,hrow⟩:=M0 hd hi2;refine ak 5 ?_;intro a H;refine aS oz (cs:=[_,_]) H wn rfl rfl (fun j v hj=>H.hp.aI (hrow j v hj)) rfl ?_;clear H;intro a H;refine dz oz H wn rfl ?_;clear H;intro b4 a w hb4 H;refine aV oz 0 (vs:=[_,_]) _ H wn rfl rfl rfl rfl rfl rfl rfl rfl ?_;clear H;intro w H;dsimp only [List.set,setRow] at H;refine aD 5 H ?_;clear H;intro a H;refine Vi (i:=3) vg kI H wn rfl rfl rfl rfl ?_;clear H;intro w H;dsimp only [List.set] at H;rw [aeb hi2] at H;refine aD 4 H ?_;clear H;intro a H;refine aC ?_;refine cB (i+1) (by exact (H.dY (Pl:=[_,_,_,_]) (dM:=[_,_,_]) [1,2,3] (by decide) rfl).sub ⟨rfl,rfl,rfl,rfl,rfl,aU⟩) ?_ ?_
  ·omega
  first|omega|(dsimp only;omega)
 intro p16
 obtain rfl:i=h.marks.bL.length:=by omega
 intro a H;rw [vE] at H;refine fO 9 H ?_;clear H;intro a H;refine eH (ι:=Nat) (Tc:=[(1,_),(25,_),(26,_)]) (Lc:=[(_,_),(_,_)]) (fun gh=>[(27,vi gh)]) (fun gh=>[(bm,eU (jk (qL K (h.marks.ins :: (h.marks.bL.map fE.rev++(h.marks.layers.take gh).map cK.rev)))))]) (fun gh=>G) (fun gh=>gh≤h.marks.layers.length) (fun gh=>h.marks.layers.length - gh) (0) (by exact (by rw [List.take_zero,qO,gD];exact (H.sub ⟨rfl,rfl,rfl,rfl,aU⟩))) ?_ ?_
 ·exact gW _
 clear H;intro k a w hI H;have hk:=hI;dsimp only [lca,bG] at H;refine dQ 4 H ?_ ?_ <;> clear H
 ·intro p28
  have hk2:k < h.marks.layers.length:=by omega
  obtain ⟨b,o,rfl,hrow⟩:=Dx hy hk2;refine ak 5 ?_;intro a H;refine aS jw (cs:=[_,_,_,_]) H wn rfl rfl (fun j v hj=>H.hp.aI (hrow j v hj)) rfl ?_;clear H;intro a H;refine dz jw H wn rfl ?_;clear H;intro b6 a w hb6 H;refine aV jw 0 (vs:=[_,_,_,_]) _ H wn rfl rfl rfl rfl rfl rfl rfl rfl ?_;clear H;intro w H;dsimp only [List.set,setRow] at H;refine aD 5 H ?_;clear H;intro a H;refine Vi (i:=3) vg kI H wn rfl rfl rfl rfl ?_;clear H;intro w H;dsimp only [List.set] at H;rw [aec hk2] at H;refine aD 4 H ?_;clear H;intro a H;refine aC ?_;refine cB (k+1) (by exact (H.dY (Pl:=[_,_,_,_]) (dM:=[_,_,_]) [1,2,3] (by decide) rfl).sub ⟨rfl,rfl,rfl,rfl,aU⟩) ?_ ?_
  ·omega
  first|omega|(dsimp only;omega)
 intro p28
 obtain rfl:k=h.marks.layers.length:=by omega
 intro a H;rw [vE] at H;refine yS ?_;refine (leave0 H results87 ?_).2;exact H.hp.kE (L':=A9 b3 bm _) (by repeat (first|exact jT _|apply List.Sublist.cons)) rfl
def U3 (d:gG):List Int:=(og d.flow).flatMap refs++refs d.fin
def qZ (d:gG):List Int:=(qL [] (U3 d)).filter fun q=>decide (q≠0)
theorem aoJ {G:GH} {b3 bm:Nat} {hs:List dW}:VY prog (.func (.func 87) #[] #[(aG b3 0)]) G (hs.map EF) fun k _ L=>L=A9 b3 bm (qL [] ((hs.take k).flatMap refs)):=by
 rintro k args G1 L w ⟨p,hp,h⟩ hG rfl hO;rw [qM] at hp;obtain ⟨x,hx,rfl⟩:=oP.1 hp;obtain ⟨q1,q2,q3,rfl,hR⟩:=h;obtain ⟨hk,rfl⟩:=jA.1 hx;refine iN (caps:=[(aG b3 0)]) Yn ((abl G1 w b3 bm _ hs[k] q1 q2 q3 hR hO).mono ?_);rintro e w' ⟨v,G',L',rfl,hc,rfl⟩;exact ⟨v,G',_,rfl,hc,by show A9 b3 bm _=A9 b3 bm (qL [] ((hs.take (k+1)).flatMap refs));rw [fQ hk,List.flatMap_append,Mw];simp⟩
theorem afY (G:GH) (w0:World) (hG:Hold G w0) (D:gy) (d:gG) (hR:iG G D d) (hz:cu d.flow≤4294967296) (hw:∀ k∈qZ d,-9223372036854775808≤k∧k < 9223372036854775808) (hl:(qZ d).length≤4294967296) :
  Calls prog 38 #[D.val] w0 (bB w0 G fun u G'=>au G' (.sl 1 ((Cv (qZ d)).map fun k=>[li k])) u):=by
 refine eN [(0,_)] func38 rfl ntmps38 rfl rfl hG ?_;refine ak 1 ?_;intro a H;refine dP (cs:=[_,_,_,_,_,_,_,_,_,_,_]) H wn rfl rfl rfl ?_;clear H;intro b1 a w hb1 H;refine aD 2 H ?_;clear H;intro a H;obtain ⟨Ga,hma,hb1',HQ⟩:=H.dZ;clear H;have H:=HQ;clear HQ;have hga:=fun j v hj=>kL hb1' 0 D.cells rfl j v hj
 have hgd:∀ j v,[aM D.p,vi d.fin.marks.ins,vi d.fin.marks.move,aM D.d,aM D.y][j]?=some v→aI Ga b1 (1+j)=some v:=fun j v hj=>by rw [← hR.ins,← hR.mv] at hj;exact kL hb1' 1 [aM D.p,vi D.ins,vi D.move,aM D.d,aM D.y] rfl j v hj
 replace hR:=hR.mono hma;refine Am ?_;refine Fx H wn rfl ?_;clear H;intro b5 a w hb5 H;refine dz DY H wn rfl ?_;clear H;intro b3 a w hb3 H;refine aV DY 0 (vs:=[_]) _ H wn rfl rfl rfl rfl rfl rfl rfl rfl ?_;clear H;intro w H;dsimp only [List.set,setRow] at H;refine aD 2 H ?_;clear H;intro a H;refine nS H wn rfl rfl ?_;clear H;refine ak 4 ?_;intro a H;refine iF pK H wn rfl (H.hp.aI (hga 0 _ rfl)) rfl ?_;clear H;refine ak 1 ?_;intro a H;refine gF Rx (Li:=[]) (L:=A9 b3 b5 []) H wn rfl (Zm 4294967297 (by omega) _ Ga ((og d.flow).map EF) (fun k _ L=>L=A9 b3 b5 (qL [] (((og d.flow).take k).flatMap refs))) Ga _ _ 0 d.flow _ (fun _ _ h=>h) aoJ (fun _ _ _ _ _ h=>h) rfl (Hp.owns (Li:=[]) H.hp) hR.fl (by omega) (fun i a h=>by rw [fV,qM,h];rfl)) rfl ?_;clear H;rintro v10 zS L10 a w rfl BN H;rw [fV,vE] at H;dsimp only [List.nil_append] at H;refine aD 4 H ?_;clear H;intro a H;refine aS dw (cs:=[aM D.p,vi d.fin.marks.ins,vi d.fin.marks.move,aM D.d,aM D.y]) H wn rfl rfl (fun j v hj=>H.hp.aI (aH BN (hgd j v hj))) rfl ?_;clear H;intro a H;refine Cq (Li:=[]) (L:=A9 b3 b5 _) H wn rfl rfl (iN (caps:=[(aG b3 0)]) Yn (abl _ _ b3 b5 _ d.fin D.p D.d D.y (hR.hd.mono BN) (Hp.owns (Li:=[]) H.hp))) rfl ?_;clear H;rintro v14 zU L14 a w rfl wR H;rw [← Mw] at H;dsimp only [List.nil_append] at H;refine aD 3 H ?_;clear H;intro a H;refine aqy (i:=1) vg kI (WM List.nodup_nil) H wn rfl rfl rfl ?_;clear H;intro es clock w hst hks H;dsimp only [List.set] at H;refine aD 3 H ?_;clear H;intro a H;refine s_call aiP H wn rfl (aok _ _ H.ro _) rfl ?_;clear H;rintro v17 yM a w ⟨bx,rfl,hbx⟩ qV H;refine s_call aiO H wn rfl (arK _ _ H.ro b5 bx clock es (qZ d) hbx (H.hp.own (b5,.map es clock) (by simp)) hst hks hw hl) rfl ?_;clear H;rintro v18 PV a w Ob hm18 H;refine fH 2 H ?_;exact Ob
end
section
open Go.RowKit
theorem Zn {C:bO} {e:Int} {h:dW} (hE:gY C e h=0):∀ q∈refs h,q=0∨q∈C.zM:=by
 have z:=lG hE;have h3:=z (jI C h.marks) (by simp);have h4:=z (iH (sV C h.marks.bL) h.marks.bL.length) (by simp);have h6:=z (iH (xX C e h.marks.layers) h.marks.layers.length) (by simp);intro q hq
 unfold refs at hq
 rcases ko.1 hq with rfl|hq
 ·unfold jI at h3
  by_cases h0:h.marks.ins=0
  ·exact .inl h0
  refine .inr (Classical.byContradiction fun hn=>?_);rw [av ⟨h0,hn⟩] at h3;cases h3
 rcases nW.1 hq with hq|hq
 ·obtain ⟨x,hx,rfl⟩:=List.mem_map.1 hq;obtain ⟨k,hk,rfl⟩:=List.getElem_of_mem hx;have h5:=Ei h4 k hk
  unfold sV at h5
  rw [eO hk] at h5;dsimp only [sW] at h5;refine .inr (Classical.byContradiction fun hn=>?_);rw [av hn] at h5;cases h5
 obtain ⟨x,hx,rfl⟩:=List.mem_map.1 hq;obtain ⟨k,hk,rfl⟩:=List.getElem_of_mem hx;have h5:=Ei h6 k hk
 unfold xX at h5
 rw [eO hk] at h5;dsimp only [wu] at h5;refine .inr (Classical.byContradiction fun hn=>?_);rw [av hn] at h5;cases h5
def oD (C:bO) (L:List dW):Prop:=∀ h∈L,∃ e,gY C e h=0
theorem oD.nil (C:bO):oD C []:=fun _ h=>by cases h
theorem oD.cons {C:bO} {e:Int} {h:dW} {L:List dW} (h1:gY C e h=0) (h2:oD C L):oD C (h :: L):=fun x hx=>by
 rcases ko.1 hx with rfl|hx
 ·exact ⟨e,h1⟩
 exact h2 x hx
theorem oD.app {C:bO} {A B:List dW} (h1:oD C A) (h2:oD C B):oD C (A++B):=fun x hx=>(nW.1 hx).elim (h1 x) (h2 x)
mutual
theorem amy (C:bO) (body note:Bool) (t:Int):∀ (x:ay) (s s':CS),eY C body note t x s=(0,s')→oD C (JN x)
 | .mk k c i tx h f r,s,s',e=>by
  have hf:=NW C false true t f;have hr:=ZU C note (t+1) r;rw [eY] at e;(iterate 2 obtain ⟨-,e⟩:=lS e);obtain ⟨e1,e⟩:=lS e;rw [JN];refine oD.cons e1 ?_
  by_cases h6:k=6
  ·rw [av h6] at e ⊢;rw [ah (show ¬ k=7 by omega),gD];exact hf _ _ e
  rw [ah h6] at e ⊢;rw [oF]
  by_cases h7:k=7
  ·rw [av h7] at e ⊢;exact hr _ _ (U5 e).2
  rw [ah h7];exact oD.nil C
theorem NW (C:bO) (body note:Bool) (t:Int):∀ (l:List ay) (s s':CS),jo C body note t l s=(0,s')→oD C (og l)
 | [],_,_,_=>by rw [og];exact oD.nil C
 | x :: r,s,s',e=>by
  rw [jo] at e;obtain ⟨e1,e⟩:=lS e;rw [og];exact (amy C body note t x s _ (Prod.ext e1 rfl)).app (NW C body note t r _ _ e)
theorem amA (C:bO) (note:Bool) (t:Int):∀ (x:aX) (s s':CS),yj C note t x s=(0,s')→oD C (JU x)
 | .mk h cs,s,s',e=>by
  have hc:=ZT C note t cs;rw [yj] at e;obtain ⟨e1,e⟩:=lS e;rw [JU];exact oD.cons (lG e1 _ fM) (hc _ _ e)
theorem ZU (C:bO) (note:Bool) (t:Int):∀ (l:List aX) (s s':CS),iE C note t l s=(0,s')→oD C (Ap l)
 | [],_,_,_=>by rw [Ap];exact oD.nil C
 | x :: r,s,s',e=>by
  rw [iE] at e;obtain ⟨e1,e⟩:=lS e;rw [Ap];exact (amA C note t x s _ (Prod.ext e1 rfl)).app (ZU C note t r _ _ e)
theorem amx (C:bO) (note:Bool) (t:Int):∀ (x:bC) (s s':CS),cellC C note t x s=(0,s')→oD C (JH x)
 | .mk i h f,s,s',e=>by
  have hf:=NW C false note t f;rw [cellC] at e;obtain ⟨-,e⟩:=lS e;obtain ⟨e1,e⟩:=lS e;rw [JH];exact oD.cons e1 (hf _ _ e)
theorem ZT (C:bO) (note:Bool) (t:Int):∀ (l:List bC) (s s':CS),oQ C note t l s=(0,s')→oD C (BH l)
 | [],_,_,_=>by rw [BH];exact oD.nil C
 | x :: r,s,s',e=>by
  rw [oQ] at e;obtain ⟨e1,e⟩:=lS e;rw [BH];exact (amx C note t x s _ (Prod.ext e1 rfl)).app (ZT C note t r _ _ e)
end
theorem abF {d:gG} (hc:iO d=0):∀ q∈U3 d,q=0∨q∈d.revs.map bX.id:=by
 have z:=lG hc;have h2:=z (cO [gY d.nY 3 d.fin,dx (qW d.fin.marks) 21]) (by simp);have h3:=z (jo d.nY true false 0 d.flow ⟨0,[]⟩).1 (by simp);have hi:=NW d.nY true false 0 d.flow _ _ (QI h3);intro q hq
 unfold U3 at hq
 rcases nW.1 hq with hq|hq
 ·obtain ⟨h,hh,hq⟩:=List.mem_flatMap.1 hq;obtain ⟨e,he⟩:=hi h hh;exact Zn he q hq
 exact Zn (lG h2 _ fM) q hq
theorem abI {d:gG} (hc:iO d=0):(d.revs.map bX.id).Pairwise (· < ·)∧∀ q∈d.revs.map bX.id,1≤q∧q≤1073741824:=by
 have h:=lG (lG hc _ fM) (En d.revs) (by simp);have h1:=lG h _ (fM);have h2:=lG h _ (gH _ fM)
 have hl:d.revs.length≤256:=by
  unfold dx at h1
  by_cases hd:256 < (d.revs.length:Int)
  ·rw [av (aK hd)] at h1;cases h1
  omega
 have hi:∀ i (hi:i < d.revs.length),1≤d.revs[i].id∧d.revs[i].id≤1073741824∧(∀ k (hk:k < d.revs.length),k+1=i→d.revs[k].id < d.revs[i].id):=by
  intro i hi;have h3:=Ei h2 i (by omega)
  unfold DL at h3
  rw [eO hi] at h3;have h4:=Ue (lG h3 _ fM);rw [eO hi] at h4;refine ⟨h4.1,h4.2.1,fun k hk e=>?_⟩;subst e;have h5:=h4.2.2 (by omega);rw [Nat.add_sub_cancel,eO hk] at h5;exact h5
 refine ⟨List.pairwise_iff_getElem.2 ?_,fun q hq=>?_⟩
 ·intro i j hi' hj hij;rw [bM] at hi' hj;rw [List.getElem_map,List.getElem_map]
  induction j with
  | zero=>omega
  | succ j ih =>
   have h1:=(hi (j+1) hj).2.2 j (by omega) rfl
   by_cases e:i=j
   ·subst e;exact h1
   exact Int.lt_trans (ih (by omega) (by omega) (by omega)) h1
 obtain ⟨x,hx,rfl⟩:=List.mem_map.1 hq;obtain ⟨k,hk,rfl⟩:=List.getElem_of_mem hx;exact ⟨(hi k hk).1,(hi k hk).2.1⟩
theorem asA {d:gG} (hc:iO d=0) {q:Int} (h:q∈qZ d):1≤q∧q≤1073741824:=by
 unfold qZ at h
 rw [List.mem_filter,lQ,WK] at h;obtain ⟨h1|h1,h2⟩:=h
 ·cases h1
 exact (abI hc).2 q ((abF hc q h1).resolve_left h2)
theorem asy {d:gG} (hc:iO d=0):(qZ d).length≤d.revs.length:=by
 obtain ⟨hi,-⟩:=abI hc
 have hnd:(d.revs.map bX.id).Nodup:=hi.imp fun h=>by omega
 have hu:(qZ d).Nodup:=(WM List.nodup_nil).sublist List.filter_sublist
 have hp:=(List.perm_ext_iff_of_nodup (hnd.sublist (List.filter_sublist (p:=fun q=>decide (q∈qZ d)))) hu).2 fun q=>by
  rw [List.mem_filter,lQ];refine ⟨fun h=>h.2,fun h=>⟨?_,h⟩⟩;have h1:=h
  unfold qZ at h1
  rw [List.mem_filter,lQ,WK] at h1;obtain ⟨h2|h2,h3⟩:=h1
  ·cases h2
  exact (abF hc q h2).resolve_left h3
 rw [← hp.length_eq];exact Nat.le_trans (List.length_filter_le _ _) (by rw [bM];exact bP _)
end
section
open Go.RowKit
theorem agu:∀ args w,(callFunc 113 args).run prog w=.ok (.enter 113 args) w:=enters func113 rfl (by kernel_rfl)
theorem KU (G:GH) (x:bX):aW G x.dat x.cells:=by
 simp only [bX.dat,bX.cells,aW]
 exact ⟨_,_,rfl,by simp [au,Value.oneCell'],_,_,rfl,by simp [au,Value.oneCell'],_,_,rfl,by simp [au,Value.oneCell'],rfl⟩
def nH (l:List bX):List aj:=(l.map bX.cells).flatten
theorem OW:∀ l:List bX,(nH l).length=l.length*3
 | []=>rfl
 | p :: l=>by
  have:=OW l
  simp only [nH,fq,List.flatten_cons,iC] at this ⊢
  rw [this,show p.cells.length=3 from rfl,ku];omega
theorem Ve:∀ {l:List bX} {k:Nat} (h:k < l.length) (j:Nat),j < 3→(nH l)[k*3+j]?=l[k].cells[j]?
 | p :: l,0,_,j,hj=>by
  simp only [nH,fq,List.flatten_cons,Nat.zero_mul,fV,List.getElem_cons_zero]
  rw [xM (by rw [show p.cells.length=3 from rfl];exact hj)]
 | p :: l,k+1,h,j,hj=>by
  have ih:=Ve (l:=l) (k:=k) (by simpa using h) j hj
  simp only [nH,fq,List.flatten_cons,List.getElem_cons_succ] at ih ⊢
  rw [rF (by rw [show p.cells.length=3 from rfl];omega),show p.cells.length=3 from rfl,show (k+1)*3+j - 3=k*3+j by omega];exact ih
theorem Vd (l m:List bX):nH (l++m)=nH l++nH m:=by simp [nH]
theorem apZ {w0 w:World} {F:Nat→Prop} {G0 G:GH} {L Lo:OL} {e c n:Nat} {A:Option Addr} {l:List bX} (h:bV e 3 (.slice A n c) n (nH l) Lo) (hn:n=l.length) (H:Hp w0 F G0 G L w) (hsub:∀ x∈Lo,x∈L) {k:Nat} (hk:k < l.length) :
  ∃ b,A=some ⟨b,0,none⟩∧∀ j u,[vi l[k].id,.string l[k].author,vi l[k].time][j]?=some u→w.cell? ⟨b,0+k*3+j,none⟩=some u:=by
 rcases h.2 with ⟨_,h0,_⟩|⟨b,cap,cur,he,hl,h1,h2,h3,h4⟩
 ·omega
 injection he with e1 e2 e3
 refine ⟨b,e1,fun j u hu=>?_⟩
 have hj:j < 3:=by have:=(jA.1 hu).1;simpa using this
 refine H.wY (c:=cur) (e:=e) (fz:=(0,0)) (hsub _ (by rw [hl];exact List.mem_singleton_self _)) ?_;have h5:=Ve hk j hj;rw [← h4,rE,av (by omega),Array.getElem?_toList] at h5;rw [show 0+k*3+j=k*3+j by omega,h5];exact hu
theorem anB {G:GH} {w0:World} {Lo:OL} {v fv:aj} (l:List bX) (p:bX→Bool) (hO:fU G Lo w0) (hrw:bV 102 3 v l.length (nH l) Lo) (hf:∀ x∈l,rC fv G x.dat (p x)) :
  Calls prog 113 #[v,fv] w0 (fJ w0 G Lo fun u G' L'=>L'=Lo∧u=vi (mJ (l.findIdx? p))):=by
 obtain ⟨A,c,rfl,hc1,hc2⟩:=hrw.shape;have hml:maxLen=9223372036854775807:=rfl;refine jg (N:=19) (T:=[(0,_),(1,_)]) func113 rfl ntmps113 rfl rfl hO ?_;refine ak 10 ?_;intro a H;refine eH (ι:=Nat × GH) (Tc:=[(0,_),(1,_),(7,_)]) (Lc:=[]) (fun gh=>[(8,vi gh.1)]) (fun gh=>[]++Lo) (fun gh=>gh.2) (fun gh=>gh.1≤l.length∧(l.take gh.1).findIdx? p=none∧(∀ b o,G b=some o→gh.2 b=some o)) (fun gh=>l.length - gh.1) ((0,G)) sB ?_ ?_
 ·exact ⟨by omega,rfl,fun _ _ h=>h⟩
 clear H;rintro ⟨k,g⟩ a w hI H;dsimp only at hI H;obtain ⟨hk,hno,hgm⟩:=hI;dsimp only [lca,bG] at H;refine dQ 4 H ?_ ?_ <;> clear H
 ·intro p9
  have hk2:k < l.length:=by omega
  intro a H;obtain ⟨b,rfl,hrow⟩:=apZ hrw rfl H.hp (fun x hx=>by first|exact hx|exact gH _ hx|simpa using hx) hk2;refine fO 12 H ?_;clear H;intro a H;refine aS ow (cs:=[vi l[k].id,.string l[k].author,vi l[k].time]) H wn rfl rfl hrow rfl ?_;clear H;intro a H;refine ji H wn rfl rfl (hf _ (lD hk2) _ _ _ hgm H.ro (KU _ l[k])) rfl ?_;clear H;rintro v16 nV a w rfl jv H;refine iU 1 H ?_ ?_ <;> clear H
  ·intro h16
   try have p16:=dT h16
   refine ak 4 ?_;intro a H;refine lr H results113 rfl ?_
   first
    | exact H.hp.dJ ⟨rfl,by rw [rW hk2 hno h16];rfl⟩
    | exact H.hp.dJ ⟨rfl,by rw [show l.take k=l from fK (by omega)] at hno;rw [hno];rfl⟩
  intro h16
  try have p16:=dF h16
  refine ak 4 ?_;intro a H;refine aC ?_;refine cB ((k+1,nV)) sB ?_ ?_
  ·(try dsimp only);exact ⟨by omega,Cc hk2 hno h16,fun b o h=>jv b o (hgm b o h)⟩
  first|omega|(dsimp only;omega)
 intro p9
 refine ak 4 ?_;intro a H;refine lr H results113 rfl ?_
 first
  | exact H.hp.dJ ⟨rfl,by rw [rW hk2 hno h16];rfl⟩
  | exact H.hp.dJ ⟨rfl,by rw [show l.take k=l from fK (by omega)] at hno;rw [hno];rfl⟩
theorem apU {G:GH} {l:List bX} {xs:List aj} (h:bU G 3 (l.map bX.dat) xs):xs=nH l:=by
 obtain ⟨css,rfl,h2,h3⟩:=h;rw [bM] at h2
 have e:css=l.map bX.cells:=by
  apply List.ext_getElem?
  intro j;rw [qM]
  by_cases hj:j < l.length
  ·have h4:=(h3 j l[j].dat css[j] (by simp [hj]) (eO (by omega))).1;rw [eO hj,eO (by omega),KT h4];rfl
  rw [List.getElem?_eq_none (by omega),List.getElem?_eq_none (by omega)];rfl
 rw [e];rfl
theorem apH {l:List bX} {p:bX→Bool} {i:Nat} (h:l.findIdx? p=some i):∃ hi:i < l.length,(l.take (i+1)).filter (fun x=>!p x)=l.take i:=by
 obtain ⟨hi,h1,h2⟩:=List.findIdx?_eq_some_iff_getElem.1 h;refine ⟨hi,?_⟩;rw [fQ hi,List.filter_append,List.filter_eq_self.2]
 ·simp [h1]
 intro x hx;obtain ⟨j,hj,rfl⟩:=List.getElem_of_mem hx;rw [List.getElem_take]
 have hj2:j < i:=by rw [List.length_take] at hj;omega
 have:=h2 j hj2
 simpa using this
theorem apI {l:List bX} {p:bX→Bool} (h:l.findIdx? p=none):l.filter (fun x=>!p x)=l:=by
 rw [List.findIdx?_eq_none_iff] at h
 exact List.filter_eq_self.2 fun x hx=>by rw [h x hx];rfl
theorem apJ {cl:List aj} {i:Nat} {x y z:aj} (h:i*3+3≤cl.length):(setRow cl (0+i*3) [x,y,z]).length=cl.length∧(setRow cl (0+i*3) [x,y,z]).take ((i+1)*3)=cl.take (i*3)++[x,y,z]∧∀ m,(i+1)*3≤m→(setRow cl (0+i*3) [x,y,z])[m]?=cl[m]?:=by
 have e:setRow cl (0+i*3) [x,y,z]=cl.take (i*3)++[x,y,z]++cl.drop (i*3+3):=by
  rw [fV,O7 _ _ _ (by simpa using h)];rfl
 have hl:(cl.take (i*3)++[x,y,z]).length=(i+1)*3:=by rw [iC,List.length_take];simp;omega
 refine ⟨Vm ..,?_,fun m hm=>?_⟩
 ·rw [e,← hl,List.take_left]
 rw [e,rF (by omega),hl,List.getElem?_drop];congr 1;omega
theorem apG {l:List bX} {cl:List aj} {i:Nat} (hi:i < l.length) (h:cl.take (l.length*3)=nH l):cl.take (i*3)=nH (l.take i):=by
 have e:cl.take (i*3)=(cl.take (l.length*3)).take (i*3):=by rw [List.take_take,Nat.min_eq_left (by omega)]
 have h2:nH l=nH (l.take i)++nH (l.drop i):=by rw [← Vd,List.take_append_drop]
 have h3:(nH (l.take i)).length=i*3:=by rw [OW,List.length_take];omega
 rw [e,h,h2,← h3,List.take_left]
theorem apK {l:List bX} {p:bX→Bool} {j:Nat} (hj:j < l.length):(l.take (j+1)).filter (fun x=>!p x)=(l.take j).filter (fun x=>!p x)++if p l[j] then [] else [l[j]]:=by
 rw [fQ hj,List.filter_append]
 cases h:p l[j] <;> simp [h]
theorem afW {G:GH} {w0:World} {Lo:OL} {v fv:aj} (l:List bX) (p:bX→Bool) (hO:fU G Lo w0) (hrw:bV 102 3 v l.length (nH l) Lo) (hf:∀ x∈l,rC fv G x.dat (p x)) :
  Calls prog 59 #[v,fv] w0 (fJ w0 G Lo fun u G' L'=>bV 102 3 u (l.filter fun x=>!p x).length (nH (l.filter fun x=>!p x)) L'):=by
 obtain ⟨A,c,rfl,hc1,hc2⟩:=hrw.shape;have hml:maxLen=9223372036854775807:=rfl;have hdl:=OW l;refine jg (N:=42) (T:=[(0,_),(1,_)]) func59 rfl ntmps59 rfl rfl hO ?_;refine ak 6 ?_;intro a H;refine gF agu (Li:=[]) (L:=Lo) H wn rfl (anB l p (Hp.owns (Li:=[]) H.hp) hrw hf) rfl ?_;clear H;rintro v10 zS L10 a w ⟨rfl,rfl⟩ BN H;dsimp only [List.nil_append] at H;obtain ⟨o,ho⟩:∃ o,o=l.findIdx? p:=⟨_,rfl⟩;rw [← ho] at H;refine gQ 7 H ?_ ?_ <;> clear H
 ·intro pI
  obtain rfl:o=none:=by cases o with|none=>rfl|some i=>first|(simp [mJ] at pI;done)|(simp [mJ] at pI;omega)
  refine ak 4 ?_;intro a H;refine lr H results59 rfl ?_;exact H.hp.dJ (by rw [apI ho.symm];exact hrw)
 intro pI
 obtain ⟨i0,rfl⟩:∃ i,o=some i:=by cases o with|none=>simp [mJ] at pI|some i=>exact ⟨i,rfl⟩
 obtain ⟨hi0,hinit⟩:=apH ho.symm
 rcases hrw.2 with ⟨_,h0,_⟩|⟨b,cap,cur,he,rfl,hcap1,hcap2,hsz,htk⟩
 ·intro a H;omega
 intro a H;injection he with e1 e2 e3
 subst e1;subst e3;obtain ⟨cl0,rfl⟩:∃ cl:List aj,cur=cl.toArray:=⟨cur.toList,by simp⟩;rw [List.size_toArray] at hsz;dsimp only [mJ] at H;refine fO 8 H ?_;clear H;intro a H;refine eH (ι:=Nat × Nat × List aj × GH) (Tc:=[(0,_),(1,_)]) (Lc:=[]) (fun gh=>[(5,vi gh.2.1),(6,vi gh.1)]) (fun gh=>[(b,.cells gh.2.2.1.toArray 102 (0,0))]) (fun gh=>gh.2.2.2) (fun gh=>gh.2.1 < gh.1∧gh.1≤l.length∧gh.2.2.1.length=c*3∧gh.2.1=((l.take gh.1).filter fun x=>!p x).length∧gh.2.2.1.take (gh.2.1*3)=nH ((l.take gh.1).filter fun x=>!p x)∧(∀ m,gh.1*3≤m→m < l.length*3→gh.2.2.1[m]?=(nH l)[m]?)∧(∀ b o,G b=some o→gh.2.2.2 b=some o)) (fun gh=>l.length - gh.1) ((i0+1,i0,cl0,zS)) sB ?_ ?_
 ·exact ⟨Nat.lt_succ_self _,hi0,hsz,by rw [hinit,List.length_take];exact (Nat.min_eq_left (Nat.le_of_lt hi0)).symm,by rw [hinit];exact apG hi0 htk,fun m h1 h2=>by rw [← htk,rE,av h2],BN⟩
 clear H;rintro ⟨j,i,cl,g⟩ a w hI H;dsimp only at hI H;obtain ⟨hij,hj,hcl,hil,hkept,hrest,hgm⟩:=hI;dsimp only [lca,bG] at H;refine dQ 7 H ?_ ?_ <;> clear H
 ·intro sw
  have hj2:j < l.length:=by omega
  have hjc:∀ q u,[vi l[j].id,.string l[j].author,vi l[j].time][q]?=some u→cl.toArray[0+j*3+q]?=some u:=fun q u hq=>by
   have hq2:q < 3:=by have:=(jA.1 hq).1;simpa using this
   rw [List.getElem?_toArray,fV,hrest _ (by omega) (by omega),Ve hj2 q hq2];exact hq
  have hdt:=apK (p:=p) hj2;refine ak 7 ?_;intro a H;refine aS ow (cs:=[vi l[j].id,.string l[j].author,vi l[j].time]) H wn rfl rfl (fun q u hq=>H.hp.wY (c:=cl.toArray) fM (hjc q u hq)) rfl ?_;clear H;intro a H;refine dz ow H wn rfl ?_;clear H;intro b7 a w uM H;refine aV ow 0 (vs:=[_,_,_]) _ H wn rfl rfl rfl rfl rfl rfl rfl rfl ?_;clear H;intro w H;dsimp only [List.set,setRow] at H;refine aD 3 H ?_;clear H;intro a H;refine aS ow (cs:=[_,_,_]) H wn rfl rfl (H.hp.bN 0 rfl rfl) rfl ?_;clear H;intro a H;refine ji H wn rfl rfl (hf _ (lD hj2) _ _ _ hgm H.ro (KU _ l[j])) rfl ?_;clear H;rintro v28 PX a w rfl ZE H;refine iU 2 H ?_ ?_ <;> clear H
  ·intro oH
   try have p29:=dT oH
   rw [ah (by simpa using oH)] at hdt;have hds:=apJ (cl:=cl) (i:=i) (x:=vi l[j].id) (y:=.string l[j].author) (z:=vi l[j].time) (by omega);refine ak 3 ?_;intro a H;refine aS ow (cs:=[_,_,_]) H wn rfl rfl (H.hp.bN 0 rfl rfl) rfl ?_;clear H;refine ak 1 ?_;intro a H;refine aV ow 1 (c:=cl) (vs:=[vi l[j].id,.string l[j].author,vi l[j].time]) _ H wn rfl rfl rfl rfl rfl rfl (Nat.ble_eq_true_of_le (by simp only [ku,List.length_nil];omega)) rfl ?_;clear H;intro w H;dsimp only [List.set] at H;refine aD 10 H ?_;clear H;intro a H;refine aC ?_;refine cB ((j+1,i+1,setRow cl (0+i*3) [vi l[j].id,.string l[j].author,vi l[j].time],PX)) (by exact (H.dY (Pl:=[_,_]) (dM:=[_]) [1] (by decide) rfl).sub ⟨rfl,rfl,rfl,rfl,aU⟩) ?_ ?_
   ·(try dsimp only);exact ⟨by omega,by omega,by rw [hds.1,hcl],by rw [hdt,iC,← hil];rfl,by rw [hdt,Vd,← hkept,hds.2.1];rfl,fun m h1 h2=>by rw [hds.2.2 m (by omega),hrest m (by omega) h2],fun b o h=>ZE b o (hgm b o h)⟩
   first|omega|(dsimp only;omega)
  intro oH
  try have p29:=dF oH
  rw [av (by simpa using oH),gD] at hdt;refine ak 5 ?_;intro a H;refine aC ?_;refine cB ((j+1,i,cl,PX)) (by exact (H.dY (Pl:=[_,_]) (dM:=[_]) [1] (by decide) rfl).sub ⟨rfl,rfl,rfl,rfl,aU⟩) ?_ ?_
  ·(try dsimp only);exact ⟨by omega,by omega,hcl,by rw [hdt];exact hil,by rw [hdt];exact hkept,fun m h1 h2=>hrest m (by omega) h2,fun b o h=>ZE b o (hgm b o h)⟩
  first|omega|(dsimp only;omega)
 intro sw
 refine ak 4 ?_;intro a H;refine yx sK ow i H wn rfl rfl rfl (by omega) rfl ?_;clear H;intro a H;rw [ah (by omega),uo,add_lit] at H;refine acd sK ow rfl rfl 0 H wn rfl rfl (by omega) (by omega) ?_;clear H;intro cz w hz1 hz2 H;dsimp only [List.set] at H;refine aD 4 H ?_;clear H;intro a H;refine DU sK ow i H wn rfl rfl rfl (by omega) rfl ?_;clear H;refine ak 2 ?_;intro a H;refine lr H results59 rfl ?_
 obtain rfl:j=l.length:=by omega
 rw [vE] at hil hkept;exact H.hp.dJ ⟨OW _,.inr ⟨b,c,cz.toArray,by rw [← hil],rfl,by omega,hcap2,by rw [List.size_toArray,hz1,hcl],by rw [← hkept,← hil];rw [fV] at hz2;exact hz2⟩⟩
end
section
open Go.RowKit
theorem Xu (G:GH) (w0:World) (hO:fU G [] w0) (rows:List (List Dat)) (A:Option Addr) (n c:Nat) (hv:au G (.sl 3 rows) (.slice A n c)) (hz:rows.length≤4294967296) :
  Calls prog 60 #[.slice A n c] w0 (fJ w0 G [] fun u G' L'=>∃ xs,bV 102 3 u rows.length xs L'∧bU G' 3 rows xs):=by
 obtain ⟨hn,hc1,hc2,hnil,hx⟩:=hv.cells;refine jg (N:=8) (T:=[(0,_)]) func60 rfl ntmps60 rfl rfl hO ?_;refine ak 6 ?_;intro a H;refine AX sK H wn rfl rfl ?_;clear H;refine goC 1 ?_ ?_
 ·intro h4
  refine ak 3 ?_;intro a H;refine lr H results60 rfl ?_;have hr0:=hnil (by simpa using h4);subst hr0;exact H.hp.dJ ⟨[],bV.nil,bU.nil⟩
 intro h4
 try have p4:=dF h4
 refine ak 1 ?_
 have hA:¬ A=none:=by intro e;rw [e] at h4;cases h4
 refine ak 1 ?_;intro a H;refine AU sK ow H wn rfl ?_;clear H;intro b5 a w hb5 H;refine aD 1 H ?_;clear H
 intro a H;by_cases hr0:rows=[]
 ·have hn0:n=0:=by rw [hn,hr0];rfl
  subst hn0;refine AQ sK ow H wn rfl rfl (bP _) rfl ?_;clear H;refine ak 2 ?_;intro a H;refine lr H results60 rfl ?_;subst hr0;exact H.hp.dJ ⟨[],bV.empty,bU.nil⟩
 obtain ⟨b,o,xs,rfl,hxl,hxc,hx1,dV⟩:=hx hr0;refine lJ (Li:=[]) (Lo:=[_]) (news:=xs) sK ow rfl rfl H wn rfl rfl bV.empty hxl (fun j u hj=>H.hp.aI (hxc j u hj)) hx1 (by omega) (by omega) rfl ?_;clear H;intro v7 Lo a w hrow H;dsimp only [List.nil_append] at H;refine aD 2 H ?_;clear H;intro a H;refine lr H results60 rfl ?_;exact H.hp.dJ ⟨_,by rw [fV,hn] at hrow;exact hrow,dV⟩
theorem afy (G:GH) (w0:World) (hO:fU G [] w0) (rows:List (List Dat)) (A:Option Addr) (n c:Nat) (hv:au G (.sl 6 rows) (.slice A n c)) (hz:rows.length≤4294967296) :
  Calls prog 175 #[.slice A n c] w0 (fJ w0 G [] fun u G' L'=>∃ xs,bV 192 6 u rows.length xs L'∧bU G' 6 rows xs):=by
 obtain ⟨hn,hc1,hc2,hnil,hx⟩:=hv.cells;refine jg (N:=8) (T:=[(0,_)]) func175 rfl ntmps175 rfl rfl hO ?_;refine ak 6 ?_;intro a H;refine AX uf H wn rfl rfl ?_;clear H;refine goC 1 ?_ ?_
 ·intro h4
  refine ak 3 ?_;intro a H;refine lr H results175 rfl ?_;have hr0:=hnil (by simpa using h4);subst hr0;exact H.hp.dJ ⟨[],bV.nil,bU.nil⟩
 intro h4
 try have p4:=dF h4
 refine ak 1 ?_
 have hA:¬ A=none:=by intro e;rw [e] at h4;cases h4
 refine ak 1 ?_;intro a H;refine AU uf jF H wn rfl ?_;clear H;intro b5 a w hb5 H;refine aD 1 H ?_;clear H
 intro a H;by_cases hr0:rows=[]
 ·have hn0:n=0:=by rw [hn,hr0];rfl
  subst hn0;refine AQ uf jF H wn rfl rfl (bP _) rfl ?_;clear H;refine ak 2 ?_;intro a H;refine lr H results175 rfl ?_;subst hr0;exact H.hp.dJ ⟨[],bV.empty,bU.nil⟩
 obtain ⟨b,o,xs,rfl,hxl,hxc,hx1,dV⟩:=hx hr0;refine lJ (Li:=[]) (Lo:=[_]) (news:=xs) uf jF rfl rfl H wn rfl rfl bV.empty hxl (fun j u hj=>H.hp.aI (hxc j u hj)) hx1 (by omega) (by omega) rfl ?_;clear H;intro v7 Lo a w hrow H;dsimp only [List.nil_append] at H;refine aD 2 H ?_;clear H;intro a H;refine lr H results175 rfl ?_;exact H.hp.dJ ⟨_,by rw [fV,hn] at hrow;exact hrow,dV⟩
theorem afx (G:GH) (w0:World) (hO:fU G [] w0) (rows:List (List Dat)) (A:Option Addr) (n c:Nat) (hv:au G (.sl 2 rows) (.slice A n c)) (hz:rows.length≤4294967296) :
  Calls prog 176 #[.slice A n c] w0 (fJ w0 G [] fun u G' L'=>∃ xs,bV 93 2 u rows.length xs L'∧bU G' 2 rows xs):=by
 obtain ⟨hn,hc1,hc2,hnil,hx⟩:=hv.cells;refine jg (N:=8) (T:=[(0,_)]) func176 rfl ntmps176 rfl rfl hO ?_;refine ak 6 ?_;intro a H;refine AX Bd H wn rfl rfl ?_;clear H;refine goC 1 ?_ ?_
 ·intro h4
  refine ak 3 ?_;intro a H;refine lr H results176 rfl ?_;have hr0:=hnil (by simpa using h4);subst hr0;exact H.hp.dJ ⟨[],bV.nil,bU.nil⟩
 intro h4
 try have p4:=dF h4
 refine ak 1 ?_
 have hA:¬ A=none:=by intro e;rw [e] at h4;cases h4
 refine ak 1 ?_;intro a H;refine AU Bd sJ H wn rfl ?_;clear H;intro b5 a w hb5 H;refine aD 1 H ?_;clear H
 intro a H;by_cases hr0:rows=[]
 ·have hn0:n=0:=by rw [hn,hr0];rfl
  subst hn0;refine AQ Bd sJ H wn rfl rfl (bP _) rfl ?_;clear H;refine ak 2 ?_;intro a H;refine lr H results176 rfl ?_;subst hr0;exact H.hp.dJ ⟨[],bV.empty,bU.nil⟩
 obtain ⟨b,o,xs,rfl,hxl,hxc,hx1,dV⟩:=hx hr0;refine lJ (Li:=[]) (Lo:=[_]) (news:=xs) Bd sJ rfl rfl H wn rfl rfl bV.empty hxl (fun j u hj=>H.hp.aI (hxc j u hj)) hx1 (by omega) (by omega) rfl ?_;clear H;intro v7 Lo a w hrow H;dsimp only [List.nil_append] at H;refine aD 2 H ?_;clear H;intro a H;refine lr H results176 rfl ?_;exact H.hp.dJ ⟨_,by rw [fV,hn] at hrow;exact hrow,dV⟩
theorem afv (G:GH) (w0:World) (hO:fU G [] w0) (rows:List (List Dat)) (A:Option Addr) (n c:Nat) (hv:au G (.sl 6 rows) (.slice A n c)) (hz:rows.length≤4294967296) :
  Calls prog 177 #[.slice A n c] w0 (fJ w0 G [] fun u G' L'=>∃ xs,bV 107 6 u rows.length xs L'∧bU G' 6 rows xs):=by
 obtain ⟨hn,hc1,hc2,hnil,hx⟩:=hv.cells;refine jg (N:=8) (T:=[(0,_)]) func177 rfl ntmps177 rfl rfl hO ?_;refine ak 6 ?_;intro a H;refine AX Bf H wn rfl rfl ?_;clear H;refine goC 1 ?_ ?_
 ·intro h4
  refine ak 3 ?_;intro a H;refine lr H results177 rfl ?_;have hr0:=hnil (by simpa using h4);subst hr0;exact H.hp.dJ ⟨[],bV.nil,bU.nil⟩
 intro h4
 try have p4:=dF h4
 refine ak 1 ?_
 have hA:¬ A=none:=by intro e;rw [e] at h4;cases h4
 refine ak 1 ?_;intro a H;refine AU Bf yD H wn rfl ?_;clear H;intro b5 a w hb5 H;refine aD 1 H ?_;clear H
 intro a H;by_cases hr0:rows=[]
 ·have hn0:n=0:=by rw [hn,hr0];rfl
  subst hn0;refine AQ Bf yD H wn rfl rfl (bP _) rfl ?_;clear H;refine ak 2 ?_;intro a H;refine lr H results177 rfl ?_;subst hr0;exact H.hp.dJ ⟨[],bV.empty,bU.nil⟩
 obtain ⟨b,o,xs,rfl,hxl,hxc,hx1,dV⟩:=hx hr0;refine lJ (Li:=[]) (Lo:=[_]) (news:=xs) Bf yD rfl rfl H wn rfl rfl bV.empty hxl (fun j u hj=>H.hp.aI (hxc j u hj)) hx1 (by omega) (by omega) rfl ?_;clear H;intro v7 Lo a w hrow H;dsimp only [List.nil_append] at H;refine aD 2 H ?_;clear H;intro a H;refine lr H results177 rfl ?_;exact H.hp.dJ ⟨_,by rw [fV,hn] at hrow;exact hrow,dV⟩
theorem afp (G:GH) (w0:World) (hG:Hold G w0) (rows:List (List Dat)) (A:Option Addr) (n c:Nat) (hv:au G (.sl 6 rows) (.slice A n c)) (hz:rows.length≤4294967296) :
  Calls prog 177 #[.slice A n c] w0 (bB w0 G fun u G'=>au G' (.sl 6 rows) u):=Gw hG (afv G w0 (xg hG) rows A n c hv hz) rfl
theorem afz (G:GH) (w0:World) (hO:fU G [] w0) (rows:List (List Dat)) (A:Option Addr) (n c:Nat) (hv:au G (.sl 2 rows) (.slice A n c)) (hz:rows.length≤4294967296) :
  Calls prog 178 #[.slice A n c] w0 (fJ w0 G [] fun u G' L'=>∃ xs,bV 110 2 u rows.length xs L'∧bU G' 2 rows xs):=by
 obtain ⟨hn,hc1,hc2,hnil,hx⟩:=hv.cells;refine jg (N:=8) (T:=[(0,_)]) func178 rfl ntmps178 rfl rfl hO ?_;refine ak 6 ?_;intro a H;refine AX sM H wn rfl rfl ?_;clear H;refine goC 1 ?_ ?_
 ·intro h4
  refine ak 3 ?_;intro a H;refine lr H results178 rfl ?_;have hr0:=hnil (by simpa using h4);subst hr0;exact H.hp.dJ ⟨[],bV.nil,bU.nil⟩
 intro h4
 try have p4:=dF h4
 refine ak 1 ?_
 have hA:¬ A=none:=by intro e;rw [e] at h4;cases h4
 refine ak 1 ?_;intro a H;refine AU sM uZ H wn rfl ?_;clear H;intro b5 a w hb5 H;refine aD 1 H ?_;clear H
 intro a H;by_cases hr0:rows=[]
 ·have hn0:n=0:=by rw [hn,hr0];rfl
  subst hn0;refine AQ sM uZ H wn rfl rfl (bP _) rfl ?_;clear H;refine ak 2 ?_;intro a H;refine lr H results178 rfl ?_;subst hr0;exact H.hp.dJ ⟨[],bV.empty,bU.nil⟩
 obtain ⟨b,o,xs,rfl,hxl,hxc,hx1,dV⟩:=hx hr0;refine lJ (Li:=[]) (Lo:=[_]) (news:=xs) sM uZ rfl rfl H wn rfl rfl bV.empty hxl (fun j u hj=>H.hp.aI (hxc j u hj)) hx1 (by omega) (by omega) rfl ?_;clear H;intro v7 Lo a w hrow H;dsimp only [List.nil_append] at H;refine aD 2 H ?_;clear H;intro a H;refine lr H results178 rfl ?_;exact H.hp.dJ ⟨_,by rw [fV,hn] at hrow;exact hrow,dV⟩
theorem afr (G:GH) (w0:World) (hG:Hold G w0) (rows:List (List Dat)) (A:Option Addr) (n c:Nat) (hv:au G (.sl 2 rows) (.slice A n c)) (hz:rows.length≤4294967296) :
  Calls prog 178 #[.slice A n c] w0 (bB w0 G fun u G'=>au G' (.sl 2 rows) u):=Gw hG (afz G w0 (xg hG) rows A n c hv hz) rfl
theorem afw (G:GH) (w0:World) (hO:fU G [] w0) (rows:List (List Dat)) (A:Option Addr) (n c:Nat) (hv:au G (.sl 4 rows) (.slice A n c)) (hz:rows.length≤4294967296) :
  Calls prog 179 #[.slice A n c] w0 (fJ w0 G [] fun u G' L'=>∃ xs,bV 96 4 u rows.length xs L'∧bU G' 4 rows xs):=by
 obtain ⟨hn,hc1,hc2,hnil,hx⟩:=hv.cells;refine jg (N:=8) (T:=[(0,_)]) func179 rfl ntmps179 rfl rfl hO ?_;refine ak 6 ?_;intro a H;refine AX FM H wn rfl rfl ?_;clear H;refine goC 1 ?_ ?_
 ·intro h4
  refine ak 3 ?_;intro a H;refine lr H results179 rfl ?_;have hr0:=hnil (by simpa using h4);subst hr0;exact H.hp.dJ ⟨[],bV.nil,bU.nil⟩
 intro h4
 try have p4:=dF h4
 refine ak 1 ?_
 have hA:¬ A=none:=by intro e;rw [e] at h4;cases h4
 refine ak 1 ?_;intro a H;refine AU FM Bc H wn rfl ?_;clear H;intro b5 a w hb5 H;refine aD 1 H ?_;clear H
 intro a H;by_cases hr0:rows=[]
 ·have hn0:n=0:=by rw [hn,hr0];rfl
  subst hn0;refine AQ FM Bc H wn rfl rfl (bP _) rfl ?_;clear H;refine ak 2 ?_;intro a H;refine lr H results179 rfl ?_;subst hr0;exact H.hp.dJ ⟨[],bV.empty,bU.nil⟩
 obtain ⟨b,o,xs,rfl,hxl,hxc,hx1,dV⟩:=hx hr0;refine lJ (Li:=[]) (Lo:=[_]) (news:=xs) FM Bc rfl rfl H wn rfl rfl bV.empty hxl (fun j u hj=>H.hp.aI (hxc j u hj)) hx1 (by omega) (by omega) rfl ?_;clear H;intro v7 Lo a w hrow H;dsimp only [List.nil_append] at H;refine aD 2 H ?_;clear H;intro a H;refine lr H results179 rfl ?_;exact H.hp.dJ ⟨_,by rw [fV,hn] at hrow;exact hrow,dV⟩
theorem afq (G:GH) (w0:World) (hG:Hold G w0) (rows:List (List Dat)) (A:Option Addr) (n c:Nat) (hv:au G (.sl 4 rows) (.slice A n c)) (hz:rows.length≤4294967296) :
  Calls prog 179 #[.slice A n c] w0 (bB w0 G fun u G'=>au G' (.sl 4 rows) u):=Gw hG (afw G w0 (xg hG) rows A n c hv hz) rfl
end
section
open Go.RowKit
theorem ahi:∀ args w,(callFunc 175 args).run prog w=.ok (.enter 175 args) w:=enters func175 rfl (by kernel_rfl)
theorem ahj:∀ args w,(callFunc 176 args).run prog w=.ok (.enter 176 args) w:=enters func176 rfl (by kernel_rfl)
theorem ahk:∀ args w,(callFunc 177 args).run prog w=.ok (.enter 177 args) w:=enters func177 rfl (by kernel_rfl)
theorem ahl:∀ args w,(callFunc 178 args).run prog w=.ok (.enter 178 args) w:=enters func178 rfl (by kernel_rfl)
theorem arR:oO prog 36 [(0,1),(1,1),(2,1),(3,1)] [.slice none 0 0,.slice none 0 0,.slice none 0 0,.slice none 0 0]:=⟨by kernel_rfl,by kernel_rfl⟩
theorem ahm:∀ args w,(callFunc 179 args).run prog w=.ok (.enter 179 args) w:=enters func179 rfl (by kernel_rfl)
theorem aW.setAt {G:GH}:∀ {r:List Dat} {cs:List aj} {k:Nat} {d:Dat} {v:aj},aW G r cs→r[k]?=some d→au G d v→aW G r (cs.set k v)
 | [],_,_,_,_,_,h,_=>by simp at h
 | e :: r,cs,k,d,v,h,hk,hv=>by
  simp only [aW] at h ⊢
  obtain ⟨x,vs,rfl,h1,h2⟩:=h
  cases k with
  | zero =>
   simp only [Ab,nL] at hk
   subst hk;exact ⟨v,vs,rfl,hv,h2⟩
  | succ k=>exact ⟨x,vs.set k v,rfl,h1,aW.setAt h2 (by simpa using hk) hv⟩
theorem bU.setAt {G:GH} {sz:Nat}:∀ {rows:List (List Dat)} {xs:List aj} {i k:Nat} {r:List Dat} {d:Dat} {v:aj},bU G sz rows xs→rows[i]?=some r→r[k]?=some d→k < sz→au G d v→bU G sz rows (xs.set (i*sz+k) v)
 | [],_,_,_,_,_,_,_,h,_,_,_=>by simp at h
 | q :: rows,xs,i,k,r,d,v,h,hr,hk,hs,hv=>by
  obtain ⟨css,rfl,h2,h3⟩:=h
  cases css with
  | nil=>simp at h2
  | cons c css =>
   obtain ⟨h4,h5⟩:=h3 0 q c rfl rfl;have h6:bU G sz rows css.flatten:=⟨css,rfl,by simpa using h2,fun j r' cs hr' hc=>h3 (j+1) r' cs (by simpa using hr') (by simpa using hc)⟩
   have h7:∀ {c' x':List aj},aW G q c'→c'.length=sz→bU G sz rows x'→bU G sz (q :: rows) (c'++x'):=fun a b e=>by
    have h8:=((bU.nil (G:=G) (sz:=sz)).snoc a b).append e
    simpa using h8
   rw [List.flatten_cons]
   cases i with
   | zero =>
    simp only [Ab,nL] at hr
    subst hr;rw [Nat.zero_mul,fV,List.set_append_left _ _ (by omega)];exact h7 (h4.setAt hk hv) (by rw [List.length_set];exact h5) h6
   | succ i =>
    rw [List.set_append_right _ _ (by rw [h5,Nat.succ_mul];omega),h5,show (i+1)*sz+k - sz=i*sz+k by rw [Nat.succ_mul];omega];exact h7 h4 h5 (bU.setAt h6 (by simpa using hr) hk hs hv)
theorem arU {G:GH} {l:List bS} {xs:List aj} {k:Nat} (h:bU G 6 (l.map bS.dat) xs) (hk:k < l.length):∃ A c,xs[k*6+5]?=some (.slice A l[k].props.length c)∧au G (.sl 2 (l[k].props.map aT.dat)) (.slice A l[k].props.length c):=by
 obtain ⟨cs,hcl,hcx,hcr⟩:=h.at (k:=k) (r:=l[k].dat) (by simp [hk]);obtain ⟨A,c,rfl,hp⟩:=Le hcr;exact ⟨A,c,hcx 5 _ rfl,hp⟩
theorem anV {G:GH} {l:List eD} {xs:List aj} {k:Nat} (h:bU G 2 (l.map eD.dat) xs) (hk:k < l.length):∃ A n c,xs[k*2+1]?=some (.slice A n c)∧au G (.sl 4 (l[k].levels.map iZ.dat)) (.slice A n c):=by
 obtain ⟨cs,hcl,hcx,hcr⟩:=h.at (k:=k) (r:=l[k].dat) (by simp [hk]);obtain ⟨v1,vs,rfl,-,v2,vs2,rfl,h2,-⟩:=hcr;obtain ⟨A,n,c,rfl⟩:=au.form h2;exact ⟨A,n,c,hcx 1 _ rfl,h2⟩
theorem afD (G:GH) (w0:World) (hG:Hold G w0) (s:zZ) (a1 WV c1 d1:aj) (hR:xK G s a1 WV c1 d1) (z1:s.styles.length≤4294967296) (z2:s.lists.length≤4294967296) (z3:s.comments.length≤4294967296) (z4:s.vars.length≤4294967296) (z5:∀ x∈s.styles,x.props.length≤4294967296) (z6:∀ x∈s.lists,x.levels.length≤4294967296) :
  Calls prog 116 #[.agg #[a1,WV,c1,d1]] w0 (bB w0 G fun u G'=>∃ a' b' c' d',u=.agg #[a',b',c',d']∧xK G' s a' b' c' d'):=by
 have hml:maxLen=9223372036854775807:=rfl;obtain ⟨aA,an,ac,rfl⟩:=hR.st.form;obtain ⟨bA,bn,bc,rfl⟩:=hR.li.form;obtain ⟨cA,cn,cc,rfl⟩:=hR.cm.form;obtain ⟨dA,dn,dc,rfl⟩:=hR.va.form;obtain ⟨hs1,hs2,hs3,hs4⟩:=hR;refine eN [(0,_)] func116 rfl ntmps116 rfl rfl hG ?_;refine ak 1 ?_;intro a H;refine dP (cs:=[_,_,_,_]) H wn rfl rfl rfl ?_;clear H;intro b1 a w hb1 H;refine dz sH H wn rfl ?_;clear H;intro b2 a w hb2 H;refine aD 2 H ?_;clear H;intro a H;have H:=H.dY (Pl:=[_,_]) (dM:=[_,_]) [1,0] (by decide) rfl;obtain ⟨Ga,hma,hb1',H⟩:=H.dZ;have hga:=fun j v hj=>kL hb1' 0 [.slice aA an ac,.slice bA bn bc,.slice cA cn cc,.slice dA dn dc] rfl j v hj;replace hs1:=hs1.mono hma;replace hs2:=hs2.mono hma;replace hs3:=hs3.mono hma;replace hs4:=hs4.mono hma
 have dN:∀ (aJ:Nat→aj × OL) (aP:Nat) (v:aj) (G G':GH),(∀ k o,G k=some o→G' k=some o)→(fun (aJ:Nat→aj × OL) (aP:Nat) (v:aj) (G:GH)=>match aP with|0=>v=(aG b1 0)|1=>v=.slice aA an ac|2=>v=(aJ 2).1∧∃ xs,bV 192 6 v s.styles.length xs (aJ 2).2∧bU G 6 (s.styles.map bS.dat) xs|3=>v=(aG b1 1)|4=>v=.slice bA bn bc|5=>v=(aJ 5).1∧∃ xs,bV 93 2 v s.lists.length xs (aJ 5).2∧bU G 2 (s.lists.map eD.dat) xs|6=>v=(aG b1 2)|7=>v=.slice cA cn cc|8=>au G (.sl 6 (s.comments.map fD.dat)) v|9=>v=(aG b1 3)|10=>v=.slice dA dn dc|11=>au G (.sl 2 (s.vars.map iB.dat)) v|12=>∃ c' d',v=.agg #[(aJ 2).1,(aJ 5).1,c',d']∧au G (.sl 6 (s.comments.map fD.dat)) c'∧au G (.sl 2 (s.vars.map iB.dat)) d'|13=>∃ b,v=(aG b 0)∧aJ 13=((aG b 0),[(b,.cells #[.slice none 0 0,.slice none 0 0,.slice none 0 0,.slice none 0 0] 36 (0,0))])|_=>True) aJ aP v G→(fun (aJ:Nat→aj × OL) (aP:Nat) (v:aj) (G:GH)=>match aP with|0=>v=(aG b1 0)|1=>v=.slice aA an ac|2=>v=(aJ 2).1∧∃ xs,bV 192 6 v s.styles.length xs (aJ 2).2∧bU G 6 (s.styles.map bS.dat) xs|3=>v=(aG b1 1)|4=>v=.slice bA bn bc|5=>v=(aJ 5).1∧∃ xs,bV 93 2 v s.lists.length xs (aJ 5).2∧bU G 2 (s.lists.map eD.dat) xs|6=>v=(aG b1 2)|7=>v=.slice cA cn cc|8=>au G (.sl 6 (s.comments.map fD.dat)) v|9=>v=(aG b1 3)|10=>v=.slice dA dn dc|11=>au G (.sl 2 (s.vars.map iB.dat)) v|12=>∃ c' d',v=.agg #[(aJ 2).1,(aJ 5).1,c',d']∧au G (.sl 6 (s.comments.map fD.dat)) c'∧au G (.sl 2 (s.vars.map iB.dat)) d'|13=>∃ b,v=(aG b 0)∧aJ 13=((aG b 0),[(b,.cells #[.slice none 0 0,.slice none 0 0,.slice none 0 0,.slice none 0 0] 36 (0,0))])|_=>True) aJ aP v G':=by
  intro aJ aP v G G' hm h
  match aP,h with
  | 0,h=>exact h
  | 1,h=>exact h
  | 2,h=>exact let ⟨h1,xs,h2,h3⟩:=h;⟨h1,xs,h2,h3.mono hm⟩
  | 3,h=>exact h
  | 4,h=>exact h
  | 5,h=>exact let ⟨h1,xs,h2,h3⟩:=h;⟨h1,xs,h2,h3.mono hm⟩
  | 6,h=>exact h
  | 7,h=>exact h
  | 8,h=>exact au.mono hm h
  | 9,h=>exact h
  | 10,h=>exact h
  | 11,h=>exact au.mono hm h
  | 12,h=>exact let ⟨c',d',h1,h2,h3⟩:=h;⟨c',d',h1,h2.mono hm,h3.mono hm⟩
  | 13,h=>exact h
  | 14,h=>exact trivial
  | _+15,h=>exact trivial
 refine MJ [2,5,13] (hmx) [[],[0],[0,1],[],[3],(ra 0 5),[],[6],(ra 0 8),[],[9],(ra 0 11),(ra 0 12),[],(ra 0 14)] [14] (by kernel_rfl) (by kernel_rfl) (by decide) (by kernel_rfl) (fun (aJ:Nat→aj × OL) (aP:Nat) (v:aj) (G:GH)=>match aP with|0=>v=(aG b1 0)|1=>v=.slice aA an ac|2=>v=(aJ 2).1∧∃ xs,bV 192 6 v s.styles.length xs (aJ 2).2∧bU G 6 (s.styles.map bS.dat) xs|3=>v=(aG b1 1)|4=>v=.slice bA bn bc|5=>v=(aJ 5).1∧∃ xs,bV 93 2 v s.lists.length xs (aJ 5).2∧bU G 2 (s.lists.map eD.dat) xs|6=>v=(aG b1 2)|7=>v=.slice cA cn cc|8=>au G (.sl 6 (s.comments.map fD.dat)) v|9=>v=(aG b1 3)|10=>v=.slice dA dn dc|11=>au G (.sl 2 (s.vars.map iB.dat)) v|12=>∃ c' d',v=.agg #[(aJ 2).1,(aJ 5).1,c',d']∧au G (.sl 6 (s.comments.map fD.dat)) c'∧au G (.sl 2 (s.vars.map iB.dat)) d'|13=>∃ b,v=(aG b 0)∧aJ 13=((aG b 0),[(b,.cells #[.slice none 0 0,.slice none 0 0,.slice none 0 0,.slice none 0 0] 36 (0,0))])|_=>True) (fun m hm x y i v G hi hc h=>by
  have hm:m=2∨m=5∨m=13:=by simpa using hm
  rcases hm with rfl|rfl|rfl
  ·match i,hi,hc,h with
   | 0,_,_,h=>exact h
   | 1,_,_,h=>exact h
   | 2,hi,_,_=>exact absurd hi (by decide)
   | 3,_,_,h=>exact h
   | 4,_,_,h=>exact h
   | 5,_,hc,_=>exact absurd hc (by decide)
   | 6,_,_,h=>exact h
   | 7,_,_,h=>exact h
   | 8,_,hc,_=>exact absurd hc (by decide)
   | 9,_,_,h=>exact h
   | 10,_,_,h=>exact h
   | 11,_,hc,_=>exact absurd hc (by decide)
   | 12,_,hc,_=>exact absurd hc (by decide)
   | 13,_,_,h=>exact h
   | 14,_,hc,_=>exact absurd hc (by decide)
   | _+15,_,_,_=>exact trivial
  ·match i,hi,hc,h with
   | 0,_,_,h=>exact h
   | 1,_,_,h=>exact h
   | 2,_,_,h=>exact h
   | 3,_,_,h=>exact h
   | 4,_,_,h=>exact h
   | 5,hi,_,_=>exact absurd hi (by decide)
   | 6,_,_,h=>exact h
   | 7,_,_,h=>exact h
   | 8,_,hc,_=>exact absurd hc (by decide)
   | 9,_,_,h=>exact h
   | 10,_,_,h=>exact h
   | 11,_,hc,_=>exact absurd hc (by decide)
   | 12,_,hc,_=>exact absurd hc (by decide)
   | 13,_,_,h=>exact h
   | 14,_,hc,_=>exact absurd hc (by decide)
   | _+15,_,_,_=>exact trivial
  ·match i,hi,hc,h with
   | 0,_,_,h=>exact h
   | 1,_,_,h=>exact h
   | 2,_,_,h=>exact h
   | 3,_,_,h=>exact h
   | 4,_,_,h=>exact h
   | 5,_,_,h=>exact h
   | 6,_,_,h=>exact h
   | 7,_,_,h=>exact h
   | 8,_,_,h=>exact h
   | 9,_,_,h=>exact h
   | 10,_,_,h=>exact h
   | 11,_,_,h=>exact h
   | 12,_,_,h=>exact h
   | 13,hi,_,_=>exact absurd hi (by decide)
   | 14,_,hc,_=>exact absurd hc (by decide)
   | _+15,_,_,_=>exact trivial
  ) H ?_ ?_ ?_
 ·clear H;refine aF ?_ ?_ ?_ ?_ (aF ?_ ?_ ?_ ?_ (aF ?_ ?_ ?_ ?_ (bH ?_ (bH ?_ (bH ?_ cZ)))))
  ·intro aJ dL aR a w G1 dO _ _ aL hc hG HT hv;have H:=HT;clear aL;have Hb:=H.full;have H:=Hb;clear hc;refine aD 1 H ?_;clear H;intro a H;refine aC ⟨rfl,?_⟩;exact dG (by kernel_rfl) (dN aJ) rfl rfl HT Hb hG hv (fun _ _ h=>h) (rfl) H
  ·intro aJ dL aR a w G1 dO _ _ aL hc hG HT hv;have H:=HT;clear aL;have H:=H.aN (hv 0 6 (hc 0 (by decide)) rfl) rfl;have Hb:=H.full;have H:=Hb;clear hc;refine iF FH H wn rfl (H.hp.aI (aH hG (hga 0 _ rfl))) rfl ?_;clear H;intro a H;refine aC ⟨rfl,?_⟩;exact dG (by kernel_rfl) (dN aJ) rfl rfl HT Hb hG hv (fun _ _ h=>h) (rfl) H
  ·intro _ _ _ _ _ _ _ _ hB;exact absurd hB (by decide)
  ·intro aJ dL aR a w G1 dO _ _ aL hc hG HT hv;have H:=HT;clear aL;have Hb:=H.full;have H:=Hb;clear hc;refine aD 1 H ?_;clear H;intro a H;refine aC ⟨rfl,?_⟩;exact dG (by kernel_rfl) (dN aJ) rfl rfl HT Hb hG hv (fun _ _ h=>h) (rfl) H
  ·intro aJ dL aR a w G1 dO _ _ aL hc hG HT hv;have H:=HT;clear aL;have H:=H.aN (hv 3 9 (hc 3 (by decide)) rfl) rfl;have Hb:=H.full;have H:=Hb;clear hc;refine iF FI H wn rfl (H.hp.aI (aH hG (hga 1 _ rfl))) rfl ?_;clear H;intro a H;refine aC ⟨rfl,?_⟩;exact dG (by kernel_rfl) (dN aJ) rfl rfl HT Hb hG hv (fun _ _ h=>h) (rfl) H
  ·intro _ _ _ _ _ _ _ _ hB;exact absurd hB (by decide)
  ·intro aJ dL aR a w G1 dO _ _ aL hc hG HT hv;have H:=HT;clear aL;have Hb:=H.full;have H:=Hb;clear hc;refine aD 1 H ?_;clear H;intro a H;refine aC ⟨rfl,?_⟩;exact dG (by kernel_rfl) (dN aJ) rfl rfl HT Hb hG hv (fun _ _ h=>h) (rfl) H
  ·intro aJ dL aR a w G1 dO _ _ aL hc hG HT hv;have H:=HT;clear aL;have H:=H.aN (hv 6 12 (hc 6 (by decide)) rfl) rfl;have Hb:=H.full;have H:=Hb;clear hc;refine iF Pq H wn rfl (H.hp.aI (aH hG (hga 2 _ rfl))) rfl ?_;clear H;intro a H;refine aC ⟨rfl,?_⟩;exact dG (by kernel_rfl) (dN aJ) rfl rfl HT Hb hG hv (fun _ _ h=>h) (rfl) H
  ·intro aJ dL aR a w G1 dO _ _ aL hc hG HT hv;have H:=HT;clear aL;have H:=H.aN (hv 7 13 (hc 7 (by decide)) rfl) rfl;have Hb:=H.full;have H:=Hb;clear hc;refine s_call ahk H wn rfl (afp _ _ H.ro _ _ _ _ (hs3.mono hG) (by simpa using z3)) rfl ?_;clear H;rintro v14 zU a w qH wP H;refine aC ⟨rfl,?_⟩;exact dG (by kernel_rfl) (dN aJ) rfl rfl HT Hb hG hv wP (qH) H
  ·intro aJ dL aR a w G1 dO _ _ aL hc hG HT hv;have H:=HT;clear aL;have Hb:=H.full;have H:=Hb;clear hc;refine aD 1 H ?_;clear H;intro a H;refine aC ⟨rfl,?_⟩;exact dG (by kernel_rfl) (dN aJ) rfl rfl HT Hb hG hv (fun _ _ h=>h) (rfl) H
  ·intro aJ dL aR a w G1 dO _ _ aL hc hG HT hv;have H:=HT;clear aL;have H:=H.aN (hv 9 15 (hc 9 (by decide)) rfl) rfl;have Hb:=H.full;have H:=Hb;clear hc;refine iF yE H wn rfl (H.hp.aI (aH hG (hga 3 _ rfl))) rfl ?_;clear H;intro a H;refine aC ⟨rfl,?_⟩;exact dG (by kernel_rfl) (dN aJ) rfl rfl HT Hb hG hv (fun _ _ h=>h) (rfl) H
  ·intro aJ dL aR a w G1 dO _ _ aL hc hG HT hv;have H:=HT;clear aL;have H:=H.aN (hv 10 16 (hc 10 (by decide)) rfl) rfl;have Hb:=H.full;have H:=Hb;clear hc;refine s_call ahl H wn rfl (afr _ _ H.ro _ _ _ _ (hs4.mono hG) (by simpa using z4)) rfl ?_;clear H;rintro v17 yM a w Ki akw H;refine aC ⟨rfl,?_⟩;exact dG (by kernel_rfl) (dN aJ) rfl rfl HT Hb hG hv akw (Ki) H
  ·intro aJ dL aR a w G1 dO _ _ aL hc hG HT hv;have H:=HT;clear aL;obtain ⟨u8,zF,lU⟩:=hv 2 8 (hc 2 (by decide)) rfl;(try dsimp only at lU);obtain ⟨h8,PG,Cb,NG⟩:=lU;obtain ⟨sA,sc,rfl,-,-⟩:=Cb.shape;have H:=H.gV zF;obtain ⟨Vz,EU,wh⟩:=hv 5 11 (hc 5 (by decide)) rfl;(try dsimp only at wh);obtain ⟨h11,IL,xU,Ho⟩:=wh;obtain ⟨lA,lc,rfl,-,-⟩:=xU.shape;have H:=H.gV EU;obtain ⟨u14,KA,qH⟩:=hv 8 14 (hc 8 (by decide)) rfl;(try dsimp only at qH);obtain ⟨PN,n14,c14,rfl⟩:=qH.form;have H:=H.gV KA;obtain ⟨u17,anb,Ki⟩:=hv 11 17 (hc 11 (by decide)) rfl;(try dsimp only at Ki);obtain ⟨A17,n17,c17,rfl⟩:=Ki.form;have H:=H.gV anb;have Hb:=H.full;have H:=Hb;clear hc;refine iy arR [_,_,_,_] H wn rfl rfl rfl rfl ?_;clear H;intro a H;refine aC ⟨rfl,?_⟩;exact dG (by kernel_rfl) (dN aJ) rfl rfl HT Hb hG hv (fun _ _ h=>h) (⟨_,_,by rw [← h8,← h11],qH,Ki⟩) H
  ·intro _ _ _ _ _ _ _ _ hB;exact absurd hB (by decide)
  intro _ _ _ _ _ _ _ hB;exact absurd hB (by decide)
 ·clear H;refine aF ?_ ?_ ?_ ?_ (aF ?_ ?_ ?_ ?_ (aF ?_ ?_ ?_ ?_ (bH ?_ (bH ?_ (bH ?_ cZ)))))
  ·intro hB;exact absurd hB (by decide)
  ·intro hB;exact absurd hB (by decide)
  ·intro _ aJ dL aR a w G1 dO _ hc hG HT hv;have H:=HT;have H:=H.aN (hv (.bool false,[]) 1 7 (by decide) (hc 1 (by decide)) rfl) rfl;have Hb:=H.full;have H:=Hb;clear hc;refine gF ahi (Li:=dL) (L:=[]) (H.cast (gD _).symm) wn rfl (afy _ _ (xg H.ro) _ _ _ _ (hs1.mono hG) (by simpa using z1)) rfl ?_;clear H;rintro v8 G8 L8 a w ⟨PG,Cb,NG⟩ nO H;rw [bM] at Cb;have H:=H.perm uq;refine aC ⟨rfl,(v8,L8),?_⟩;exact Bz (by kernel_rfl) (dN (vo aJ 2 (v8,L8))) rfl HT Hb hG (fun j e h1 h2 h3=>hv (v8,L8) j e h1 h2 h3) nO (⟨rfl,PG,Cb,NG⟩) H
  ·intro hB;exact absurd hB (by decide)
  ·intro hB;exact absurd hB (by decide)
  ·intro _ aJ dL aR a w G1 dO _ hc hG HT hv;have H:=HT;have H:=H.aN (hv (.bool false,[]) 4 10 (by decide) (hc 4 (by decide)) rfl) rfl;have Hb:=H.full;have H:=Hb;clear hc;refine gF ahj (Li:=dL) (L:=[]) (H.cast (gD _).symm) wn rfl (afx _ _ (xg H.ro) _ _ _ _ (hs2.mono hG) (by simpa using z2)) rfl ?_;clear H;rintro v11 ru Ed a w ⟨IL,xU,Ho⟩ kZ H;rw [bM] at xU;have H:=H.perm uq;refine aC ⟨rfl,(v11,Ed),?_⟩;exact Bz (by kernel_rfl) (dN (vo aJ 5 (v11,Ed))) rfl HT Hb hG (fun j e h1 h2 h3=>hv (v11,Ed) j e h1 h2 h3) kZ (⟨rfl,IL,xU,Ho⟩) H
  ·intro hB;exact absurd hB (by decide)
  ·intro hB;exact absurd hB (by decide)
  ·intro hB;exact absurd hB (by decide)
  ·intro hB;exact absurd hB (by decide)
  ·intro hB;exact absurd hB (by decide)
  ·intro hB;exact absurd hB (by decide)
  ·intro hB;exact absurd hB (by decide)
  ·intro _ aJ dL aR a w G1 dO _ hc hG HT hv;have H:=HT;have Hb:=H.full;have H:=Hb;clear hc;refine dz sH H wn rfl ?_;clear H;intro b3 a w hb3 H;refine aC ⟨rfl,((aG b3 0),[(b3,.cells #[.slice none 0 0,.slice none 0 0,.slice none 0 0,.slice none 0 0] 36 (0,0))]),?_⟩;exact Bz (by kernel_rfl) (dN (vo aJ 13 ((aG b3 0),[(b3,.cells #[.slice none 0 0,.slice none 0 0,.slice none 0 0,.slice none 0 0] 36 (0,0))]))) rfl HT Hb hG (fun j e h1 h2 h3=>hv ((aG b3 0),[(b3,.cells #[.slice none 0 0,.slice none 0 0,.slice none 0 0,.slice none 0 0] 36 (0,0))]) j e h1 h2 h3) (fun _ _ h=>h) (⟨b3,rfl,rfl⟩) H
  intro hB;exact absurd hB (by decide)
 clear H;intro aJ a w G iP H hv
 simp only [oG,List.flatMap_cons,List.flatMap_nil,cond_true,gD,jd] at H
 obtain ⟨u3,hu3,hp3⟩:=hv 13 3 (by decide) rfl;(try dsimp only at hp3);obtain ⟨b3,rfl,e13⟩:=hp3;have H:=H.gV hu3;obtain ⟨u8,zF,lU⟩:=hv 2 8 (by decide) rfl;(try dsimp only at lU);obtain ⟨h8,PG,Cb,NG⟩:=lU;obtain ⟨sA,sc,rfl,-,-⟩:=Cb.shape;have H:=H.gV zF;obtain ⟨Vz,EU,wh⟩:=hv 5 11 (by decide) rfl;(try dsimp only at wh);obtain ⟨h11,IL,xU,Ho⟩:=wh;obtain ⟨lA,lc,rfl,-,-⟩:=xU.shape;have H:=H.gV EU;obtain ⟨u18,TM,Kj⟩:=hv 12 18 (by decide) rfl;(try dsimp only at Kj);obtain ⟨auB,auC,rfl,hc18,Zk⟩:=Kj;obtain ⟨eA,en,ec,rfl⟩:=hc18.form;obtain ⟨fA,fn,fc,rfl⟩:=Zk.form;have H:=H.gV TM;clear hv;obtain ⟨⟨vS,LS⟩,eS⟩:∃ y,y=aJ 2:=⟨_,rfl⟩;obtain ⟨⟨vL,LL⟩,eL⟩:∃ y,y=aJ 5:=⟨_,rfl⟩;rw [← eS,← eL,e13] at H;rw [← eS] at Cb h8;rw [← eL] at xU h11;dsimp only at H Cb xU h8 h11;subst h8;subst h11;rw [← jd] at H;have H:=H.perm (uq (l₁:=LS++LL) (l₂:=[_,_]));dsimp only [lca,bG] at H;refine aV sH 0 (vs:=[_,_,_,_]) _ H wn rfl rfl rfl rfl rfl rfl rfl rfl ?_;clear H;intro w H;dsimp only [List.set,setRow] at H;refine aC ⟨rfl,?_⟩;refine dR ?_;refine fO 8 H ?_;clear H;intro a H;refine eH (ι:=Nat × List aj × OL × GH) (Tc:=[(2,_),(3,_),(21,_)]) (Lc:=[(_,_),(_,_)]) (fun gh=>[(22,vi gh.1)]) (fun gh=>[]++(gh.2.2.1++LL)) (fun gh=>gh.2.2.2) (fun gh=>gh.1≤s.styles.length∧bV 192 6 (.slice sA s.styles.length sc) s.styles.length gh.2.1 gh.2.2.1∧bU gh.2.2.2 6 (s.styles.map bS.dat) gh.2.1∧(∀ b o,G b=some o→gh.2.2.2 b=some o)) (fun gh=>s.styles.length - gh.1) ((0,PG,LS,G)) sB ?_ ?_
 ·exact ⟨gW _,Cb,NG,fun _ _ h=>h⟩
 clear H;rintro ⟨k,xs,Lo,g⟩ a w hI H;dsimp only at hI H;obtain ⟨hk,hrw,dV,hgm⟩:=hI;dsimp only [lca,bG] at H;refine dQ 4 H ?_ ?_ <;> clear H
 ·intro AO
  have hk2:k < s.styles.length:=by omega
  obtain ⟨bs,rfl⟩:=hrw.ptr (by omega);obtain ⟨pA,pc,hpx,hpr⟩:=arU dV hk2;obtain ⟨cur,-,rfl,hcur,hset⟩:=hrw.set1;have hpz:=z5 _ (lD hk2);refine ak 7 ?_
  have oI:∀ (aP:Nat) (v:aj) (G G':GH),(∀ k o,G k=some o→G' k=some o)→(fun (aP:Nat) (v:aj) (G:GH)=>match aP with|0=>v=(aG b3 0)|1=>v=.slice (some ⟨bs,0,none⟩) s.styles.length sc|2=>v=vi k|3=>v=(aG b3 0)|4=>v=.slice (some ⟨bs,0,none⟩) s.styles.length sc|5=>v=vi k|6=>v=(aG bs (0+k*6))|7=>v=(aG bs (0+k*6+5))|8=>v=.slice pA s.styles[k].props.length pc|9=>au G (.sl 2 (s.styles[k].props.map aT.dat)) v|_=>True) aP v G→(fun (aP:Nat) (v:aj) (G:GH)=>match aP with|0=>v=(aG b3 0)|1=>v=.slice (some ⟨bs,0,none⟩) s.styles.length sc|2=>v=vi k|3=>v=(aG b3 0)|4=>v=.slice (some ⟨bs,0,none⟩) s.styles.length sc|5=>v=vi k|6=>v=(aG bs (0+k*6))|7=>v=(aG bs (0+k*6+5))|8=>v=.slice pA s.styles[k].props.length pc|9=>au G (.sl 2 (s.styles[k].props.map aT.dat)) v|_=>True) aP v G':=by
   intro aP v G G' hm h
   match aP,h with
   | 0,h=>exact h
   | 1,h=>exact h
   | 2,h=>exact h
   | 3,h=>exact h
   | 4,h=>exact h
   | 5,h=>exact h
   | 6,h=>exact h
   | 7,h=>exact h
   | 8,h=>exact h
   | 9,h=>exact au.mono hm h
   | 10,h=>exact trivial
   | 11,h=>exact trivial
   | 12,h=>exact trivial
   | _+13,h=>exact trivial
  intro a H;refine yR (hmx) [[],[0],[],[],[3],[],[3,4,5],(ra 3 4),(ra 3 5),(ra 3 6),(ra 0 10),(ra 0 11),(ra 0 12)] [10,11,12] (by kernel_rfl) (by kernel_rfl) (fun (aP:Nat) (v:aj) (G:GH)=>match aP with|0=>v=(aG b3 0)|1=>v=.slice (some ⟨bs,0,none⟩) s.styles.length sc|2=>v=vi k|3=>v=(aG b3 0)|4=>v=.slice (some ⟨bs,0,none⟩) s.styles.length sc|5=>v=vi k|6=>v=(aG bs (0+k*6))|7=>v=(aG bs (0+k*6+5))|8=>v=.slice pA s.styles[k].props.length pc|9=>au G (.sl 2 (s.styles[k].props.map aT.dat)) v|_=>True) oI H ?_ ?_
  ·clear H;refine aF ?_ ?_ ?_ ?_ (aF ?_ ?_ ?_ ?_ (aF ?_ ?_ (bQ rfl) (bQ rfl) (bH (bQ rfl) cZ)))
   ·refine dB [] rfl trivial (by kernel_rfl) oI rfl rfl ?_;intro aR a w G1 hG HT H fin;exact kH H (Rf RG rfl fun _ H=>fin H iJ rfl)
   ·refine dB [(0,25,_)] rfl ⟨fun _ _ h=>h,aU⟩ (by kernel_rfl) oI rfl rfl ?_;intro aR a w G1 hG HT H fin;exact kH H (Ro FH 0 rfl fun _ H=>fin H iJ rfl)
   ·refine dB [] rfl trivial (by kernel_rfl) oI rfl rfl ?_;intro aR a w G1 hG HT H fin;exact kH H (Rm rfl fun _ H=>fin H iJ rfl)
   ·refine dB [] rfl trivial (by kernel_rfl) oI rfl rfl ?_;intro aR a w G1 hG HT H fin;exact kH H (Rf RG rfl fun _ H=>fin H iJ rfl)
   ·refine dB [(3,28,_)] rfl ⟨fun _ _ h=>h,aU⟩ (by kernel_rfl) oI rfl rfl ?_;intro aR a w G1 hG HT H fin;exact kH H (Ro FH 0 rfl fun _ H=>fin H iJ rfl)
   ·refine dB [] rfl trivial (by kernel_rfl) oI rfl rfl ?_;intro aR a w G1 hG HT H fin;exact kH H (Rm rfl fun _ H=>fin H iJ rfl)
   ·refine dB [(4,29,_),(5,30,_)] rfl ⟨fun _ _ h=>h,fun _ _ h=>h,aU⟩ (by kernel_rfl) oI rfl rfl ?_;intro aR a w G1 hG HT H fin;exact kH H (Ri uf jF rfl rfl fun _ H=>fin H iJ rfl)
   ·refine dB [(6,31,_)] rfl ⟨fun _ _ h=>h,aU⟩ (by kernel_rfl) oI rfl rfl ?_;intro aR a w G1 hG HT H fin;exact kH H (Rf RD rfl fun _ H=>fin H iJ rfl)
   ·refine dB [(7,32,_)] rfl ⟨fun _ _ h=>h,aU⟩ (by kernel_rfl) oI rfl rfl ?_;intro aR a w G1 hG HT H fin;refine iF FE H wn rfl (hrw.at H.hp (fun x hx=>gH _ (gH _ (List.mem_append_left _ hx))) (by rw [fV];exact hpx)) rfl ?_;clear H;intro a H;exact fin H iJ rfl
   refine dB [(8,33,_)] rfl ⟨fun _ _ h=>h,aU⟩ (by kernel_rfl) oI rfl rfl ?_;intro aR a w G1 hG HT H fin;refine s_call M6 H wn rfl (QC _ _ H.ro _ _ _ _ (hpr.mono hG) (by simpa using hpz)) rfl ?_;clear H;rintro v34 Md a w Dw akC H;exact fin H akC (Dw)
  clear H;intro a w G kU H hv;have H:=H.aN (hv 1 26 rfl rfl) rfl;have H:=H.aN (hv 2 27 rfl rfl) rfl;obtain ⟨u34,ane,Dw⟩:=hv 9 34 (by decide) rfl;(try dsimp only at Dw);obtain ⟨CO,n34,c34,rfl⟩:=Dw.form;have H:=H.gV ane;clear hv;refine kH H (Ri uf jF rfl rfl (Rf RD rfl ?_));clear H;intro a H;refine aV FE 2 (c:=cur) (vs:=[.slice CO n34 c34]) (cur.set (k*6+5) (.slice CO n34 c34)) H wn rfl rfl rfl rfl rfl rfl (by simp;omega) (by rw [fV];rfl) ?_;clear H;intro w H;dsimp only [List.set,List.cons_append,List.nil_append] at H;have hrwn:=hset (k*6+5) (.slice CO n34 c34);have alD:=(dV.mono kU).setAt (i:=k) (k:=5) (r:=s.styles[k].dat) (v:=.slice CO n34 c34) (by simp [hk2]) rfl (by decide) Dw;refine aC ⟨rfl,?_⟩;refine dR ?_;refine fO 3 H ?_;clear H;intro a H;refine aC ?_;refine cB ((k+1,xs.set (k*6+5) (.slice CO n34 c34),[(bs,.cells (cur.set (k*6+5) (.slice CO n34 c34)).toArray 192 (0,0))],_)) sB ?_ ?_
  ·(try dsimp only);exact ⟨by omega,hrwn,alD,fun b o h=>kU b o (hgm b o h)⟩
  first|omega|(dsimp only;omega)
 intro AO
 obtain rfl:k=s.styles.length:=by omega
 refine ak 9 ?_;intro a H;refine eH (ι:=Nat × List aj × OL × GH) (Tc:=[(2,_),(3,_),(40,_)]) (Lc:=[(_,_),(_,_)]) (fun gh=>[(41,vi gh.1)]) (fun gh=>[]++(Lo++gh.2.2.1)) (fun gh=>gh.2.2.2) (fun gh=>gh.1≤s.lists.length∧bV 93 2 (.slice lA s.lists.length lc) s.lists.length gh.2.1 gh.2.2.1∧bU gh.2.2.2 2 (s.lists.map eD.dat) gh.2.1∧(∀ b o,g b=some o→gh.2.2.2 b=some o)) (fun gh=>s.lists.length - gh.1) ((0,IL,LL,g)) sB ?_ ?_
 ·exact ⟨gW _,xU,Ho.mono hgm,fun _ _ h=>h⟩
 clear H;rintro ⟨k2,xs2,Lo2,g2⟩ a w hI H;dsimp only at hI H;obtain ⟨hk2,hrw2,rR,iV⟩:=hI;dsimp only [lca,bG] at H;refine dQ 4 H ?_ ?_ <;> clear H
 ·intro p42
  have hk3:k2 < s.lists.length:=by omega
  obtain ⟨bl,rfl⟩:=hrw2.ptr (by omega);obtain ⟨qA,qn,qc,hqx,hqr⟩:=anV rR hk3;obtain ⟨Da,-,rfl,atL,amT⟩:=hrw2.set1;have hqz:=z6 _ (lD hk3);refine ak 7 ?_
  have zB:∀ (aP:Nat) (v:aj) (G G':GH),(∀ k o,G k=some o→G' k=some o)→(fun (aP:Nat) (v:aj) (G:GH)=>match aP with|0=>v=(aG b3 1)|1=>v=.slice (some ⟨bl,0,none⟩) s.lists.length lc|2=>v=vi k2|3=>v=(aG b3 1)|4=>v=.slice (some ⟨bl,0,none⟩) s.lists.length lc|5=>v=vi k2|6=>v=(aG bl (0+k2*2))|7=>v=(aG bl (0+k2*2+1))|8=>v=.slice qA qn qc|9=>au G (.sl 4 (s.lists[k2].levels.map iZ.dat)) v|_=>True) aP v G→(fun (aP:Nat) (v:aj) (G:GH)=>match aP with|0=>v=(aG b3 1)|1=>v=.slice (some ⟨bl,0,none⟩) s.lists.length lc|2=>v=vi k2|3=>v=(aG b3 1)|4=>v=.slice (some ⟨bl,0,none⟩) s.lists.length lc|5=>v=vi k2|6=>v=(aG bl (0+k2*2))|7=>v=(aG bl (0+k2*2+1))|8=>v=.slice qA qn qc|9=>au G (.sl 4 (s.lists[k2].levels.map iZ.dat)) v|_=>True) aP v G':=by
   intro aP v G G' hm h
   match aP,h with
   | 0,h=>exact h
   | 1,h=>exact h
   | 2,h=>exact h
   | 3,h=>exact h
   | 4,h=>exact h
   | 5,h=>exact h
   | 6,h=>exact h
   | 7,h=>exact h
   | 8,h=>exact h
   | 9,h=>exact au.mono hm h
   | 10,h=>exact trivial
   | 11,h=>exact trivial
   | 12,h=>exact trivial
   | _+13,h=>exact trivial
  intro a H;refine yR (hmx) [[],[0],[],[],[3],[],[3,4,5],(ra 3 4),(ra 3 5),(ra 3 6),(ra 0 10),(ra 0 11),(ra 0 12)] [10,11,12] (by kernel_rfl) (by kernel_rfl) (fun (aP:Nat) (v:aj) (G:GH)=>match aP with|0=>v=(aG b3 1)|1=>v=.slice (some ⟨bl,0,none⟩) s.lists.length lc|2=>v=vi k2|3=>v=(aG b3 1)|4=>v=.slice (some ⟨bl,0,none⟩) s.lists.length lc|5=>v=vi k2|6=>v=(aG bl (0+k2*2))|7=>v=(aG bl (0+k2*2+1))|8=>v=.slice qA qn qc|9=>au G (.sl 4 (s.lists[k2].levels.map iZ.dat)) v|_=>True) zB H ?_ ?_
  ·clear H;refine aF ?_ ?_ ?_ ?_ (aF ?_ ?_ ?_ ?_ (aF ?_ ?_ (bQ rfl) (bQ rfl) (bH (bQ rfl) cZ)))
   ·refine dB [] rfl trivial (by kernel_rfl) zB rfl rfl ?_;intro aR a w G1 hG HT H fin;exact kH H (Rf RH rfl fun _ H=>fin H iJ rfl)
   ·refine dB [(0,44,_)] rfl ⟨fun _ _ h=>h,aU⟩ (by kernel_rfl) zB rfl rfl ?_;intro aR a w G1 hG HT H fin;exact kH H (Ro FI 0 rfl fun _ H=>fin H iJ rfl)
   ·refine dB [] rfl trivial (by kernel_rfl) zB rfl rfl ?_;intro aR a w G1 hG HT H fin;exact kH H (Rm rfl fun _ H=>fin H iJ rfl)
   ·refine dB [] rfl trivial (by kernel_rfl) zB rfl rfl ?_;intro aR a w G1 hG HT H fin;exact kH H (Rf RH rfl fun _ H=>fin H iJ rfl)
   ·refine dB [(3,47,_)] rfl ⟨fun _ _ h=>h,aU⟩ (by kernel_rfl) zB rfl rfl ?_;intro aR a w G1 hG HT H fin;exact kH H (Ro FI 0 rfl fun _ H=>fin H iJ rfl)
   ·refine dB [] rfl trivial (by kernel_rfl) zB rfl rfl ?_;intro aR a w G1 hG HT H fin;exact kH H (Rm rfl fun _ H=>fin H iJ rfl)
   ·refine dB [(4,48,_),(5,49,_)] rfl ⟨fun _ _ h=>h,fun _ _ h=>h,aU⟩ (by kernel_rfl) zB rfl rfl ?_;intro aR a w G1 hG HT H fin;exact kH H (Ri Bd sJ rfl rfl fun _ H=>fin H iJ rfl)
   ·refine dB [(6,50,_)] rfl ⟨fun _ _ h=>h,aU⟩ (by kernel_rfl) zB rfl rfl ?_;intro aR a w G1 hG HT H fin;exact kH H (Rf RO rfl fun _ H=>fin H iJ rfl)
   ·refine dB [(7,51,_)] rfl ⟨fun _ _ h=>h,aU⟩ (by kernel_rfl) zB rfl rfl ?_;intro aR a w G1 hG HT H fin;refine iF Vy H wn rfl (hrw2.at H.hp (fun x hx=>gH _ (gH _ (List.mem_append_right _ hx))) (by rw [fV];exact hqx)) rfl ?_;clear H;intro a H;exact fin H iJ rfl
   refine dB [(8,52,_)] rfl ⟨fun _ _ h=>h,aU⟩ (by kernel_rfl) zB rfl rfl ?_;intro aR a w G1 hG HT H fin;refine s_call ahm H wn rfl (afq _ _ H.ro _ _ _ _ (hqr.mono hG) (by simpa using hqz)) rfl ?_;clear H;rintro v53 P6 a w Ay JK H;exact fin H JK (Ay)
  clear H;intro a w G pX H hv;have H:=H.aN (hv 1 45 rfl rfl) rfl;have H:=H.aN (hv 2 46 rfl rfl) rfl;obtain ⟨u53,TQ,Ay⟩:=hv 9 53 (by decide) rfl;(try dsimp only at Ay);obtain ⟨sN,n53,c53,rfl⟩:=Ay.form;have H:=H.gV TQ;clear hv;refine kH H (Ri Bd sJ rfl rfl (Rf RO rfl ?_));clear H;intro a H;refine aV Vy (2+Lo.length) (c:=Da) (vs:=[.slice sN n53 c53]) (Da.set (k2*2+1) (.slice sN n53 c53)) H wn rfl (ant [_,_] Lo _) rfl rfl rfl rfl (by simp;omega) (by rw [fV];rfl) ?_;clear H;intro w H;have H:=H.cast (arf [_,_] Lo _ _);have amS:=amT (k2*2+1) (.slice sN n53 c53);have alE:=(rR.mono pX).setAt (i:=k2) (k:=1) (r:=s.lists[k2].dat) (v:=.slice sN n53 c53) (by simp [hk3]) rfl (by decide) Ay;refine aC ⟨rfl,?_⟩;refine dR ?_;refine fO 3 H ?_;clear H;intro a H;refine aC ?_;refine cB ((k2+1,xs2.set (k2*2+1) (.slice sN n53 c53),[(bl,.cells (Da.set (k2*2+1) (.slice sN n53 c53)).toArray 93 (0,0))],_)) sB ?_ ?_
  ·(try dsimp only);exact ⟨by omega,amS,alE,fun b o h=>pX b o (iV b o h)⟩
  first|omega|(dsimp only;omega)
 intro p42
 obtain rfl:k2=s.lists.length:=by omega
 refine ak 2 ?_;intro a H;refine aS sH (cs:=[_,_,_,_]) H wn rfl rfl (H.hp.bN 0 rfl rfl) rfl ?_;clear H;intro a H;refine aV sH 1 (vs:=[_,_,_,_]) _ H wn rfl rfl rfl rfl rfl rfl rfl rfl ?_;clear H;intro w H;dsimp only [List.set,setRow] at H;refine aC ?_;refine dR ?_;refine bZ ?_;have H:=H.un (A:=[_,_]);obtain ⟨Gr,hmr,rV,H⟩:=St.mR (Li:=[_,_]++Lo) H hrw2 (rows:=s.lists.map eD.dat) (by simp) rR;obtain ⟨Gs,hms,TG,H⟩:=St.mR (Li:=[_,_]) H hrw (rows:=s.styles.map bS.dat) (by simp) ((dV.mono iV).mono hmr);refine (leave1 H results116 (.cons (kF sH (cs:=[_,_,_,_]) H rfl rfl (H.hp.bN 1 rfl rfl)) .nil) ?_).1;exact H.rt ⟨_,_,_,_,rfl,TG,rV.mono hms,(((hc18.mono hgm).mono iV).mono hmr).mono hms,(((Zk.mono hgm).mono iV).mono hmr).mono hms⟩
end
section
open Go.RowKit
theorem Yl:∀ args w,(callFunc 60 args).run prog w=.ok (.enter 60 args) w:=enters func60 rfl (by kernel_rfl)
theorem agx:∀ args w,(callFunc 116 args).run prog w=.ok (.enter 116 args) w:=enters func116 rfl (by kernel_rfl)
theorem KZ:oO prog 38 [(0,1),(1,5),(6,1),(7,4)] [.slice none 0 0,.slice none 0 0,.int .i64 0,.int .i64 0,.slice none 0 0,.slice none 0 0,.slice none 0 0,.slice none 0 0,.slice none 0 0,.slice none 0 0,.slice none 0 0]:=⟨by kernel_rfl,by kernel_rfl⟩
theorem afs (G:GH) (w0:World) (hO:fU G [] w0) (l:List ay) (v:aj) (hv:au G (.sl 11 (l.map ay.dat)) v) (hz:cu l≤4294967296) :
  Calls prog 80 #[v] w0 (fJ w0 G [] fun u G' L'=>∃ xs,bV 68 11 u l.length xs L'∧bU G' 11 (l.map ay.dat) xs):=by
 have ih:=QD 4294967297 (by omega);have hl:=FP l;refine jg (N:=5) (T:=[(0,_)]) func80 rfl ntmps80 rfl rfl hO ?_;refine ak 5 ?_;intro a H;refine gF X5 (Li:=[]) (L:=[]) H wn rfl (XR (fun x=>x) _ _ (xg H.ro) l _ _ hv (by omega) (fun y hy=>Xt (n:=4294967296) (QD 4294967296 (by omega)) (by omega) y (by have:=VP hy;omega))) rfl ?_;clear H;rintro v4 G4 L4 a w ⟨xs4,amK,alA⟩ Av H;dsimp only [List.nil_append] at H;refine aD 2 H ?_;clear H;intro a H;refine lr H results80 rfl ?_;exact H.hp.dJ ⟨xs4,amK,alA⟩
def adC (G:GH) (D:gy) (d:gG) (L:OL):Prop :=
 ∃ xf Lf xr Lr,L=Lf++Lr∧bV 68 11 (aM D.f) d.flow.length xf Lf∧bU G 11 (d.flow.map ay.dat) xf∧bV 102 3 (aM D.r) d.revs.length xr Lr∧bU G 3 (d.revs.map bX.dat) xr ∧
  fC G d.fin (aM D.p) (aM D.d) (aM D.y)∧D.ins=d.fin.marks.ins∧D.move=d.fin.marks.move∧xK G d.iw (aM D.s1) (aM D.s2) (aM D.s3) (aM D.s4)
theorem afX (G:GH) (w0:World) (hO:fU G [] w0) (D:gy) (d:gG) (hR:iG G D d) (hz:xE d) :
  Calls prog 63 #[D.val] w0 (fJ w0 G [] fun u G' L'=>∃ D':gy,u=D'.val∧adC G' D' d L'):=by
 obtain ⟨hfl,hhd,hins,hmv,om,hst⟩:=hR;obtain ⟨zf,zh,zr,zt,zs,FR⟩:=hz;refine jg (N:=16) (T:=[(0,_)]) func63 rfl ntmps63 rfl rfl hO ?_;refine ak 1 ?_;intro a H;refine dP (cs:=[_,_,_,_,_,_,_,_,_,_,_]) H wn rfl rfl rfl ?_;clear H;intro b1 a w hb1 H;refine dz fI H wn rfl ?_;clear H;intro b2 a w hb2 H;refine aD 2 H ?_;clear H;intro a H;have H:=H.dY (Pl:=[_,_]) (dM:=[_,_]) [1,0] (by decide) rfl;obtain ⟨Ga,hma,hb1',H⟩:=H.dZ;have hga:=fun j v hj=>kL hb1' 0 D.cells rfl j v hj;replace hfl:=hfl.mono hma;replace hhd:=hhd.mono hma;replace om:=om.mono hma;replace hst:=hst.mono hma
 have dN:∀ (aJ:Nat→aj × OL) (aP:Nat) (v:aj) (G G':GH),(∀ k o,G k=some o→G' k=some o)→(fun (aJ:Nat→aj × OL) (aP:Nat) (v:aj) (G:GH)=>match aP with|0=>v=(aG b1 0)|1=>v=aM D.f|2=>v=(aJ 2).1∧∃ xs,bV 68 11 v d.flow.length xs (aJ 2).2∧bU G 11 (d.flow.map ay.dat) xs|3=>v=(aG b1 1)|4=>v=pq d.fin (aM D.p) (aM D.d) (aM D.y)|5=>∃ p y z,v=.agg #[p,vi d.fin.marks.ins,vi d.fin.marks.move,y,z]∧fC G d.fin p y z|6=>v=(aG b1 6)|7=>v=aM D.r|8=>v=(aJ 8).1∧∃ xs,bV 102 3 v d.revs.length xs (aJ 8).2∧bU G 3 (d.revs.map bX.dat) xs|9=>v=(aG b1 7)|10=>v=.agg #[aM D.s1,aM D.s2,aM D.s3,aM D.s4]|11=>∃ a' b' c' d',v=.agg #[a',b',c',d']∧xK G d.iw a' b' c' d'|_=>True) aJ aP v G→(fun (aJ:Nat→aj × OL) (aP:Nat) (v:aj) (G:GH)=>match aP with|0=>v=(aG b1 0)|1=>v=aM D.f|2=>v=(aJ 2).1∧∃ xs,bV 68 11 v d.flow.length xs (aJ 2).2∧bU G 11 (d.flow.map ay.dat) xs|3=>v=(aG b1 1)|4=>v=pq d.fin (aM D.p) (aM D.d) (aM D.y)|5=>∃ p y z,v=.agg #[p,vi d.fin.marks.ins,vi d.fin.marks.move,y,z]∧fC G d.fin p y z|6=>v=(aG b1 6)|7=>v=aM D.r|8=>v=(aJ 8).1∧∃ xs,bV 102 3 v d.revs.length xs (aJ 8).2∧bU G 3 (d.revs.map bX.dat) xs|9=>v=(aG b1 7)|10=>v=.agg #[aM D.s1,aM D.s2,aM D.s3,aM D.s4]|11=>∃ a' b' c' d',v=.agg #[a',b',c',d']∧xK G d.iw a' b' c' d'|_=>True) aJ aP v G':=by
  intro aJ aP v G G' hm h
  match aP,h with
  | 0,h=>exact h
  | 1,h=>exact h
  | 2,h=>exact let ⟨h1,xs,h2,h3⟩:=h;⟨h1,xs,h2,h3.mono hm⟩
  | 3,h=>exact h
  | 4,h=>exact h
  | 5,h=>exact let ⟨p,y,z,h1,h2⟩:=h;⟨p,y,z,h1,h2.mono hm⟩
  | 6,h=>exact h
  | 7,h=>exact h
  | 8,h=>exact let ⟨h1,xs,h2,h3⟩:=h;⟨h1,xs,h2,h3.mono hm⟩
  | 9,h=>exact h
  | 10,h=>exact h
  | 11,h=>exact let ⟨p,q,y,z,h1,h2⟩:=h;⟨p,q,y,z,h1,h2.mono hm⟩
  | 12,h=>exact trivial
  | 13,h=>exact trivial
  | _+14,h=>exact trivial
 refine MJ [2,8] (hmx) [[],[0],[0,1],[],[3],(ra 0 5),[],[6],(ra 0 8),[],[9],(ra 0 11),(ra 0 12),(ra 0 13)] [12,13] (by kernel_rfl) (by kernel_rfl) (by decide) (by kernel_rfl) (fun (aJ:Nat→aj × OL) (aP:Nat) (v:aj) (G:GH)=>match aP with|0=>v=(aG b1 0)|1=>v=aM D.f|2=>v=(aJ 2).1∧∃ xs,bV 68 11 v d.flow.length xs (aJ 2).2∧bU G 11 (d.flow.map ay.dat) xs|3=>v=(aG b1 1)|4=>v=pq d.fin (aM D.p) (aM D.d) (aM D.y)|5=>∃ p y z,v=.agg #[p,vi d.fin.marks.ins,vi d.fin.marks.move,y,z]∧fC G d.fin p y z|6=>v=(aG b1 6)|7=>v=aM D.r|8=>v=(aJ 8).1∧∃ xs,bV 102 3 v d.revs.length xs (aJ 8).2∧bU G 3 (d.revs.map bX.dat) xs|9=>v=(aG b1 7)|10=>v=.agg #[aM D.s1,aM D.s2,aM D.s3,aM D.s4]|11=>∃ a' b' c' d',v=.agg #[a',b',c',d']∧xK G d.iw a' b' c' d'|_=>True) (fun m hm x y i v G hi hc h=>by
  have hm:m=2∨m=8:=by simpa using hm
  rcases hm with rfl|rfl
  ·match i,hi,hc,h with
   | 0,_,_,h=>exact h
   | 1,_,_,h=>exact h
   | 2,hi,_,_=>exact absurd hi (by decide)
   | 3,_,_,h=>exact h
   | 4,_,_,h=>exact h
   | 5,_,hc,_=>exact absurd hc (by decide)
   | 6,_,_,h=>exact h
   | 7,_,_,h=>exact h
   | 8,_,hc,_=>exact absurd hc (by decide)
   | 9,_,_,h=>exact h
   | 10,_,_,h=>exact h
   | 11,_,hc,_=>exact absurd hc (by decide)
   | 12,_,hc,_=>exact absurd hc (by decide)
   | 13,_,hc,_=>exact absurd hc (by decide)
   | _+14,_,_,_=>exact trivial
  ·match i,hi,hc,h with
   | 0,_,_,h=>exact h
   | 1,_,_,h=>exact h
   | 2,_,_,h=>exact h
   | 3,_,_,h=>exact h
   | 4,_,_,h=>exact h
   | 5,_,_,h=>exact h
   | 6,_,_,h=>exact h
   | 7,_,_,h=>exact h
   | 8,hi,_,_=>exact absurd hi (by decide)
   | 9,_,_,h=>exact h
   | 10,_,_,h=>exact h
   | 11,_,hc,_=>exact absurd hc (by decide)
   | 12,_,hc,_=>exact absurd hc (by decide)
   | 13,_,hc,_=>exact absurd hc (by decide)
   | _+14,_,_,_=>exact trivial
  ) H ?_ ?_ ?_
 ·clear H;refine aF ?_ ?_ ?_ ?_ (aF ?_ ?_ ?_ ?_ (aF ?_ ?_ ?_ ?_ (bH ?_ (bH ?_ cZ))))
  ·intro aJ dL aR a w G1 dO _ _ aL hc hG HT hv;have H:=HT;clear aL;have Hb:=H.full;have H:=Hb;clear hc;refine aD 1 H ?_;clear H;intro a H;refine aC ⟨rfl,?_⟩;exact dG (by kernel_rfl) (dN aJ) rfl rfl HT Hb hG hv (fun _ _ h=>h) (rfl) H
  ·intro aJ dL aR a w G1 dO _ _ aL hc hG HT hv;have H:=HT;clear aL;have H:=H.aN (hv 0 3 (hc 0 (by decide)) rfl) rfl;have Hb:=H.full;have H:=Hb;clear hc;refine iF pK H wn rfl (H.hp.aI (aH hG (hga 0 _ rfl))) rfl ?_;clear H;intro a H;refine aC ⟨rfl,?_⟩;exact dG (by kernel_rfl) (dN aJ) rfl rfl HT Hb hG hv (fun _ _ h=>h) (rfl) H
  ·intro _ _ _ _ _ _ _ _ hB;exact absurd hB (by decide)
  ·intro aJ dL aR a w G1 dO _ _ aL hc hG HT hv;have H:=HT;clear aL;have Hb:=H.full;have H:=Hb;clear hc;refine aD 1 H ?_;clear H;intro a H;refine aC ⟨rfl,?_⟩;exact dG (by kernel_rfl) (dN aJ) rfl rfl HT Hb hG hv (fun _ _ h=>h) (rfl) H
  ·intro aJ dL aR a w G1 dO _ _ aL hc hG HT hv;have H:=HT;clear aL;have H:=H.aN (hv 3 6 (hc 3 (by decide)) rfl) rfl;have Hb:=H.full;have H:=Hb;clear hc;refine aS dw (cs:=[aM D.p,vi d.fin.marks.ins,vi d.fin.marks.move,aM D.d,aM D.y]) H wn rfl rfl (fun j v hj=>H.hp.aI (aH hG (by rw [← hins,← hmv] at hj;exact kL hb1' 1 _ rfl j v hj))) rfl ?_;clear H;intro a H;refine aC ⟨rfl,?_⟩;exact dG (by kernel_rfl) (dN aJ) rfl rfl HT Hb hG hv (fun _ _ h=>h) (rfl) H
  ·intro aJ dL aR a w G1 dO _ _ aL hc hG HT hv;have H:=HT;clear aL;have H:=H.aN (hv 4 7 (hc 4 (by decide)) rfl) rfl;have Hb:=H.full;have H:=Hb;clear hc;refine s_call Es H wn rfl (Eo _ _ H.ro d.fin _ _ _ _ _ _ _ _ _ (hhd.mono hG) zh) rfl ?_;clear H;rintro v8 G8 a w lU nO H;refine aC ⟨rfl,?_⟩;exact dG (by kernel_rfl) (dN aJ) rfl rfl HT Hb hG hv nO (lU) H
  ·intro aJ dL aR a w G1 dO _ _ aL hc hG HT hv;have H:=HT;clear aL;have Hb:=H.full;have H:=Hb;clear hc;refine aD 1 H ?_;clear H;intro a H;refine aC ⟨rfl,?_⟩;exact dG (by kernel_rfl) (dN aJ) rfl rfl HT Hb hG hv (fun _ _ h=>h) (rfl) H
  ·intro aJ dL aR a w G1 dO _ _ aL hc hG HT hv;have H:=HT;clear aL;have H:=H.aN (hv 6 9 (hc 6 (by decide)) rfl) rfl;have Hb:=H.full;have H:=Hb;clear hc;refine iF zO H wn rfl (H.hp.aI (aH hG (hga 6 _ rfl))) rfl ?_;clear H;intro a H;refine aC ⟨rfl,?_⟩;exact dG (by kernel_rfl) (dN aJ) rfl rfl HT Hb hG hv (fun _ _ h=>h) (rfl) H
  ·intro _ _ _ _ _ _ _ _ hB;exact absurd hB (by decide)
  ·intro aJ dL aR a w G1 dO _ _ aL hc hG HT hv;have H:=HT;clear aL;have Hb:=H.full;have H:=Hb;clear hc;refine aD 1 H ?_;clear H;intro a H;refine aC ⟨rfl,?_⟩;exact dG (by kernel_rfl) (dN aJ) rfl rfl HT Hb hG hv (fun _ _ h=>h) (rfl) H
  ·intro aJ dL aR a w G1 dO _ _ aL hc hG HT hv;have H:=HT;clear aL;have H:=H.aN (hv 9 12 (hc 9 (by decide)) rfl) rfl;have Hb:=H.full;have H:=Hb;clear hc;refine aS sH (cs:=[aM D.s1,aM D.s2,aM D.s3,aM D.s4]) H wn rfl rfl (fun j v hj=>H.hp.aI (aH hG (kL hb1' 7 _ rfl j v hj))) rfl ?_;clear H;intro a H;refine aC ⟨rfl,?_⟩;exact dG (by kernel_rfl) (dN aJ) rfl rfl HT Hb hG hv (fun _ _ h=>h) (rfl) H
  ·intro aJ dL aR a w G1 dO _ _ aL hc hG HT hv;have H:=HT;clear aL;have H:=H.aN (hv 10 13 (hc 10 (by decide)) rfl) rfl;have Hb:=H.full;have H:=Hb;clear hc;refine s_call agx H wn rfl (afD _ _ H.ro d.iw _ _ _ _ (hst.mono hG) zs FR.ln FR.cn FR.vn FR.pl FR.ll) rfl ?_;clear H;rintro v14 zU a w qH wP H;refine aC ⟨rfl,?_⟩;exact dG (by kernel_rfl) (dN aJ) rfl rfl HT Hb hG hv wP (qH) H
  ·intro _ _ _ _ _ _ _ hB;exact absurd hB (by decide)
  intro _ _ _ _ _ _ _ hB;exact absurd hB (by decide)
 ·clear H;refine aF ?_ ?_ ?_ ?_ (aF ?_ ?_ ?_ ?_ (aF ?_ ?_ ?_ ?_ (bH ?_ (bH ?_ cZ))))
  ·intro hB;exact absurd hB (by decide)
  ·intro hB;exact absurd hB (by decide)
  ·intro _ aJ dL aR a w G1 dO _ hc hG HT hv;have H:=HT;have H:=H.aN (hv (.bool false,[]) 1 4 (by decide) (hc 1 (by decide)) rfl) rfl;have Hb:=H.full;have H:=Hb;clear hc;refine gF Rw (Li:=dL) (L:=[]) (H.cast (gD _).symm) wn rfl (afs _ _ (xg H.ro) d.flow _ (hfl.mono hG) (by omega)) rfl ?_;clear H;rintro v5 G5 L5 a w ⟨xs5,amL,alB⟩ kU H;have H:=H.perm uq;refine aC ⟨rfl,(v5,L5),?_⟩;exact Bz (by kernel_rfl) (dN (vo aJ 2 (v5,L5))) rfl HT Hb hG (fun j e h1 h2 h3=>hv (v5,L5) j e h1 h2 h3) kU (⟨rfl,xs5,amL,alB⟩) H
  ·intro hB;exact absurd hB (by decide)
  ·intro hB;exact absurd hB (by decide)
  ·intro hB;exact absurd hB (by decide)
  ·intro hB;exact absurd hB (by decide)
  ·intro hB;exact absurd hB (by decide)
  ·intro _ aJ dL aR a w G1 dO _ hc hG HT hv;have H:=HT;have H:=H.aN (hv (.bool false,[]) 7 10 (by decide) (hc 7 (by decide)) rfl) rfl;have Hb:=H.full;have H:=Hb;clear hc;refine gF Yl (Li:=dL) (L:=[]) (H.cast (gD _).symm) wn rfl (Xu _ _ (xg H.ro) _ _ _ _ (om.mono hG) (by simpa using zr)) rfl ?_;clear H;rintro v11 ru Ed a w ⟨IL,xU,Ho⟩ kZ H;rw [bM] at xU;have H:=H.perm uq;refine aC ⟨rfl,(v11,Ed),?_⟩;exact Bz (by kernel_rfl) (dN (vo aJ 8 (v11,Ed))) rfl HT Hb hG (fun j e h1 h2 h3=>hv (v11,Ed) j e h1 h2 h3) kZ (⟨rfl,IL,xU,Ho⟩) H
  ·intro hB;exact absurd hB (by decide)
  ·intro hB;exact absurd hB (by decide)
  ·intro hB;exact absurd hB (by decide)
  ·intro hB;exact absurd hB (by decide)
  intro hB;exact absurd hB (by decide)
 clear H;intro aJ a w G iP H hv
 simp only [oG,List.flatMap_cons,List.flatMap_nil,cond_true,gD,jd] at H
 obtain ⟨u5,EW,qb⟩:=hv 2 5 (by decide) rfl;(try dsimp only at qb);obtain ⟨h5,xf,Ig,SY⟩:=qb;obtain ⟨fA,fc,rfl,-,-⟩:=Ig.shape;have H:=H.gV EW;obtain ⟨u8,zF,lU⟩:=hv 5 8 (by decide) rfl;(try dsimp only at lU);obtain ⟨p8,y8,z8,rfl,Hu⟩:=lU;obtain ⟨a1,a2,a3,rfl⟩:=Hu.props.form;obtain ⟨a4,a5,a6,rfl⟩:=Hu.bL.form;obtain ⟨a7,a8,a9,rfl⟩:=Hu.layers.form;have H:=H.gV zF;obtain ⟨Vz,EU,wh⟩:=hv 8 11 (by decide) rfl;(try dsimp only at wh);obtain ⟨h11,xr,Ih,S9⟩:=wh;obtain ⟨rA,rc,rfl,-,-⟩:=Ih.shape;have H:=H.gV EU;obtain ⟨u14,KA,qH⟩:=hv 11 14 (by decide) rfl;(try dsimp only at qH);obtain ⟨jP,q14,y14,z14,rfl,Kw⟩:=qH;obtain ⟨c1,c2,c3,rfl⟩:=Kw.st.form;obtain ⟨c4,c5,c6,rfl⟩:=Kw.li.form;obtain ⟨c7,c8,c9,rfl⟩:=Kw.cm.form;obtain ⟨d1,d2,d3,rfl⟩:=Kw.va.form;have H:=H.gV KA;clear hv;obtain ⟨⟨vF,LF⟩,eF⟩:∃ y,y=aJ 2:=⟨_,rfl⟩;obtain ⟨⟨vR,LR⟩,eR⟩:∃ y,y=aJ 8:=⟨_,rfl⟩;rw [← eF,← eR] at H;rw [← eF] at Ig h5;rw [← eR] at Ih h11;dsimp only at H Ig Ih h5 h11;subst h5;subst h11;rw [← jd] at H;have H:=H.perm (uq (l₁:=LF++LR) (l₂:=[_]));dsimp only [lca,bG] at H;refine iy KZ [_,_,_,_,_,_,_,_,_,_,_] H wn rfl rfl rfl rfl ?_;clear H;intro a H;refine aV fI 0 (vs:=[_,_,_,_,_,_,_,_,_,_,_]) _ H wn rfl rfl rfl rfl rfl rfl rfl rfl ?_;clear H;intro w H;dsimp only [List.set,setRow] at H;refine aC ⟨rfl,?_⟩;refine dR ?_;refine bZ ?_;refine (leave1 H results63 (.cons (kF fI (cs:=[_,_,_,_,_,_,_,_,_,_,_]) H rfl rfl (H.hp.bN 0 rfl rfl)) .nil) ?_).1;exact H.hp.kE (L':=LF++LR) (Ac _ _) ⟨⟨(fA,d.flow.length,fc),(a1,a2,a3),(a4,a5,a6),(a7,a8,a9),(rA,d.revs.length,rc),(c1,c2,c3),(c4,c5,c6),(c7,c8,c9),(d1,d2,d3),d.fin.marks.ins,d.fin.marks.move⟩,rfl,xf,LF,xr,LR,rfl,Ig,SY,Ih,S9,Hu,rfl,rfl,Kw⟩
end
section
open Go.RowKit
theorem Rq:∀ args w,(callFunc 58 args).run prog w=.ok (.enter 58 args) w:=enters func58 rfl (by kernel_rfl)
theorem agr:∀ args w,(callFunc 109 args).run prog w=.ok (.enter 109 args) w:=enters func109 rfl (by kernel_rfl)
theorem GK:∀ args w,(callFunc 52 args).run prog w=.ok (.enter 52 args) w:=enters func52 rfl (by kernel_rfl)
theorem agt:∀ args w,(callFunc 112 args).run prog w=.ok (.enter 112 args) w:=enters func112 rfl (by kernel_rfl)
theorem ahh:∀ args w,(callFunc 173 args).run prog w=.ok (.enter 173 args) w:=enters func173 rfl (by kernel_rfl)
theorem ags:∀ args w,(callFunc 111 args).run prog w=.ok (.enter 111 args) w:=enters func111 rfl (by kernel_rfl)
theorem aoH {G:GH} (r:aX):rC (.func (.func 112) #[] #[]) G r.dat (decide (r.cells.length=0)):=by
 intro G1 w0 cs hm hG hr;refine iN (caps:=[]) agt ?_;obtain ⟨pA,pn,pc,dA,dn,dc,yA,yn,yc,fA,fn,fc,rfl,-,hf⟩:=hr.row;have hn:=hf.len;rw [bM] at hn;subst hn;refine eN [(0,_)] func112 rfl ntmps112 rfl rfl hG ?_;refine ak 1 ?_;intro a H;refine dP (cs:=[_,_,_,_,_,_]) H wn rfl rfl rfl ?_;clear H;intro b1 a w hb1 H;refine fH 9 H ?_;exact (dD (decide_eq_decide.2 (by omega)))
theorem afV (G:GH) (w0:World) (hG:Hold G w0) (l:List aX) (v:aj) (hv:au G (.sl 6 (l.map aX.dat)) v) (hne:∀ r∈l,r.cells≠[]) :
  Calls prog 109 #[v,.func (.func 112) #[] #[]] w0 (bB w0 G fun u G'=>au G' (.sl 6 (l.map aX.dat)) u):=by
 obtain ⟨A,n,c,rfl⟩:=hv.form
 have hno:l.findIdx? (fun r=>decide (r.cells.length=0))=none:=by
  rw [List.findIdx?_eq_none_iff];intro r hr;exact jc fun h=>hne r hr (List.length_eq_zero_iff.1 h)
 refine eN [(0,_),(1,_)] func109 rfl ntmps109 rfl rfl hG ?_;refine ak 6 ?_;intro a H;refine s_call ahg H wn rfl (anw _ _ H.ro l (fun r=>decide (r.cells.length=0)) _ _ hv (fun r _=>aoH r)) rfl ?_;clear H;rintro v10 zS a w rfl BN H;rw [hno] at H;refine gQ 7 H ?_ ?_ <;> clear H
 ·intro pI
  refine aQ 4 ?_;exact (hv.mono BN)
 intro pI
 intro a H;exact absurd rfl pI
def Eh (n:Nat):Prop:=∀ (G:GH) (w0:World),Hold G w0→∀ (l:List ay) (v:aj),au G (.sl 11 (l.map ay.dat)) v→tQ l→cu l < n →
 Calls prog 58 #[v] w0 (bB w0 G fun u G'=>au G' (.sl 11 ((lW l).map ay.dat)) u)
theorem aoC {n:Nat} (ih:Eh n) (hn:n≤4294967296) (G:GH) (w0:World) (hG:Hold G w0) (x:bC) (cs:List aj) (hv:aW G x.dat cs) (hne:DI x) (hz:bY x.dat < n+1) :
  Calls prog 173 #[.agg cs.toArray] w0 (bB w0 G fun u G'=>∃ cs',u=.agg cs'.toArray∧aW G' (nC x).dat cs'):=by
 have he:=CJ x;obtain ⟨pA,pn,pc,dA,dn,dc,yA,yn,yc,fA,fn,fc,rfl,hh,hf⟩:=hv.cell;rw [aos] at hne;refine eN [(0,_)] func173 rfl ntmps173 rfl rfl hG ?_;refine ak 1 ?_;intro a H;refine dP (cs:=[_,_,_,_,_,_,_]) H wn rfl rfl rfl ?_;clear H;intro b1 a w hb1 H;refine dz jQ H wn rfl ?_;clear H;intro b2 a w hb2 H;refine aD 2 H ?_;clear H
 have dN:∀ (aP:Nat) (v:aj) (G G':GH),(∀ k o,G k=some o→G' k=some o)→(fun (aP:Nat) (v:aj) (G:GH)=>match aP with|0=>v=(aG b1 0)|1=>v=vi x.id|2=>v=(aG b1 1)|3=>v=.agg #[.slice pA pn pc,vi x.head.marks.ins,vi x.head.marks.move,.slice dA dn dc,.slice yA yn yc]|4=>∃ p d l,v=.agg #[p,vi x.head.marks.ins,vi x.head.marks.move,d,l]∧fC G x.head p d l|5=>v=(aG b1 6)|6=>v=.slice fA fn fc|7=>au G (.sl 11 ((lW x.flow).map ay.dat)) v|_=>True) aP v G→(fun (aP:Nat) (v:aj) (G:GH)=>match aP with|0=>v=(aG b1 0)|1=>v=vi x.id|2=>v=(aG b1 1)|3=>v=.agg #[.slice pA pn pc,vi x.head.marks.ins,vi x.head.marks.move,.slice dA dn dc,.slice yA yn yc]|4=>∃ p d l,v=.agg #[p,vi x.head.marks.ins,vi x.head.marks.move,d,l]∧fC G x.head p d l|5=>v=(aG b1 6)|6=>v=.slice fA fn fc|7=>au G (.sl 11 ((lW x.flow).map ay.dat)) v|_=>True) aP v G':=by
  intro aP v G G' hm h
  match aP,h with
  | 0,h=>exact h
  | 1,h=>exact h
  | 2,h=>exact h
  | 3,h=>exact h
  | 4,h=>exact let ⟨p,d,l,h1,h2⟩:=h;⟨p,d,l,h1,h2.mono hm⟩
  | 5,h=>exact h
  | 6,h=>exact h
  | 7,h=>exact au.mono hm h
  | 8,h=>exact trivial
  | 9,h=>exact trivial
  | _+10,h=>exact trivial
 intro a H;refine yR (hmx) [[],[0],[],[2],[2,3],[],[5],(ra 2 5),(ra 0 8),(ra 0 9)] [8,9] (by kernel_rfl) (by kernel_rfl) (fun (aP:Nat) (v:aj) (G:GH)=>match aP with|0=>v=(aG b1 0)|1=>v=vi x.id|2=>v=(aG b1 1)|3=>v=.agg #[.slice pA pn pc,vi x.head.marks.ins,vi x.head.marks.move,.slice dA dn dc,.slice yA yn yc]|4=>∃ p d l,v=.agg #[p,vi x.head.marks.ins,vi x.head.marks.move,d,l]∧fC G x.head p d l|5=>v=(aG b1 6)|6=>v=.slice fA fn fc|7=>au G (.sl 11 ((lW x.flow).map ay.dat)) v|_=>True) dN H ?_ ?_
 ·clear H;refine aF ?_ ?_ ?_ ?_ (aF ?_ ?_ ?_ ?_ (bH (bQ rfl) (bH (bQ rfl) cZ)))
  ·refine dB [] rfl trivial (by kernel_rfl) dN rfl rfl ?_;intro aR a w G1 hG HT H fin;exact kH H (Rf YG rfl fun _ H=>fin H iJ rfl)
  ·refine dB [(0,3,_)] rfl ⟨fun _ _ h=>h,aU⟩ (by kernel_rfl) dN rfl rfl ?_;intro aR a w G1 hG HT H fin;exact kH H (Ro bR 1 rfl fun _ H=>fin H iJ rfl)
  ·refine dB [] rfl trivial (by kernel_rfl) dN rfl rfl ?_;intro aR a w G1 hG HT H fin;exact kH H (Rf YH rfl fun _ H=>fin H iJ rfl)
  ·refine dB [(2,5,_)] rfl ⟨fun _ _ h=>h,aU⟩ (by kernel_rfl) dN rfl rfl ?_;intro aR a w G1 hG HT H fin;refine aS dw (cs:=[_,_,_,_,_]) H wn rfl rfl (H.hp.bN 1 rfl rfl) rfl ?_;clear H;intro a H;exact fin H iJ rfl
  ·refine dB [(3,6,_)] rfl ⟨fun _ _ h=>h,aU⟩ (by kernel_rfl) dN rfl rfl ?_;intro aR a w G1 hG HT H fin;refine s_call Es H wn rfl (Eo _ _ H.ro x.head _ _ _ _ _ _ _ _ _ (hh.mono hG) (by omega)) rfl ?_;clear H;rintro v7 G7 a w BU JL H;exact fin H JL (BU)
  ·refine dB [] rfl trivial (by kernel_rfl) dN rfl rfl ?_;intro aR a w G1 hG HT H fin;exact kH H (Rf YJ rfl fun _ H=>fin H iJ rfl)
  ·refine dB [(5,8,_)] rfl ⟨fun _ _ h=>h,aU⟩ (by kernel_rfl) dN rfl rfl ?_;intro aR a w G1 hG HT H fin;exact kH H (Ro pK 1 rfl fun _ H=>fin H iJ rfl)
  refine dB [(6,9,_)] rfl ⟨fun _ _ h=>h,aU⟩ (by kernel_rfl) dN rfl rfl ?_;intro aR a w G1 hG HT H fin;refine s_call Rq H wn rfl (ih _ _ H.ro x.flow _ (hf.mono hG) hne (by omega)) rfl ?_;clear H;rintro v10 zS a w rU pX H;exact fin H pX (rU)
 clear H;intro a w G iP H hv;have H:=H.aN (hv 1 4 rfl rfl) rfl;obtain ⟨u7,TR,BU⟩:=hv 4 7 (by decide) rfl;(try dsimp only at BU);obtain ⟨p7,d7,l7,rfl,zo⟩:=BU;obtain ⟨a1,a2,a3,rfl⟩:=zo.props.form;obtain ⟨a4,a5,a6,rfl⟩:=zo.bL.form;obtain ⟨a7,a8,a9,rfl⟩:=zo.layers.form;have H:=H.gV TR;obtain ⟨u10,Ky,rU⟩:=hv 7 10 (by decide) rfl;(try dsimp only at rU);obtain ⟨VU,n10,c10,rfl⟩:=rU.form;have H:=H.gV Ky;clear hv;refine iy Pb [_,_,_,_,_,_,_] H wn rfl rfl rfl rfl ?_;clear H;intro a H;refine aV jQ 0 (vs:=[_,_,_,_,_,_,_]) _ H wn rfl rfl rfl rfl rfl rfl rfl rfl ?_;clear H;intro w H;dsimp only [List.set,setRow] at H;refine aC ⟨rfl,?_⟩;refine dR ?_;refine bZ ?_;refine (leave1 H results173 (.cons (kF jQ (cs:=[_,_,_,_,_,_,_]) H rfl rfl (H.hp.bN 0 rfl rfl)) .nil) ?_).1;exact H.rt ⟨_,rfl,by rw [aoo];exact aW.KM (x:=.mk x.id x.head (lW x.flow)) zo rU⟩
theorem aoD {n:Nat} (ih:Eh n) (hn:n≤4294967296) {G:GH} {w0:World} (x:bC) (hne:DI x) (hz:bY x.dat < n+1):Bh (.func (.func 173) #[] #[]) w0 G x.dat (nC x).dat:=by
 intro G1 w1 cs hm1 hG1 hr;have h:=aoC ih hn _ _ hG1 x cs hr hne hz;have h2:=iN (P:=prog) (caps:=[]) (args:=[.agg cs.toArray]) ahh h;exact h2
theorem aoE {n:Nat} (ih:Eh n) (hn:n≤4294967296) (G:GH) (w0:World) (hG:Hold G w0) (x:aX) (cs:List aj) (hv:aW G x.dat cs) (hne:DK x) (hz:bY x.dat < n+1) :
  Calls prog 111 #[.agg cs.toArray] w0 (bB w0 G fun u G'=>∃ cs',u=.agg cs'.toArray∧aW G' (nR x).dat cs'):=by
 have he:=CK x;have hl:=IQ x.cells;obtain ⟨pA,pn,pc,dA,dn,dc,yA,yn,yc,fA,fn,fc,rfl,hh,hf⟩:=hv.row;rw [abf] at hne;refine eN [(0,_)] func111 rfl ntmps111 rfl rfl hG ?_;refine ak 1 ?_;intro a H;refine dP (cs:=[_,_,_,_,_,_]) H wn rfl rfl rfl ?_;clear H;intro b1 a w hb1 H;refine dz jL H wn rfl ?_;clear H;intro b2 a w hb2 H;refine aD 2 H ?_;clear H
 have dN:∀ (aP:Nat) (v:aj) (G G':GH),(∀ k o,G k=some o→G' k=some o)→(fun (aP:Nat) (v:aj) (G:GH)=>match aP with|0=>v=(aG b1 0)|1=>v=.agg #[.slice pA pn pc,vi x.head.marks.ins,vi x.head.marks.move,.slice dA dn dc,.slice yA yn yc]|2=>∃ p d l,v=.agg #[p,vi x.head.marks.ins,vi x.head.marks.move,d,l]∧fC G x.head p d l|3=>v=(aG b1 5)|4=>v=.slice fA fn fc|5=>au G (.sl 7 (x.cells.map fun y=>(nC y).dat)) v|_=>True) aP v G→(fun (aP:Nat) (v:aj) (G:GH)=>match aP with|0=>v=(aG b1 0)|1=>v=.agg #[.slice pA pn pc,vi x.head.marks.ins,vi x.head.marks.move,.slice dA dn dc,.slice yA yn yc]|2=>∃ p d l,v=.agg #[p,vi x.head.marks.ins,vi x.head.marks.move,d,l]∧fC G x.head p d l|3=>v=(aG b1 5)|4=>v=.slice fA fn fc|5=>au G (.sl 7 (x.cells.map fun y=>(nC y).dat)) v|_=>True) aP v G':=by
  intro aP v G G' hm h
  match aP,h with
  | 0,h=>exact h
  | 1,h=>exact h
  | 2,h=>exact let ⟨p,d,l,h1,h2⟩:=h;⟨p,d,l,h1,h2.mono hm⟩
  | 3,h=>exact h
  | 4,h=>exact h
  | 5,h=>exact au.mono hm h
  | 6,h=>exact trivial
  | 7,h=>exact trivial
  | _+8,h=>exact trivial
 intro a H;refine yR (hmx) [[],[0],[0,1],[],[3],(ra 0 5),(ra 0 6),(ra 0 7)] [6,7] (by kernel_rfl) (by kernel_rfl) (fun (aP:Nat) (v:aj) (G:GH)=>match aP with|0=>v=(aG b1 0)|1=>v=.agg #[.slice pA pn pc,vi x.head.marks.ins,vi x.head.marks.move,.slice dA dn dc,.slice yA yn yc]|2=>∃ p d l,v=.agg #[p,vi x.head.marks.ins,vi x.head.marks.move,d,l]∧fC G x.head p d l|3=>v=(aG b1 5)|4=>v=.slice fA fn fc|5=>au G (.sl 7 (x.cells.map fun y=>(nC y).dat)) v|_=>True) dN H ?_ ?_
 ·clear H;refine aF ?_ ?_ ?_ ?_ (aF ?_ ?_ (bQ rfl) (bQ rfl) cZ)
  ·refine dB [] rfl trivial (by kernel_rfl) dN rfl rfl ?_;intro aR a w G1 hG HT H fin;exact kH H (Rf RN rfl fun _ H=>fin H iJ rfl)
  ·refine dB [(0,3,_)] rfl ⟨fun _ _ h=>h,aU⟩ (by kernel_rfl) dN rfl rfl ?_;intro aR a w G1 hG HT H fin;refine aS dw (cs:=[_,_,_,_,_]) H wn rfl rfl (H.hp.bN 1 rfl rfl) rfl ?_;clear H;intro a H;exact fin H iJ rfl
  ·refine dB [(1,4,_)] rfl ⟨fun _ _ h=>h,aU⟩ (by kernel_rfl) dN rfl rfl ?_;intro aR a w G1 hG HT H fin;refine s_call Es H wn rfl (Eo _ _ H.ro x.head _ _ _ _ _ _ _ _ _ (hh.mono hG) (by omega)) rfl ?_;clear H;rintro v5 G5 a w qb kU H;exact fin H kU (qb)
  ·refine dB [] rfl trivial (by kernel_rfl) dN rfl rfl ?_;intro aR a w G1 hG HT H fin;exact kH H (Rf JA rfl fun _ H=>fin H iJ rfl)
  ·refine dB [(3,6,_)] rfl ⟨fun _ _ h=>h,aU⟩ (by kernel_rfl) dN rfl rfl ?_;intro aR a w G1 hG HT H fin;exact kH H (Ro IE 1 rfl fun _ H=>fin H iJ rfl)
  refine dB [(4,7,_)] rfl ⟨fun _ _ h=>h,aU⟩ (by kernel_rfl) dN rfl rfl ?_;intro aR a w G1 hG HT H fin;refine s_call X7 H wn rfl (XT nC _ _ H.ro x.cells _ _ (hf.mono hG) (by omega) (fun y hy=>aoD ih hn y (abd hne.2 y hy) (by have:=adr hy;omega))) rfl ?_;clear H;rintro v8 G8 a w lU nO H;exact fin H nO (lU)
 clear H;intro a w G iP H hv;obtain ⟨u5,EW,qb⟩:=hv 2 5 (by decide) rfl;(try dsimp only at qb);obtain ⟨p5,d5,l5,rfl,qU⟩:=qb;obtain ⟨a1,a2,a3,rfl⟩:=qU.props.form;obtain ⟨a4,a5,a6,rfl⟩:=qU.bL.form;obtain ⟨a7,a8,a9,rfl⟩:=qU.layers.form;have H:=H.gV EW;obtain ⟨u8,zF,lU⟩:=hv 5 8 (by decide) rfl;(try dsimp only at lU);obtain ⟨A8,n8,c8,rfl⟩:=lU.form;have H:=H.gV zF;clear hv;refine iy O9 [_,_,_,_,_,_] H wn rfl rfl rfl rfl ?_;clear H;intro a H;refine aV jL 0 (vs:=[_,_,_,_,_,_]) _ H wn rfl rfl rfl rfl rfl rfl rfl rfl ?_;clear H;intro w H;dsimp only [List.set,setRow] at H;refine aC ⟨rfl,?_⟩;refine dR ?_;refine bZ ?_;refine (leave1 H results111 (.cons (kF jL (cs:=[_,_,_,_,_,_]) H rfl rfl (H.hp.bN 0 rfl rfl)) .nil) ?_).1;exact H.rt ⟨_,rfl,by rw [aaX];exact aW.KN (x:=.mk x.head (x.cells.map nC)) qU (by show au _ (.sl 7 ((x.cells.map nC).map bC.dat)) _;rw [List.map_map];exact lU)⟩
theorem aoF {n:Nat} (ih:Eh n) (hn:n≤4294967296) {G:GH} {w0:World} (x:aX) (hne:DK x) (hz:bY x.dat < n+1):Bh (.func (.func 111) #[] #[]) w0 G x.dat (nR x).dat:=by
 intro G1 w1 cs hm1 hG1 hr;have h:=aoE ih hn _ _ hG1 x cs hr hne hz;have h2:=iN (P:=prog) (caps:=[]) (args:=[.agg cs.toArray]) ags h;exact h2
theorem joined {G:GH} {o:List ay} {z y:ay} {x0:List aj} {s p d q f r:aj} (hc:bU G 11 (o.map ay.dat) x0) (hl:x0.length=o.length*11) (hh:fC G z.head p d q) (hf:au G (.sl 11 (z.flow.map ay.dat)) f) (hr:au G (.sl 6 (z.rows.map aX.dat)) r) (hs:s=.string (z.text++y.text)) :
  bU G 11 ((o++[qg z y]).map ay.dat) ((x0++[vi z.kind,vi z.code,vi z.id,.string z.text,p,vi z.head.marks.ins,vi z.head.marks.move,d,q,f,r]).set (((o++[z]).length - 1)*11+3) s):=by
 rw [kQ,iC,List.length_singleton,Nat.add_sub_cancel,List.set_append_right _ _ (by omega),hl,Jd];refine hc.snoc ?_ rfl;rw [hs];exact aW.mkItem (x:=qg z y) hh hf hr
theorem MG {s:ByteArray} {k:Int} {n:Nat} (hk:k=1):(s.toList == (⟨#[]⟩:ByteArray).toList)=true↔(k=7∧n=0)∨(k=1∧s.size=0):=by
 rw [beq_iff_eq,ByteArray.toList_eq,ByteArray.toList_eq]
 constructor
 ·intro h;refine .inr ⟨hk,?_⟩;have:=aB List.length h
  simpa using this
 rintro (⟨h,-⟩|⟨-,h⟩)
 ·omega
 have:s.data.toList.length=0:=by simpa using h
 rw [List.length_eq_zero_iff.1 this]
theorem aoG {n:Nat} (ih:Eh n) (hn:n≤1073741824):Eh (n+1):=by
  intro G w0 hG l v hv hne hz;obtain ⟨A,c,rfl,hc1,hc2,hg⟩:=hv.slice
  have hml:4294967297≤maxLen:=by decide
  have htl:ng l≤cu l:=acJ l;have hll:l.length≤ng l:=Ut l;rw [bM] at *;refine eN [(0,_)] func58 rfl ntmps58 rfl rfl hG ?_;refine ak 13 ?_;intro a H;refine eH (ι:=Nat × aj × List aj × OL × GH) (Tc:=[(7,_),(8,_)]) (Lc:=[]) (fun gh=>[(3,gh.2.1),(9,vi gh.1)]) (fun gh=>[]++gh.2.2.2.1) (fun gh=>gh.2.2.2.2) (fun gh=>gh.1≤l.length∧bV 68 11 gh.2.1 (sj l gh.1).length gh.2.2.1 gh.2.2.2.1∧bU gh.2.2.2.2 11 ((sj l gh.1).map ay.dat) gh.2.2.1∧(∀ b o,G b=some o→gh.2.2.2.2 b=some o)) (fun gh=>l.length - gh.1) ((0,.slice none 0 0,[],[],G)) sB ?_ ?_
  · exact ⟨by omega,bV.nil,bU.nil,fun _ _ h=>h⟩
  clear H;rintro ⟨k,v,xs,Lo,g⟩ a w hI H;dsimp only at hI H;obtain ⟨hk,hrw,dV,hgm⟩:=hI;have hol:=aoR hk;obtain ⟨out,hout⟩:∃ o,o=sj l k:=⟨_,rfl⟩;rw [← hout] at hrw dV hol;dsimp only [lca,bG] at H;refine dQ 4 H ?_ ?_ <;> clear H
  · intro iD
    have hk2:k < l.length:=by omega
    have hos:=abr hk2;have hot:=UO (l:=l) (k:=k) (by omega);have htt:=acK l (k+1);rw [fQ hk2,FC] at htt
    simp only [ng] at htt
    rw [← hout] at hos hot;obtain ⟨vA,vc,rfl,-,-⟩:=hrw.shape;obtain ⟨b,o,pA,pn,pc,dA,dn,dc,yA,yn,yc,fA,fn,fc,rA,rn,rc,rfl,hrow,hhd,hfl,hrs⟩:=Eu hk2 hg;replace hrow:=fun j u hj=>aH hgm (hrow j u hj);have hnx:=abe hne _ (lD hk2);rw [aot] at hnx;obtain ⟨hnf,hnr⟩:=hnx;have hzi:=IU hk2;have hze:=yJ l[k];have hrl:=IV l[k].rows
    have amG:∀ r∈l[k].rows.map nR,r.cells≠[]:=fun r hr=>by
      obtain ⟨x,hx,rfl⟩:=List.mem_map.1 hr;have h1:=UH hnr x hx;rw [abf] at h1;rw [aaX];exact fun e=>h1.1 (List.map_eq_nil_iff.1 e)
    refine ak 5 ?_;intro a H;refine aS gB (cs:=[_,_,_,_,_,_,_,_,_,_,_]) H wn rfl rfl (fun j v hj=>H.hp.aI (hrow j v hj)) rfl ?_;clear H;intro a H;refine dz gB H wn rfl ?_;clear H;intro b5 a w hb5 H;refine aV gB 0 (vs:=[_,_,_,_,_,_,_,_,_,_,_]) _ H wn rfl rfl rfl rfl rfl rfl rfl rfl ?_;clear H;intro w H;dsimp only [List.set,setRow] at H;refine aD 3 H ?_;clear H;intro a H;refine aS dw (cs:=[_,_,_,_,_]) H wn rfl rfl (H.hp.bN 0 rfl rfl) rfl ?_;clear H;intro a H;refine s_call Es H wn rfl (Eo _ _ H.ro _ _ _ _ _ _ _ _ _ _ (hhd.mono hgm) (by omega)) rfl ?_;clear H;rintro v15 Bn a w ⟨qX,d15,l15,rfl,Hr⟩ zq H;obtain ⟨a1,a2,a3,rfl⟩:=Hr.props.form;obtain ⟨a4,a5,a6,rfl⟩:=Hr.bL.form;obtain ⟨a7,a8,a9,rfl⟩:=Hr.layers.form;refine aD 1 H ?_;clear H;intro a H;refine aV dw 0 (vs:=[_,_,_,_,_]) _ H wn rfl rfl rfl rfl rfl rfl rfl rfl ?_;clear H;intro w H;dsimp only [List.set,setRow] at H;refine aD 4 H ?_;clear H;intro a H;refine s_call Rq H wn rfl (ih _ _ H.ro l[k].flow _ (hfl.mono fun b o h=>zq b o (hgm b o h)) hnf (by omega)) rfl ?_;clear H;rintro v19 FX a w Kk qF H;obtain ⟨FT,n19,c19,rfl⟩:=Kk.form;refine aD 1 H ?_;clear H;intro a H;refine aV pK 0 (vs:=[_]) _ H wn rfl rfl rfl rfl rfl rfl rfl rfl ?_;clear H;intro w H;dsimp only [List.set,setRow] at H;refine aD 4 H ?_;clear H;intro a H;refine s_call XY H wn rfl (XU nR _ _ H.ro l[k].rows _ _ (hrs.mono fun b o h=>qF b o (zq b o (hgm b o h))) (by omega) (fun x hx=>aoF ih (by omega) x (UH hnr x hx) (by have:=adv hx;omega))) rfl ?_;clear H;rintro v23 V7 a w Tx Dj H;rw [show (l[k].rows.map fun x=>(nR x).dat)=(l[k].rows.map nR).map aX.dat by rw [List.map_map];rfl] at Tx;obtain ⟨A23,n23,c23,rfl⟩:=Tx.form;refine s_call agr H wn rfl (afV _ _ H.ro (l[k].rows.map nR) _ Tx amG) rfl ?_;clear H;rintro v24 yN a w Tz mX H;obtain ⟨PO,n24,c24,rfl⟩:=Tz.form;have ZO:=Tz.len;rw [bM,bM] at ZO;subst ZO;refine aD 1 H ?_;clear H;intro a H;refine aV Ll 0 (vs:=[_]) _ H wn rfl rfl rfl rfl rfl rfl rfl rfl ?_;clear H;intro w H;dsimp only [List.set,setRow] at H;refine aC ?_;refine dR ?_;obtain ⟨y,hy⟩:∃ y,y=nI l[k]:=⟨_,rfl⟩;have hye:=hy.trans (aaW l[k])
    have hyk:y.kind=l[k].kind:=by rw [hye];rfl
    have KE:y.text=l[k].text:=by rw [hye];rfl
    have Ii:y.head=l[k].head:=by rw [hye];rfl
    have Og:y.rows.length=l[k].rows.length:=by rw [hye];simp [ay.rows]
    rw [← hy] at hos;obtain ⟨QJ,NH⟩:∃ x,x=[vi l[k].kind,vi l[k].code,vi l[k].id,.string l[k].text,.slice a1 a2 a3,vi l[k].head.marks.ins,vi l[k].head.marks.move,.slice a4 a5 a6,.slice a7 a8 a9,.slice FT n19 c19,.slice PO l[k].rows.length c24]:=⟨_,rfl⟩
    have aad:aW yN y.dat QJ:=by
      rw [NH,hye];exact aW.mkItem (x:=.mk l[k].kind l[k].code l[k].id l[k].text l[k].head (lW l[k].flow) (l[k].rows.map nR)) (Hr.mono fun b o h=>mX b o (Dj b o (qF b o h))) (Kk.mono fun b o h=>mX b o (Dj b o h)) Tz
    have ND:=dV.mono fun b o h=>mX b o (Dj b o (qF b o (zq b o h)));have Zr:∀ b o,G b=some o→yN b=some o:=fun b o h=>mX b o (Dj b o (qF b o (zq b o (hgm b o h))));refine fO 6 H ?_;clear H;intro a H;refine qz (ι:=Bool) (Tc:=[(3,_),(5,_),(6,_),(7,_),(8,_),(9,_)]) (Lc:=[]) (fun gh=>[(32,.bool gh)]) (fun gh=>[(b5,.cells [vi l[k].kind,vi l[k].code,vi l[k].id,.string l[k].text,.slice a1 a2 a3,vi l[k].head.marks.ins,vi l[k].head.marks.move,.slice a4 a5 a6,.slice a7 a8 a9,.slice FT n19 c19,.slice PO l[k].rows.length c24].toArray 68 (0,0))]++Lo) (fun gh=>yN) (fun gh=>gh=true↔uz y) sB ?_ ?_
    · refine Ak 5 36 H ?_ ?_ <;> clear H
      · intro p36
        refine lT 6 42 ?_ ?_
        · intro p42
          refine ak 10 ?_;intro a H;refine aC ?_;refine ⟨_,sB,?_⟩;rw [uz,hyk,Og,KE]
          first
            | exact ⟨fun _=>.inl ⟨p36,by omega⟩,fun _=>by first|rfl|exact iT p42⟩
            | exact ⟨fun h=>(by cases h),fun h=>(by exfalso;omega)⟩
            | exact MG p46
            | fail
        intro p42
        refine lT 4 46 ?_ ?_
        · intro p46
          intro a H;exfalso;omega
        intro p46
        refine ak 6 ?_;intro a H;refine aC ?_;refine ⟨_,sB,?_⟩;rw [uz,hyk,Og,KE]
        first
          | exact ⟨fun _=>.inl ⟨p36,by omega⟩,fun _=>by first|rfl|exact iT p42⟩
          | exact ⟨fun h=>(by cases h),fun h=>(by exfalso;omega)⟩
          | exact MG p46
          | fail
      intro p36
      refine ak 6 ?_;intro a H;refine Iz BD H (wg H rfl rfl rfl) rfl rfl ?_;clear H;intro a H;refine iF bR H (wg H rfl rfl rfl) rfl (H.hp.qI 0 rfl rfl) rfl ?_;clear H;intro a H;refine Fw H (wg H rfl rfl rfl) rfl rfl rfl rfl ?_;clear H;intro a H;refine Fy H (wg H rfl rfl rfl) rfl rfl ?_;clear H;refine jV 0 46 ?_ ?_
      · intro h46
        try have p46:=dT h46
        refine ak 2 ?_;intro a H;refine AY H (wg H rfl rfl h46) rfl rfl rfl ?_;clear H;intro a H;refine KW H (wg H rfl rfl rfl) rfl h46 rfl rfl ?_;clear H;refine ak 2 ?_;intro a H;refine aC ?_;refine ⟨_,sB,?_⟩;rw [uz,hyk,Og,KE]
        first
          | exact ⟨fun _=>.inl ⟨p36,by omega⟩,fun _=>by first|rfl|exact iT p42⟩
          | exact ⟨fun h=>(by cases h),fun h=>(by exfalso;omega)⟩
          | exact MG p46
          | fail
      intro h46
      try have p46:=dF h46
      refine ak 3 ?_;intro a H;refine O5 H (wg H rfl rfl rfl) rfl h46 rfl rfl ?_;clear H;refine ak 2 ?_;intro a H;refine aC ?_;refine ⟨_,sB,?_⟩;rw [uz,hyk,Og,KE]
      first
        | exact ⟨fun _=>.inl ⟨p36,by omega⟩,fun _=>by first|rfl|exact iT p42⟩
        | exact ⟨fun h=>(by cases h),fun h=>(by exfalso;omega)⟩
        | exact MG p46
        | fail
    clear H;intro db a w hI H;dsimp only [lca,bG] at H;refine dQ 0 H ?_ ?_ <;> clear H
    · intro p32
      have hdp:=hI.1 (by assumption);rw [Qn hdp] at hos;refine ak 4 ?_;intro a H;refine aC ?_;refine cB ((k+1,_,xs,Lo,_)) (by exact (H.dY (Pl:=[_]) (dM:=[]) [] (by decide) rfl).sub ⟨rfl,rfl,rfl,rfl,aU⟩) ?_ ?_
      · (try dsimp only);exact ⟨by omega,by rw [hos];exact hrw,by rw [hos];exact ND,Zr⟩
      first|omega|(dsimp only;omega)
    intro p32
    have hnd:¬ uz y:=fun h=>by have:=hI.2 h;simp_all
    obtain ⟨bo,pk,pt,pp,pd,pl,wm⟩:∃ (bo:Nat) (pk:dW × Int) (pt:ByteArray) (pp pd pl:aj),0 < (out.length:Int)→∃ (o:List ay) (z:ay) (x0:List aj) (f r:aj),out=o++[z]∧vA=some ⟨bo,0,none⟩∧pk=(z.head,z.kind)∧pt=z.text ∧
        xs=x0++[vi z.kind,vi z.code,vi z.id,.string z.text,pp,vi z.head.marks.ins,vi z.head.marks.move,pd,pl,f,r]∧x0.length=o.length*11∧bU yN 11 (o.map ay.dat) x0∧fC yN z.head pp pd pl∧au yN (.sl 11 (z.flow.map ay.dat)) f∧au yN (.sl 6 (z.rows.map aX.dat)) r ∧
        ∀ j u,[vi pk.2,vi z.code,vi z.id,.string pt,pp,vi pk.1.marks.ins,vi pk.1.marks.move,pd,pl][j]?=some u→xs[(out.length - 1)*11+j]?=some u:=by
      by_cases h0:0 < out.length
      · obtain ⟨bo,hbo⟩:=hrw.ptr h0;obtain ⟨o,z,e⟩:∃ o z,out=o++[z]:=⟨_,_,(List.dropLast_concat_getLast (fun e=>by rw [e] at h0;simp at h0)).symm⟩;rw [e,kQ] at ND;obtain ⟨x0,cs,hxs,hc0,hrz,hcl,hxl⟩:=ND.arH;obtain ⟨qA,qn,qc,sA,sn,sc,tA,tn,tc,GQ,Hf,GR,rA2,rn2,rc2,rfl,hh,hf2,hr2⟩:=hrz.item;rw [bM] at hxl;refine ⟨bo,(z.head,z.kind),z.text,.slice qA qn qc,.slice sA sn sc,.slice tA tn tc,fun _=>⟨o,z,x0,_,_,e,hbo,rfl,rfl,hxs,hxl,hc0,hh,hf2,hr2,fun j u hj=>?_⟩⟩;rw [hxs,e,iC,List.length_singleton,Nat.add_sub_cancel,rF (by omega),hxl,Jd];rw [← hj]
        match j,hj with
        | 0,hj=>rfl
        | 1,hj=>rfl
        | 2,hj=>rfl
        | 3,hj=>rfl
        | 4,hj=>rfl
        | 5,hj=>rfl
        | 6,hj=>rfl
        | 7,hj=>rfl
        | 8,hj=>rfl
        | _+9,hj=>simp at hj
      exact ⟨0,(⟨[],⟨0,0,[],[]⟩⟩,0),⟨#[]⟩,.slice none 0 0,.slice none 0 0,.slice none 0 0,fun h=>by omega⟩
    have KD:0 < (out.length:Int)→vA=some ⟨bo,0,none⟩:=fun h=>by obtain ⟨_,_,_,_,_,_,e,_⟩:=wm h;exact e
    intro a H;refine qz (ι:=Bool × GH) (Tc:=[(3,_),(5,_),(6,_),(7,_),(8,_),(9,_)]) (Lc:=[]) (fun gh=>[(52,.bool gh.1)]) (fun gh=>[(b5,.cells [vi l[k].kind,vi l[k].code,vi l[k].id,.string l[k].text,.slice a1 a2 a3,vi l[k].head.marks.ins,vi l[k].head.marks.move,.slice a4 a5 a6,.slice a7 a8 a9,.slice FT n19 c19,.slice PO l[k].rows.length c24].toArray 68 (0,0))]++Lo) (fun gh=>gh.2) (fun gh=>(gh.1=true→(l[k].kind=1∧0 < (out.length:Int)∧pk.2=1∧pk.1=l[k].head))∧(gh.1=false→sj l (k+1)=out++[y])∧(∀ b o,yN b=some o→gh.2 b=some o)) sB ?_ ?_
    · skip
      by_cases c1:l[k].kind=1
      · skip
        by_cases c2:0 < (out.length:Int)
        · skip
          by_cases c3:pk.2=1
          · skip
            by_cases c4:pk.1=l[k].head
            · refine dI hmx [[],[0],[0,1],[0,1,2],(ra 0 4),(ra 0 5),(ra 0 6),(ra 0 7),(ra 0 8),(ra 0 8),(ra 0 8++[9]),(ra 0 11),(ra 0 12),(ra 0 13),(ra 0 14),(ra 0 15),(ra 0 16),(ra 0 17),(ra 0 17),(ra 0 17++[18]),(ra 0 20),(ra 0 21),(ra 0 22),(ra 0 17),(ra 0 17++[23]),(ra 0 25),(ra 0 26),(ra 0 27)] [] (by kernel_rfl) [_,vi l[k].kind,_,_,_,_,_,_,.slice (some ⟨bo,0,none⟩) out.length vc,_,vi ((out.length - 1:Nat):Int),_,_,vi pk.2,_,_,_,.slice (some ⟨bo,0,none⟩) out.length vc,_,vi ((out.length - 1:Nat):Int),_,_,pq pk.1 pp pd pl,_,pq l[k].head (.slice a1 a2 a3) (.slice a4 a5 a6) (.slice a7 a8 a9),.bool (decide (pk.1=l[k].head)),_,_] H (aF (Z0 rfl (Rf BD rfl)) (Z1 0 53 rfl (Ro bR 0 rfl)) (Z1 1 54 rfl (Rc rfl)) (Z1 2 55 rfl (Rm rfl)) (aF (Z1 3 56 rfl (YM (aK c1) rfl)) (Z2 4 57 3 56 rfl (YC (aK c1) rfl)) (Z2 3 56 5 58 rfl (Pt (aK c1) rfl)) (Z1 6 59 rfl (Rm rfl)) (aF ?_ (Z1 7 60 rfl (YM (aK c2) rfl)) ?_ (Z3 8 61 10 63 7 60 rfl (YI nU gB (aK c2) rfl rfl)) (aF (Z2 11 64 7 60 rfl (YF BD (aK c2) rfl)) ?_ (Z2 13 66 7 60 rfl (YC (aK c2) rfl)) (Z2 7 60 14 67 rfl (Pt (aK c2) rfl)) (aF (Z1 15 68 rfl (Rm rfl)) ?_ (Z1 16 69 rfl (YM (aK c3) rfl)) ?_ (aF (Z3 17 70 19 72 16 69 rfl (YI nU gB (aK c3) rfl rfl)) (Z2 20 73 16 69 rfl (YF GY (aK c3) rfl)) ?_ (Z1 16 69 rfl (YF GY (aK c3) rfl)) (aF ?_ ?_ (Z2 16 69 25 78 rfl (Pt (aK c3) rfl)) (Z1 26 79 rfl (Ra rfl)) cZ))))))) ?_
              · refine eu 7 60 rfl rfl fun _ a w G1 hG HT H fin=>?_;refine aD 1 H ?_;clear H;intro a H;exact fin H iJ (by show _=_;first|rfl|exact aB (fun A=>Value.slice A out.length vc) (KD c2))
              · refine dH 9 62 7 60 rfl rfl fun _ a w G1 hG HT H fin=>?_;refine lK _ H (wg H rfl rfl (aK c2)) rfl rfl rfl (by omega) (by omega) rfl ?_;clear H;intro a H;exact fin H iJ (by show _=_;first|rfl|exact aB vi (by omega))
              · refine dH 12 65 7 60 rfl rfl fun _ a w G1 hG HT H fin=>?_;obtain ⟨_,_,_,_,_,_,rfl,_,_,_,_,_,_,_,_,hx⟩:=wm c2;refine iF bR H (wg H rfl rfl (aK c2)) rfl (hrw.at H.hp (fun x hx=>gH _ hx) (by rw [fV];exact hx 0 _ rfl)) rfl ?_;clear H;intro a H;exact fin H iJ rfl
              · refine eu 16 69 rfl rfl fun _ a w G1 hG HT H fin=>?_;refine aD 1 H ?_;clear H;intro a H;exact fin H iJ (by show _=_;first|rfl|exact aB (fun A=>Value.slice A out.length vc) (KD c2))
              · refine dH 18 71 16 69 rfl rfl fun _ a w G1 hG HT H fin=>?_;refine lK _ H (wg H rfl rfl (aK c3)) rfl rfl rfl (by omega) (by omega) rfl ?_;clear H;intro a H;exact fin H iJ (by show _=_;first|rfl|exact aB vi (by omega))
              · refine dH 21 74 16 69 rfl rfl fun _ a w G1 hG HT H fin=>?_;obtain ⟨_,_,_,_,_,_,rfl,_,_,_,_,_,_,_,_,hx⟩:=wm c2
                refine aS dw (cs:=[pp,vi pk.1.marks.ins,vi pk.1.marks.move,pd,pl]) H (wg H rfl rfl (aK c3)) rfl rfl (fun j u hj=>hrw.at H.hp (fun x hx=>gH _ hx) (by
                    rw [fV,Nat.add_assoc];refine hx (4+j) u ?_
                    match j,hj with
                    | 0,hj=>exact hj
                    | 1,hj=>exact hj
                    | 2,hj=>exact hj
                    | 3,hj=>exact hj
                    | 4,hj=>exact hj)) rfl ?_;clear H;intro a H
                exact fin H iJ rfl
              · refine dH 23 76 16 69 rfl rfl fun _ a w G1 hG HT H fin=>?_;refine aS dw (cs:=[_,_,_,_,_]) H (wg H rfl rfl (aK c3)) rfl rfl (H.hp.bN 0 rfl rfl) rfl ?_;clear H;intro a H;exact fin H iJ rfl
              · refine xI 22 75 24 77 16 69 rfl rfl fun _ a w G1 hG HT H fin=>?_;refine s_call GK H (wg H rfl rfl (aK c3)) rfl (GN _ _ H.ro pk.1 l[k].head _ _ _ _ _ _ (by obtain ⟨_,_,_,_,_,_,_,e,_,_,_,_,hh,_⟩:=wm c2;rw [e];exact hh.mono hG) (Hr.mono fun b o h=>hG b o (mX b o (Dj b o (qF b o h))))) rfl ?_;clear H;rintro v78 Wo a w rfl JM H;exact fin H JM (rfl)
              clear H;intro a w G kZ H hv;have H:=H.aN (hv 27 52 rfl rfl) rfl;clear hv;refine aC ⟨rfl,?_⟩;refine ⟨(_,_),sB,?_⟩;(try dsimp only);refine ⟨fun h=>by first|exact absurd h (by decide)|exact ⟨c1,c2,c3,mD h⟩,fun h=>?_,kZ⟩
              first
                | exact absurd ((aK c4).symm.trans h) (by decide)
                | (rw [hos]
                   refine CV hnd fun o2 z2 e2 hj=>?_;rw [rX,hyk,Ii] at hj;obtain ⟨j1,j2,j3⟩:=hj
                   first
                     | exact c1 j1
                     | (have c2':0 < (out.length:Int):=by rw [e2,iC,List.length_singleton];omega
                        obtain ⟨o,z,_,_,_,e,_,vN,_⟩:=wm c2';obtain ⟨-,ez⟩:=List.append_inj' (e2.symm.trans e) rfl
                        injection ez with ez
                        subst ez
                        first
                          | exact c2 c2'
                          | exact c3 (by rw [vN];exact j2)
                          | exact c4 (by rw [vN];exact j3)))
            refine dI hmx [[],[0],[0,1],[0,1,2],(ra 0 4),(ra 0 5),(ra 0 6),(ra 0 7),(ra 0 8),(ra 0 8),(ra 0 8++[9]),(ra 0 11),(ra 0 12),(ra 0 13),(ra 0 14),(ra 0 15),(ra 0 16),(ra 0 17),(ra 0 17),(ra 0 17++[18]),(ra 0 20),(ra 0 21),(ra 0 22),(ra 0 17),(ra 0 17++[23]),(ra 0 25),(ra 0 26),(ra 0 27)] [] (by kernel_rfl) [_,vi l[k].kind,_,_,_,_,_,_,.slice (some ⟨bo,0,none⟩) out.length vc,_,vi ((out.length - 1:Nat):Int),_,_,vi pk.2,_,_,_,.slice (some ⟨bo,0,none⟩) out.length vc,_,vi ((out.length - 1:Nat):Int),_,_,pq pk.1 pp pd pl,_,pq l[k].head (.slice a1 a2 a3) (.slice a4 a5 a6) (.slice a7 a8 a9),.bool (decide (pk.1=l[k].head)),_,_] H (aF (Z0 rfl (Rf BD rfl)) (Z1 0 53 rfl (Ro bR 0 rfl)) (Z1 1 54 rfl (Rc rfl)) (Z1 2 55 rfl (Rm rfl)) (aF (Z1 3 56 rfl (YM (aK c1) rfl)) (Z2 4 57 3 56 rfl (YC (aK c1) rfl)) (Z2 3 56 5 58 rfl (Pt (aK c1) rfl)) (Z1 6 59 rfl (Rm rfl)) (aF ?_ (Z1 7 60 rfl (YM (aK c2) rfl)) ?_ (Z3 8 61 10 63 7 60 rfl (YI nU gB (aK c2) rfl rfl)) (aF (Z2 11 64 7 60 rfl (YF BD (aK c2) rfl)) ?_ (Z2 13 66 7 60 rfl (YC (aK c2) rfl)) (Z2 7 60 14 67 rfl (Pt (aK c2) rfl)) (aF (Z1 15 68 rfl (Rm rfl)) ?_ (Z1 16 69 rfl (YM (aK c3) rfl)) ?_ (aF (Z3 17 70 19 72 16 69 rfl (YI nU gB (aK c3) rfl rfl)) (Z2 20 73 16 69 rfl (YF GY (aK c3) rfl)) ?_ (Z1 16 69 rfl (YF GY (aK c3) rfl)) (aF ?_ ?_ (Z2 16 69 25 78 rfl (Pt (aK c3) rfl)) (Z1 26 79 rfl (Ra rfl)) cZ))))))) ?_
            · refine eu 7 60 rfl rfl fun _ a w G1 hG HT H fin=>?_;refine aD 1 H ?_;clear H;intro a H;exact fin H iJ (by show _=_;first|rfl|exact aB (fun A=>Value.slice A out.length vc) (KD c2))
            · refine dH 9 62 7 60 rfl rfl fun _ a w G1 hG HT H fin=>?_;refine lK _ H (wg H rfl rfl (aK c2)) rfl rfl rfl (by omega) (by omega) rfl ?_;clear H;intro a H;exact fin H iJ (by show _=_;first|rfl|exact aB vi (by omega))
            · refine dH 12 65 7 60 rfl rfl fun _ a w G1 hG HT H fin=>?_;obtain ⟨_,_,_,_,_,_,rfl,_,_,_,_,_,_,_,_,hx⟩:=wm c2;refine iF bR H (wg H rfl rfl (aK c2)) rfl (hrw.at H.hp (fun x hx=>gH _ hx) (by rw [fV];exact hx 0 _ rfl)) rfl ?_;clear H;intro a H;exact fin H iJ rfl
            · refine eu 16 69 rfl rfl fun _ a w G1 hG HT H fin=>?_;refine aD 1 H ?_;clear H;intro a H;exact fin H iJ (by show _=_;first|rfl|exact aB (fun A=>Value.slice A out.length vc) (KD c2))
            · refine dH 18 71 16 69 rfl rfl fun _ a w G1 hG HT H fin=>?_;refine lK _ H (wg H rfl rfl (aK c3)) rfl rfl rfl (by omega) (by omega) rfl ?_;clear H;intro a H;exact fin H iJ (by show _=_;first|rfl|exact aB vi (by omega))
            · refine dH 21 74 16 69 rfl rfl fun _ a w G1 hG HT H fin=>?_;obtain ⟨_,_,_,_,_,_,rfl,_,_,_,_,_,_,_,_,hx⟩:=wm c2
              refine aS dw (cs:=[pp,vi pk.1.marks.ins,vi pk.1.marks.move,pd,pl]) H (wg H rfl rfl (aK c3)) rfl rfl (fun j u hj=>hrw.at H.hp (fun x hx=>gH _ hx) (by
                  rw [fV,Nat.add_assoc];refine hx (4+j) u ?_
                  match j,hj with
                  | 0,hj=>exact hj
                  | 1,hj=>exact hj
                  | 2,hj=>exact hj
                  | 3,hj=>exact hj
                  | 4,hj=>exact hj)) rfl ?_;clear H;intro a H
              exact fin H iJ rfl
            · refine dH 23 76 16 69 rfl rfl fun _ a w G1 hG HT H fin=>?_;refine aS dw (cs:=[_,_,_,_,_]) H (wg H rfl rfl (aK c3)) rfl rfl (H.hp.bN 0 rfl rfl) rfl ?_;clear H;intro a H;exact fin H iJ rfl
            · refine xI 22 75 24 77 16 69 rfl rfl fun _ a w G1 hG HT H fin=>?_;refine s_call GK H (wg H rfl rfl (aK c3)) rfl (GN _ _ H.ro pk.1 l[k].head _ _ _ _ _ _ (by obtain ⟨_,_,_,_,_,_,_,e,_,_,_,_,hh,_⟩:=wm c2;rw [e];exact hh.mono hG) (Hr.mono fun b o h=>hG b o (mX b o (Dj b o (qF b o h))))) rfl ?_;clear H;rintro v78 Wo a w rfl JM H;exact fin H JM (rfl)
            clear H;intro a w G kZ H hv;have H:=H.aN (hv 27 52 rfl rfl) rfl;clear hv;refine aC ⟨rfl,?_⟩;refine ⟨(_,_),sB,?_⟩;(try dsimp only);refine ⟨fun h=>by first|exact absurd h (by decide)|exact ⟨c1,c2,c3,mD h⟩,fun h=>?_,kZ⟩
            first
              | exact absurd ((aK c4).symm.trans h) (by decide)
              | (rw [hos]
                 refine CV hnd fun o2 z2 e2 hj=>?_;rw [rX,hyk,Ii] at hj;obtain ⟨j1,j2,j3⟩:=hj
                 first
                   | exact c1 j1
                   | (have c2':0 < (out.length:Int):=by rw [e2,iC,List.length_singleton];omega
                      obtain ⟨o,z,_,_,_,e,_,vN,_⟩:=wm c2';obtain ⟨-,ez⟩:=List.append_inj' (e2.symm.trans e) rfl
                      injection ez with ez
                      subst ez
                      first
                        | exact c2 c2'
                        | exact c3 (by rw [vN];exact j2)
                        | exact c4 (by rw [vN];exact j3)))
          refine dI hmx [[],[0],[0,1],[0,1,2],(ra 0 4),(ra 0 5),(ra 0 6),(ra 0 7),(ra 0 8),(ra 0 8),(ra 0 8++[9]),(ra 0 11),(ra 0 12),(ra 0 13),(ra 0 14),(ra 0 15),(ra 0 16),(ra 0 17),(ra 0 17),(ra 0 17++[18]),(ra 0 20),(ra 0 21),(ra 0 22),(ra 0 17),(ra 0 17++[23]),(ra 0 25),(ra 0 26),(ra 0 27)] [] (by kernel_rfl) [_,vi l[k].kind,_,_,_,_,_,_,.slice (some ⟨bo,0,none⟩) out.length vc,_,vi ((out.length - 1:Nat):Int),_,_,vi pk.2,_,_,_,undef,undef,undef,undef,undef,undef,undef,undef,undef,_,_] H (aF (Z0 rfl (Rf BD rfl)) (Z1 0 53 rfl (Ro bR 0 rfl)) (Z1 1 54 rfl (Rc rfl)) (Z1 2 55 rfl (Rm rfl)) (aF (Z1 3 56 rfl (YM (aK c1) rfl)) (Z2 4 57 3 56 rfl (YC (aK c1) rfl)) (Z2 3 56 5 58 rfl (Pt (aK c1) rfl)) (Z1 6 59 rfl (Rm rfl)) (aF ?_ (Z1 7 60 rfl (YM (aK c2) rfl)) ?_ (Z3 8 61 10 63 7 60 rfl (YI nU gB (aK c2) rfl rfl)) (aF (Z2 11 64 7 60 rfl (YF BD (aK c2) rfl)) ?_ (Z2 13 66 7 60 rfl (YC (aK c2) rfl)) (Z2 7 60 14 67 rfl (Pt (aK c2) rfl)) (aF (Z1 15 68 rfl (Rm rfl)) (aZ 16 (bD c3) rfl rfl) (aZ 16 (bD c3) rfl rfl) (aZ 16 (bD c3) rfl rfl) (aF (aZ 16 (bD c3) rfl rfl) (aZ 16 (bD c3) rfl rfl) (aZ 16 (bD c3) rfl rfl) (aZ 16 (bD c3) rfl rfl) (aF (aZ 16 (bD c3) rfl rfl) (aZ 16 (bD c3) rfl rfl) (Z2 16 69 25 78 rfl (Pf (bD c3) rfl)) (Z1 26 79 rfl (Ra rfl)) cZ))))))) ?_
          · refine eu 7 60 rfl rfl fun _ a w G1 hG HT H fin=>?_;refine aD 1 H ?_;clear H;intro a H;exact fin H iJ (by show _=_;first|rfl|exact aB (fun A=>Value.slice A out.length vc) (KD c2))
          · refine dH 9 62 7 60 rfl rfl fun _ a w G1 hG HT H fin=>?_;refine lK _ H (wg H rfl rfl (aK c2)) rfl rfl rfl (by omega) (by omega) rfl ?_;clear H;intro a H;exact fin H iJ (by show _=_;first|rfl|exact aB vi (by omega))
          · refine dH 12 65 7 60 rfl rfl fun _ a w G1 hG HT H fin=>?_;obtain ⟨_,_,_,_,_,_,rfl,_,_,_,_,_,_,_,_,hx⟩:=wm c2;refine iF bR H (wg H rfl rfl (aK c2)) rfl (hrw.at H.hp (fun x hx=>gH _ hx) (by rw [fV];exact hx 0 _ rfl)) rfl ?_;clear H;intro a H;exact fin H iJ rfl
          clear H;intro a w G kZ H hv;have H:=H.aN (hv 27 52 rfl rfl) rfl;clear hv;refine aC ⟨rfl,?_⟩;refine ⟨(_,_),sB,?_⟩;(try dsimp only);refine ⟨fun h=>by first|exact absurd h (by decide)|exact ⟨c1,c2,c3,mD h⟩,fun h=>?_,kZ⟩
          first
            | exact absurd ((aK c4).symm.trans h) (by decide)
            | (rw [hos]
               refine CV hnd fun o2 z2 e2 hj=>?_;rw [rX,hyk,Ii] at hj;obtain ⟨j1,j2,j3⟩:=hj
               first
                 | exact c1 j1
                 | (have c2':0 < (out.length:Int):=by rw [e2,iC,List.length_singleton];omega
                    obtain ⟨o,z,_,_,_,e,_,vN,_⟩:=wm c2';obtain ⟨-,ez⟩:=List.append_inj' (e2.symm.trans e) rfl
                    injection ez with ez
                    subst ez
                    first
                      | exact c2 c2'
                      | exact c3 (by rw [vN];exact j2)
                      | exact c4 (by rw [vN];exact j3)))
        refine dI hmx [[],[0],[0,1],[0,1,2],(ra 0 4),(ra 0 5),(ra 0 6),(ra 0 7),(ra 0 8),(ra 0 8),(ra 0 8++[9]),(ra 0 11),(ra 0 12),(ra 0 13),(ra 0 14),(ra 0 15),(ra 0 16),(ra 0 17),(ra 0 17),(ra 0 17++[18]),(ra 0 20),(ra 0 21),(ra 0 22),(ra 0 17),(ra 0 17++[23]),(ra 0 25),(ra 0 26),(ra 0 27)] [] (by kernel_rfl) [_,vi l[k].kind,_,_,_,_,_,_,undef,undef,undef,undef,undef,undef,undef,_,_,undef,undef,undef,undef,undef,undef,undef,undef,undef,_,_] H (aF (Z0 rfl (Rf BD rfl)) (Z1 0 53 rfl (Ro bR 0 rfl)) (Z1 1 54 rfl (Rc rfl)) (Z1 2 55 rfl (Rm rfl)) (aF (Z1 3 56 rfl (YM (aK c1) rfl)) (Z2 4 57 3 56 rfl (YC (aK c1) rfl)) (Z2 3 56 5 58 rfl (Pt (aK c1) rfl)) (Z1 6 59 rfl (Rm rfl)) (aF (aZ 7 (bD c2) rfl rfl) (aZ 7 (bD c2) rfl rfl) (aZ 7 (bD c2) rfl rfl) (aZ 7 (bD c2) rfl rfl) (aF (aZ 7 (bD c2) rfl rfl) (aZ 7 (bD c2) rfl rfl) (aZ 7 (bD c2) rfl rfl) (Z2 7 60 14 67 rfl (Pf (bD c2) rfl)) (aF (Z1 15 68 rfl (Rm rfl)) (aZ 16 rfl rfl rfl) (aZ 16 rfl rfl rfl) (aZ 16 rfl rfl rfl) (aF (aZ 16 rfl rfl rfl) (aZ 16 rfl rfl rfl) (aZ 16 rfl rfl rfl) (aZ 16 rfl rfl rfl) (aF (aZ 16 rfl rfl rfl) (aZ 16 rfl rfl rfl) (Z2 16 69 25 78 rfl (Pf rfl rfl)) (Z1 26 79 rfl (Ra rfl)) cZ))))))) ?_
        clear H;intro a w G kZ H hv;have H:=H.aN (hv 27 52 rfl rfl) rfl;clear hv;refine aC ⟨rfl,?_⟩;refine ⟨(_,_),sB,?_⟩;(try dsimp only);refine ⟨fun h=>by first|exact absurd h (by decide)|exact ⟨c1,c2,c3,mD h⟩,fun h=>?_,kZ⟩
        first
          | exact absurd ((aK c4).symm.trans h) (by decide)
          | (rw [hos]
             refine CV hnd fun o2 z2 e2 hj=>?_;rw [rX,hyk,Ii] at hj;obtain ⟨j1,j2,j3⟩:=hj
             first
               | exact c1 j1
               | (have c2':0 < (out.length:Int):=by rw [e2,iC,List.length_singleton];omega
                  obtain ⟨o,z,_,_,_,e,_,vN,_⟩:=wm c2';obtain ⟨-,ez⟩:=List.append_inj' (e2.symm.trans e) rfl
                  injection ez with ez
                  subst ez
                  first
                    | exact c2 c2'
                    | exact c3 (by rw [vN];exact j2)
                    | exact c4 (by rw [vN];exact j3)))
      refine dI hmx [[],[0],[0,1],[0,1,2],(ra 0 4),(ra 0 5),(ra 0 6),(ra 0 7),(ra 0 8),(ra 0 8),(ra 0 8++[9]),(ra 0 11),(ra 0 12),(ra 0 13),(ra 0 14),(ra 0 15),(ra 0 16),(ra 0 17),(ra 0 17),(ra 0 17++[18]),(ra 0 20),(ra 0 21),(ra 0 22),(ra 0 17),(ra 0 17++[23]),(ra 0 25),(ra 0 26),(ra 0 27)] [] (by kernel_rfl) [_,vi l[k].kind,_,_,undef,undef,_,_,undef,undef,undef,undef,undef,undef,undef,_,_,undef,undef,undef,undef,undef,undef,undef,undef,undef,_,_] H (aF (Z0 rfl (Rf BD rfl)) (Z1 0 53 rfl (Ro bR 0 rfl)) (Z1 1 54 rfl (Rc rfl)) (Z1 2 55 rfl (Rm rfl)) (aF (aZ 3 (bD c1) rfl rfl) (aZ 3 (bD c1) rfl rfl) (Z2 3 56 5 58 rfl (Pf (bD c1) rfl)) (Z1 6 59 rfl (Rm rfl)) (aF (aZ 7 rfl rfl rfl) (aZ 7 rfl rfl rfl) (aZ 7 rfl rfl rfl) (aZ 7 rfl rfl rfl) (aF (aZ 7 rfl rfl rfl) (aZ 7 rfl rfl rfl) (aZ 7 rfl rfl rfl) (Z2 7 60 14 67 rfl (Pf rfl rfl)) (aF (Z1 15 68 rfl (Rm rfl)) (aZ 16 rfl rfl rfl) (aZ 16 rfl rfl rfl) (aZ 16 rfl rfl rfl) (aF (aZ 16 rfl rfl rfl) (aZ 16 rfl rfl rfl) (aZ 16 rfl rfl rfl) (aZ 16 rfl rfl rfl) (aF (aZ 16 rfl rfl rfl) (aZ 16 rfl rfl rfl) (Z2 16 69 25 78 rfl (Pf rfl rfl)) (Z1 26 79 rfl (Ra rfl)) cZ))))))) ?_
      clear H;intro a w G kZ H hv;have H:=H.aN (hv 27 52 rfl rfl) rfl;clear hv;refine aC ⟨rfl,?_⟩;refine ⟨(_,_),sB,?_⟩;(try dsimp only);refine ⟨fun h=>by first|exact absurd h (by decide)|exact ⟨c1,c2,c3,mD h⟩,fun h=>?_,kZ⟩
      first
        | exact absurd ((aK c4).symm.trans h) (by decide)
        | (rw [hos]
           refine CV hnd fun o2 z2 e2 hj=>?_;rw [rX,hyk,Ii] at hj;obtain ⟨j1,j2,j3⟩:=hj
           first
             | exact c1 j1
             | (have c2':0 < (out.length:Int):=by rw [e2,iC,List.length_singleton];omega
                obtain ⟨o,z,_,_,_,e,_,vN,_⟩:=wm c2';obtain ⟨-,ez⟩:=List.append_inj' (e2.symm.trans e) rfl
                injection ez with ez
                subst ez
                first
                  | exact c2 c2'
                  | exact c3 (by rw [vN];exact j2)
                  | exact c4 (by rw [vN];exact j3)))
    clear H;rintro ⟨jb,g9⟩ a w hI H;dsimp only at hI H;obtain ⟨hjy,hjn,qR⟩:=hI;have alC:=ND.mono qR;have wV:=aad.mono qR;have Zt:∀ b o,G b=some o→g9 b=some o:=fun b o h=>qR b o (Zr b o h);dsimp only [lca,bG] at H;refine dQ 0 H ?_ ?_ <;> clear H
    · intro p52
      obtain ⟨c1,c2,c3,c4⟩:=hjy (by assumption);obtain ⟨oo,z,x0,zf,zr,NY,rfl,rfl,rfl,hxs,hxl,hc0,hhz,hfz,hrz,hxj⟩:=wm c2
      have hzt:z.text.size≤ng out:=by
        rw [NY,FC];simp only [ng];omega
      obtain ⟨cur,-,rfl,hcur,hset⟩:=hrw.set1;intro a H;refine dI hmx [[],[],[1],[0,1,2],(ra 0 4),(ra 0 5),[],[6],(ra 0 8),(ra 0 9),(ra 0 10),(ra 0 11)] [9,10,11] (by kernel_rfl) [_,_,vi ((out.length - 1:Nat):Int),_,_,.string z.text,_,.string l[k].text,.string (z.text++l[k].text)] H (aF (Z0 rfl (Rm rfl)) (Z0 rfl (Rm rfl)) ?_ (Z2 0 80 2 82 rfl (Ri nU gB rfl rfl)) (aF (Z1 3 83 rfl (Rf GX rfl)) ?_ (Z0 rfl (Rf GX rfl)) (Z1 6 86 rfl (Ro mg 0 rfl)) (aF ?_ (bQ rfl) (bQ rfl) (bQ rfl) cZ))) ?_
      · refine eu 1 81 rfl rfl fun _ a w G1 hG HT H fin=>?_;refine aD 1 H ?_;clear H;intro a H;exact fin H iJ (by show _=_;first|rfl|exact aB vi (by omega))
      · refine eu 4 84 rfl rfl fun _ a w G1 hG HT H fin=>?_;refine iF mg H wn rfl (hrw.at H.hp (fun x hx=>gH _ hx) (by rw [fV];exact hxj 3 _ rfl)) rfl ?_;clear H;intro a H;exact fin H iJ rfl
      · refine dH 5 85 7 87 rfl rfl fun _ a w G1 hG HT H fin=>?_;refine aqx H wn rfl rfl (by omega) rfl ?_;clear H;intro a H;exact fin H iJ rfl
      clear H;intro a w G mV H hv;have H:=H.aN (hv 0 80 rfl rfl) rfl;have H:=H.aN (hv 2 82 rfl rfl) rfl;have H:=H.aN (hv 8 88 rfl rfl) rfl;clear hv;refine kH H (Ri nU gB rfl rfl (Rf GX rfl ?_));clear H;intro a H;refine aV mg 1 (c:=cur) (vs:=[.string (z.text++l[k].text)]) (cur.set ((out.length - 1)*11+3) (.string (z.text++l[k].text))) H wn rfl rfl rfl rfl rfl rfl (by simp;omega) (by rw [fV];rfl) ?_;clear H;intro w H;dsimp only [List.set] at H;have amR:=hset ((out.length - 1)*11+3) (.string (z.text++l[k].text))
      have ZR:sj l (k+1)=oo++[qg z y]:=by rw [hos,NY];exact Mx hnd ⟨by rw [hyk];exact c1,c3,by rw [Ii];exact c4⟩
      refine aC ⟨rfl,?_⟩;refine dR ?_;refine fO 3 H ?_;clear H;intro a H;refine aC ?_;refine cB ((k+1,_,xs.set ((out.length - 1)*11+3) (.string (z.text++l[k].text)),_,_)) (by exact (H.dY (Pl:=[_]) (dM:=[]) [] (by decide) rfl).sub ⟨rfl,rfl,rfl,rfl,aU⟩) ?_ ?_
      · (try dsimp only);exact ⟨by omega,by rw [ZR,show (oo++[qg z y]).length=out.length by rw [NY];simp];exact amR,by rw [ZR,hxs,NY];exact joined (hc0.mono fun b o h=>mV b o (qR b o h)) hxl (hhz.mono fun b o h=>mV b o (qR b o h)) (hfz.mono fun b o h=>mV b o (qR b o h)) (hrz.mono fun b o h=>mV b o (qR b o h)) (by rw [KE]),fun b o h=>mV b o (Zt b o h)⟩
      first|omega|(dsimp only;omega)
    intro p52
    have hnx:=hjn (by assumption);refine ak 2 ?_;intro a H;refine aS gB (cs:=[_,_,_,_,_,_,_,_,_,_,_]) H wn rfl rfl (H.hp.bN 0 rfl rfl) rfl ?_;clear H;intro a H;refine gJ nU gB [_,_,_,_,_,_,_,_,_,_,_] [_,_,_,_,_,_,_,_,_,_,_] H wn rfl rfl rfl rfl rfl (by intro i q h;match i,h with|0,h=>exact h|n+1,h=>simp at h) rfl rfl ?_;clear H;intro WW a w alk H;refine lJ (Li:=[_,_]) (Lo:=Lo) (news:=QJ) nU gB rfl rfl H wn rfl rfl hrw (by rw [NH];rfl) (by rw [NH];exact H.hp.bN 0 rfl rfl) aad.one (by omega) (by omega) rfl ?_;clear H;intro v31 adK a w N9 H;refine aD 5 H ?_;clear H;intro a H;refine aC ?_;refine cB ((k+1,v31,xs++QJ,adK,_)) (by exact (H.dY (Pl:=[_,_]) (dM:=[]) [] (by decide) rfl).sub ⟨rfl,rfl,rfl,rfl,aU⟩) ?_ ?_
    · (try dsimp only);exact ⟨by omega,by rw [hnx,iC];exact N9,by rw [hnx,kQ];exact (alC.snoc wV (by rw [NH];rfl)),Zt⟩
    first|omega|(dsimp only;omega)
  intro iD
  refine ak 1 ?_
  obtain rfl:k=l.length:=by omega
  intro a H;obtain ⟨G',hm,hrep,H⟩:=H.mR (Li:=[]) hrw (rows:=out.map ay.dat) (by simp) dV;refine uH 4 H ?_;rw [lW,← hout];exact hrep
theorem abj:∀ n:Nat,n≤1073741825→Eh n
 | 0,_=>fun _ _ _ _ _ _ _ h=>absurd h (by omega)
 | n+1,hn=>aoG (abj n (by omega)) (by omega)
theorem aoI (G:GH) (w0:World) (hG:Hold G w0) (l:List ay) (v:aj) (hv:au G (.sl 11 (l.map ay.dat)) v) (hne:tQ l) (hz:cu l≤1073741824) :
  Calls prog 58 #[v] w0 (bB w0 G fun u G'=>au G' (.sl 11 ((lW l).map ay.dat)) u):=abj 1073741825 (by omega) G w0 hG l v hv hne (by omega)
end
section
open Go.RowKit
theorem aiF:∀ args w,(callFunc 59 args).run prog w=.ok (.enter 59 args) w:=enters func59 rfl (by kernel_rfl)
theorem aiH:∀ args w,(callFunc 63 args).run prog w=.ok (.enter 63 args) w:=enters func63 rfl (by kernel_rfl)
theorem aiG:∀ args w,(callFunc 61 args).run prog w=.ok (.enter 61 args) w:=enters func61 rfl (by kernel_rfl)
theorem asx {G:GH} {b3:Nat} {us:List Int} {uv:aj} (hb:aI G b3 0=some uv) (hu:au G (.sl 1 (us.map fun k=>[li k])) uv) (hl:us.length≤4294967296) (x:bX):rC (.func (.func 61) #[] #[(aG b3 0)]) G x.dat (!mW us x.id):=by
 intro G1 w0 cs hm hG hr;obtain rfl:=KT hr;replace hb:=aH hm hb;replace hu:=hu.mono hm;obtain ⟨uA,uc,rfl,-,-,-⟩:=hu.slice;refine iN (caps:=[(aG b3 0)]) aiG ?_;refine eN [(0,_),(1,_)] func61 rfl ntmps61 rfl rfl hG ?_;refine ak 1 ?_;intro a H;refine dP (cs:=[_,_,_]) H wn rfl rfl rfl ?_;clear H;intro b2 a w hb2 H;refine aD 6 H ?_;clear H;intro a H;refine s_call Ym H wn rfl (Xa _ _ H.ro us x.id _ hu hl) rfl ?_;clear H;rintro v10 zS a w ⟨rfl,rfl⟩ BN H;refine aD 1 H ?_;clear H;intro a H;(iterate 2 refine jK H wn rfl rfl rfl ?_;clear H;intro a H);refine fH 8 H ?_;exact rfl
def xY (d:gG):gG:=⟨lW d.flow,d.fin,d.revs,d.iw⟩
def nD (d:gG):gG:=⟨lW d.flow,d.fin,d.revs.filter fun r=>mW (Cv (qZ (xY d))) r.id,d.iw⟩
theorem apT (G:GH) (l:List bX):bU G 3 (l.map bX.dat) (nH l):=by
 have h:∀ (B A:List bX),bU G 3 (A.map bX.dat) (nH A)→bU G 3 ((A++B).map bX.dat) (nH (A++B)):=by
  intro B
  induction B with
  | nil=>intro A h;rw [gD];exact h
  | cons x B ih =>
   intro A h;have h2:=h.snoc (KU G x) rfl;have h3:=ih (A++[x]) (by rw [Vd,kQ];exact h2)
   simpa using h3
 exact h l [] bU.nil
set_option maxRecDepth 8000 in
theorem QO (G:GH) (w0:World) (hG:Hold G w0) (D:gy) (d:gG) (hR:iG G D d) (hz:xE d) (hne:tQ d.flow) (hz2:cu (lW d.flow)≤1073741824) (hw:∀ k∈qZ (xY d),-9223372036854775808≤k∧k < 9223372036854775808) (hl:(qZ (xY d)).length≤4294967296) :
  Calls prog 17 #[D.val] w0 (bB w0 G fun u G'=>∃ D':gy,u=D'.val∧iG G' D' (nD d)):=by
 obtain ⟨df,dp,dd,dy,dr,d1,d2,d3,d4,ins,mv⟩:=D;obtain ⟨zf,zh,zr,zt,zs,FR⟩:=hz;refine eN [(0,_)] func17 rfl ntmps17 rfl rfl hG ?_;refine ak 1 ?_;intro a H;refine dP (cs:=[_,_,_,_,_,_,_,_,_,_,_]) H wn rfl rfl rfl ?_;clear H;intro b1 a w hb1 H;refine dz fI H wn rfl ?_;clear H;intro b2 a w hb2 H;refine aD 4 H ?_;clear H;intro a H;refine s_call Rq H wn rfl (aoI _ _ H.ro d.flow _ hR.fl hne zf) rfl ?_;clear H;rintro v6 G6 a w hv6 EL H;obtain ⟨fA,fn,fc,rfl⟩:=hv6.form;have ze:iG G6 ⟨(fA,fn,fc),dp,dd,dy,dr,d1,d2,d3,d4,ins,mv⟩ (xY d):=⟨hv6,hR.hd.mono EL,hR.ins,hR.mv,hR.rv.mono EL,hR.st.mono EL⟩;refine aD 1 H ?_;clear H;intro a H;refine aV pK 1 (vs:=[_]) _ H wn rfl rfl rfl rfl rfl rfl rfl rfl ?_;clear H;intro w H;dsimp only [List.set,setRow] at H;refine aD 2 H ?_;clear H;intro a H;refine aS fI (cs:=(⟨(fA,fn,fc),dp,dd,dy,dr,d1,d2,d3,d4,ins,mv⟩:gy).cells) H wn rfl rfl (H.hp.bN 1 rfl rfl) rfl ?_;clear H;intro a H;refine s_call aiu H wn rfl (afY _ _ H.ro _ _ ze (by show cu (lW d.flow)≤_;omega) hw hl) rfl ?_;clear H;rintro v9 G9 a w Oc wT H;obtain ⟨uA,un,uc,rfl⟩:=Oc.form;refine dz Bb H wn rfl ?_;clear H;intro b3 a w hb3 H;refine aV Bb 0 (vs:=[_]) _ H wn rfl rfl rfl rfl rfl rfl rfl rfl ?_;clear H;intro w H;dsimp only [List.set,setRow] at H;refine aC ?_;refine dR ?_;obtain ⟨Gb,hmb,uL,H⟩:=H.dZ;have hq3:aI Gb b3 0=some (.slice uA un uc):=kL uL 0 [.slice uA un uc] rfl 0 _ rfl;replace Oc:=Oc.mono hmb;replace ze:=(ze.mono wT).mono hmb;refine fO 3 H ?_;clear H;intro a H;refine gF Yl (Li:=[_,_]) (L:=[]) H wn rfl (Xu _ _ (xg H.ro) _ _ _ _ ze.rv (by simpa [xY] using zr)) rfl ?_;clear H;rintro v12 zT L12 a w ⟨auD,TI,alz⟩ vX H;obtain rfl:=apU alz;rw [bM] at TI;obtain ⟨rA,rc,rfl,-,-⟩:=TI.shape;refine nS H wn rfl rfl ?_;clear H;intro a H;refine gF aiF (Li:=[_,_]) (L:=L12) H wn rfl (afW d.revs (fun r=>!mW (Cv (qZ (xY d))) r.id) (Hp.owns (Li:=[_,_]) H.hp) TI (fun x _=>asx (aH vX hq3) (Oc.mono vX) (by rw [Cv,List.length_mergeSort];exact hl) x)) rfl ?_;clear H;rintro v14 zU L14 a w Kv wR H
 simp only [Bool.not_not] at Kv
 obtain ⟨Gr,hmr,aai,H⟩:=St.mR (Li:=[_,_]) H Kv (rows:=(nD d).revs.map bX.dat) (by simp [nD]) (apT _ _);obtain ⟨rB,rn,rd,rfl⟩:=aai.form;replace ze:=((ze.mono vX).mono wR).mono hmr;have hR2:iG Gr ⟨(fA,fn,fc),dp,dd,dy,(rB,rn,rd),d1,d2,d3,d4,ins,mv⟩ (nD d):=⟨ze.fl,ze.hd,ze.ins,ze.mv,aai,ze.st⟩;refine aD 1 H ?_;clear H;intro a H;refine aV zO 1 (vs:=[_]) _ H wn rfl rfl rfl rfl rfl rfl rfl rfl ?_;clear H;intro w H;dsimp only [List.set,setRow] at H;refine aD 2 H ?_;clear H;intro a H;refine aS fI (cs:=(⟨(fA,fn,fc),dp,dd,dy,(rB,rn,rd),d1,d2,d3,d4,ins,mv⟩:gy).cells) H wn rfl rfl (H.hp.bN 1 rfl rfl) rfl ?_;clear H;intro a H;refine gF aiH (Li:=[_,_]) (L:=[]) H wn rfl (afX _ _ (xg H.ro) _ _ hR2 ⟨by show cu (lW d.flow)≤_;omega,zh,Nat.le_trans (List.length_filter_le _ _) zr,fun x hx=>zt x (List.mem_filter.1 hx).1,zs,FR⟩) rfl ?_;clear H;rintro v17 yM Qc a w ⟨D',rfl,xf,Lf,xr,Lr,rfl,Ig,SY,Ih,S9,ame,amf,amr,hst'⟩ qV H;obtain ⟨Gs,hms,amH,H⟩:=St.mR (Li:=[_,_]++Lf) (by rw [jd];exact H) Ih (rows:=(nD d).revs.map bX.dat) (by simp) S9;obtain ⟨Gt,hmt,alY,H⟩:=St.mR (Li:=[_,_]) H Ig (rows:=(nD d).flow.map ay.dat) (by simp) (SY.mono hms);refine aV fI 0 (vs:=[_,_,_,_,_,_,_,_,_,_,_]) _ H wn rfl rfl rfl rfl rfl rfl rfl rfl ?_;clear H;intro w H;dsimp only [List.set,setRow] at H;refine aC ?_;refine dR ?_;refine bZ ?_;refine (leave1 H results17 (.cons (kF fI (cs:=[_,_,_,_,_,_,_,_,_,_,_]) H rfl rfl (H.hp.bN 0 rfl rfl)) .nil) ?_).1;exact H.rt ⟨D',rfl,alY,(ame.mono hms).mono hmt,amf,amr,amH.mono hmt,(hst'.mono hms).mono hmt⟩
end
section
open Go.RowKit
theorem Ng {l:List Int} (h:∀ x∈l,x=0):cO l=0:=by
 induction l with
 | nil=>rfl
 | cons x l ih=>rw [h x fM];simp only [cO,ne_eq,not_true_eq_false,if_false];exact ih fun y hy=>h y (gH _ hy)
theorem WS {E:Nat→Int} {n:Nat} (h:∀ i,i < n→E i=0):iH E n=0:=Ng fun x hx=>by
 obtain ⟨i,hi,rfl⟩:=List.mem_map.1 hx;exact h i (sQ.1 hi)
end
end Go.Proofs.YtdiflmikikiedaaGreat
