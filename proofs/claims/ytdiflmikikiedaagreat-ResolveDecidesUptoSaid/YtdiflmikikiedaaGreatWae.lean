/-
  What the claim stands on, part 5: De24 Dnn Rw24 Ni13 Mn Lay Srt Ms Ids Usd Rf0 Dlr Ccl Cst Dcl Nm Nml Nd13.
-/
import Derived.Test.YtdiflmikikiedaaGreatWad
import Derived.Shelf.SlIterI.Nil
import Derived.Shelf.SortM.Plain
import Derived.Shelf.SortM.SortNone
namespace Go.Proofs.YtdiflmikikiedaaGreat
set_option linter.all false
open Go.Proofs.Tryz
set_option maxRecDepth 20000
set_option maxHeartbeats 4000000
section
open Go.RowKit
instance:Ty prog 232 1 8 [.nilFunc] false:=⟨by kernel_rfl,by kernel_rfl⟩
theorem XJ:∀ args w,(callFunc 157 args).run prog w=.ok (.enter 157 args) w:=enters func157 rfl (by kernel_rfl)
theorem FI:prog.underlying 240=some (.slice 242):=by kernel_rfl
instance:jZ prog 240 (.slice 242):=⟨FI⟩
theorem Iy:pI prog 29 [(0,1),(1,4)] [.slice none 0 0,.int .i64 0,.int .i64 0,.slice none 0 0,.slice none 0 0]:=⟨by kernel_rfl,by kernel_rfl⟩
theorem U5:pI prog 27 [(0,1),(1,1),(2,1),(3,1)] [.int .i64 0,.int .i64 0,.slice none 0 0,.slice none 0 0]:=⟨by kernel_rfl,by kernel_rfl⟩
theorem agC:∀ args w,(callFunc 160 args).run prog w=.ok (.enter 160 args) w:=enters func160 rfl (by kernel_rfl)
theorem agD:∀ args w,(callFunc 161 args).run prog w=.ok (.enter 161 args) w:=enters func161 rfl (by kernel_rfl)
theorem agE:∀ args w,(callFunc 162 args).run prog w=.ok (.enter 162 args) w:=enters func162 rfl (by kernel_rfl)
theorem agF:∀ args w,(callFunc 163 args).run prog w=.ok (.enter 163 args) w:=enters func163 rfl (by kernel_rfl)
theorem agG:∀ args w,(callFunc 164 args).run prog w=.ok (.enter 164 args) w:=enters func164 rfl (by kernel_rfl)
theorem agy:∀ args w,(callFunc 155 args).run prog w=.ok (.enter 155 args) w:=enters func155 rfl (by kernel_rfl)
theorem agz:∀ args w,(callFunc 156 args).run prog w=.ok (.enter 156 args) w:=enters func156 rfl (by kernel_rfl)
theorem agA:∀ args w,(callFunc 158 args).run prog w=.ok (.enter 158 args) w:=enters func158 rfl (by kernel_rfl)
def Bl (vv:aj) (G:GH) (acc rej:Int→Bool):Prop:=∀ (G1:GH) (w1:World),(∀ b o,G b=some o→G1 b=some o)→Hold G1 w1→∀ r:Int,qo prog vv [vi r] w1 (bC w1 G1 fun u G'=>u=.tuple #[.bool (acc r),.bool (rej r)])
def yD (fv:aj) (G:GH) (f:Int→Bool):Prop:=∀ (G1:GH) (w1:World),(∀ b o,G b=some o→G1 b=some o)→Hold G1 w1→∀ r:Int,qo prog fv [vi r] w1 (bC w1 G1 fun u G'=>u=.bool (f r))
theorem Bl.mono {vv:aj} {G G':GH} {acc rej:Int→Bool} (hm:∀ b o,G b=some o→G' b=some o) (h:Bl vv G acc rej):Bl vv G' acc rej:=fun G1 w1 h1=>h G1 w1 fun b o hb=>h1 b o (hm b o hb)
theorem yD.mono {vv:aj} {G G':GH} {f:Int→Bool} (hm:∀ b o,G b=some o→G' b=some o) (h:yD vv G f):yD vv G' f:=fun G1 w1 h1=>h G1 w1 fun b o hb=>h1 b o (hm b o hb)
abbrev Mi (b:Nat):aj:=.func (.func 155) #[] #[(aG b 0)]
abbrev OA (b:Nat):aj:=.func (.func 156) #[] #[(aG b 0)]
theorem adC {G:GH} {b:Nat} {vv:aj} {acc rej:Int→Bool} (hb:aI G b 0=some vv) (hv:Bl vv G acc rej):yD (Mi b) G acc:=by
 intro G1 w0 hm hG r;refine iM (caps:=[(aG b 0)]) agy ?_;replace hb:=aH hm hb;refine eN [(0,_),(1,_)] func155 rfl ntmps155 rfl rfl hG ?_;refine ak 6 ?_;intro a H;refine ji H wn rfl rfl (hv _ _ hm H.ro r) rfl ?_;clear H;rintro v9 G9 a w rfl zk H;refine aD 1 H ?_;clear H;intro a H;(iterate 2 refine jY H wn rfl rfl rfl ?_;clear H;intro a H);refine fu 7 H ?_;exact rfl
theorem apk {G:GH} {b:Nat} {vv:aj} {acc rej:Int→Bool} (hb:aI G b 0=some vv) (hv:Bl vv G acc rej):yD (OA b) G rej:=by
 intro G1 w0 hm hG r;refine iM (caps:=[(aG b 0)]) agz ?_;replace hb:=aH hm hb;refine eN [(0,_),(1,_)] func156 rfl ntmps156 rfl rfl hG ?_;refine ak 6 ?_;intro a H;refine ji H wn rfl rfl (hv _ _ hm H.ro r) rfl ?_;clear H;rintro v9 G9 a w rfl zk H;refine aD 1 H ?_;clear H;intro a H;(iterate 2 refine jY H wn rfl rfl rfl ?_;clear H;intro a H);refine fu 7 H ?_;exact rfl
theorem Xu {G:GH} {b:Nat} {fv:aj} {acc:Int→Bool} (hb:aI G b 0=some fv) (hv:yD fv G acc) (x:fF):qY (.func (.func 158) #[] #[(aG b 0)]) G x.dat (acc x.rev):=by
 intro G1 w0 cs hm hG hr;obtain rfl:=Jk hr;refine iM (caps:=[(aG b 0)]) agA ?_;replace hb:=aH hm hb;refine eN [(0,_),(1,_)] func158 rfl ntmps158 rfl rfl hG ?_;refine ak 1 ?_;intro a H;refine dP (cs:=[_,_]) H wn rfl rfl rfl ?_;clear H;intro b2 a w hb2 H;refine aD 6 H ?_;clear H;intro a H;refine ji H wn rfl rfl (hv _ _ hm H.ro x.rev) rfl ?_;clear H;rintro v7 G7 a w rfl wL H;refine fu 2 H ?_;exact rfl
theorem aoJ (G:GH) (w0:World) (hG:Hold G w0) (l:List aT) (v:aj) (hv:au G (.sl 2 (l.map aT.dat)) v) (hz:l.length≤4294967296) :
  Calls prog 159 #[v] w0 (bC w0 G fun u G'=>au G' (.sl 2 (l.map aT.dat)) u):=by
 obtain ⟨A,n,c,rfl⟩:=hv.form;refine eN [(0,_)] func159 rfl ntmps159 rfl rfl hG ?_;refine ak 5 ?_;intro a H;refine s_call MS H wn rfl (Qr _ _ H.ro _ _ _ _ hv (by simpa using hz)) rfl ?_;clear H;rintro v4 G4 a w Te JV H;refine fu 2 H ?_;exact Te
abbrev KS (s:Int × Bool):List Dat:=[li s.1,.lf (.bool s.2)]
theorem abZ (G:GH) (s:Int × Bool):aU G (KS s) [vi s.1,.bool s.2]:=by simp [aU,au,Value.oneCell']
theorem acf {G:GH} {l:List (Int × Bool)} {A:Option Addr} {n c k:Nat} (hv:au G (.sl 2 (l.map KS)) (.slice A n c)) (hk:k < l.length):∃ b o,A=some ⟨b,o,none⟩∧∀ j u,[vi l[k].1,.bool l[k].2][j]?=some u→aI G b (o+k*2+j)=some u:=by
 obtain ⟨b,o,cs,h1,h2,h3,h4⟩:=hv.at_ k (KS l[k]) (by simp [hk])
 simp only [aU,au] at h4
 obtain ⟨_,_,rfl,⟨rfl,-⟩,_,_,rfl,⟨rfl,-⟩,rfl⟩:=h4;exact ⟨b,o,h1,h3⟩
theorem ano (G:GH) (y:cK):aU G y.dat y.cells:=by simp [cK.dat,cK.cells,aU,au,Value.oneCell']
theorem Xt (G:GH) (y:fF):aU G y.dat y.cells:=by simp [fF.dat,fF.cells,aU,au,Value.oneCell']
theorem aru (props:List aT) (key:Int) (l:List cK):(pF props key l).length=l.length+1:=by simp [pF]
theorem GX {l:List fF} {p:fF→Bool}:(l.findIdx? p).isSome=true↔∃ x∈l,p x=true:=by rw [List.findIdx?_isSome,List.any_eq_true]
theorem ajU {L:List (Int × List cK)} {l:List cK} (h:L.flatMap Prod.snd=l) (hn:∀ q∈L,q.2≠[]) (k:Nat) (hk:k≤L.length):k≤((L.take k).flatMap Prod.snd).length∧((L.take k).flatMap Prod.snd).length≤l.length:=by
 constructor
 ·induction k with
  | zero=>exact gN _
  | succ k ih =>
   have:=ih (by omega);rw [fP (by omega),List.flatMap_append,iA];have h2:=List.length_pos_iff.2 (hn L[k] (lD (by omega)))
   simp only [List.flatMap_cons,List.flatMap_nil,gu]
   omega
 have e:l=(L.take k).flatMap Prod.snd++(L.drop k).flatMap Prod.snd:=by rw [← List.flatMap_append,List.take_append_drop,h]
 rw [e,iA];omega
def ni (acc rej:Int→Bool) (h:dW) (u:aj) (G:GH):Prop:=if kX acc rej h then Wp false zM u G else Wp true (lF acc rej h) u G
theorem Ui (G:GH) (w0:World) (hG:Hold G w0) (acc rej:Int→Bool) (vv:aj) (hvv:Bl vv G acc rej) (hcv:vv.cells=#[vv]) (h:dW) (p d l:aj) (hh:fD G h p d l) (hz:kU h≤1073741824) :
    Calls prog 96 #[oW h p d l,vv] w0 (bC w0 G (ni acc rej h)):=by
  have hml:maxLen=9223372036854775807:=rfl;have Z9:=DW h;have hz1:=oq (h.props.map aT.dat);have hz2:=oq (h.marks.bL.map fF.dat);have hz3:=oq (h.marks.layers.map cK.dat)
  simp only [bM] at hz1 hz2 hz3
  obtain ⟨pA,pn,pc,rfl⟩:=hh.props.form;obtain ⟨dA,dn,dc,rfl⟩:=hh.bL.form;obtain ⟨lA,ln,lc,rfl⟩:=hh.layers.form;have hdn:=hh.bL.len;rw [bM] at hdn;subst hdn;refine eN [(0,_),(1,_)] func96 rfl ntmps96 rfl rfl hG ?_;refine ak 1 ?_;intro a H;refine dP (cs:=[_,_,_,_,_]) H wn rfl rfl rfl ?_;clear H;intro b2 a w hb2 H;refine dP (cs:=[vv]) H wn rfl hcv rfl ?_;clear H;intro b3 a w hb3 H;refine dz dw H wn rfl ?_;clear H;intro b4 a w hb4 H;refine aD 3 H ?_;clear H;intro a H;refine nQ H wn rfl rfl ?_;clear H;intro a H;refine dz FB H wn rfl ?_;clear H;intro b6 a w hb6 H;refine aX FB 0 (vs:=[_]) _ H wn rfl rfl rfl rfl rfl rfl rfl rfl ?_;clear H;intro w H;dsimp only [List.set,setRow] at H;refine aD 2 H ?_;clear H;intro a H;refine nQ H wn rfl rfl ?_;clear H;intro a H;refine dz FB H wn rfl ?_;clear H;intro b7 a w vG H;refine aX FB 0 (vs:=[_]) _ H wn rfl rfl rfl rfl rfl rfl rfl rfl ?_;clear H;intro w H;dsimp only [List.set,setRow] at H;refine aD 3 H ?_;clear H;intro a H;refine aR Cv (cs:=[_,_,_,_]) H wn rfl rfl (H.hp.bO 4 rfl rfl) rfl ?_;clear H;intro a H;refine dz Cv H wn rfl ?_;clear H;intro b8 a w Al H;refine aX Cv 0 (vs:=[_,_,_,_]) _ H wn rfl rfl rfl rfl rfl rfl rfl rfl ?_;clear H;intro w H;dsimp only [List.set,setRow] at H;have H:=H.dY (Pl:=[_,_,_,_,_,_]) (dJ:=[_,_,_,_,_,_]) [5,4,2,1,0,3] (by decide) rfl;obtain ⟨Ga,hma,hb2',H⟩:=H.eu;obtain ⟨Gb,hmb,rJ,H⟩:=H.eu;obtain ⟨Gc,hmc,Sq,H⟩:=H.eu;obtain ⟨Gd,hmd,akR,H⟩:=H.eu;obtain ⟨Ge,hme,akS,H⟩:=H.eu;have Dc:∀ b o,G b=some o→Ge b=some o:=fun b o h=>hme b o (hmd b o (hmc b o (hmb b o (hma b o h))));have q2:∀ j v,[.slice pA pn pc,vi h.marks.ins,vi h.marks.move,.slice dA h.marks.bL.length dc,.slice lA ln lc][j]?=some v→aI Ge b2 (0+j)=some v:=fun j v hj=>aH (fun b o h=>hme b o (hmd b o (hmc b o (hmb b o h)))) (kW hb2' 0 _ rfl j v hj);have q8:∀ j v,[vi h.marks.ins,vi h.marks.move,.slice dA h.marks.bL.length dc,.slice lA ln lc][j]?=some v→aI Ge b8 (0+j)=some v:=fun j v hj=>kW akS 0 _ rfl j v hj;have hvb:aI Gb b3 0=some vv:=kW rJ 0 [vv] rfl 0 _ rfl;have vD:yD (Mi b3) Ge acc:=(adC hvb (hvv.mono fun b o h=>hmb b o (hma b o h))).mono fun b o h=>hme b o (hmd b o (hmc b o h));have wJ:yD (OA b3) Ge rej:=(apk hvb (hvv.mono fun b o h=>hmb b o (hma b o h))).mono fun b o h=>hme b o (hmd b o (hmc b o h));have q6:aI Ge b6 0=some (Mi b3):=aH (fun b o h=>hme b o (hmd b o h)) (kW Sq 0 [Mi b3] rfl 0 _ rfl);have q7:aI Ge b7 0=some (OA b3):=aH hme (kW akR 0 [OA b3] rfl 0 _ rfl);replace hh:=hh.mono Dc;refine aC ?_;refine dQ ?_;refine qz (ι:=GH) (Tc:=[(2,_),(4,_),(6,_),(7,_),(8,_)]) (Lc:=[(_,_)]) (fun gh=>[]) (fun gh=>[]) (fun gh=>gh) (fun gh=>¬ kX acc rej h∧(∀ b o,Ge b=some o→gh b=some o)) sB ?_ ?_
  · refine fM 2 H ?_;clear H;intro a H;refine iC bR H wn rfl (H.hp.aI (q8 0 _ rfl)) rfl ?_;clear H;refine jM 2 29 ?_ ?_
    · intro oG
      try have p29:=dT oG
      refine ak 2 ?_;intro a H;refine iC bR H (wg H rfl rfl oG) rfl (H.hp.aI (q8 0 _ rfl)) rfl ?_;clear H;intro a H;refine ji H (wg H rfl rfl oG) rfl rfl (wJ _ _ (fun _ _ h=>h) H.ro h.marks.ins) rfl ?_;clear H;rintro v33 VN a w rfl SV H;refine kJ 2 35 H ?_ ?_ <;> clear H
      · intro yR
        try have p35:=dT yR
        refine ak 8 ?_;intro a H;refine jh Iy [_,_,_,_,_] H wn rfl rfl rfl rfl ?_;clear H;intro a H;refine aX dw 0 (vs:=[_,_,_,_,_]) _ H wn rfl rfl rfl rfl rfl rfl rfl rfl ?_;clear H;intro w H;dsimp only [List.set,setRow] at H;refine aD 2 H ?_;clear H;intro a H;refine cu ?_;refine (eU H results96 (.cons (kT dw (cs:=[_,_,_,_,_]) H rfl rfl (H.hp.bO 0 rfl rfl)) (.cons (aZ H rfl) .nil)) ?_).1
        first
          | exact H.rt (by rw [ni,av (by first|exact .inl ⟨by assumption,by assumption⟩|exact .inr (GX.1 (by assumption)))];exact ⟨_,_,_,rfl,FN _⟩)
          | (obtain ⟨PN,zm,rQ,H⟩:=St.mR (Li:=[_,_]) H hrw (rows:=ly.map cK.dat) (by simp) dV
             exact H.rt (by rw [ni,ah tH,Nv];exact ⟨_,_,_,rfl,⟨hpv.mono zm,(hdr.mono gU).mono zm,rQ⟩⟩))
      intro yR
      try have p35:=dF yR
      refine ak 1 ?_;intro a H;refine iC Cu H (wg H rfl rfl yR) rfl (H.hp.aI (aH (by first|assumption|exact fun _ _ h=>h) (q8 2 _ rfl))) rfl ?_;clear H;intro a H;refine nQ H (wg H rfl rfl yR) rfl rfl ?_;clear H;intro a H;refine s_call XJ H (wg H rfl rfl yR) rfl (Xh _ _ H.ro h.marks.bL (fun x=>acc x.rev) _ _ (hh.bL.mono (by first|assumption|exact fun _ _ h=>h)) (fun x _=>Xu (aH (by first|assumption|exact fun _ _ h=>h) q6) (vD.mono (by first|assumption|exact fun _ _ h=>h)) x)) rfl ?_;clear H;rintro v39 VP a w rfl NA H;refine gF 2 H ?_ ?_ <;> clear H
      · intro p40
        refine ak 1 ?_;intro a H;refine jh Iy [_,_,_,_,_] H wn rfl rfl rfl rfl ?_;clear H;intro a H;refine aX dw 0 (vs:=[_,_,_,_,_]) _ H wn rfl rfl rfl rfl rfl rfl rfl rfl ?_;clear H;intro w H;dsimp only [List.set,setRow] at H;refine aD 2 H ?_;clear H;intro a H;refine cu ?_;refine (eU H results96 (.cons (kT dw (cs:=[_,_,_,_,_]) H rfl rfl (H.hp.bO 0 rfl rfl)) (.cons (aZ H rfl) .nil)) ?_).1
        first
          | exact H.rt (by rw [ni,av (by first|exact .inl ⟨by assumption,by assumption⟩|exact .inr (GX.1 (by assumption)))];exact ⟨_,_,_,rfl,FN _⟩)
          | (obtain ⟨PN,zm,rQ,H⟩:=St.mR (Li:=[_,_]) H hrw (rows:=ly.map cK.dat) (by simp) dV
             exact H.rt (by rw [ni,ah tH,Nv];exact ⟨_,_,_,rfl,⟨hpv.mono zm,(hdr.mono gU).mono zm,rQ⟩⟩))
      intro p40
      intro a H;refine jL ?_;refine ⟨_,sB,?_⟩;exact ⟨fun hg=>hg.elim (fun g=>by simp_all) (fun g=>by have g4:=GX.2 g;simp_all),by first|assumption|exact fun b o h=>NA b o (SV b o h)⟩
    intro oG
    try have p29:=dF oG
    refine ak 6 ?_;intro a H;refine Iu GR H (wg H rfl rfl rfl) rfl rfl ?_;clear H;intro a H;refine iC Cu H (wg H rfl rfl rfl) rfl (H.hp.aI (aH (by first|assumption|exact fun _ _ h=>h) (q8 2 _ rfl))) rfl ?_;clear H;intro a H;refine nQ H (wg H rfl rfl rfl) rfl rfl ?_;clear H;intro a H;refine s_call XJ H (wg H rfl rfl rfl) rfl (Xh _ _ H.ro h.marks.bL (fun x=>acc x.rev) _ _ (hh.bL.mono (by first|assumption|exact fun _ _ h=>h)) (fun x _=>Xu (aH (by first|assumption|exact fun _ _ h=>h) q6) (vD.mono (by first|assumption|exact fun _ _ h=>h)) x)) rfl ?_;clear H;rintro v39 VP a w rfl NA H;refine gF 2 H ?_ ?_ <;> clear H
    · intro p40
      refine ak 1 ?_;intro a H;refine jh Iy [_,_,_,_,_] H wn rfl rfl rfl rfl ?_;clear H;intro a H;refine aX dw 0 (vs:=[_,_,_,_,_]) _ H wn rfl rfl rfl rfl rfl rfl rfl rfl ?_;clear H;intro w H;dsimp only [List.set,setRow] at H;refine aD 2 H ?_;clear H;intro a H;refine cu ?_;refine (eU H results96 (.cons (kT dw (cs:=[_,_,_,_,_]) H rfl rfl (H.hp.bO 0 rfl rfl)) (.cons (aZ H rfl) .nil)) ?_).1
      first
        | exact H.rt (by rw [ni,av (by first|exact .inl ⟨by assumption,by assumption⟩|exact .inr (GX.1 (by assumption)))];exact ⟨_,_,_,rfl,FN _⟩)
        | (obtain ⟨PN,zm,rQ,H⟩:=St.mR (Li:=[_,_]) H hrw (rows:=ly.map cK.dat) (by simp) dV
           exact H.rt (by rw [ni,ah tH,Nv];exact ⟨_,_,_,rfl,⟨hpv.mono zm,(hdr.mono gU).mono zm,rQ⟩⟩))
    intro p40
    intro a H;refine jL ?_;refine ⟨_,sB,?_⟩;exact ⟨fun hg=>hg.elim (fun g=>by simp_all) (fun g=>by have g4:=GX.2 g;simp_all),by first|assumption|exact fun b o h=>NA b o (SV b o h)⟩
  clear H;intro gj a w hI H;obtain ⟨tH,hgj⟩:=hI;replace q2:=fun j v hj=>aH hgj (q2 j v hj);replace q8:=fun j v hj=>aH hgj (q8 j v hj);replace q6:=aH hgj q6;replace q7:=aH hgj q7;replace vD:=vD.mono hgj;replace wJ:=wJ.mono hgj;replace hh:=hh.mono hgj;dsimp only [lca,bG] at H;refine C9 ?_
  have BQ:∀ (aJ aQ:Nat) (v:aj) (G G':GH),(∀ k o,G k=some o→G' k=some o)→(fun (aJ aQ:Nat) (v:aj) (G:GH)=>match aQ with|0=>v=(aG b2 0)|1=>v=.slice pA pn pc|2=>au G (.sl 2 (h.props.map aT.dat)) v|3=>v=(aG b8 0)|4=>v=vi h.marks.ins|5=>v=(aG b8 1)|6=>v=vi h.marks.move|7=>v=.agg #[vi h.marks.ins,vi h.marks.move,.slice none 0 0,.slice none 0 0]|8=>∃ A n c,v=.agg #[.slice A n c,vi h.marks.ins,vi h.marks.move,.slice none 0 0,.slice none 0 0]∧au G (.sl 2 (h.props.map aT.dat)) (.slice A n c)|9=>v=(aG aJ 0)|_=>True) aJ aQ v G→(fun (aJ aQ:Nat) (v:aj) (G:GH)=>match aQ with|0=>v=(aG b2 0)|1=>v=.slice pA pn pc|2=>au G (.sl 2 (h.props.map aT.dat)) v|3=>v=(aG b8 0)|4=>v=vi h.marks.ins|5=>v=(aG b8 1)|6=>v=vi h.marks.move|7=>v=.agg #[vi h.marks.ins,vi h.marks.move,.slice none 0 0,.slice none 0 0]|8=>∃ A n c,v=.agg #[.slice A n c,vi h.marks.ins,vi h.marks.move,.slice none 0 0,.slice none 0 0]∧au G (.sl 2 (h.props.map aT.dat)) (.slice A n c)|9=>v=(aG aJ 0)|_=>True) aJ aQ v G':=by
    intro aJ aQ v G G' hm h
    match aQ,h with
    | 0,h=>exact h
    | 1,h=>exact h
    | 2,h=>exact au.mono hm h
    | 3,h=>exact h
    | 4,h=>exact h
    | 5,h=>exact h
    | 6,h=>exact h
    | 7,h=>exact h
    | 8,h=>exact let ⟨A,n,c,h1,h2⟩:=h;⟨A,n,c,h1,h2.mono hm⟩
    | 9,h=>exact h
    | 10,h=>exact trivial
    | _+11,h=>exact trivial
  refine adU (hmx) [[],[0],[0,1],[],[3],[],[5],(ra 3 4),(ra 0 8),[],(ra 0 10)] [10] (by kernel_rfl) (by kernel_rfl) 9 (by decide) (.cells #[.slice none 0 0,vi 0,vi 0,.slice none 0 0,.slice none 0 0] 29 (0,0)) (fun (aJ aQ:Nat) (v:aj) (G:GH)=>match aQ with|0=>v=(aG b2 0)|1=>v=.slice pA pn pc|2=>au G (.sl 2 (h.props.map aT.dat)) v|3=>v=(aG b8 0)|4=>v=vi h.marks.ins|5=>v=(aG b8 1)|6=>v=vi h.marks.move|7=>v=.agg #[vi h.marks.ins,vi h.marks.move,.slice none 0 0,.slice none 0 0]|8=>∃ A n c,v=.agg #[.slice A n c,vi h.marks.ins,vi h.marks.move,.slice none 0 0,.slice none 0 0]∧au G (.sl 2 (h.props.map aT.dat)) (.slice A n c)|9=>v=(aG aJ 0)|_=>True) (fun _ _ i v G hi h=>by
    match i,hi,h with
    | 0,hi,h=>exact h
    | 1,hi,h=>exact h
    | 2,hi,h=>exact h
    | 3,hi,h=>exact h
    | 4,hi,h=>exact h
    | 5,hi,h=>exact h
    | 6,hi,h=>exact h
    | 7,hi,h=>exact h
    | 8,hi,h=>exact h
    | 9,hi,h=>exact absurd rfl hi
    | 10,hi,h=>exact trivial
    | _+11,_,h=>exact trivial) H ?_ ?_ ?_ (by kernel_rfl)
  · clear H;refine aF ?_ ?_ ?_ ?_ (aF ?_ ?_ ?_ ?_ (bH ?_ (bH ?_ (bH ?_ cO))))
    · intro aJ dH aS a w G1 _ _ aL hc hG HT hv;have H:=HT;clear aL;have Hb:=H.full;have H:=Hb;clear hc;refine aD 1 H ?_;clear H;intro a H;refine aC ⟨rfl,?_⟩;exact dL (by kernel_rfl) (BQ aJ) rfl rfl HT Hb hG hv (fun _ _ h=>h) (rfl) H
    · intro aJ dH aS a w G1 _ _ aL hc hG HT hv;have H:=HT;clear aL;have H:=H.aN (hv 0 42 (hc 0 (by decide)) rfl) rfl;have Hb:=H.full;have H:=Hb;clear hc;refine iC FC H wn rfl (H.hp.aI (aH hG (q2 0 _ rfl))) rfl ?_;clear H;intro a H;refine aC ⟨rfl,?_⟩;exact dL (by kernel_rfl) (BQ aJ) rfl rfl HT Hb hG hv (fun _ _ h=>h) (rfl) H
    · intro aJ dH aS a w G1 _ _ aL hc hG HT hv;have H:=HT;clear aL;have H:=H.aN (hv 1 43 (hc 1 (by decide)) rfl) rfl;have Hb:=H.full;have H:=Hb;clear hc;refine s_call QI H wn rfl (aoJ _ _ H.ro h.props _ (hh.props.mono hG) (by omega)) rfl ?_;clear H;rintro v44 VQ a w Kg akm H;refine aC ⟨rfl,?_⟩;exact dL (by kernel_rfl) (BQ aJ) rfl rfl HT Hb hG hv akm (Kg) H
    · intro aJ dH aS a w G1 _ _ aL hc hG HT hv;have H:=HT;clear aL;have Hb:=H.full;have H:=Hb;clear hc;refine aD 1 H ?_;clear H;intro a H;refine aC ⟨rfl,?_⟩;exact dL (by kernel_rfl) (BQ aJ) rfl rfl HT Hb hG hv (fun _ _ h=>h) (rfl) H
    · intro aJ dH aS a w G1 _ _ aL hc hG HT hv;have H:=HT;clear aL;have H:=H.aN (hv 3 45 (hc 3 (by decide)) rfl) rfl;have Hb:=H.full;have H:=Hb;clear hc;refine iC bR H wn rfl (H.hp.aI (aH hG (q8 0 _ rfl))) rfl ?_;clear H;intro a H;refine aC ⟨rfl,?_⟩;exact dL (by kernel_rfl) (BQ aJ) rfl rfl HT Hb hG hv (fun _ _ h=>h) (rfl) H
    · intro aJ dH aS a w G1 _ _ aL hc hG HT hv;have H:=HT;clear aL;have Hb:=H.full;have H:=Hb;clear hc;refine aD 1 H ?_;clear H;intro a H;refine aC ⟨rfl,?_⟩;exact dL (by kernel_rfl) (BQ aJ) rfl rfl HT Hb hG hv (fun _ _ h=>h) (rfl) H
    · intro aJ dH aS a w G1 _ _ aL hc hG HT hv;have H:=HT;clear aL;have H:=H.aN (hv 5 47 (hc 5 (by decide)) rfl) rfl;have Hb:=H.full;have H:=Hb;clear hc;refine iC bR H wn rfl (H.hp.aI (aH hG (q8 1 _ rfl))) rfl ?_;clear H;intro a H;refine aC ⟨rfl,?_⟩;exact dL (by kernel_rfl) (BQ aJ) rfl rfl HT Hb hG hv (fun _ _ h=>h) (rfl) H
    · intro aJ dH aS a w G1 _ _ aL hc hG HT hv;have H:=HT;clear aL;have H:=H.aN (hv 4 46 (hc 4 (by decide)) rfl) rfl;have H:=H.aN (hv 6 48 (hc 6 (by decide)) rfl) rfl;have Hb:=H.full;have H:=Hb;clear hc;refine jh U5 [_,_,_,_] H wn rfl rfl rfl rfl ?_;clear H;intro a H;refine aC ⟨rfl,?_⟩;exact dL (by kernel_rfl) (BQ aJ) rfl rfl HT Hb hG hv (fun _ _ h=>h) (rfl) H
    · intro aJ dH aS a w G1 _ _ aL hc hG HT hv;have H:=HT;clear aL;obtain ⟨u44,amF,Kg⟩:=hv 2 44 (hc 2 (by decide)) rfl;(try dsimp only at Kg);obtain ⟨A44,n44,c44,rfl⟩:=Kg.form;have H:=H.ig amF;have H:=H.aN (hv 7 49 (hc 7 (by decide)) rfl) rfl;have Hb:=H.full;have H:=Hb;clear hc;refine jh Iy [_,_,_,_,_] H wn rfl rfl rfl rfl ?_;clear H;intro a H;refine aC ⟨rfl,?_⟩;exact dL (by kernel_rfl) (BQ aJ) rfl rfl HT Hb hG hv (fun _ _ h=>h) (⟨_,_,_,rfl,Kg⟩) H
    · intro _ _ _ _ _ _ _ hB;exact absurd hB (by decide)
    intro _ _ _ _ _ _ hB;exact absurd hB (by decide)
  · clear H;intro o_ aS a w G1 jT _ hc hG HT hv;obtain rfl:_=o_:=Option.some.inj jT;clear jT;have H:=HT;have Hb:=H.full;have H:=Hb;clear hc;refine dz dw H wn rfl ?_;clear H;intro b9 a w tC H;refine aC ⟨rfl,b9,?_⟩;exact Eo (by kernel_rfl) rfl HT Hb hG (fun j e h1 h2 h3=>hv _ j e h1 h2 h3) (rfl) H
  clear H;intro b9 a w G gD H hv;have H:=H.aN (hv 9 9 rfl rfl) rfl;obtain ⟨u50,amG,ZE⟩:=hv 8 50 (by decide) rfl;(try dsimp only at ZE);obtain ⟨qA,qn,qc,rfl,ER⟩:=ZE;have H:=H.ig amG;clear hv;refine aX dw 0 (vs:=[_,_,_,_,_]) _ H wn rfl rfl rfl rfl rfl rfl rfl rfl ?_;clear H;intro w H;dsimp only [List.set,setRow] at H;replace q2:=fun j v hj=>aH gD (q2 j v hj);replace q8:=fun j v hj=>aH gD (q8 j v hj);replace q6:=aH gD q6;replace q7:=aH gD q7;replace vD:=vD.mono gD;replace wJ:=wJ.mono gD;replace hh:=hh.mono gD;obtain ⟨Gf,hGf⟩:∃ g,g=G:=⟨_,rfl⟩;refine aC ⟨rfl,?_⟩;refine dQ ?_;refine qz (ι:=Int × Int × GH) (Tc:=[(2,_),(4,_),(6,_),(7,_),(8,_),(9,_)]) (Lc:=[(_,_)]) (fun gh=>[]) (fun gh=>[(b9,.cells #[.slice qA qn qc,vi gh.1,vi gh.2.1,.slice none 0 0,.slice none 0 0] 29 (0,0))]) (fun gh=>gh.2.2) (fun gh=>gh.1=(if tK acc h then 0 else h.marks.ins)∧gh.2.1=(if tK acc h then 0 else h.marks.move)∧(∀ b o,G b=some o→gh.2.2 b=some o)) (by exact (H.dY (Pl:=[_,_]) (dJ:=[_,_]) [1,0] (by decide) rfl).sub ⟨rfl,rfl,rfl,rfl,rfl,rfl,bq⟩) ?_ ?_
  · refine fM 2 H ?_;clear H;intro a H;refine iC bR H wn rfl (H.hp.aI (q8 0 _ rfl)) rfl ?_;clear H;refine jM 2 54 ?_ ?_
    · intro tq
      try have p54:=dT tq
      refine ak 2 ?_;intro a H;refine iC bR H (wg H rfl rfl tq) rfl (H.hp.aI (q8 0 _ rfl)) rfl ?_;clear H;intro a H;refine ji H (wg H rfl rfl tq) rfl rfl (vD _ _ (fun _ _ h=>h) H.ro h.marks.ins) rfl ?_;clear H;rintro v58 G58 a w rfl alJ H;refine gF 2 H ?_ ?_ <;> clear H
      · intro p59
        refine ak 3 ?_;intro a H;refine aX bR 0 (vs:=[_]) _ H wn rfl rfl rfl rfl rfl rfl rfl rfl ?_;clear H;intro w H;dsimp only [List.set,setRow] at H;refine aD 2 H ?_;clear H;intro a H;refine aX bR 0 (vs:=[_]) _ H wn rfl rfl rfl rfl rfl rfl rfl rfl ?_;clear H;intro w H;dsimp only [List.set,setRow] at H;refine aC ?_;refine ⟨(_,_,_),by exact (H.dY (Pl:=[_,_]) (dJ:=[_,_]) [1,0] (by decide) rfl).sub ⟨rfl,rfl,rfl,rfl,rfl,rfl,bq⟩,?_⟩;(try dsimp only)
        first
        | exact ⟨(av ⟨by assumption,by assumption⟩).symm,(av ⟨by assumption,by assumption⟩).symm,by assumption⟩
        | exact ⟨(ah (fun hi=>by simp_all [tK])).symm,(ah (fun hi=>by simp_all [tK])).symm,by first|assumption|exact fun _ _ h=>h⟩
      intro p59
      intro a H;refine jL ?_;refine ⟨(_,_,_),by exact (H.dY (Pl:=[_,_]) (dJ:=[_,_]) [1,0] (by decide) rfl).sub ⟨rfl,rfl,rfl,rfl,rfl,rfl,bq⟩,?_⟩;(try dsimp only)
      first
      | exact ⟨(av ⟨by assumption,by assumption⟩).symm,(av ⟨by assumption,by assumption⟩).symm,by assumption⟩
      | exact ⟨(ah (fun hi=>by simp_all [tK])).symm,(ah (fun hi=>by simp_all [tK])).symm,by first|assumption|exact fun _ _ h=>h⟩
    intro tq
    try have p54:=dF tq
    refine ak 7 ?_;intro a H;refine jL ?_;refine ⟨(_,_,_),by exact (H.dY (Pl:=[_,_]) (dJ:=[_,_]) [1,0] (by decide) rfl).sub ⟨rfl,rfl,rfl,rfl,rfl,rfl,bq⟩,?_⟩;(try dsimp only)
    first
    | exact ⟨(av ⟨by assumption,by assumption⟩).symm,(av ⟨by assumption,by assumption⟩).symm,by assumption⟩
    | exact ⟨(ah (fun hi=>by simp_all [tK])).symm,(ah (fun hi=>by simp_all [tK])).symm,by first|assumption|exact fun _ _ h=>h⟩
  clear H;rintro ⟨io,mo,gk⟩ a w hI H;dsimp only at hI H;obtain ⟨hio,hmo,lg⟩:=hI;replace q2:=fun j v hj=>aH lg (q2 j v hj);replace q8:=fun j v hj=>aH lg (q8 j v hj);replace q6:=aH lg q6;replace q7:=aH lg q7;replace vD:=vD.mono lg;replace wJ:=wJ.mono lg;replace hh:=hh.mono lg;replace ER:=ER.mono lg;dsimp only [lca,bG] at H;refine fM 3 H ?_;clear H;intro a H;refine iC Cu H wn rfl (H.hp.aI (q8 2 _ rfl)) rfl ?_;clear H;refine ak 4 ?_;intro a H;refine eH (ι:=Nat × aj × List aj × OL × GH) (Tc:=[(2,_),(4,_),(6,_),(7,_),(9,_),(65,_),(66,_)]) (Lc:=[(_,_)]) (fun gh=>[(67,vi gh.1)]) (fun gh=>[(b9,.cells #[.slice qA qn qc,vi io,vi mo,gh.2.1,.slice none 0 0] 29 (0,0))]++gh.2.2.2.1) (fun gh=>gh.2.2.2.2) (fun gh=>gh.1≤h.marks.bL.length∧bV 159 2 gh.2.1 ((h.marks.bL.take gh.1).filter fun x=>!rej x.rev).length gh.2.2.1 gh.2.2.2.1∧bU gh.2.2.2.2 2 (((h.marks.bL.take gh.1).filter fun x=>!rej x.rev).map fF.dat) gh.2.2.1∧(∀ b o,gk b=some o→gh.2.2.2.2 b=some o)) (fun gh=>h.marks.bL.length - gh.1) ((0,.slice none 0 0,[],[],gk)) (by exact (H.Ij (A:=[_,_])).sub ⟨rfl,rfl,rfl,rfl,rfl,rfl,rfl,rfl,bq⟩) ?_ ?_
  · exact ⟨by omega,bV.nil,bU.nil,fun _ _ h=>h⟩
  clear H;rintro ⟨k,v,xs,Ld,g⟩ a w hI H;dsimp only at hI H;obtain ⟨hk,hrw,dV,hgm⟩:=hI;have hfl:=List.length_filter_le (fun x:fF=>!rej x.rev) (h.marks.bL.take k);rw [List.length_take] at hfl;dsimp only [lca,bG] at H;refine dO 4 H ?_ ?_ <;> clear H
  · intro p68
    have hk2:k < h.marks.bL.length:=by omega
    obtain ⟨bd,od,rfl,hrow⟩:=MQ (hh.bL.mono hgm) hk2;refine ak 5 ?_;intro a H;refine aR ow (cs:=[_,_]) H wn rfl rfl (fun j v hj=>H.hp.aI (hrow j v hj)) rfl ?_;clear H;intro a H;refine dz ow H wn rfl ?_;clear H;intro b11 a w Ez H;refine aX ow 0 (vs:=[_,_]) _ H wn rfl rfl rfl rfl rfl rfl rfl rfl ?_;clear H;intro w H;dsimp only [List.set,setRow] at H;refine aD 2 H ?_;clear H;intro a H;refine iC FB H wn rfl (H.hp.aI (aH hgm q7)) rfl ?_;clear H;refine ak 2 ?_;intro a H;refine ji H wn rfl rfl (wJ _ _ hgm H.ro h.marks.bL[k].rev) rfl ?_;clear H;rintro v74 VX a w rfl NC H;refine gF 2 H ?_ ?_ <;> clear H
    · intro p75
      refine ak 4 ?_;intro a H;refine aR ow (cs:=[_,_]) H wn rfl rfl (H.hp.bO 0 rfl rfl) rfl ?_;clear H;intro a H;refine gG yj ow [_,_] [_,_] H wn rfl rfl rfl rfl rfl (by intro i q h;match i,h with|0,h=>exact h|n+1,h=>simp at h) rfl rfl ?_;clear H;intro b80 a w ati H;refine lJ (Li:=[_,_,_,_]) (Lo:=Ld) (news:=h.marks.bL[k].cells) yj ow rfl rfl H wn rfl rfl hrw rfl (H.hp.bO 0 rfl rfl) rfl (by omega) (by omega) rfl ?_;clear H;intro v81 adn a w ZW H;obtain ⟨A81,c81,rfl,-,-⟩:=ZW.shape;refine aD 2 H ?_;clear H;intro a H;refine aX Cu 3 (vs:=[_]) _ H wn rfl rfl rfl rfl rfl rfl rfl rfl ?_;clear H;intro w H;dsimp only [List.set,setRow] at H;refine aD 4 H ?_;clear H;intro a H;refine aC ?_;refine cB ((k+1,_,xs++h.marks.bL[k].cells,adn,VX)) (by exact (H.dY (Pl:=[_,_,_,_]) (dJ:=[_,_]) [2,3] (by decide) rfl).sub ⟨rfl,rfl,rfl,rfl,rfl,rfl,rfl,rfl,bq⟩) ?_ ?_
      · (try dsimp only);exact ⟨by omega,by rw [fP hk2,List.filter_append,List.filter_cons_of_pos (by simp_all),List.filter_nil,iA];exact ZW,by rw [fP hk2,List.filter_append,List.filter_cons_of_pos (by simp_all),List.filter_nil,kM];exact (dV.mono NC).snoc (Xt _ _) rfl,fun b o h=>NC b o (hgm b o h)⟩
      first|omega|(dsimp only;omega)
    intro p75
    refine ak 4 ?_;intro a H;refine aC ?_;refine cB ((k+1,v,xs,Ld,VX)) (by exact (H.dY (Pl:=[_,_,_]) (dJ:=[_,_]) [1,2] (by decide) rfl).sub ⟨rfl,rfl,rfl,rfl,rfl,rfl,rfl,rfl,bq⟩) ?_ ?_
    · (try dsimp only);exact ⟨by omega,by rw [fP hk2,List.filter_append,List.filter_cons_of_neg (by simp_all),List.filter_nil,gu];exact hrw,by rw [fP hk2,List.filter_append,List.filter_cons_of_neg (by simp_all),List.filter_nil,gu];exact dV.mono NC,fun b o h=>NC b o (hgm b o h)⟩
    first|omega|(dsimp only;omega)
  intro p68
  obtain rfl:k=h.marks.bL.length:=by omega
  rw [uZ] at hrw dV;intro a H;obtain ⟨Gr,hmr,hdr,H⟩:=St.mR (Li:=[_,_]) H hrw (rows:=(h.marks.bL.filter fun x=>!rej x.rev).map fF.dat) (by simp) dV;obtain ⟨rA,rn,rc,rfl⟩:=hdr.form;(try dsimp only [lca,bG] at H);have hgr:∀ b o,gk b=some o→Gr b=some o:=fun b o h=>hmr b o (hgm b o h);replace q2:=fun j v hj=>aH hgr (q2 j v hj);replace q8:=fun j v hj=>aH hgr (q8 j v hj);replace q6:=aH hgr q6;replace q7:=aH hgr q7;replace vD:=vD.mono hgr;replace wJ:=wJ.mono hgr;replace hh:=hh.mono hgr;replace ER:=ER.mono hgr;refine fM 3 H ?_;clear H;intro a H;refine aR dw (cs:=[.slice pA pn pc,vi h.marks.ins,vi h.marks.move,.slice dA h.marks.bL.length dc,.slice lA ln lc]) H wn rfl rfl (fun j v hj=>H.hp.aI (q2 j v hj)) rfl ?_;clear H;intro a H;refine s_call agC H wn rfl (anJ _ _ H.ro h _ _ _ hh (by omega)) rfl ?_;clear H;rintro v86 G86 a w ⟨bg,rfl,hit⟩ Df H;obtain ⟨all,hall⟩:∃ L,L=pR h.marks.layers.length h.marks.layers:=⟨_,rfl⟩;rw [← hall] at hit;obtain ⟨hfl,hne⟩:=Jv h.marks.layers.length h.marks.layers (bP _);rw [← hall] at hfl hne;have hsum:∀ k,k≤all.length→k≤((all.take k).flatMap Prod.snd).length∧((all.take k).flatMap Prod.snd).length≤h.marks.layers.length:=ajU hfl hne;replace q2:=fun j v hj=>aH Df (q2 j v hj);replace q6:=aH Df q6;replace q7:=aH Df q7;replace vD:=vD.mono Df;replace wJ:=wJ.mono Df;replace hh:=hh.mono Df;replace ER:=ER.mono Df;replace hdr:=hdr.mono Df;refine aD 2 H ?_;clear H;intro a H;refine aee (ι:=aj × List aT × aj × List cK × List aj × OL) (κ:=Empty) (Lc:=[(_,_)]) (fun (k:Nat) (gh:aj × List aT × aj × List cK × List aj × OL)=>[(b9,.cells #[gh.1,vi io,vi mo,.slice rA rn rc,gh.2.2.1] 29 (0,0))]) (fun (k:Nat) (gh:aj × List aT × aj × List cK × List aj × OL)=>gh.2.2.2.2.2) (fun (k:Nat) (gh:aj × List aT × aj × List cK × List aj × OL) (g:GH)=>au g (.sl 2 (gh.2.1.map aT.dat)) gh.1∧bV 161 4 gh.2.2.1 gh.2.2.2.1.length gh.2.2.2.2.1 gh.2.2.2.2.2∧bU g 4 (gh.2.2.2.1.map cK.dat) gh.2.2.2.2.1∧vw acc rej h.props (all.drop k) (gh.2.1,gh.2.2.2.1)=vw acc rej h.props all (h.props,[])∧gh.2.1.length≤h.props.length+k∧gh.2.2.2.1.length≤((all.take k).flatMap Prod.snd).length) (fun x=>x.elim) (fun x=>x.elim) (fun x=>x.elim) (fun x=>x.elim) ((.slice qA qn qc,h.props,.slice none 0 0,[],[],[])) (by exact H.Ij (A:=[_,_])) rfl XP (hit) (fun _ _ h=>h) rfl (fun k args g h=>by obtain ⟨_,_,_,rfl,_⟩:=YA h;rfl) (fun k i G G' hm h=>⟨h.1.mono hm,h.2.1,h.2.2.1.mono hm,h.2.2.2⟩) (fun x=>x.elim) (⟨ER,bV.nil,bU.nil,rfl,bP _,gN _⟩) ?_ ?_ ?_
  · clear H;intro l16 Fv Bp bk k args gh nk w16 F16 B16 a alE gU hI akT alQ atG H;obtain ⟨pv,ps,vy,ly,xs,Ly⟩:=gh;dsimp only at hI H;obtain ⟨hk,tA,tc,rfl,hlr⟩:=YA alE;dsimp only [zZ,List.cons_append,List.nil_append] at H;obtain ⟨hpv,hrw,dV,hdc,hpl,hll⟩:=hI;obtain ⟨pvA,pvn,pvc,rfl⟩:=hpv.form;obtain ⟨vyA,vyc,rfl,-,-⟩:=hrw.shape;obtain ⟨key,hkey⟩:∃ x,x=all[k].1:=⟨_,rfl⟩;obtain ⟨ls,hls⟩:∃ x,x=all[k].2:=⟨_,rfl⟩;rw [← hls] at hlr;rw [← hkey,← hls] at H;have hs1:=hsum k (by omega);have hs2:=hsum (k+1) (by omega)
    have hs3:((all.take (k+1)).flatMap Prod.snd).length=((all.take k).flatMap Prod.snd).length+ls.length:=by rw [fP hk,List.flatMap_append,iA,hls];simp
    have ES:=aru h.props key ls;refine fM 5 H ?_;clear H;intro a H;refine aC ?_;refine akT _ _ _ _ _ _ (by exact H) ?_;clear H;intro w H;refine fM 11 H ?_;clear H;intro a H;refine eH (ι:=Nat × aj × List aj × OL × GH) (Tc:=[(2,_),(6,_),(7,_),(9,_),(12,_),(13,_),(89,_),(90,_)]) (Lc:=[(_,_),(_,_),(_,_)]) (fun gh=>[(14,gh.2.1),(91,vi gh.1)]) (fun gh=>[]++((bk++Ly)++gh.2.2.2.1)) (fun gh=>gh.2.2.2.2) (fun gh=>gh.1≤ls.length∧bV 242 2 gh.2.1 gh.1 gh.2.2.1 gh.2.2.2.1∧bU gh.2.2.2.2 2 ((ls.take gh.1).map fun y=>KS (y.before,y.had)) gh.2.2.1∧(∀ b o,nk b=some o→gh.2.2.2.2 b=some o)) (fun gh=>ls.length - gh.1) ((0,.slice none 0 0,[],[],nk)) (by exact (H.Ij (A:=[_,_,_])).sub ⟨rfl,rfl,rfl,rfl,rfl,rfl,rfl,rfl,rfl,rfl,bq⟩) ?_ ?_
    · exact ⟨by omega,bV.nil,bU.nil,fun _ _ h=>h⟩
    clear H;rintro ⟨i,vs,xs2,Ls,g2⟩ a w hI H;dsimp only at hI H;obtain ⟨hi,hrw2,rM,iT⟩:=hI;dsimp only [lca,bG] at H;refine dO 4 H ?_ ?_ <;> clear H
    · intro Im
      have hi2:i < ls.length:=by omega
      obtain ⟨bl,ol,rfl,hrow⟩:=Dp (hlr.mono iT) hi2;refine ak 5 ?_;intro a H;refine aR jv (cs:=[_,_,_,_]) H wn rfl rfl (fun j v hj=>H.hp.aI (hrow j v hj)) rfl ?_;clear H;intro a H;refine dz jv H wn rfl ?_;clear H;intro b16 a w YV H;refine aX jv 0 (vs:=[_,_,_,_]) _ H wn rfl rfl rfl rfl rfl rfl rfl rfl ?_;clear H;intro w H;dsimp only [List.set,setRow] at H;refine aD 3 H ?_;clear H;intro a H;refine aR jv (cs:=[_,_,_,_]) H wn rfl rfl (H.hp.bO 0 rfl rfl) rfl ?_;clear H;intro a H;refine s_call agD H wn rfl (adO _ _ H.ro ls[i]) rfl ?_;clear H;rintro v97 G97 a w rfl Zp H;refine gG FI qJ [_,_] [_,_] H wn rfl rfl rfl rfl rfl (by intro i q h;match i,h with|0,h=>exact h|n+1,h=>simp at h) rfl rfl ?_;clear H;intro b98 a w atj H;refine lJ (Li:=[_,_,_,_,_]++(bk++Ly)) (Lo:=Ls) (news:=[vi ls[i].before,.bool ls[i].had]) FI qJ rfl rfl (St.un (A:=[_,_,_,_,_]) H) wn rfl rfl hrw2 rfl (H.hp.bO 0 rfl rfl) rfl (by omega) (by omega) rfl ?_;clear H;intro v99 adw a w amn H;have H:=H.assoc;dsimp only [lca,bG] at H;refine aD 5 H ?_;clear H;intro a H;refine aC ?_;refine cB ((i+1,v99,xs2++[vi ls[i].before,.bool ls[i].had],adw,G97)) (by exact (H.dY (Pl:=[_,_,_,_,_]) (dJ:=[_,_,_]) [2,3,4] (by decide) rfl).sub ⟨rfl,rfl,rfl,rfl,rfl,rfl,rfl,rfl,rfl,rfl,bq⟩) ?_ ?_
      · (try dsimp only);exact ⟨by omega,amn,by rw [fP hi2,kM];exact (rM.mono Zp).snoc (abZ _ (ls[i].before,ls[i].had)) rfl,fun b o h=>Zp b o (iT b o h)⟩
      first|omega|(dsimp only;omega)
    intro Im
    obtain rfl:i=ls.length:=by omega
    rw [uZ] at rM;refine ak 3 ?_;intro a H;refine aR dw (cs:=[.slice pA pn pc,vi h.marks.ins,vi h.marks.move,.slice dA h.marks.bL.length dc,.slice lA ln lc]) H wn rfl rfl (fun j v hj=>H.hp.aI (aH iT (aH gU (q2 j v hj)))) rfl ?_;clear H;refine ak 1 ?_;intro a H;refine s_call agE H wn rfl (aoO _ _ H.ro h _ _ _ (hh.mono fun b o h=>iT b o (gU b o h)) key (by omega)) rfl ?_;clear H;rintro arT asB a w rfl Zg H;refine gG FI qJ [_,_] [_,_] H wn rfl rfl rfl rfl rfl (by intro i q h;match i,h with|0,h=>exact h|n+1,h=>simp at h) rfl rfl ?_;clear H;intro asK a w asS H;refine lJ (Li:=[_,_,_,_]++(bk++Ly)) (Lo:=Ls) (news:=[vi (yN h.props key).1,.bool (yN h.props key).2]) FI qJ rfl rfl (St.un (A:=[_,_,_,_]) H) wn rfl rfl hrw2 rfl (H.hp.bO 0 rfl rfl) rfl (by omega) (by omega) rfl ?_;clear H;intro atU asI a w amf H;obtain ⟨Gs,hms,NT,H⟩:=St.mR (Li:=[_,_,_,_]++(bk++Ly)) H amf (rows:=(pF h.props key ls).map KS) (by simp [pF]) (by have h1:=(rM.mono Zg).snoc (abZ _ (yN h.props key)) rfl;simpa [pF,kM,List.map_map,Function.comp_def] using h1);dsimp only [lca,bG] at H;obtain ⟨sA,sc,rfl,-,-,-⟩:=NT.slice;rw [bM,ES] at NT H;have hgs:∀ b o,nk b=some o→Gs b=some o:=fun b o h=>hms b o (Zg b o (iT b o h));refine aD 12 H ?_;clear H;intro a H;refine eH (ι:=Nat × Nat × GH) (Tc:=[(6,_),(7,_),(9,_),(12,_),(13,_),(14,_),(107,_),(108,_)]) (Lc:=[(_,_),(_,_),(_,_),(_,_)]) (fun gh=>[(17,vi gh.2.1),(109,vi gh.1)]) (fun gh=>[]++(bk++Ly)) (fun gh=>gh.2.2) (fun gh=>gh.1≤ls.length∧gh.2.1≤gh.1∧mQ acc (ls.drop gh.1) gh.1 gh.2.1=mQ acc ls 0 0∧(∀ b o,Gs b=some o→gh.2.2 b=some o)) (fun gh=>ls.length - gh.1) ((0,0,Gs)) sB ?_ ?_
    · exact ⟨by omega,bP _,by rw [List.drop_zero],fun _ _ h=>h⟩
    clear H;rintro ⟨i2,c2,g3⟩ a w hI H;dsimp only at hI H;obtain ⟨hi3,hc3,hfs,vK⟩:=hI;dsimp only [lca,bG] at H;refine dO 4 H ?_ ?_ <;> clear H
    · intro aox
      have hi4:i2 < ls.length:=by omega
      obtain ⟨bl,ol,rfl,hrow⟩:=Dp (hlr.mono fun b o h=>vK b o (hgs b o h)) hi4;refine ak 6 ?_;intro a H;refine aR jv (cs:=[_,_,_,_]) H wn rfl rfl (fun j v hj=>H.hp.aI (hrow j v hj)) rfl ?_;clear H;intro a H;refine dz jv H wn rfl ?_;clear H;intro b19 a w akH H;refine aD 1 H ?_;clear H;intro a H;refine aX jv 0 (vs:=[_,_,_,_]) _ H wn rfl rfl rfl rfl rfl rfl rfl rfl ?_;clear H;intro w H;dsimp only [List.set,setRow] at H;refine aD 2 H ?_;clear H;intro a H;refine iC FB H wn rfl (H.hp.aI (aH vK (aH hgs (aH gU q6)))) rfl ?_;clear H;refine ak 2 ?_;intro a H;refine ji H wn rfl rfl (vD _ _ (fun b o h=>vK b o (hgs b o (gU b o h))) H.ro ls[i2].rev) rfl ?_;clear H;rintro v117 VI a w rfl Zh H;refine gF 1 H ?_ ?_ <;> clear H
      · intro aoA
        refine ak 8 ?_;intro a H;refine aC ?_;refine cB ((i2+1,i2+1,VI)) (by exact (H.dY (Pl:=[_,_,_,_,_]) (dJ:=[_,_,_,_]) [1,2,3,4] (by decide) rfl).sub ⟨rfl,rfl,rfl,rfl,rfl,rfl,rfl,rfl,rfl,rfl,bq⟩) ?_ ?_
        · (try dsimp only);exact ⟨by omega,bP _,by rw [pJ hi4,mQ,av (by assumption)] at hfs;exact hfs,fun b o h=>Zh b o (vK b o h)⟩
        first|omega|(dsimp only;omega)
      intro aoA
      refine ak 4 ?_;intro a H;refine aC ?_;refine cB ((i2+1,c2,VI)) (by exact (H.dY (Pl:=[_,_,_,_,_]) (dJ:=[_,_,_,_]) [1,2,3,4] (by decide) rfl).sub ⟨rfl,rfl,rfl,rfl,rfl,rfl,rfl,rfl,rfl,rfl,bq⟩) ?_ ?_
      · (try dsimp only);exact ⟨by omega,by omega,by rw [pJ hi4,mQ,ah (by simp_all)] at hfs;exact hfs,fun b o h=>Zh b o (vK b o h)⟩
      first|omega|(dsimp only;omega)
    intro aox
    obtain rfl:i2=ls.length:=by omega
    rw [List.drop_length,mQ] at hfs;have hgt:∀ b o,nk b=some o→g3 b=some o:=fun b o h=>vK b o (hgs b o h);obtain ⟨bs,os,rfl,hr2⟩:=acf (NT.mono vK) (k:=c2) (by rw [ES];omega);obtain ⟨Ol,hn0⟩:∃ s,s=(pF h.props key ls)[c2]'(by rw [ES];omega):=⟨_,rfl⟩;rw [← hn0] at hr2
    intro a H;have hgd:(pF h.props key ls).getD c2 (0,false)=Ol:=by rw [hn0,List.getD_eq_getElem?_getD,eO (show c2 < (pF h.props key ls).length by rw [ES];omega)];rfl
    refine fM 4 H ?_;clear H;intro a H;refine wU FI qJ c2 H wn rfl rfl rfl (by omega) rfl ?_;clear H;intro a H;refine aR qJ (cs:=[vi Ol.1,.bool Ol.2]) H wn rfl rfl (fun j v hj=>H.hp.aI (hr2 j v hj)) rfl ?_;clear H;intro a H;refine dz qJ H wn rfl ?_;clear H;intro b20 a w asU H;refine aX qJ 0 (vs:=[_,_]) _ H wn rfl rfl rfl rfl rfl rfl rfl rfl ?_;clear H;intro w H;dsimp only [List.set,setRow] at H;refine aD 7 H ?_;clear H;intro a H;refine eH (ι:=Nat × (Int × Bool) × aj × List cK × List aj × OL × GH) (Tc:=[(7,_),(9,_),(12,_),(13,_),(14,_),(20,_)]) (Lc:=[(_,_),(_,_),(_,_)]) (fun gh=>[(21,vi gh.1)]) (fun gh=>[(b20,.cells #[vi gh.2.1.1,.bool gh.2.1.2] 242 (0,0)),(b9,.cells #[.slice pvA pvn pvc,vi io,vi mo,.slice rA rn rc,gh.2.2.1] 29 (0,0))]++(bk++gh.2.2.2.2.2.1)) (fun gh=>gh.2.2.2.2.2.2) (fun gh=>c2≤gh.1∧gh.1≤ls.length∧bV 161 4 gh.2.2.1 gh.2.2.2.1.length gh.2.2.2.2.1 gh.2.2.2.2.2.1∧bU gh.2.2.2.2.2.2 4 (gh.2.2.2.1.map cK.dat) gh.2.2.2.2.1∧gh.2.2.2.1++(vQ rej (pF h.props key ls) (ls.drop gh.1) gh.1 gh.2.1).1=ly++(qE acc rej h.props key ls).1∧(vQ rej (pF h.props key ls) (ls.drop gh.1) gh.1 gh.2.1).2=(qE acc rej h.props key ls).2∧gh.2.2.2.1.length≤ly.length+gh.1∧(∀ b o,g3 b=some o→gh.2.2.2.2.2.2 b=some o)) (fun gh=>ls.length - gh.1) ((c2,Ol,.slice vyA ly.length vyc,ly,xs,Ly,g3)) (by exact (H.dY (Pl:=[_,_,_,_,_]) (dJ:=[_,_,_,_,_]) [1,2,3,0,4] (by decide) rfl).sub ⟨rfl,rfl,rfl,rfl,rfl,rfl,rfl,bq⟩) ?_ ?_
    · exact ⟨bP _,by omega,hrw,dV.mono hgt,by rw [qE,← hfs,hgd],by rw [qE,← hfs,hgd],by show ly.length≤ly.length+c2;omega,fun _ _ h=>h⟩
    clear H;rintro ⟨i3,now,vy3,BX,Vu,P5,g4⟩ a w hI H;dsimp only at hI H;obtain ⟨hi5,hi6,hrw3,Sv,hq1,hq2,hq3,Ny⟩:=hI;obtain ⟨Pn,Po,rfl,-,-⟩:=hrw3.shape;have hgu:∀ b o,nk b=some o→g4 b=some o:=fun b o h=>Ny b o (hgt b o h);dsimp only [lca,bG] at H;refine dO 7 H ?_ ?_ <;> clear H
    · intro aoC
      have Zc:i3 < ls.length:=by omega
      obtain ⟨bl,ol,rfl,hrow⟩:=Dp (hlr.mono hgu) Zc;rw [pJ Zc,vQ] at hq1 hq2;refine ak 5 ?_;intro a H;refine dI hmx [[],[],[],[1,2],[1,2,3],(ra 1 4),(ra 0 6)] [6] (by kernel_rfl) [_,_,_,(aG bl (ol+i3*4)),_,_] H (aF (X0 rfl fun hG=>Rg FB rfl (aH hG (aH hgu (aH gU q7)))) (Z0 rfl (Rm rfl)) (Z0 rfl (Rm rfl)) ?_ (bH (Z1 3 135 rfl (Rf Yg rfl)) (bH (X1 4 136 rfl fun hG=>Rg bR rfl (aH hG (hrow 0 _ rfl))) (bH (bQ rfl) cO)))) ?_
      · refine dD 1 133 2 134 rfl rfl fun _ a w G1 hG HT H fin=>?_;refine wU oz jv i3 H wn rfl rfl rfl (by omega) rfl ?_;clear H;intro a H;exact fin H iJ rfl
      clear H;intro a w G Ew H hv;have H:=H.aN (hv 0 132 rfl rfl) rfl;have H:=H.aN (hv 5 137 rfl rfl) rfl;clear hv;refine ji H wn rfl rfl (wJ _ _ (fun b o h=>Ew b o (hgu b o (gU b o h))) H.ro ls[i3].rev) rfl ?_;clear H;rintro v138 adj a w rfl Hu H;refine aC ⟨rfl,?_⟩;refine dQ ?_;refine dO 0 H ?_ ?_ <;> clear H
      · intro aoE
        refine ak 5 ?_;intro a H;refine aC ?_;refine cB ((i3+1,now,.slice Pn BX.length Po,BX,Vu,P5,adj)) sB ?_ ?_
        · (try dsimp only);exact ⟨by omega,by omega,hrw3,Sv.mono fun b o h=>Hu b o (Ew b o h),by rw [av (by assumption)] at hq1;exact hq1,by rw [av (by assumption)] at hq2;exact hq2,by omega,fun b o h=>Hu b o (Ew b o (Ny b o h))⟩
        first|omega|(dsimp only;omega)
      intro aoE
      rw [ah (by simp_all)] at hq1 hq2;refine ak 2 ?_
      have BP:∀ (aJ aQ:Nat) (v:aj) (G G':GH),(∀ k o,G k=some o→G' k=some o)→(fun (aJ aQ:Nat) (v:aj) (G:GH)=>match aQ with|0=>v=(aG b9 1)|1=>v=(aG b9 4)|2=>v=.slice Pn BX.length Po|3=>v=.slice (some ⟨bl,ol,none⟩) ls.length tc|4=>v=vi i3|5=>v=(aG bl (ol+i3*4))|6=>v=.agg ls[i3].cells.toArray|7=>v=Fx now|8=>v=.agg (cK.cells ⟨ls[i3].rev,ls[i3].key,now.1,now.2⟩).toArray|9=>v=.slice (some ⟨aJ,0,none⟩) 1 1|_=>True) aJ aQ v G→(fun (aJ aQ:Nat) (v:aj) (G:GH)=>match aQ with|0=>v=(aG b9 1)|1=>v=(aG b9 4)|2=>v=.slice Pn BX.length Po|3=>v=.slice (some ⟨bl,ol,none⟩) ls.length tc|4=>v=vi i3|5=>v=(aG bl (ol+i3*4))|6=>v=.agg ls[i3].cells.toArray|7=>v=Fx now|8=>v=.agg (cK.cells ⟨ls[i3].rev,ls[i3].key,now.1,now.2⟩).toArray|9=>v=.slice (some ⟨aJ,0,none⟩) 1 1|_=>True) aJ aQ v G':=by
        intro aJ aQ v G G' hm h
        match aQ,h with
        | 0,h=>exact h
        | 1,h=>exact h
        | 2,h=>exact h
        | 3,h=>exact h
        | 4,h=>exact h
        | 5,h=>exact h
        | 6,h=>exact h
        | 7,h=>exact h
        | 8,h=>exact h
        | 9,h=>exact h
        | 10,h=>exact trivial
        | 11,h=>exact trivial
        | 12,h=>exact trivial
        | 13,h=>exact trivial
        | _+14,h=>exact trivial
      intro a H;refine adV (hmx) [[],[0],[0,1],[],[],[3,4],[3,4,5],[],(ra 3 5),(ra 3 6),(ra 0 10),(ra 0 11),(ra 0 12),(ra 0 13)] (ra 10 4) (by kernel_rfl) (by kernel_rfl) 9 (by decide) (.cells #[vi ls[i3].rev,vi ls[i3].key,vi now.1,.bool now.2] 161 (0,0)) (fun (aJ aQ:Nat) (v:aj) (G:GH)=>match aQ with|0=>v=(aG b9 1)|1=>v=(aG b9 4)|2=>v=.slice Pn BX.length Po|3=>v=.slice (some ⟨bl,ol,none⟩) ls.length tc|4=>v=vi i3|5=>v=(aG bl (ol+i3*4))|6=>v=.agg ls[i3].cells.toArray|7=>v=Fx now|8=>v=.agg (cK.cells ⟨ls[i3].rev,ls[i3].key,now.1,now.2⟩).toArray|9=>v=.slice (some ⟨aJ,0,none⟩) 1 1|_=>True) (fun _ _ i v G hi h=>by
        match i,hi,h with
        | 0,hi,h=>exact h
        | 1,hi,h=>exact h
        | 2,hi,h=>exact h
        | 3,hi,h=>exact h
        | 4,hi,h=>exact h
        | 5,hi,h=>exact h
        | 6,hi,h=>exact h
        | 7,hi,h=>exact h
        | 8,hi,h=>exact h
        | 9,hi,h=>exact absurd rfl hi
        | 10,hi,h=>exact trivial
        | 11,hi,h=>exact trivial
        | 12,hi,h=>exact trivial
        | 13,hi,h=>exact trivial
        | _+14,_,h=>exact trivial) H ?_ ?_ ?_ (by kernel_rfl)
      · clear H;refine aF ?_ ?_ ?_ ?_ (aF ?_ ?_ ?_ ?_ (aF ?_ ?_ ?_ ?_ (bH ?_ (bH ?_ cO))))
        · intro aJ dH aS a w G1 dN _ _ aL hc hG HT hv;have H:=HT;clear aL;have Hb:=H.full;have H:=Hb;clear hc;refine aD 1 H ?_;clear H;intro a H;refine aC ⟨rfl,?_⟩;exact dL (by kernel_rfl) (BP aJ) rfl rfl HT Hb hG hv (fun _ _ h=>h) (rfl) H
        · intro aJ dH aS a w G1 dN _ _ aL hc hG HT hv;have H:=HT;clear aL;have H:=H.aN (hv 0 139 (hc 0 (by decide)) rfl) rfl;have Hb:=H.full;have H:=Hb;clear hc;refine aD 1 H ?_;clear H;intro a H;refine aC ⟨rfl,?_⟩;exact dL (by kernel_rfl) (BP aJ) rfl rfl HT Hb hG hv (fun _ _ h=>h) (rfl) H
        · intro aJ dH aS a w G1 dN _ _ aL hc hG HT hv;have H:=HT;clear aL;have H:=H.aN (hv 1 140 (hc 1 (by decide)) rfl) rfl;have Hb:=H.full;have H:=Hb;clear hc;refine iC Pb H wn rfl (H.hp.wQ (dN _ (gB _ (gB _ (gB _ (gB _ fK))))) rfl) rfl ?_;clear H;intro a H;refine aC ⟨rfl,?_⟩;exact dL (by kernel_rfl) (BP aJ) rfl rfl HT Hb hG hv (fun _ _ h=>h) (rfl) H
        · intro aJ dH aS a w G1 dN _ _ aL hc hG HT hv;have H:=HT;clear aL;have Hb:=H.full;have H:=Hb;clear hc;refine aD 1 H ?_;clear H;intro a H;refine aC ⟨rfl,?_⟩;exact dL (by kernel_rfl) (BP aJ) rfl rfl HT Hb hG hv (fun _ _ h=>h) (rfl) H
        · intro aJ dH aS a w G1 dN _ _ aL hc hG HT hv;have H:=HT;clear aL;have Hb:=H.full;have H:=Hb;clear hc;refine aD 1 H ?_;clear H;intro a H;refine aC ⟨rfl,?_⟩;exact dL (by kernel_rfl) (BP aJ) rfl rfl HT Hb hG hv (fun _ _ h=>h) (rfl) H
        · intro aJ dH aS a w G1 dN _ _ aL hc hG HT hv;have H:=HT;clear aL;have H:=H.aN (hv 3 142 (hc 3 (by decide)) rfl) rfl;have H:=H.aN (hv 4 143 (hc 4 (by decide)) rfl) rfl;have Hb:=H.full;have H:=Hb;clear hc;refine wU oz jv i3 H wn rfl rfl rfl (by omega) rfl ?_;clear H;intro a H;refine aC ⟨rfl,?_⟩;exact dL (by kernel_rfl) (BP aJ) rfl rfl HT Hb hG hv (fun _ _ h=>h) (rfl) H
        · intro aJ dH aS a w G1 dN _ _ aL hc hG HT hv;have H:=HT;clear aL;have H:=H.aN (hv 5 144 (hc 5 (by decide)) rfl) rfl;have Hb:=H.full;have H:=Hb;clear hc;refine aR jv (cs:=ls[i3].cells) H wn rfl rfl (fun j v hj=>H.hp.aI (aH hG (aH Hu (aH Ew (hrow j v hj))))) rfl ?_;clear H;intro a H;refine aC ⟨rfl,?_⟩;exact dL (by kernel_rfl) (BP aJ) rfl rfl HT Hb hG hv (fun _ _ h=>h) (rfl) H
        · intro aJ dH aS a w G1 dN _ _ aL hc hG HT hv;have H:=HT;clear aL;have Hb:=H.full;have H:=Hb;clear hc;refine aR qJ (cs:=[vi now.1,.bool now.2]) H wn rfl rfl (fun j v hj=>H.hp.wQ (dN _ (gB _ (gB _ (gB _ fK)))) (by simpa using hj)) rfl ?_;clear H;intro a H;refine aC ⟨rfl,?_⟩;exact dL (by kernel_rfl) (BP aJ) rfl rfl HT Hb hG hv (fun _ _ h=>h) (rfl) H
        · intro aJ dH aS a w G1 dN _ _ aL hc hG HT hv;have H:=HT;clear aL;have H:=H.aN (hv 6 145 (hc 6 (by decide)) rfl) rfl;have H:=H.aN (hv 7 146 (hc 7 (by decide)) rfl) rfl;have Hb:=H.full;have H:=Hb;clear hc;refine s_call agF H wn rfl (ajP _ _ H.ro ls[i3] now) rfl ?_;clear H;rintro atX asD a w rfl ajZ H;refine aC ⟨rfl,?_⟩;exact dL (by kernel_rfl) (BP aJ) rfl rfl HT Hb hG hv ajZ (rfl) H
        · intro _ _ _ _ _ _ _ _ hB;exact absurd hB (by decide)
        · intro _ _ _ _ _ _ _ hB;exact absurd hB (by decide)
        · intro _ _ _ _ _ _ _ hB;exact absurd hB (by decide)
        · intro _ _ _ _ _ _ _ hB;exact absurd hB (by decide)
        intro _ _ _ _ _ _ _ hB;exact absurd hB (by decide)
      · clear H;intro o_ aS a w G1 jT _ hc hG HT hv;obtain rfl:_=o_:=Option.some.inj jT;clear jT;have H:=HT;have H:=H.aN (hv 0 8 147 (by decide) (hc 8 (by decide)) rfl) rfl;have Hb:=H.full;have H:=Hb;clear hc;refine gG oz jv [_,_,_,_] [_,_,_,_] H wn rfl rfl rfl rfl rfl (by intro i q h;match i,h with|0,h=>exact h|n+1,h=>simp at h) rfl rfl ?_;clear H;intro Wz a w asT H;refine aC ⟨rfl,Wz,?_⟩;exact Eo (by kernel_rfl) rfl HT Hb hG (fun j e h1 h2 h3=>hv _ j e h1 h2 h3) (rfl) H
      clear H;intro Wz a w G RZ H hv;have H:=H.aN (hv 2 141 rfl rfl) rfl;have H:=H.aN (hv 9 148 rfl rfl) rfl;clear hv;refine lJ (Li:=[_,_,_,_,_,_]++bk) (Lo:=P5) (news:=cK.cells ⟨ls[i3].rev,ls[i3].key,now.1,now.2⟩) oz jv rfl rfl (St.un (A:=[_,_,_,_,_,_]) H) wn rfl rfl hrw3 rfl (H.hp.bO 0 rfl rfl) rfl (by omega) (by omega) rfl ?_;clear H;intro atY adB a w ZR H;obtain ⟨asy,asM,rfl,-,-⟩:=ZR.shape;have H:=H.assoc;dsimp only [lca,bG] at H;refine kH H (Rf Jt rfl (Rf Rh rfl ?_));clear H;intro a H;refine aX Pb 5 (vs:=[_]) _ H wn rfl rfl rfl rfl rfl rfl rfl rfl ?_;clear H;intro w H;dsimp only [List.set,setRow] at H;refine aC ⟨rfl,?_⟩;refine dQ ?_;obtain ⟨_,_,he,hr3⟩:=acf (NT.mono fun b o h=>RZ b o (Hu b o (Ew b o (Ny b o (vK b o h))))) (k:=i3+1) (by rw [ES];omega)
      injection he with he
      injection he with e1 e2
      subst e1 e2;obtain ⟨nx,hn1⟩:∃ s,s=(pF h.props key ls)[i3+1]'(by rw [ES];omega):=⟨_,rfl⟩;rw [← hn1] at hr3
      have hnx:nx=(pF h.props key ls).getD (i3+1) (0,false):=by rw [hn1,List.getD_eq_getElem?_getD,eO (show i3+1 < (pF h.props key ls).length by rw [ES];omega)];rfl
      refine fM 4 H ?_;clear H;intro a H;refine wU FI qJ (i3+1) H wn rfl rfl (by omega) (by omega) rfl ?_;clear H;intro a H;refine aR qJ (cs:=[vi nx.1,.bool nx.2]) H wn rfl rfl (fun j v hj=>H.hp.aI (hr3 j v hj)) rfl ?_;clear H;intro a H;refine aX qJ 4 (vs:=[_,_]) _ H wn rfl rfl rfl rfl rfl rfl rfl rfl ?_;clear H;intro w H;dsimp only [List.set,setRow] at H;refine aD 5 H ?_;clear H;intro a H;refine aC ?_;refine cB ((i3+1,nx,_,BX++[⟨ls[i3].rev,ls[i3].key,now.1,now.2⟩],Vu++cK.cells ⟨ls[i3].rev,ls[i3].key,now.1,now.2⟩,adB,_)) (by exact (H.dY (Pl:=[_,_,_,_,_,_]) (dJ:=[_,_,_,_,_]) [1,2,3,4,5] (by decide) rfl).sub ⟨rfl,rfl,rfl,rfl,rfl,rfl,rfl,bq⟩) ?_ ?_
      · (try dsimp only);exact ⟨by omega,by omega,by rw [iA];exact ZR,by rw [kM];exact (Sv.mono fun b o h=>RZ b o (Hu b o (Ew b o h))).snoc (ano _ ⟨ls[i3].rev,ls[i3].key,now.1,now.2⟩) rfl,by rw [iZ,hnx];exact hq1,by rw [hnx];exact hq2,by rw [iA];show BX.length+1≤_;omega,fun b o h=>RZ b o (Hu b o (Ew b o (Ny b o h)))⟩
      first|omega|(dsimp only;omega)
    intro aoC
    obtain rfl:i3=ls.length:=by omega
    rw [List.drop_length,vQ] at hq1 hq2;rw [gu] at hq1;have hq4:=RN acc rej h.props key ls;refine ak 2 ?_;intro a H;refine aR dw (cs:=[_,_,_,_,_]) H wn rfl rfl (H.hp.bO 4 rfl rfl) rfl ?_;clear H;refine ak 1 ?_;intro a H;refine aR qJ (cs:=[_,_]) H wn rfl rfl (H.hp.bO 3 rfl rfl) rfl ?_;clear H;intro a H;refine s_call agG H wn rfl (asf _ _ H.ro ps io mo _ _ _ _ _ _ _ (hpv.mono hgu) key now (by omega)) rfl ?_;clear H;rintro v160 asE a w ⟨atT,rfl,Zz⟩ alG H;obtain ⟨adg,n160,c160,rfl⟩:=Zz.form;refine aX dw 4 (vs:=[_,_,_,_,_]) _ H wn rfl rfl rfl rfl rfl rfl rfl rfl ?_;clear H;intro w H;dsimp only [List.set,setRow] at H;refine aC ?_;refine alQ ((.slice adg n160 c160,yu ps key now,_,BX,Vu,P5)) _ _ _ _ _ (by exact H.dY (Pl:=[_,_,_,_,_]) (dJ:=[_,_,_]) [1,2,4] (by decide) rfl) ?_;exact ⟨Zz,hrw3,Sv.mono alG,by rw [← hdc,pJ hk,vw,← hkey,← hls,← hq1,← hq2],by have:=acQ ps key now;show (yu ps key now).length≤_;omega,by show BX.length≤_;rw [hs3,hq1,iA];omega⟩
  · clear H;intro asA gh asF a w gU hI H;obtain ⟨pv,ps,vy,ly,xs,Ly⟩:=gh;dsimp only at hI H;dsimp only [lca,bG] at H;obtain ⟨hpv,hrw,dV,hdc,hpl,hll⟩:=hI;rw [bM,List.drop_length,vw] at hdc;obtain ⟨pvA,pvn,pvc,rfl⟩:=hpv.form;obtain ⟨vyA,vyc,rfl,-,-⟩:=hrw.shape
    have Nv:lF acc rej h=⟨ps,⟨io,mo,h.marks.bL.filter fun x=>!rej x.rev,ly⟩⟩:=by unfold lF;rw [← hall,← hdc,hio,hmo]
    refine dQ ?_;refine yP ?_;refine aR dw (cs:=[_,_,_,_,_]) H wn rfl rfl (H.hp.bO 2 rfl rfl) rfl ?_;clear H;intro a H;refine aX dw 1 (vs:=[_,_,_,_,_]) _ H wn rfl rfl rfl rfl rfl rfl rfl rfl ?_;clear H;intro w H;dsimp only [List.set,setRow] at H;refine aD 2 H ?_;clear H;intro a H;refine cu ?_;refine (TY H 0 rfl ?_).1;clear H;intro a w H;dsimp only [List.eraseIdx_cons_succ,List.eraseIdx_cons_zero] at H;refine (eU H results96 (.cons (kT dw (cs:=[_,_,_,_,_]) H rfl rfl (H.hp.bO 0 rfl rfl)) (.cons (aZ H rfl) .nil)) ?_).1
    first
      | exact H.rt (by rw [ni,av (by first|exact .inl ⟨by assumption,by assumption⟩|exact .inr (GX.1 (by assumption)))];exact ⟨_,_,_,rfl,FN _⟩)
      | (obtain ⟨PN,zm,rQ,H⟩:=St.mR (Li:=[_,_]) H hrw (rows:=ly.map cK.dat) (by simp) dV
         exact H.rt (by rw [ni,ah tH,Nv];exact ⟨_,_,_,rfl,⟨hpv.mono zm,(hdr.mono gU).mono zm,rQ⟩⟩))
  intro Dk x;exact x.elim
end
section
open Go.RowKit
def uV (x:Nat→aj × OL) (m:Nat) (y:aj × OL):Nat→aj × OL:=fun j=>if j=m then y else x j
theorem arJ (x:Nat→aj × OL) (m:Nat) (y:aj × OL):uV x m y m=y:=av rfl
theorem acC {x:Nat→aj × OL} {m j:Nat} {y:aj × OL} (h:j≠m):uV x m y j=x j:=ah h
def oF (ms:List Nat) (S:Nat→Bool) (x:Nat→aj × OL):OL:=ms.flatMap fun m=>bif S m then (x m).2 else []
theorem Yt {S:Nat→Bool} {x:Nat→aj × OL} {y:aj × OL} {m:Nat}:∀ {ms:List Nat},m∉ms→oF ms (cZ S m) (uV x m y)=oF ms S x
 | [],_=>rfl
 | k :: ms,h=>by
  have hk:k≠m:=fun e=>h (by simp [e])
  have ih:=Yt (S:=S) (x:=x) (y:=y) (ms:=ms) fun hm=>h (gB _ hm)
  unfold oF at ih ⊢
  rw [List.flatMap_cons,List.flatMap_cons,ih,acC hk,show cZ S m k=S k from ah hk]
theorem Yu {S:Nat→Bool} {x:Nat→aj × OL} {y:aj × OL} {m:Nat} (hS:S m=false):∀ {ms:List Nat},ms.Nodup→m∈ms→(y.2++oF ms S x).Perm (oF ms (cZ S m) (uV x m y))
 | k :: ms,hn,hm=>by
  rw [List.nodup_cons] at hn
  by_cases hk:k=m
  ·subst hk
   have e:=Yt (S:=S) (x:=x) (y:=y) hn.1
   unfold oF at e ⊢
   rw [List.flatMap_cons,List.flatMap_cons,e,arJ,hS,show cZ S k k=true from av rfl]
   exact List.Perm.refl _
  ·have ih:=Yu (S:=S) (x:=x) (y:=y) hS hn.2 (by
    rcases kg.1 hm with e|h
    ·exact absurd e.symm hk
    ·exact h)
   unfold oF at ih ⊢
   rw [List.flatMap_cons,List.flatMap_cons,acC hk,show cZ S m k=S k from ah hk,← iZ]
   refine (List.Perm.append_right _ ug).trans ?_
   rw [iZ]
   exact List.Perm.append_left _ ih
section
variable {N:Nat} {D:List Deferred} {w0:World} {F:Nat→Prop} {G0 G G1 G2:GH} {L L1 L2:OL} {T Xs:List (Nat × aj)}
variable {r:Option Nat} {P:Program} {Q:Exit→Act→World→Prop} {l:List Oper} {a a':Act} {w w':World}
theorem Mx {id:Nat} (ms:List Nat) (hm:P.follows .mixedOrders=true) (bJ:List (List Nat)) (B:List Nat) (hk:wD l bJ=true) (hB:uQ l bJ B=true) (hnd:ms.Nodup) (hms:(ms.all fun m=>Nat.blt m l.length && !B.contains m)=true) (pr:(Nat→aj × OL)→Nat→aj→GH→Prop)
  (hp:∀ m,ms.contains m=true→∀ x y i v G,Nat.beq i m=false→(bJ.getD i []).contains m=false→pr x i v G→pr (uV x m y) i v G)
  (H:St N D w0 F G0 G L T a w)
  (hstep:allI (fun i o=>∀ x L' S a w G1,(∀ q,q∈L→q∈L')→B.contains i=false→ms.contains i=false→S i=false→(∀ j∈bJ.getD i [],S j=true)→(∀ k o,G k=some o→G1 k=some o)→St N D w0 F G0 G1 L' T a w→(∀ i d,S i=true→dX l i=some d→∃ v,a.tmps[d]?=some v∧pr x i v G1) →
   WL r P l.toArray (fun e a' w'=>e=.normal∧DX N D w0 F G0 G L' T l (pr x) (cZ S i) a' w') [o] a w) 0 l)
  (hmid:allI (fun m o=>ms.contains m=true→∀ x L' S a w G1,(∀ q,q∈L→q∈L')→S m=false→(∀ j∈bJ.getD m [],S j=true)→(∀ k o,G k=some o→G1 k=some o)→St N D w0 F G0 G1 L' T a w→(∀ y i d,i≠m→S i=true→dX l i=some d→∃ v,a.tmps[d]?=some v∧pr (uV x m y) i v G1) →
   WL r P l.toArray (fun e a' w'=>e=.normal∧∃ y,DX N D w0 F G0 G (y.2++L') T l (pr (uV x m y)) (cZ S m) a' w') [o] a w) 0 l)
  (hend:∀ x a w G1,(∀ k o,G k=some o→G1 k=some o)→St N D w0 F G0 G1 (oF ms (fun _=>true) x++L) T a w→(∀ i d,B.contains i=false→dX l i=some d→∃ v,a.tmps[d]?=some v∧pr x i v G1)→WL r P l.toArray (fun e a w=>e=.normal∧Q .normal a w) (oh l B) a w):WP r P (.region id l.toArray true) Q a w:=by
 refine Ei hm bJ B hk hB (fun S a w=>∃ x,DX N D w0 F G0 G (oF ms S x++L) T l (pr x) S a w)
  ⟨fun _=>(.bool false,[]),DX.perm (L1:=L) ⟨G,fun _ _ h=>h,H.move H.hp.drew,fun _ _ h=>absurd (show false=true from h) (by decide)⟩ (by
   have:∀ ms:List Nat,oF ms (fun _=>false) (fun _=>(.bool false,[]))=[]:=fun ms=>by
    induction ms with
    | nil=>rfl
    | cons k ms ih=>unfold oF at ih ⊢;rw [List.flatMap_cons,ih];rfl
   rw [this];exact List.Perm.refl _)⟩ ?_ ?_
 ·rintro i o S a w ho hb aL iK hdesc ⟨x,G1,hG,HS,hv⟩
  have hsub:∀ q,q∈L→q∈oF ms S x++L:=fun q hq=>List.mem_append_right _ hq
  have hno:∀ j,j < l.length→S j=true→(bJ.getD j []).contains i=false:=fun j hjl hj=>by
   cases hc:(bJ.getD j []).contains i with
   | false=>rfl
   | true =>
    have:=hdesc j hjl (by simpa using hc)
    rw [this] at hj;cases hj
  cases hi:ms.contains i with
  | true =>
   have h:=yH hmid i o ho
   rw [fU] at h
   have h:=h hi x _ S a w G1 hsub aL iK hG HS fun y j d hj hSj hd=>by
    obtain ⟨v,hv1,hv2⟩:=hv j d hSj hd
    exact ⟨v,hv1,hp i hi x y j v _ (nW hj) (hno j (qB hd) hSj) hv2⟩
   refine lC (fun e a' w' ⟨he,y,hD⟩=>⟨he,uV x i y,hD.perm ?_⟩) h
   rw [← iZ]
   exact List.Perm.append_right L (Yu aL hnd (by simpa using hi))
  | false =>
   have h:=yH hstep i o ho
   rw [fU] at h
   have e:∀ ms:List Nat,i∉ms→oF ms (cZ S i) x=oF ms S x:=fun ms hn=>by
    induction ms with
    | nil=>rfl
    | cons k ms ih =>
     have ih:=ih fun h=>hn (gB _ h)
     unfold oF at ih ⊢
     rw [List.flatMap_cons,List.flatMap_cons,ih,show cZ S i k=S k from ah fun e=>hn (by simp [e])]
   refine lC (fun e' a' w' ⟨he,hD⟩=>⟨he,x,?_⟩) (h x _ S a w G1 hsub hb hi aL iK hG HS hv)
   rw [e ms (by simpa using hi)]
   exact hD
 ·rintro S a w hall H8 ⟨x,G1,hG,HS,hv⟩
  have hS:∀ m∈ms,S m=true:=fun m hmm=>by
   have h:=jQ.1 hms m hmm
   rw [mD] at h
   exact hall m (Eq.mp Nat.blt_eq h.1) (by simpa using h.2)
  have e:∀ ms:List Nat,(∀ m∈ms,S m=true)→oF ms S x=oF ms (fun _=>true) x:=fun ms h=>by
   induction ms with
   | nil=>rfl
   | cons k ms ih =>
    have ih:=ih fun m hm=>h m (gB _ hm)
    unfold oF at ih ⊢
    rw [List.flatMap_cons,List.flatMap_cons,ih,h k fK]
  replace e:=e ms hS
  rw [e] at HS
  exact hend x a w G1 hG HS fun j d hb hd=>hv j d (hall j (qB hd) hb) hd
end
end
section
open Go.RowKit
theorem Q8:∀ args w,(callFunc 98 args).run prog w=.ok (.enter 98 args) w:=enters func98 rfl (by kernel_rfl)
theorem agH:∀ args w,(callFunc 165 args).run prog w=.ok (.enter 165 args) w:=enters func165 rfl (by kernel_rfl)
def Bj (fv:aj) (G:GH) (acc rej:Int→Bool):Prop:=∀ (G1:GH) (w1:World),(∀ b o,G b=some o→G1 b=some o)→Hold G1 w1→∀ (h:dW) (p d l:aj),fD G1 h p d l→kU h≤1073741824→qo prog fv [oW h p d l] w1 (bC w1 G1 (ni acc rej h))
theorem Bj.mono {fv:aj} {G G':GH} {acc rej:Int→Bool} (hm:∀ b o,G b=some o→G' b=some o) (h:Bj fv G acc rej):Bj fv G' acc rej:=fun G1 w1 h1=>h G1 w1 fun b o hb=>h1 b o (hm b o hb)
variable {acc rej:Int→Bool}
def aW (acc rej:Int→Bool) (h:dW):dW:=if kX acc rej h then zM else lF acc rej h
theorem ni.ans {h:dW} {u:aj} {G:GH} (hd:ni acc rej h u G):∃ pA pn pc dA dn dc lA ln lc,u=.tuple #[.agg #[.slice pA pn pc,vi (aW acc rej h).marks.ins,vi (aW acc rej h).marks.move,.slice dA dn dc,.slice lA ln lc],.bool (!decide (kX acc rej h))]∧fD G (aW acc rej h) (.slice pA pn pc) (.slice dA dn dc) (.slice lA ln lc):=by
 unfold ni at hd
 unfold aW
 by_cases hg:kX acc rej h
 ·rw [av hg] at hd ⊢;obtain ⟨p,d,l,rfl,hh⟩:=hd;obtain ⟨pA,pn,pc,rfl⟩:=hh.props.form;obtain ⟨dA,dn,dc,rfl⟩:=hh.bL.form;obtain ⟨lA,ln,lc,rfl⟩:=hh.layers.form;exact ⟨pA,pn,pc,dA,dn,dc,lA,ln,lc,by simp [hg],hh⟩
 rw [ah hg] at hd ⊢;obtain ⟨p,d,l,rfl,hh⟩:=hd;obtain ⟨pA,pn,pc,rfl⟩:=hh.props.form;obtain ⟨dA,dn,dc,rfl⟩:=hh.bL.form;obtain ⟨lA,ln,lc,rfl⟩:=hh.layers.form;exact ⟨pA,pn,pc,dA,dn,dc,lA,ln,lc,by simp [hg],hh⟩
def Mh (fv:aj) (acc rej:Int→Bool) (n:Nat):Prop:=∀ (G:GH) (w0:World),Hold G w0→Bj fv G acc rej→∀ (l:List ay) (v:aj),au G (.sl 11 (l.map ay.dat)) v→bZ l < n →
 Calls prog 98 #[fv,v] w0 (bC w0 G fun u G'=>au G' (.sl 11 ((fC acc rej l).map ay.dat)) u)
theorem apE {fv:aj} {n:Nat} (ih:Mh fv acc rej n) (hn:n≤536870913) (G:GH) (w0:World) (hG:Hold G w0) (hf:Bj fv G acc rej) (l:List aV) (v:aj) (hv:au G (.sl 6 (l.map aV.dat)) v) (hz:gH l < n) :
  Calls prog 165 #[fv,v] w0 (bC w0 G fun u G'=>au G' (.sl 6 ((jC acc rej l).map aV.dat)) u):=by
 obtain ⟨A,c,rfl,hc1,hc2,hg⟩:=hv.slice
 have hml:4294967297≤maxLen:=by decide
 have hll:=IQ l;rw [bM] at *;refine eN [(0,_),(1,_)] func165 rfl ntmps165 rfl rfl hG ?_;refine ak 13 ?_;intro a H;refine eH (ι:=Nat × aj × List aj × OL × GH) (Tc:=[(0,_),(15,_),(16,_)]) (Lc:=[]) (fun gh=>[(5,gh.2.1),(17,vi gh.1)]) (fun gh=>[]++gh.2.2.2.1) (fun gh=>gh.2.2.2.2) (fun gh=>gh.1≤l.length∧bV 74 6 gh.2.1 (jC acc rej (l.take gh.1)).length gh.2.2.1 gh.2.2.2.1∧bU gh.2.2.2.2 6 ((jC acc rej (l.take gh.1)).map aV.dat) gh.2.2.1∧(∀ b o,G b=some o→gh.2.2.2.2 b=some o)) (fun gh=>l.length - gh.1) ((0,.slice none 0 0,[],[],G)) sB ?_ ?_
 ·exact ⟨by omega,bV.nil,bU.nil,fun _ _ h=>h⟩
 clear H;rintro ⟨k,v,xs,Lo,g⟩ a w hI H;dsimp only at hI H;obtain ⟨hk,hrw,dV,hgm⟩:=hI;have hrl:=OE (acc:=acc) (rej:=rej) (l.take k);rw [List.length_take] at hrl;dsimp only [lca,bG] at H;refine dO 4 H ?_ ?_ <;> clear H
 ·intro qI
  have hk2:k < l.length:=by omega
  obtain ⟨b_,o_,pA,pn,pc,dA,dn,dc,yA,yn,yc,cA,cn,cc,rfl,hrow,hhd,hcl⟩:=KJ hk2 hg;replace hrow:=fun j u hj=>aH hgm (hrow j u hj);replace hhd:=hhd.mono hgm;replace hcl:=hcl.mono hgm;have hzr:=LG hk2;have hce:=UM (acc:=acc) (rej:=rej) l[k];refine ak 5 ?_;intro a H;refine aR jI (cs:=[_,_,_,_,_,_]) H wn rfl rfl (fun j v hj=>H.hp.aI (hrow j v hj)) rfl ?_;clear H;intro a H;refine dz jI H wn rfl ?_;clear H;intro b7 a w vG H;refine aX jI 0 (vs:=[_,_,_,_,_,_]) _ H wn rfl rfl rfl rfl rfl rfl rfl rfl ?_;clear H;intro w H;dsimp only [List.set,setRow] at H;refine aD 4 H ?_;clear H;intro a H;refine aR dw (cs:=[_,_,_,_,_]) H wn rfl rfl (H.hp.bO 0 rfl rfl) rfl ?_;clear H;intro a H;refine ji H wn rfl rfl (hf _ _ hgm H.ro l[k].head _ _ _ hhd (by omega)) rfl ?_;clear H;rintro v25 LU a w hd25 zi H;obtain ⟨q1,q2,q3,q4,q5,q6,q7,q8,q9,rfl,alz⟩:=hd25.ans;refine aD 1 H ?_;clear H;intro a H;(iterate 2 refine jY H wn rfl rfl rfl ?_;clear H;intro a H);refine dz dw H wn rfl ?_;clear H;intro b8 a w Al H;refine aX dw 0 (vs:=[_,_,_,_,_]) _ H wn rfl rfl rfl rfl rfl rfl rfl rfl ?_;clear H;intro w H;dsimp only [List.set,setRow] at H;refine iR 7 H ?_ ?_ <;> clear H
  ·intro oG
   try have p29:=dT oG
   have hone:rZ acc rej l[k]=[]:=by rw [hce,av (by simpa using oG)]
   have lg:=zi;refine ak 4 ?_;intro a H;refine aC ?_;refine cB ((k+1,v,xs,Lo,_)) (by exact (H.dY (Pl:=[_,_]) (dJ:=[]) [] (by decide) rfl).sub ⟨rfl,rfl,rfl,rfl,rfl,bq⟩) ?_ ?_
   ·(try dsimp only);exact ⟨by omega,by rw [xV hk2,hone,gu];exact hrw,by rw [xV hk2,hone,gu];exact dV.mono lg,fun b o h=>lg b o (hgm b o h)⟩
   first|omega|(dsimp only;omega)
  intro oG
  try have p29:=dF oG
  have tH:¬ kX acc rej l[k].head:=by simpa using oG
  rw [ah tH] at hce;obtain ⟨cA',cc',hcs,Sz,alb,hgc⟩:=hcl.slice
  intro a H;injection hcs with e1 e2 e3
  rw [bM] at e2 Sz;subst e1 e2 e3;have ale:=IK l[k].cells;refine fM 12 H ?_;clear H;intro a H;refine eH (ι:=Nat × aj × List aj × OL × GH) (Tc:=[(0,_),(5,_),(8,_),(15,_),(16,_),(17,_),(31,_),(32,_)]) (Lc:=[(_,_),(_,_)]) (fun gh=>[(10,gh.2.1),(33,vi gh.1)]) (fun gh=>[]++(Lo++gh.2.2.2.1)) (fun gh=>gh.2.2.2.2) (fun gh=>gh.1≤l[k].cells.length∧bV 76 7 gh.2.1 (gY acc rej (l[k].cells.take gh.1)).length gh.2.2.1 gh.2.2.2.1∧bU gh.2.2.2.2 7 ((gY acc rej (l[k].cells.take gh.1)).map bB.dat) gh.2.2.1∧(∀ b o,LU b=some o→gh.2.2.2.2 b=some o)) (fun gh=>l[k].cells.length - gh.1) ((0,.slice none 0 0,[],[],LU)) (by exact (H.Ij (A:=[_,_])).sub ⟨rfl,rfl,rfl,rfl,rfl,rfl,rfl,rfl,rfl,rfl,bq⟩) ?_ ?_
  ·exact ⟨by omega,bV.nil,bU.nil,fun _ _ h=>h⟩
  clear H;rintro ⟨i,v2,xs2,Lc,g2⟩ a w hI H;dsimp only at hI H;obtain ⟨hi,hrw2,rM,iT⟩:=hI;have hrl2:=OD (acc:=acc) (rej:=rej) (l[k].cells.take i);rw [List.length_take] at hrl2;obtain ⟨wX,wY,rfl,-,-⟩:=hrw2.shape;dsimp only [lca,bG] at H;refine dO 4 H ?_ ?_ <;> clear H
  ·intro p34
   have hi2:i < l[k].cells.length:=by omega
   obtain ⟨b2_,o2_,aA,an,ac,gA,gn,gc,uA,un,uc,wA,FL,wc,rfl,hrow2,EH,EF⟩:=Jb hi2 hgc;have hgx:∀ b o,g b=some o→g2 b=some o:=fun b o h=>iT b o (zi b o h);replace hrow2:=fun j u hj=>aH hgx (hrow2 j u hj);replace EH:=EH.mono hgx;replace EF:=EF.mono hgx;have hzc:=LD hi2;have JQ:=UJ (acc:=acc) (rej:=rej) l[k].cells[i];refine ak 5 ?_;intro a H;refine aR jO (cs:=[_,_,_,_,_,_,_]) H wn rfl rfl (fun j v hj=>H.hp.aI (hrow2 j v hj)) rfl ?_;clear H;intro a H;refine dz jO H wn rfl ?_;clear H;intro b12 a w EA H;refine aX jO 0 (vs:=[_,_,_,_,_,_,_]) _ H wn rfl rfl rfl rfl rfl rfl rfl rfl ?_;clear H;intro w H;dsimp only [List.set,setRow] at H;refine aD 4 H ?_;clear H;intro a H;refine aR dw (cs:=[_,_,_,_,_]) H wn rfl rfl (H.hp.bO 0 rfl rfl) rfl ?_;clear H;intro a H;refine ji H wn rfl rfl (hf _ _ (fun b o h=>hgx b o (hgm b o h)) H.ro l[k].cells[i].head _ _ _ EH (by omega)) rfl ?_;clear H;rintro v41 D7 a w alh uE H;obtain ⟨r1,r2,r3,r4,r5,r6,r7,r8,r9,rfl,alA⟩:=alh.ans;refine aD 1 H ?_;clear H;intro a H;(iterate 2 refine jY H wn rfl rfl rfl ?_;clear H;intro a H);refine dz dw H wn rfl ?_;clear H;intro b13 a w JN H;refine aX dw 0 (vs:=[_,_,_,_,_]) _ H wn rfl rfl rfl rfl rfl rfl rfl rfl ?_;clear H;intro w H;dsimp only [List.set,setRow] at H;refine iR 5 H ?_ ?_ <;> clear H
   ·intro Jy
    try have p44:=dT Jy
    have J6:¬ kX acc rej l[k].cells[i].head:=by simpa using Jy
    have zo:uP acc rej l[k].cells[i]=[.mk l[k].cells[i].id (aW acc rej l[k].cells[i].head) (fC acc rej l[k].cells[i].flow)]:=by rw [JQ,ah J6,aW,ah J6]
    have Ar:∀ (aJ:Nat→aj × OL) (aQ:Nat) (v:aj) (G G':GH),(∀ k o,G k=some o→G' k=some o)→(fun (aJ:Nat→aj × OL) (aQ:Nat) (v:aj) (G:GH)=>match aQ with|0=>v=.slice wX (gY acc rej (l[k].cells.take i)).length wY|1=>v=(aG b12 0)|2=>v=vi l[k].cells[i].id|3=>v=.agg #[.slice r1 r2 r3,vi (aW acc rej l[k].cells[i].head).marks.ins,vi (aW acc rej l[k].cells[i].head).marks.move,.slice r4 r5 r6,.slice r7 r8 r9]|4=>v=fv|5=>v=(aG b12 6)|6=>v=.slice wA FL wc|7=>au G (.sl 11 ((fC acc rej l[k].cells[i].flow).map ay.dat)) v|8=>∃ A n c,v=.agg #[vi l[k].cells[i].id,.slice r1 r2 r3,vi (aW acc rej l[k].cells[i].head).marks.ins,vi (aW acc rej l[k].cells[i].head).marks.move,.slice r4 r5 r6,.slice r7 r8 r9,.slice A n c]∧au G (.sl 11 ((fC acc rej l[k].cells[i].flow).map ay.dat)) (.slice A n c)|9=>∃ b A n c,v=.slice (some ⟨b,0,none⟩) 1 1∧aJ 9=(.slice (some ⟨b,0,none⟩) 1 1,[(b,.cells #[vi l[k].cells[i].id,.slice r1 r2 r3,vi (aW acc rej l[k].cells[i].head).marks.ins,vi (aW acc rej l[k].cells[i].head).marks.move,.slice r4 r5 r6,.slice r7 r8 r9,.slice A n c] 76 (0,0))])∧au G (.sl 11 ((fC acc rej l[k].cells[i].flow).map ay.dat)) (.slice A n c)|_=>True) aJ aQ v G→(fun (aJ:Nat→aj × OL) (aQ:Nat) (v:aj) (G:GH)=>match aQ with|0=>v=.slice wX (gY acc rej (l[k].cells.take i)).length wY|1=>v=(aG b12 0)|2=>v=vi l[k].cells[i].id|3=>v=.agg #[.slice r1 r2 r3,vi (aW acc rej l[k].cells[i].head).marks.ins,vi (aW acc rej l[k].cells[i].head).marks.move,.slice r4 r5 r6,.slice r7 r8 r9]|4=>v=fv|5=>v=(aG b12 6)|6=>v=.slice wA FL wc|7=>au G (.sl 11 ((fC acc rej l[k].cells[i].flow).map ay.dat)) v|8=>∃ A n c,v=.agg #[vi l[k].cells[i].id,.slice r1 r2 r3,vi (aW acc rej l[k].cells[i].head).marks.ins,vi (aW acc rej l[k].cells[i].head).marks.move,.slice r4 r5 r6,.slice r7 r8 r9,.slice A n c]∧au G (.sl 11 ((fC acc rej l[k].cells[i].flow).map ay.dat)) (.slice A n c)|9=>∃ b A n c,v=.slice (some ⟨b,0,none⟩) 1 1∧aJ 9=(.slice (some ⟨b,0,none⟩) 1 1,[(b,.cells #[vi l[k].cells[i].id,.slice r1 r2 r3,vi (aW acc rej l[k].cells[i].head).marks.ins,vi (aW acc rej l[k].cells[i].head).marks.move,.slice r4 r5 r6,.slice r7 r8 r9,.slice A n c] 76 (0,0))])∧au G (.sl 11 ((fC acc rej l[k].cells[i].flow).map ay.dat)) (.slice A n c)|_=>True) aJ aQ v G':=by
     intro aJ aQ v G G' hm h
     match aQ,h with
     | 0,h=>exact h
     | 1,h=>exact h
     | 2,h=>exact h
     | 3,h=>exact h
     | 4,h=>exact h
     | 5,h=>exact h
     | 6,h=>exact h
     | 7,h=>exact au.mono hm h
     | 8,h=>exact let ⟨A,n,c,h1,h2⟩:=h;⟨A,n,c,h1,h2.mono hm⟩
     | 9,h=>exact let ⟨b,A,n,c,h0,h1,h2⟩:=h;⟨b,A,n,c,h0,h1,h2.mono hm⟩
     | 10,h=>exact trivial
     | 11,h=>exact trivial
     | _+12,h=>exact trivial
    intro a H;refine Mx [9] (hmx) [[],[],[1],[],[],[],[5],[4,5,6],(ra 1 7),(ra 1 8),(ra 0 10),(ra 0 11)] [10,11] (by kernel_rfl) (by kernel_rfl) (by decide) (by kernel_rfl) (fun (aJ:Nat→aj × OL) (aQ:Nat) (v:aj) (G:GH)=>match aQ with|0=>v=.slice wX (gY acc rej (l[k].cells.take i)).length wY|1=>v=(aG b12 0)|2=>v=vi l[k].cells[i].id|3=>v=.agg #[.slice r1 r2 r3,vi (aW acc rej l[k].cells[i].head).marks.ins,vi (aW acc rej l[k].cells[i].head).marks.move,.slice r4 r5 r6,.slice r7 r8 r9]|4=>v=fv|5=>v=(aG b12 6)|6=>v=.slice wA FL wc|7=>au G (.sl 11 ((fC acc rej l[k].cells[i].flow).map ay.dat)) v|8=>∃ A n c,v=.agg #[vi l[k].cells[i].id,.slice r1 r2 r3,vi (aW acc rej l[k].cells[i].head).marks.ins,vi (aW acc rej l[k].cells[i].head).marks.move,.slice r4 r5 r6,.slice r7 r8 r9,.slice A n c]∧au G (.sl 11 ((fC acc rej l[k].cells[i].flow).map ay.dat)) (.slice A n c)|9=>∃ b A n c,v=.slice (some ⟨b,0,none⟩) 1 1∧aJ 9=(.slice (some ⟨b,0,none⟩) 1 1,[(b,.cells #[vi l[k].cells[i].id,.slice r1 r2 r3,vi (aW acc rej l[k].cells[i].head).marks.ins,vi (aW acc rej l[k].cells[i].head).marks.move,.slice r4 r5 r6,.slice r7 r8 r9,.slice A n c] 76 (0,0))])∧au G (.sl 11 ((fC acc rej l[k].cells[i].flow).map ay.dat)) (.slice A n c)|_=>True) (fun m hm x y i v G hi hc h=>by
     have hm:m=9:=by simpa using hm
     rcases hm with rfl
     ·match i,hi,hc,h with
      | 0,_,_,h=>exact h
      | 1,_,_,h=>exact h
      | 2,_,_,h=>exact h
      | 3,_,_,h=>exact h
      | 4,_,_,h=>exact h
      | 5,_,_,h=>exact h
      | 6,_,_,h=>exact h
      | 7,_,_,h=>exact h
      | 8,_,_,h=>exact h
      | 9,hi,_,_=>exact absurd hi (by decide)
      | 10,_,hc,_=>exact absurd hc (by decide)
      | 11,_,hc,_=>exact absurd hc (by decide)
      | _+12,_,_,_=>exact trivial
     ) H ?_ ?_ ?_
    ·clear H;refine aF ?_ ?_ ?_ ?_ (aF ?_ ?_ ?_ ?_ (aF ?_ ?_ ?_ ?_ cO))
     ·intro aJ dH aS a w G1 dN _ _ aL hc hG HT hv;have H:=HT;clear aL;have Hb:=H.full;have H:=Hb;clear hc;refine aD 1 H ?_;clear H;intro a H;refine aC ⟨rfl,?_⟩;exact dL (by kernel_rfl) (Ar aJ) rfl rfl HT Hb hG hv (fun _ _ h=>h) (rfl) H
     ·intro aJ dH aS a w G1 dN _ _ aL hc hG HT hv;have H:=HT;clear aL;have Hb:=H.full;have H:=Hb;clear hc;refine aD 1 H ?_;clear H;intro a H;refine aC ⟨rfl,?_⟩;exact dL (by kernel_rfl) (Ar aJ) rfl rfl HT Hb hG hv (fun _ _ h=>h) (rfl) H
     ·intro aJ dH aS a w G1 dN _ _ aL hc hG HT hv;have H:=HT;clear aL;have H:=H.aN (hv 1 46 (hc 1 (by decide)) rfl) rfl;have Hb:=H.full;have H:=Hb;clear hc;refine iC bR H wn rfl (H.hp.wQ (dN _ (gB _ fK)) rfl) rfl ?_;clear H;intro a H;refine aC ⟨rfl,?_⟩;exact dL (by kernel_rfl) (Ar aJ) rfl rfl HT Hb hG hv (fun _ _ h=>h) (rfl) H
     ·intro aJ dH aS a w G1 dN _ _ aL hc hG HT hv;have H:=HT;clear aL;have Hb:=H.full;have H:=Hb;clear hc;refine aR dw (cs:=[.slice r1 r2 r3,vi (aW acc rej l[k].cells[i].head).marks.ins,vi (aW acc rej l[k].cells[i].head).marks.move,.slice r4 r5 r6,.slice r7 r8 r9]) H wn rfl rfl (fun j v hj=>H.hp.wQ (dN _ fK) (by simpa using hj)) rfl ?_;clear H;intro a H;refine aC ⟨rfl,?_⟩;exact dL (by kernel_rfl) (Ar aJ) rfl rfl HT Hb hG hv (fun _ _ h=>h) (rfl) H
     ·intro aJ dH aS a w G1 dN _ _ aL hc hG HT hv;have H:=HT;clear aL;have Hb:=H.full;have H:=Hb;clear hc;refine aD 1 H ?_;clear H;intro a H;refine aC ⟨rfl,?_⟩;exact dL (by kernel_rfl) (Ar aJ) rfl rfl HT Hb hG hv (fun _ _ h=>h) (rfl) H
     ·intro aJ dH aS a w G1 dN _ _ aL hc hG HT hv;have H:=HT;clear aL;have Hb:=H.full;have H:=Hb;clear hc;refine aD 1 H ?_;clear H;intro a H;refine aC ⟨rfl,?_⟩;exact dL (by kernel_rfl) (Ar aJ) rfl rfl HT Hb hG hv (fun _ _ h=>h) (rfl) H
     ·intro aJ dH aS a w G1 dN _ _ aL hc hG HT hv;have H:=HT;clear aL;have H:=H.aN (hv 5 50 (hc 5 (by decide)) rfl) rfl;have Hb:=H.full;have H:=Hb;clear hc;refine iC pG H wn rfl (H.hp.wQ (dN _ (gB _ fK)) rfl) rfl ?_;clear H;intro a H;refine aC ⟨rfl,?_⟩;exact dL (by kernel_rfl) (Ar aJ) rfl rfl HT Hb hG hv (fun _ _ h=>h) (rfl) H
     ·intro aJ dH aS a w G1 dN _ _ aL hc hG HT hv;have H:=HT;clear aL;have H:=H.aN (hv 4 49 (hc 4 (by decide)) rfl) rfl;have H:=H.aN (hv 6 51 (hc 6 (by decide)) rfl) rfl;have Hb:=H.full;have H:=Hb;clear hc;refine s_call Q8 H wn rfl (ih _ _ H.ro (hf.mono fun b o h=>hG b o (uE b o (hgx b o (hgm b o h)))) l[k].cells[i].flow _ (EF.mono fun b o h=>hG b o (uE b o h)) (by omega)) rfl ?_;clear H;rintro v52 VU a w BN akn H;refine aC ⟨rfl,?_⟩;exact dL (by kernel_rfl) (Ar aJ) rfl rfl HT Hb hG hv akn (BN) H
     ·intro aJ dH aS a w G1 dN _ _ aL hc hG HT hv;have H:=HT;clear aL;have H:=H.aN (hv 2 47 (hc 2 (by decide)) rfl) rfl;have H:=H.aN (hv 3 48 (hc 3 (by decide)) rfl) rfl;obtain ⟨u52,amH,BN⟩:=hv 7 52 (hc 7 (by decide)) rfl;(try dsimp only at BN);obtain ⟨yC,n52,yI,rfl⟩:=BN.form;have H:=H.ig amH;have Hb:=H.full;have H:=Hb;clear hc;refine jh OZ [_,_,_,_,_,_,_] H wn rfl rfl rfl rfl ?_;clear H;intro a H;refine aC ⟨rfl,?_⟩;exact dL (by kernel_rfl) (Ar aJ) rfl rfl HT Hb hG hv (fun _ _ h=>h) (⟨_,_,_,rfl,BN⟩) H
     ·intro _ _ _ _ _ _ _ _ hB;exact absurd hB (by decide)
     ·intro _ _ _ _ _ _ _ hB;exact absurd hB (by decide)
     intro _ _ _ _ _ _ _ hB;exact absurd hB (by decide)
    ·clear H;refine aF ?_ ?_ ?_ ?_ (aF ?_ ?_ ?_ ?_ (aF ?_ ?_ ?_ ?_ cO))
     ·intro hB;exact absurd hB (by decide)
     ·intro hB;exact absurd hB (by decide)
     ·intro hB;exact absurd hB (by decide)
     ·intro hB;exact absurd hB (by decide)
     ·intro hB;exact absurd hB (by decide)
     ·intro hB;exact absurd hB (by decide)
     ·intro hB;exact absurd hB (by decide)
     ·intro hB;exact absurd hB (by decide)
     ·intro hB;exact absurd hB (by decide)
     ·intro _ aJ dH aS a w G1 dN _ hc hG HT hv;have H:=HT;obtain ⟨u53,Tw,Aq⟩:=hv (.bool false,[]) 8 53 (by decide) (hc 8 (by decide)) rfl;(try dsimp only at Aq);obtain ⟨sI,n53,c53,rfl,Aq⟩:=Aq;have H:=H.ig Tw;have Hb:=H.full;have H:=Hb;clear hc;refine gG Cw jO [_,_,_,_,_,_,_] [_,_,_,_,_,_,_] H wn rfl rfl rfl rfl rfl (by intro i q h;match i,h with|0,h=>exact h|n+1,h=>simp at h) rfl rfl ?_;clear H;intro Aa a w YW H;refine aC ⟨rfl,(.slice (some ⟨Aa,0,none⟩) 1 1,[(Aa,.cells #[vi l[k].cells[i].id,.slice r1 r2 r3,vi (aW acc rej l[k].cells[i].head).marks.ins,vi (aW acc rej l[k].cells[i].head).marks.move,.slice r4 r5 r6,.slice r7 r8 r9,.slice sI n53 c53] 76 (0,0))]),?_⟩;exact Bq (by kernel_rfl) (Ar (uV aJ 9 (.slice (some ⟨Aa,0,none⟩) 1 1,[(Aa,.cells #[vi l[k].cells[i].id,.slice r1 r2 r3,vi (aW acc rej l[k].cells[i].head).marks.ins,vi (aW acc rej l[k].cells[i].head).marks.move,.slice r4 r5 r6,.slice r7 r8 r9,.slice sI n53 c53] 76 (0,0))]))) rfl HT Hb hG (fun j e h1 h2 h3=>hv (.slice (some ⟨Aa,0,none⟩) 1 1,[(Aa,.cells #[vi l[k].cells[i].id,.slice r1 r2 r3,vi (aW acc rej l[k].cells[i].head).marks.ins,vi (aW acc rej l[k].cells[i].head).marks.move,.slice r4 r5 r6,.slice r7 r8 r9,.slice sI n53 c53] 76 (0,0))]) j e h1 h2 h3) (fun _ _ h=>h) (⟨Aa,sI,n53,c53,rfl,rfl,Aq⟩) H
     ·intro hB;exact absurd hB (by decide)
     intro hB;exact absurd hB (by decide)
    clear H;intro aJ a w G JD H hv
    simp only [oF,List.flatMap_cons,List.flatMap_nil,cond_true,gu,iZ] at H
    have H:=H.aN (hv 0 45 rfl rfl) rfl;obtain ⟨u54,amI,ZF⟩:=hv 9 54 (by decide) rfl;(try dsimp only at ZF);obtain ⟨Aa,yC,n52,yI,rfl,e54,BN⟩:=ZF;have H:=H.ig amI;clear hv;rw [e54] at H;dsimp only [lca,bG] at H;have ZL:aU G (bB.dat (.mk l[k].cells[i].id (aW acc rej l[k].cells[i].head) (fC acc rej l[k].cells[i].flow))) [vi l[k].cells[i].id,.slice r1 r2 r3,vi (aW acc rej l[k].cells[i].head).marks.ins,vi (aW acc rej l[k].cells[i].head).marks.move,.slice r4 r5 r6,.slice r7 r8 r9,.slice yC n52 yI]:=aU.KD (x:=.mk l[k].cells[i].id (aW acc rej l[k].cells[i].head) (fC acc rej l[k].cells[i].flow)) (alA.mono JD) BN;refine lJ (Li:=[_,_,_,_,_]++Lo) (Lo:=Lc) (news:=[vi l[k].cells[i].id,.slice r1 r2 r3,vi (aW acc rej l[k].cells[i].head).marks.ins,vi (aW acc rej l[k].cells[i].head).marks.move,.slice r4 r5 r6,.slice r7 r8 r9,.slice yC n52 yI]) Cw jO rfl rfl (St.un (A:=[_,_,_,_,_]) H) wn rfl rfl hrw2 rfl (H.hp.bO 0 rfl rfl) ZL.one (by omega) (by omega) rfl ?_;clear H;intro v55 adk a w amk H;have H:=H.assoc;dsimp only [lca,bG] at H;refine kH H (Ra rfl ?_);clear H;intro a H;refine aC ⟨rfl,?_⟩;refine dQ ?_;refine fM 3 H ?_;clear H;intro a H;refine aC ?_;refine cB ((i+1,v55,xs2++[vi l[k].cells[i].id,.slice r1 r2 r3,vi (aW acc rej l[k].cells[i].head).marks.ins,vi (aW acc rej l[k].cells[i].head).marks.move,.slice r4 r5 r6,.slice r7 r8 r9,.slice yC n52 yI],adk,_)) (by exact (H.dY (Pl:=[_,_,_,_,_]) (dJ:=[_,_]) [3,4] (by decide) rfl).sub ⟨rfl,rfl,rfl,rfl,rfl,rfl,rfl,rfl,rfl,rfl,bq⟩) ?_ ?_
    ·(try dsimp only);exact ⟨by omega,by rw [DC hi2,zo,iA];exact amk,by rw [DC hi2,zo,kM];exact (rM.mono fun b o h=>JD b o (uE b o h)).snoc ZL rfl,fun b o h=>JD b o (uE b o (iT b o h))⟩
    first|omega|(dsimp only;omega)
   intro Jy
   try have p44:=dF Jy
   have zo:uP acc rej l[k].cells[i]=[]:=by rw [JQ,av (by simpa using Jy)]
   refine ak 4 ?_;intro a H;refine aC ?_;refine cB ((i+1,_,xs2,Lc,_)) (by exact (H.dY (Pl:=[_,_,_,_]) (dJ:=[_,_]) [2,3] (by decide) rfl).sub ⟨rfl,rfl,rfl,rfl,rfl,rfl,rfl,rfl,rfl,rfl,bq⟩) ?_ ?_
   ·(try dsimp only);exact ⟨by omega,by rw [DC hi2,zo,gu];exact hrw2,by rw [DC hi2,zo,gu];exact rM.mono uE,fun b o h=>uE b o (iT b o h)⟩
   first|omega|(dsimp only;omega)
  intro p34
  obtain rfl:i=l[k].cells.length:=by omega
  intro a H;rw [uZ] at hrw2 rM hrl2 H;have H:=H.un (A:=[_,_]);obtain ⟨Gr,hmr,hrep,H⟩:=St.mR (Li:=[_,_]++Lo) H hrw2 (rows:=(gY acc rej l[k].cells).map bB.dat) (by simp) rM;have lg:∀ b o,g b=some o→Gr b=some o:=fun b o h=>hmr b o (iT b o (zi b o h));dsimp only [lca,bG] at H;refine dO 6 H ?_ ?_ <;> clear H
  ·intro p59
   have hone:rZ acc rej l[k]=[.mk (aW acc rej l[k].head) (gY acc rej l[k].cells)]:=by rw [hce,ah (by omega),aW,ah tH]
   have ZM:aU Gr (aV.dat (.mk (aW acc rej l[k].head) (gY acc rej l[k].cells))) [.slice q1 q2 q3,vi (aW acc rej l[k].head).marks.ins,vi (aW acc rej l[k].head).marks.move,.slice q4 q5 q6,.slice q7 q8 q9,.slice wX (gY acc rej l[k].cells).length wY]:=aU.KE (x:=.mk (aW acc rej l[k].head) (gY acc rej l[k].cells)) (alz.mono fun b o h=>hmr b o (iT b o h)) hrep;refine ak 2 ?_;intro a H;refine aR dw (cs:=[_,_,_,_,_]) H wn rfl rfl (H.hp.bO 0 rfl rfl) rfl ?_;clear H;refine ak 1 ?_;intro a H;refine jh OY [_,_,_,_,_,_] H wn rfl rfl rfl rfl ?_;clear H;intro a H;refine gG FJ jI [_,_,_,_,_,_] [_,_,_,_,_,_] H wn rfl rfl rfl rfl rfl (by intro i q h;match i,h with|0,h=>exact h|n+1,h=>simp at h) rfl rfl ?_;clear H;intro b64 a w atf H;refine lJ (Li:=[_,_,_]) (Lo:=Lo) (news:=[.slice q1 q2 q3,vi (aW acc rej l[k].head).marks.ins,vi (aW acc rej l[k].head).marks.move,.slice q4 q5 q6,.slice q7 q8 q9,.slice wX (gY acc rej l[k].cells).length wY]) FJ jI rfl rfl H wn rfl rfl hrw rfl (H.hp.bO 0 rfl rfl) ZM.one (by omega) (by omega) rfl ?_;clear H;intro v65 ads a w aml H;refine aD 5 H ?_;clear H;intro a H;refine aC ?_;refine cB ((k+1,v65,xs++[.slice q1 q2 q3,vi (aW acc rej l[k].head).marks.ins,vi (aW acc rej l[k].head).marks.move,.slice q4 q5 q6,.slice q7 q8 q9,.slice wX (gY acc rej l[k].cells).length wY],ads,_)) (by exact (H.dY (Pl:=[_,_,_]) (dJ:=[]) [] (by decide) rfl).sub ⟨rfl,rfl,rfl,rfl,rfl,bq⟩) ?_ ?_
   ·(try dsimp only);exact ⟨by omega,by rw [xV hk2,hone,iA];exact aml,by rw [xV hk2,hone,kM];exact (dV.mono lg).snoc ZM rfl,fun b o h=>lg b o (hgm b o h)⟩
   first|omega|(dsimp only;omega)
  intro p59
  have hone:rZ acc rej l[k]=[]:=by rw [hce,av (by omega)]
  refine ak 4 ?_;intro a H;refine aC ?_;refine cB ((k+1,v,xs,Lo,_)) (by exact (H.dY (Pl:=[_,_]) (dJ:=[]) [] (by decide) rfl).sub ⟨rfl,rfl,rfl,rfl,rfl,bq⟩) ?_ ?_
  ·(try dsimp only);exact ⟨by omega,by rw [xV hk2,hone,gu];exact hrw,by rw [xV hk2,hone,gu];exact dV.mono lg,fun b o h=>lg b o (hgm b o h)⟩
  first|omega|(dsimp only;omega)
 intro qI
 obtain rfl:k=l.length:=by omega
 rw [uZ] at hrw dV;refine ak 5 ?_;intro a H;refine cu ?_;obtain ⟨G',hm,rQ,H⟩:=H.mR (Li:=[]) hrw (rows:=(jC acc rej l).map aV.dat) (by simp) dV;refine lv H results165 rfl ?_;exact H.rt rQ
theorem apC {fv:aj} {n:Nat} (ih:Mh fv acc rej n) (hn:n≤536870912):Mh fv acc rej (n+1):=by
 intro G w0 hG hf l v hv hz;obtain ⟨A,c,rfl,hc1,hc2,hg⟩:=hv.slice
 have hml:4294967297≤maxLen:=by decide
 have hll:=FM l;rw [bM] at *;refine eN [(0,_),(1,_)] func98 rfl ntmps98 rfl rfl hG ?_;refine ak 13 ?_;intro a H;refine eH (ι:=Nat × aj × List aj × OL × GH) (Tc:=[(0,_),(10,_),(11,_)]) (Lc:=[]) (fun gh=>[(5,gh.2.1),(12,vi gh.1)]) (fun gh=>[]++gh.2.2.2.1) (fun gh=>gh.2.2.2.2) (fun gh=>gh.1≤l.length∧bV 68 11 gh.2.1 (fC acc rej (l.take gh.1)).length gh.2.2.1 gh.2.2.2.1∧bU gh.2.2.2.2 11 ((fC acc rej (l.take gh.1)).map ay.dat) gh.2.2.1∧(∀ b o,G b=some o→gh.2.2.2.2 b=some o)) (fun gh=>l.length - gh.1) ((0,.slice none 0 0,[],[],G)) sB ?_ ?_
 ·exact ⟨by omega,bV.nil,bU.nil,fun _ _ h=>h⟩
 clear H;rintro ⟨k,v,xs,Lo,g⟩ a w hI H;dsimp only at hI H;obtain ⟨hk,hrw,dV,hgm⟩:=hI;have hrl:=UL (acc:=acc) (rej:=rej) (l.take k);rw [List.length_take] at hrl;dsimp only [lca,bG] at H;refine dO 4 H ?_ ?_ <;> clear H
 ·intro oJ
  have hk2:k < l.length:=by omega
  obtain ⟨b_,o_,pA,pn,pc,dA,dn,dc,yA,yn,yc,fA,fn,fc,rA,rn,rc,rfl,hrow,hhd,hfl,hrs⟩:=Es hk2 hg;replace hrow:=fun j u hj=>aH hgm (hrow j u hj);replace hhd:=hhd.mono hgm;replace hfl:=hfl.mono hgm;replace hrs:=hrs.mono hgm;have hzi:=IL hk2;have hce:=UK (acc:=acc) (rej:=rej) l[k];refine ak 5 ?_;intro a H;refine aR fZ (cs:=[_,_,_,_,_,_,_,_,_,_,_]) H wn rfl rfl (fun j v hj=>H.hp.aI (hrow j v hj)) rfl ?_;clear H;intro a H;refine dz fZ H wn rfl ?_;clear H;intro b7 a w vG H;refine aX fZ 0 (vs:=[_,_,_,_,_,_,_,_,_,_,_]) _ H wn rfl rfl rfl rfl rfl rfl rfl rfl ?_;clear H;intro w H;dsimp only [List.set,setRow] at H;refine aD 4 H ?_;clear H;intro a H;refine aR dw (cs:=[_,_,_,_,_]) H wn rfl rfl (H.hp.bO 0 rfl rfl) rfl ?_;clear H;intro a H;refine ji H wn rfl rfl (hf _ _ hgm H.ro l[k].head _ _ _ hhd (by omega)) rfl ?_;clear H;rintro v20 FU a w alg nN H;obtain ⟨q1,q2,q3,q4,q5,q6,q7,q8,q9,rfl,SK⟩:=alg.ans;refine aD 1 H ?_;clear H;intro a H;(iterate 2 refine jY H wn rfl rfl rfl ?_;clear H;intro a H);refine dz dw H wn rfl ?_;clear H;intro b8 a w Al H;refine aX dw 0 (vs:=[_,_,_,_,_]) _ H wn rfl rfl rfl rfl rfl rfl rfl rfl ?_;clear H;intro w H;dsimp only [List.set,setRow] at H;refine iR 7 H ?_ ?_ <;> clear H
  ·intro fB
   try have jq:=dT fB
   have hone:qV acc rej l[k]=[]:=by rw [hce,av (by simpa using fB)]
   refine ak 4 ?_;intro a H;refine aC ?_;refine cB ((k+1,v,xs,Lo,_)) (by exact (H.dY (Pl:=[_,_]) (dJ:=[]) [] (by decide) rfl).sub ⟨rfl,rfl,rfl,rfl,rfl,bq⟩) ?_ ?_
   ·(try dsimp only);exact ⟨by omega,by rw [vX hk2,hone,gu];exact hrw,by rw [vX hk2,hone,gu];exact dV.mono nN,fun b o h=>nN b o (hgm b o h)⟩
   first|omega|(dsimp only;omega)
  intro fB
  try have jq:=dF fB
  have tH:¬ kX acc rej l[k].head:=by simpa using fB
  rw [ah tH] at hce;have han:aW acc rej l[k].head=lF acc rej l[k].head:=ah tH;refine ak 2 ?_;intro a H;refine aR dw (cs:=[_,_,_,_,_]) H wn rfl rfl (H.hp.bO 0 rfl rfl) rfl ?_;clear H;refine ak 1 ?_;intro a H;refine aX dw 1 (vs:=[_,_,_,_,_]) _ H wn rfl rfl rfl rfl rfl rfl rfl rfl ?_;clear H;intro w H;dsimp only [List.set,setRow] at H;refine aC ?_;refine dQ ?_;refine qz (ι:=ay × List aj × GH) (Tc:=[(0,_),(5,_),(7,_),(10,_),(11,_),(12,_)]) (Lc:=[(_,_)]) (fun gh=>[]) (fun gh=>[(b7,.cells gh.2.1.toArray 68 (0,0))]++Lo) (fun gh=>gh.2.2) (fun gh=>qV acc rej l[k]=[gh.1]∧aU gh.2.2 gh.1.dat gh.2.1∧(∀ b o,FU b=some o→gh.2.2 b=some o)) sB ?_ ?_
  ·refine dO 9 H ?_ ?_ <;> clear H
   ·intro p29
    refine ak 4 ?_;intro a H;refine s_call Q8 H wn rfl (ih _ _ H.ro (hf.mono fun b o h=>nN b o (hgm b o h)) l[k].flow _ (hfl.mono nN) (by omega)) rfl ?_;clear H;rintro v34 LV a w Dn Hy H;obtain ⟨CB,n34,c34,rfl⟩:=Dn.form;refine aD 1 H ?_;clear H;intro a H;refine aX pG 1 (vs:=[_]) _ H wn rfl rfl rfl rfl rfl rfl rfl rfl ?_;clear H;intro w H;dsimp only [List.set,setRow] at H;refine aC ?_;refine ⟨(.mk l[k].kind l[k].code l[k].id l[k].text (aW acc rej l[k].head) (fC acc rej l[k].flow) l[k].rows,[vi l[k].kind,vi l[k].code,vi l[k].id,.string l[k].text,.slice q1 q2 q3,vi (aW acc rej l[k].head).marks.ins,vi (aW acc rej l[k].head).marks.move,.slice q4 q5 q6,.slice q7 q8 q9,.slice CB n34 c34,.slice rA rn rc],LV),sB,?_⟩;(try dsimp only);exact ⟨by rw [hce,av p29,han],aU.mkItem (x:=.mk l[k].kind l[k].code l[k].id l[k].text (aW acc rej l[k].head) (fC acc rej l[k].flow) l[k].rows) (SK.mono Hy) Dn (hrs.mono fun b o h=>Hy b o (nN b o h)),Hy⟩
   intro p29
   refine goB 4 ?_ ?_
   ·intro p36
    refine ak 4 ?_;intro a H;refine s_call agH H wn rfl (apE ih (by omega) _ _ H.ro (hf.mono fun b o h=>nN b o (hgm b o h)) l[k].rows _ (hrs.mono nN) (by omega)) rfl ?_;clear H;rintro v41 D7 a w H9 uE H;obtain ⟨A41,n41,c41,rfl⟩:=H9.form;have Zu:=H9.len;rw [bM] at Zu;subst Zu;refine aD 1 H ?_;clear H;intro a H;refine aX KW 1 (vs:=[_]) _ H wn rfl rfl rfl rfl rfl rfl rfl rfl ?_;clear H;intro w H;dsimp only [List.set,setRow] at H;refine gF 7 H ?_ ?_ <;> clear H
    ·intro p46
     have hone:qV acc rej l[k]=[]:=by rw [hce,ah p29,av p36,av (by omega)]
     refine ak 4 ?_;intro a H;refine aC ?_;refine cB ((k+1,v,xs,Lo,_)) (by exact (H.dY (Pl:=[_,_]) (dJ:=[]) [] (by decide) rfl).sub ⟨rfl,rfl,rfl,rfl,rfl,bq⟩) ?_ ?_
     ·(try dsimp only);exact ⟨by omega,by rw [vX hk2,hone,gu];exact hrw,by rw [vX hk2,hone,gu];exact dV.mono fun b o h=>uE b o (nN b o h),fun b o h=>uE b o (nN b o (hgm b o h))⟩
     first|omega|(dsimp only;omega)
    intro p46
    intro a H;refine jL ?_;refine ⟨(.mk l[k].kind l[k].code l[k].id l[k].text (aW acc rej l[k].head) l[k].flow (jC acc rej l[k].rows),[vi l[k].kind,vi l[k].code,vi l[k].id,.string l[k].text,.slice q1 q2 q3,vi (aW acc rej l[k].head).marks.ins,vi (aW acc rej l[k].head).marks.move,.slice q4 q5 q6,.slice q7 q8 q9,.slice fA fn fc,.slice A41 (jC acc rej l[k].rows).length c41],D7),sB,?_⟩;(try dsimp only);exact ⟨by rw [hce,ah p29,av p36,ah (by omega),han],aU.mkItem (x:=.mk l[k].kind l[k].code l[k].id l[k].text (aW acc rej l[k].head) l[k].flow (jC acc rej l[k].rows)) (SK.mono uE) (hfl.mono fun b o h=>uE b o (nN b o h)) H9,uE⟩
   intro p36
   intro a H;refine jL ?_;refine ⟨(.mk l[k].kind l[k].code l[k].id l[k].text (aW acc rej l[k].head) l[k].flow l[k].rows,[vi l[k].kind,vi l[k].code,vi l[k].id,.string l[k].text,.slice q1 q2 q3,vi (aW acc rej l[k].head).marks.ins,vi (aW acc rej l[k].head).marks.move,.slice q4 q5 q6,.slice q7 q8 q9,.slice fA fn fc,.slice rA rn rc],_),sB,?_⟩;(try dsimp only);exact ⟨by rw [hce,ah p29,ah p36,han],aU.mkItem (x:=.mk l[k].kind l[k].code l[k].id l[k].text (aW acc rej l[k].head) l[k].flow l[k].rows) SK (hfl.mono nN) (hrs.mono nN),fun _ _ h=>h⟩
  clear H;rintro ⟨y,CV,g9⟩ a w hI H;dsimp only at hI H;obtain ⟨hone,wN,tF⟩:=hI;obtain ⟨e1,e2,e3,e4,e5,e6,e7,e8,e9,f1,f2,f3,f4,f5,f6,vJ,-,-,-⟩:=wN.item;rw [vJ] at H;dsimp only [lca,bG] at H;refine fM 2 H ?_;clear H;intro a H;refine aR fZ (cs:=[_,_,_,_,_,_,_,_,_,_,_]) H wn rfl rfl (H.hp.bO 1 rfl rfl) rfl ?_;clear H;intro a H;refine gG nT fZ [_,_,_,_,_,_,_,_,_,_,_] [_,_,_,_,_,_,_,_,_,_,_] H wn rfl rfl rfl rfl rfl (by intro i q h;match i,h with|0,h=>exact h|n+1,h=>simp at h) rfl rfl ?_;clear H;intro b49 a w atd H;refine lJ (Li:=[_,_,_]) (Lo:=Lo) (news:=CV) nT fZ rfl rfl H wn rfl rfl hrw (by rw [vJ];rfl) (by rw [vJ];exact H.hp.bO 0 rfl rfl) wN.one (by omega) (by omega) rfl ?_;clear H;intro v50 adq a w amj H;refine aD 5 H ?_;clear H;intro a H;refine aC ?_;refine cB ((k+1,v50,xs++CV,adq,_)) (by exact (H.dY (Pl:=[_,_,_]) (dJ:=[]) [] (by decide) rfl).sub ⟨rfl,rfl,rfl,rfl,rfl,bq⟩) ?_ ?_
  ·(try dsimp only);exact ⟨by omega,by rw [vX hk2,hone,iA];exact amj,by rw [vX hk2,hone,kM];exact (dV.mono fun b o h=>tF b o (nN b o h)).snoc wN (by rw [vJ];rfl),fun b o h=>tF b o (nN b o (hgm b o h))⟩
  first|omega|(dsimp only;omega)
 intro oJ
 obtain rfl:k=l.length:=by omega
 rw [uZ] at hrw dV;refine ak 5 ?_;intro a H;refine cu ?_;obtain ⟨G',hm,rQ,H⟩:=H.mR (Li:=[]) hrw (rows:=(fC acc rej l).map ay.dat) (by simp) dV;refine lv H results98 rfl ?_;exact H.rt rQ
theorem abv {fv:aj}:∀ n:Nat,n≤536870913→Mh fv acc rej n
 | 0,_=>fun _ _ _ _ _ _ _ h=>absurd h (by omega)
 | n+1,hn=>apC (abv n (by omega)) (by omega)
end
section
open Go.RowKit
end
section
open Go.RowKit
section
variable {N:Nat} {D:List Deferred} {w0:World} {F:Nat→Prop} {G0 G:GH} {L:OL} {T:List (Nat × aj)}
variable {r:Option Nat} {P:Program} {ops:Array Oper} {Q:Exit→Act→World→Prop} {rest:List Oper} {a:Act} {w:World}
variable {d:Nat} {ty:TypeId} {pos:String} {aO:Array Edge} {g:Option (Nat × Bool)}
end
end
section
open Go.RowKit
def aaq:Go.Shelf.Ren:=⟨fun|7=>90|10=>150|n=>n,fun|0=>0|3=>4|4=>4|23=>131|26=>3|27=>165|28=>166|33=>137|n=>n,fun n=>n⟩
theorem aap:Go.Proofs.SlLaysZI.n7 prog aaq where
 mixed:=by kernel_rfl
 f7:=⟨f90.name,by kernel_rfl,func90.trans (aB some (by kernel_rfl))⟩
 f10:=⟨f150.name,by kernel_rfl,func150.trans (aB some (by kernel_rfl))⟩
 t0:=underlying0
 a0:=isAgg0
 z0:=sizeOf0
 v0:=zeroValue0
 t4:=underlying4
 a4:=isAgg4
 z4:=sizeOf4
 v4:=zeroValue4
 t23:=underlying131
 a23:=isAgg131
 z23:=sizeOf131
 v23:=zeroValue131
 t26:=underlying3
 a26:=isAgg3
 z26:=sizeOf3
 v26:=zeroValue3
 t27:=underlying165
 a27:=isAgg165
 z27:=sizeOf165
 v27:=zeroValue165
 t28:=underlying166
 a28:=isAgg166
 z28:=sizeOf166
 v28:=zeroValue166
 t33:=underlying137
 a33:=isAgg137
 z33:=sizeOf137
 v33:=zeroValue137
def abT:Go.Shelf.Ren:=⟨fun|6=>89|8=>149|9=>148|11=>209|n=>n,fun|0=>0|24=>41|26=>3|28=>166|33=>137|n=>n,fun n=>n⟩
theorem ard:Go.Proofs.SlLaysZI.n6 prog abT where
 mixed:=by kernel_rfl
 f6:=⟨f89.name,by kernel_rfl,func89.trans (aB some (by kernel_rfl))⟩
 f8:=⟨f149.name,by kernel_rfl,func149.trans (aB some (by kernel_rfl))⟩
 f11:=⟨f209.name,by kernel_rfl,func209.trans (aB some (by kernel_rfl))⟩
 t0:=underlying0
 a0:=isAgg0
 z0:=sizeOf0
 v0:=zeroValue0
 t24:=underlying41
 a24:=isAgg41
 z24:=sizeOf41
 v24:=zeroValue41
 t26:=underlying3
 a26:=isAgg3
 z26:=sizeOf3
 v26:=zeroValue3
 t28:=underlying166
 a28:=isAgg166
 z28:=sizeOf166
 v28:=zeroValue166
 i26:=by kernel_rfl
def arb:Go.Shelf.Ren:=⟨fun|5=>148|7=>207|8=>208|10=>230|11=>231|12=>232|13=>233|14=>234|15=>235|16=>114|17=>236|18=>237|19=>238|20=>239|30=>255|31=>256|32=>257|33=>258|34=>259|35=>174|40=>269|n=>n,fun|0=>0|3=>3|4=>4|5=>5|9=>9|22=>41|23=>41|25=>3|32=>199|35=>301|36=>302|41=>114|44=>308|46=>310|53=>328|57=>180|63=>344|64=>345|n=>n,fun n=>n⟩
theorem abS:Go.Proofs.SlLaysM.n5 prog arb where
 mixed:=by kernel_rfl
 f5:=⟨f148.name,by kernel_rfl,func148.trans (aB some (by kernel_rfl))⟩
 f7:=⟨f207.name,by kernel_rfl,func207.trans (aB some (by kernel_rfl))⟩
 f8:=func208.trans (aB some (by kernel_rfl))
 f10:=⟨f230.name,by kernel_rfl,func230.trans (aB some (by kernel_rfl))⟩
 f11:=⟨f231.name,by kernel_rfl,func231.trans (aB some (by kernel_rfl))⟩
 f12:=⟨f232.name,by kernel_rfl,func232.trans (aB some (by kernel_rfl))⟩
 f13:=⟨f233.name,by kernel_rfl,func233.trans (aB some (by kernel_rfl))⟩
 f14:=⟨f234.name,by kernel_rfl,func234.trans (aB some (by kernel_rfl))⟩
 f15:=⟨f235.name,by kernel_rfl,func235.trans (aB some (by kernel_rfl))⟩
 f16:=⟨f114.name,by kernel_rfl,func114.trans (aB some (by kernel_rfl))⟩
 f17:=⟨f236.name,by kernel_rfl,func236.trans (aB some (by kernel_rfl))⟩
 f18:=⟨f237.name,by kernel_rfl,func237.trans (aB some (by kernel_rfl))⟩
 f19:=func238.trans (aB some (by kernel_rfl))
 f20:=func239.trans (aB some (by kernel_rfl))
 f30:=⟨f255.name,by kernel_rfl,func255.trans (aB some (by kernel_rfl))⟩
 f31:=func256.trans (aB some (by kernel_rfl))
 f32:=func257.trans (aB some (by kernel_rfl))
 f33:=⟨f258.name,by kernel_rfl,func258.trans (aB some (by kernel_rfl))⟩
 f34:=⟨f259.name,by kernel_rfl,func259.trans (aB some (by kernel_rfl))⟩
 f35:=⟨f174.name,by kernel_rfl,func174.trans (aB some (by kernel_rfl))⟩
 f40:=⟨f269.name,by kernel_rfl,func269.trans (aB some (by kernel_rfl))⟩
 t0:=underlying0
 a0:=isAgg0
 z0:=sizeOf0
 v0:=zeroValue0
 t3:=underlying3
 a3:=isAgg3
 z3:=sizeOf3
 v3:=zeroValue3
 t4:=underlying4
 a4:=isAgg4
 z4:=sizeOf4
 v4:=zeroValue4
 t5:=underlying5
 a5:=isAgg5
 z5:=sizeOf5
 v5:=zeroValue5
 t9:=underlying9
 a9:=isAgg9
 z9:=sizeOf9
 v9:=zeroValue9
 t22:=underlying41
 a22:=isAgg41
 z22:=sizeOf41
 v22:=zeroValue41
 t23:=underlying41
 a23:=isAgg41
 z23:=sizeOf41
 v23:=zeroValue41
 t25:=underlying3
 a25:=isAgg3
 z25:=sizeOf3
 v25:=zeroValue3
 t32:=underlying199
 a32:=isAgg199
 z32:=sizeOf199
 v32:=zeroValue199
 t35:=underlying301
 a35:=isAgg301
 z35:=sizeOf301
 v35:=zeroValue301
 t36:=underlying302
 a36:=isAgg302
 z36:=sizeOf302
 v36:=zeroValue302
 t41:=underlying114
 a41:=isAgg114
 z41:=sizeOf114
 v41:=zeroValue114
 t44:=underlying308
 a44:=isAgg308
 z44:=sizeOf308
 v44:=zeroValue308
 t46:=underlying310
 a46:=isAgg310
 z46:=sizeOf310
 v46:=zeroValue310
 t53:=underlying328
 a53:=isAgg328
 z53:=sizeOf328
 v53:=zeroValue328
 t57:=underlying180
 a57:=isAgg180
 z57:=sizeOf180
 v57:=zeroValue180
 t63:=underlying344
 a63:=isAgg344
 z63:=sizeOf344
 v63:=zeroValue344
 t64:=underlying345
 a64:=isAgg345
 z64:=sizeOf345
 v64:=zeroValue345
end
section
open Go.RowKit Go.Maps
theorem agu:∀ args w,(callFunc 148 args).run prog w=.ok (.enter 148 args) w:=enters func148 rfl (by kernel_rfl)
theorem agw:∀ args w,(callFunc 150 args).run prog w=.ok (.enter 150 args) w:=enters func150 rfl (by kernel_rfl)
theorem alX {G:GH} {w:World} (h:Hold G w) {b:Nat} (hb:w.heap.size≤b):G b=none:=by
 cases hg:G b with
 | none=>rfl
 | some o=>exact absurd (lt_of_heap (h b o hg)) (by omega)
theorem Yc {G:GH} {w w':World} (h:Hold G w) (hb:Below w.heap.size w w') {b:Nat} {o:Obj} (hn:w.heap.size≤b) (ho:w'.heap[b]?=some o):Ext w.heap.size G (G.add b o) w':=by
 refine ⟨fun k o' hk=>GH.F8 G (alX h hn) k o' hk,fun k o' hk=>?_,fun k o' hk=>?_⟩
 ·unfold GH.add at hk
  split at hk
  ·rename_i e;exact .inr (e ▸ hn)
  exact .inl hk
 unfold GH.add at hk
 split at hk
 ·rename_i e;rw [e,ho,hk]
 exact (hb.block k (lt_of_heap (h k o' hk))).trans (h k o' hk)
theorem anI (G:GH) (w0:World) (hG:Hold G w0) (mb:Option Nat) :
  Calls prog 90 #[.map mb] w0 (bC w0 G fun u G'=>∃ bx,u=.func (.func 150) #[] #[(aG bx 0)]∧G' bx=some (.cells #[.map mb] 131 (0,0))):=by
 have h:CallsIn Fence.wide 5 prog 90 #[.map mb] w0 fun e w'=>e=.returned (.func (.func 150) #[] #[(aG w0.heap.size 0)])∧w'=w0.alloc (.cells #[.map mb] 131):=AnyZI.keys_in aap Fence.wide 5 trivial rfl mb w0;refine ((callsIn_wide (n:=5)).1 h).mono ?_;rintro e w' ⟨rfl,rfl⟩;have hb:Below w0.heap.size w0 (w0.alloc (.cells #[.map mb] 131)):=(Below.refl _ w0).alloc (bP _) _;exact ⟨_,_,rfl,hb,Yc hG hb (bP _) (show (w0.heap.push _)[w0.heap.size]?=_ by simp),_,rfl,GH.F9 _ _ _⟩
def Fu (_:aj):Option (DataW Unit × List MemPlace):=some (.nil,[])
theorem aou {w:World} {b clock:Nat} {es:Array MapEntry} {l:List Int} (hb:w.heap[b]?=some (.map es clock)) (hs:MapKept.Stamped es clock) (hk:es.toList.map (·.key)=l.map (Value.int .i64)) (hw:∀ k∈l,-9223372036854775808≤k∧k < 9223372036854775808) (hl:l.length≤4294967296) :
  ∃ D:DataW Unit,w.ownsMap prog 3 Fu b l.length D∧(intKeys D).Perm l∧Maps.size D=l.length:=by
 have hlen:es.size=l.length:=by
  have:=aB List.length hk
  simpa using this
 have hml:maxLen=9223372036854775807:=rfl
 have hr:∀ x∈es.toList,∃ k∈l,Go.WideElems.rd prog 3 Fu x=some (.int .i64 k,.nil):=by
  intro x hx
  have h1:x.key∈l.map (Value.int .i64):=by rw [← hk];exact List.mem_map_of_mem hx
  obtain ⟨k,h2,h3⟩:=List.mem_map.1 h1;obtain ⟨h4,h5⟩:=hw k h2
  have hwf:(Lit.int .i64 k).wf=true:=by
   show (decide (IntKind.i64.min≤k) && decide (k≤IntKind.i64.max))=true
   rw [show IntKind.i64.min=-9223372036854775808 by decide,show IntKind.i64.max=9223372036854775807 by decide]
   simp;omega
  refine ⟨k,h2,?_⟩
  unfold Go.WideElems.rd
  rw [← h3]
  have h6:keyOf prog 3 (.int .i64 k)=some (.int .i64 k):=by
   unfold keyOf mapKey
   rw [underlying3]
   simp [hwf]
  rw [h6]
  rfl
 refine ⟨_,⟨es,clock,hb,⟨by omega,hs,fun x hx=>?_⟩,by omega,rfl⟩,?_,?_⟩
 ·obtain ⟨k,-,h⟩:=hr x hx;exact ⟨_,h⟩
 ·show (((es.toList.map (Go.WideElems.rg prog 3 Fu)).foldr DataW.insert []).map fun p=>Go.intOf p.1).Perm l
  refine ((Go.WideShapes.sorted_perm _).map _).trans ?_;rw [List.map_map]
  have h1:es.toList.map ((fun p:Lit × DataW Unit=>Go.intOf p.1) ∘ Go.WideElems.rg prog 3 Fu)=l:=by
   have h2:es.toList.map ((fun p:Lit × DataW Unit=>Go.intOf p.1) ∘ Go.WideElems.rg prog 3 Fu)=(es.toList.map (·.key)).map fun v=>match v with|.int _ a=>a|_=>0:=by
    rw [List.map_map];refine List.map_congr_left fun x hx=>?_;obtain ⟨k,hkl,h⟩:=hr x hx
    obtain ⟨k',h3,h4⟩:∃ k',Go.WideElems.rd prog 3 Fu x=some (.int .i64 k',.nil)∧x.key=.int .i64 k':=by
     have h5:x.key∈l.map (Value.int .i64):=by rw [← hk];exact List.mem_map_of_mem hx
     obtain ⟨k',h6,h7⟩:=List.mem_map.1 h5;refine ⟨k,h,?_⟩;have h8:=Go.WideElems.rd_key h;obtain ⟨z,h9,h10,-⟩:=Maps.keyOf_i64 underlying3 h8
     cases h10
     exact h9
    simp only [Function.comp,Go.WideElems.rg_of h3,h4,Go.intOf]
   rw [h2,hk,List.map_map]
   simp [Function.comp_def]
  rw [h1]
 show ((es.toList.map (Go.WideElems.rg prog 3 Fu)).foldr DataW.insert []).length=_
 rw [(Go.WideShapes.sorted_perm _).length_eq,bM,sK,hlen]
theorem arh (m:Nat):AnyZI.SortsIn prog abT Fence.wide m :=
  ⟨fun blk off cap ss W hH hblk hsz=>callsIn_wide.2 (AnyM.slices_Sort_int abS blk off cap ss W hH hblk hsz),
   fun p cap W=>callsIn_wide.2 (AnyM.slices_Sort_int_none abS p cap W)⟩
def Cn (l:List Int):List Int:=l.mergeSort leI
theorem arf (G:GH) (w0:World) (hG:Hold G w0) (b bx clock:Nat) (es:Array MapEntry) (l:List Int) (hbx:G bx=some (.cells #[.map (some b)] 131 (0,0))) (hb:w0.heap[b]?=some (.map es clock)) (hs:MapKept.Stamped es clock) (hk:es.toList.map (·.key)=l.map (Value.int .i64))
  (hw:∀ k∈l,-9223372036854775808≤k∧k < 9223372036854775808) (hl:l.length≤4294967296) :
  Calls prog 89 #[.func (.func 150) #[] #[(aG bx 0)]] w0 (bC w0 G fun u G'=>au G' (.sl 1 ((Cn l).map fun k=>[li k])) u):=by
 obtain ⟨D0,hown,hperm,hsize⟩:=aou hb hs hk hw hl;have hml:maxLen=9223372036854775807:=rfl
 have hseq:SeqGives Fence.wide 2 prog 150 #[(aG bx 0)] encZ (fun ss=>ss.Perm (intKeys D0)) (Maps.size D0) w0 :=
  AnyZI.keys_gives (ρ:=aaq) { aap with } Fence.wide _ trivial rfl (by omega) bx b l.length D0 _ (lt_of_heap (hG _ _ hbx)) (by simp [World.cell?,hG _ _ hbx]) hown
 have cS:=AnyZI.sorted_in ard Fence.wide 5 trivial trivial trivial trivial rfl (by omega) (arh _) agu 150 #[(aG bx 0)] trivial agw _ _ (by omega) (by omega) _ hseq
 change CallsIn _ _ prog 89 _ _ _ at cS
 refine ((callsIn_wide (n:=5)).1 cS).mono ?_;rintro e w' ⟨v,ss,rfl,hS,hrow,-,hbel⟩;have hS2:ss.mergeSort (fun x y=>decide (x≤y))=Cn l:=mergeSort_of_perm_i (hS.trans hperm);rw [hS2] at hrow
 have hlen:ss.length=(Cn l).length:=by rw [Cn,List.length_mergeSort,hS.length_eq,hperm.length_eq]
 have dV:∀ (G1:GH) (xs:List Int),bU G1 1 (xs.map fun k=>[li k]) (xs.map encZ):=by
  intro G1 xs
  induction xs with
  | nil=>exact bU.nil
  | cons x xs ih =>
   have h8:=((bU.nil (G:=G1) (sz:=1)).snoc (q:=[li x]) (cs:=[encZ x]) (by simp [aU,au,li,Value.oneCell']) rfl).append ih
   simpa using h8
 rcases hrow.2 with ⟨rfl,hz⟩|⟨gb,cap,cur,rfl,hbase,hgb,r1,r2,r3,r4⟩
 ·refine ⟨_,G,rfl,hbel,⟨fun _ _ h=>h,fun _ _ h=>.inl h,fun k o hk=>(hbel.block k (lt_of_heap (hG k o hk))).trans (hG k o hk)⟩,?_⟩;rw [List.eq_nil_of_length_eq_zero (by omega:(Cn l).length=0)]
  simp only [au]
  exact ⟨none,0,by simp,by simp,by simp [maxLen],fun h=>absurd rfl h⟩
 exact ⟨_,_,rfl,hbel,Yc hG hbel hbase hgb,au.eX (GH.F9 G gb _) (by simp [hlen]) r1 r2 (by simpa using r4) (dV _ _)⟩
end
section
open Go.RowKit
abbrev jk (l:List Int):List (Int × aj):=l.map fun q=>(q,.bool true)
theorem abN (l:List Int):(jk l).map (·.1)=l:=by rw [List.map_map];simp [Function.comp_def]
theorem aqB (l r:List Int):jk (l++r)=jk l++jk r:=kM
theorem Ug:∀ (i:Nat) (l:List (Int × aj)),(iG i l).map (·.key)=l.map fun x=>Value.int .i64 x.1
 | _,[]=>rfl
 | i,(k,v) :: r=>by rw [iG,eZ,eZ,Ug (i+1) r]
theorem Uf:∀ (i:Nat) (l:List (Int × aj)),(iG i l).map (·.born)=List.range' i l.length
 | _,[]=>rfl
 | i,(k,v) :: r=>by rw [iG,eZ,Uf (i+1) r];rfl
theorem aaz:∀ (i n:Nat) (l:List (Int × aj)),(iG i l)[n]?=(l[n]?).map fun x=>⟨.int .i64 x.1,x.2,i+n⟩
 | _,_,[]=>rfl
 | i,0,(k,v) :: r=>rfl
 | i,n+1,(k,v) :: r=>by rw [iG,List.getElem?_cons_succ,List.getElem?_cons_succ,aaz (i+1) n r,show i+1+n=i+(n+1) by omega]
theorem anH {l:List (Int × aj)} (h:(l.map (·.1)).Nodup):MapKept.Stamped (iG 0 l).toArray l.length:=by
 refine ⟨fun x hx=>?_,?_,?_⟩
 ·have h1:=List.mem_map_of_mem (f:=(·.born)) hx
  rw [Uf] at h1
  have:=List.mem_range'_1.1 h1
  omega
 ·show ((iG 0 l).map (·.born)).Nodup
  rw [Uf];exact List.nodup_range'
 ·show ((iG 0 l).map (·.key)).Nodup
  rw [Ug,show (fun x:Int × aj=>Value.int .i64 x.1)=Value.int .i64 ∘ (·.1) from rfl,← List.map_map]
  exact List.pairwise_map.2 (h.imp fun hne e=>hne (by injection e))
theorem RA (x:Int):∀ (i j:Nat) (l:List Int),∃ an,Instr.findNow (.int .i64) (.int .i64 x) (iG i (jk l)) j=some an∧((x∈l∧∃ n,an=some (j+n,.bool true)∧l[n]?=some x)∨(x∉l∧an=none))
 | _,_,[]=>⟨none,rfl,.inr ⟨by simp,rfl⟩⟩
 | i,j,k :: r=>by
  by_cases e:k=x
  ·subst e
   exact ⟨some (j,.bool true),by simp only [jk,eZ,iG,Instr.findNow,Instr.sameNow,av,beq_self_eq_true],.inl ⟨fK,0,rfl,rfl⟩⟩
  ·have hb:(x == k)=false:=by simp;exact fun h=>e h.symm
   obtain ⟨an,h1,h2⟩:=RA x (i+1) (j+1) r
   refine ⟨an,by simpa only [jk,eZ,iG,Instr.findNow,Instr.sameNow,av,hb] using h1,?_⟩
   rcases h2 with ⟨h3,n,h4,h5⟩|⟨h3,h4⟩
   ·exact .inl ⟨gB _ h3,n+1,by rw [h4,show j+1+n=j+(n+1) by omega],h5⟩
   ·exact .inr ⟨fun h=>(kg.1 h).elim (fun h=>e h.symm) h3,h4⟩
theorem Uh {α β:Type} (f:α→β):∀ (l:List α) (j:Nat),(l.eraseIdx j).map f=(l.map f).eraseIdx j
 | [],_=>rfl
 | x :: l,0=>rfl
 | x :: l,j+1=>by rw [List.eraseIdx_cons_succ,eZ,eZ,List.eraseIdx_cons_succ,Uh f l j]
def wo (l:List Int) (x:Int):List Int:=if x∈l then l else l++[x]
theorem adD {l:List Int} {x y:Int}:y∈wo l x↔y∈l∨y=x:=by
 unfold wo
 split
 ·rename_i h
  exact ⟨.inl,fun h2=>h2.elim id fun e=>e ▸ h⟩
 ·simp
theorem adF {l:List Int} {x:Int} (h:l.Nodup):(wo l x).Nodup:=by
 unfold wo
 split
 ·exact h
 ·rename_i hx
  exact List.nodup_append.2 ⟨h,List.pairwise_singleton _ _,fun a ha b hb e=>hx (by rw [sN] at hb;rw [← hb,← e];exact ha)⟩
section
variable {N:Nat} {D:List Deferred} {w0:World} {F:Nat→Prop} {G0 G:GH} {L:OL} {T:List (Nat × aj)}
variable {r:Option Nat} {P:Program} {ops:Array Oper} {Q:Exit→Act→World→Prop} {rest:List Oper} {a:Act} {w:World}
variable {d:Nat} {ty:TypeId} {pos:String} {aO:Array Edge} {g:Option (Nat × Bool)}
theorem UZ {t kt et:TypeId} {x y z:Operand} {b i:Nat} {l:List Int} {ky:Int} (hm:P.underlying t=some (.map kt et)) (hk:P.underlying kt=some (.int .i64)) (H:St N D w0 F G0 G L T a w)
  (hw:Region.wanted ⟨none,.mapUpdate t x y z,ty,pos,aO,g⟩ (yielded ops a.tmps)=true) (hx:ev T x=some (.map (some b))) (hy:ev T y=some (.int .i64 ky)) (hzv:ev T z=some (.bool true)) (hi:L[i]?=some (b,eT (jk l)))
  (k:∀ w',St N D w0 F G0 G (L.set i (b,eT (jk (wo l ky)))) T a w'→WL r P ops Q rest a w'):WL r P ops Q (⟨none,.mapUpdate t x y z,ty,pos,aO,g⟩ :: rest) a w:=by
 obtain ⟨an,hf,han⟩:=RA ky 0 0 l
 rcases han with ⟨hm2,n,rfl,hn⟩|⟨hm2,rfl⟩
 ·have hkey:MapKept.IsKey (.int .i64) (.int .i64 ky):=by trivial
  have hb:w.heap[b]?=some (.map (iG 0 (jk l)).toArray (jk l).length):=H.hp.own _ (ko hi)
  have h1:=MapKept.run_checkKey (P:=P) (w:=w) hk hkey false 9999
  have h2:=MapKept.run_findKey (P:=P) (w:=w) (l:=(iG 0 (jk l)).toArray.toList) hk (by simpa using hf)
  have h3:=MapKept.run_keyThatStays (P:=P) (w:=w) hkey
  have hgn:(iG 0 (jk l))[n]?=some ⟨.int .i64 ky,.bool true,0+n⟩:=by
   rw [aaz];unfold jk;rw [qM,hn];rfl
  have hg:((iG 0 (jk l)).toArray[n]?.map (·.key)).getD (.int .i64 ky)=.int .i64 ky:=by
   rw [List.getElem?_toArray,hgn];rfl
  have hmod:(iG 0 (jk l)).toArray.modify n (fun e=>{ e with key:=.int .i64 ky,val:=.bool true })=(iG 0 (jk l)).toArray:=by
   apply Array.ext_getElem?
   intro j
   rw [Array.getElem?_modify]
   by_cases hij:n=j
   ·subst hij
    rw [av rfl,List.getElem?_toArray,hgn];rfl
   ·rw [ah hij]
  have ha:wo l ky=l:=by unfold wo;rw [av hm2]
  rw [ha] at k
  refine Vs (w':={ w with heap:=w.heap.setIfInBounds b (eT (jk l)) }) hw rfl ?_ (k _ (H.move (H.hp.upd hi (Vn hb))))
  show (execOp a.eval _).run P w=.ok _ { w with heap:=w.heap.setIfInBounds b (.map (iG 0 (jk l)).toArray (jk l).length) }
  generalize (iG 0 (jk l)).toArray=es at hb h2 hg hmod ⊢
  simp [execOp,Instr.mapUpdate,H.ev hx,H.ev hy,H.ev hzv,dS,mg hm,MapKept.run_getObj_map hb,h1,h2,hg,h3,hmod,MapKept.run_setObj_map _ hb,Result.andThen]
 ·refine KQ hm hk H hw hx hy hzv hi (Ky (by rw [abN];exact hm2)) fun w' H'=>k w' ?_
  have ha:wo l ky=l++[ky]:=by unfold wo;rw [ah hm2]
  rw [ha,aqB]
  exact H'
theorem apX {t kt et:TypeId} {x y:Operand} {b i:Nat} {l:List Int} {ky:Int} (hm:P.underlying t=some (.map kt et)) (hk:P.underlying kt=some (.int .i64)) (hnd:l.Nodup) (H:St N D w0 F G0 G L T a w)
  (hw:Region.wanted ⟨none,.call { callee:=.builtin .delete,args:=#[x,y],argTypes:=#[t,kt] },ty,pos,aO,g⟩ (yielded ops a.tmps)=true) (hx:ev T x=some (.map (some b))) (hy:ev T y=some (.int .i64 ky)) (hi:L[i]?=some (b,eT (jk l)))
  (k:∀ es clock w',MapKept.Stamped es clock→es.toList.map (·.key)=(l.filter fun q=>decide (q≠ky)).map (Value.int .i64)→St N D w0 F G0 G (L.set i (b,.map es clock)) T a w'→WL r P ops Q rest a w'):WL r P ops Q (⟨none,.call { callee:=.builtin .delete,args:=#[x,y],argTypes:=#[t,kt] },ty,pos,aO,g⟩ :: rest) a w:=by
 obtain ⟨an,hf,han⟩:=RA ky 0 0 l
 have hkey:MapKept.IsKey (.int .i64) (.int .i64 ky):=by trivial
 have hb:w.heap[b]?=some (.map (iG 0 (jk l)).toArray (jk l).length):=H.hp.own _ (ko hi)
 have hst:=anH (l:=jk l) (by rw [abN];exact hnd)
 have hks:(iG 0 (jk l)).toArray.toList.map (·.key)=l.map (Value.int .i64):=by
  show (iG 0 (jk l)).map (·.key)=_
  rw [Ug,List.map_map];rfl
 have h2:=fun es':Array MapEntry=>Vn (o:=.map es' (jk l).length) hb
 have h3:=MapKept.run_findKey (P:=P) (w:=w) (l:=(iG 0 (jk l)).toArray.toList) hk (by simpa using hf)
 rcases han with ⟨hm2,n,rfl,hn⟩|⟨hm2,rfl⟩
 ·have hnl:n < l.length:=(jy.1 hn).1
  have hln:l[n]=ky:=(jy.1 hn).2
  have hsz:n < (iG 0 (jk l)).toArray.size:=by
   have:=aB List.length hks
   simp at this
   simp;omega
  have alv:((iG 0 (jk l)).toArray.eraseIdxIfInBounds n).toList=(iG 0 (jk l)).toArray.toList.eraseIdx n:=by
   unfold Array.eraseIdxIfInBounds
   rw [dif_pos hsz]
   simp
  refine fq (v:=.tuple #[]) (w':={ w with heap:=w.heap.setIfInBounds b (.map ((iG 0 (jk l)).toArray.eraseIdxIfInBounds n) (jk l).length) }) hw rfl ?_
   (k _ _ _ (MapKept.stamped_erase hst n) ?_ (H.move (H.hp.upd hi (h2 _))))
  ·generalize (iG 0 (jk l)).toArray=es at hb h3 ⊢
   have h1:=MapKept.run_checkKey (P:=P) (w:=w) hk hkey es.isEmpty 9999
   simp [execOp,resolve,invoke,builtin,Builtin.delete_,H.ev hx,H.ev hy,dS,mg hm,MapKept.run_getObj_map hb,h1,h3,MapKept.run_setObj_map _ hb,Result.andThen]
  ·rw [alv,Uh,hks,← Uh]
   congr 1
   have he:l.erase ky=l.eraseIdx n:=by
    have:=hnd.idxOf_getElem n hnl
    rw [hln] at this
    rw [← this];exact List.erase_eq_eraseIdx_of_idxOf rfl
   rw [← he,hnd.erase_eq_filter]
   exact List.filter_congr fun x _=>by by_cases h:x=ky <;> simp [h]
 ·refine fq (v:=.tuple #[]) (w':={ w with heap:=w.heap.setIfInBounds b (.map (iG 0 (jk l)).toArray (jk l).length) }) hw rfl ?_ (k _ _ _ hst ?_ (H.move (H.hp.upd hi (h2 _))))
  ·generalize (iG 0 (jk l)).toArray=es at hb h3 ⊢
   have h1:=MapKept.run_checkKey (P:=P) (w:=w) hk hkey es.isEmpty 9999
   simp [execOp,resolve,invoke,builtin,Builtin.delete_,H.ev hx,H.ev hy,dS,mg hm,MapKept.run_getObj_map hb,h1,h3,MapKept.run_setObj_map _ hb,Result.andThen]
  ·rw [hks,List.filter_eq_self.2 fun x hx=>iQ (show ¬ x=ky from fun e=>hm2 (e ▸ hx))]
end
end
section
open Go.RowKit
theorem aiv:∀ args w,(callFunc 90 args).run prog w=.ok (.enter 90 args) w:=enters func90 rfl (by kernel_rfl)
theorem aiu:∀ args w,(callFunc 89 args).run prog w=.ok (.enter 89 args) w:=enters func89 rfl (by kernel_rfl)
end
section
open Go.RowKit
theorem X7:∀ args w,(callFunc 87 args).run prog w=.ok (.enter 87 args) w:=enters func87 rfl (by kernel_rfl)
theorem ahW:∀ args w,(callFunc 38 args).run prog w=.ok (.enter 38 args) w:=enters func38 rfl (by kernel_rfl)
def refs (h:dW):List Int:=h.marks.ins :: (h.marks.bL.map fF.rev++h.marks.layers.map cK.rev)
def qL (K l:List Int):List Int:=l.foldl wo K
theorem Mj (K l r:List Int):qL K (l++r)=qL (qL K l) r:=List.foldl_append
theorem Ws {l:List Int}:∀ {K:List Int} {y:Int},y∈qL K l↔y∈K∨y∈l:=by
 induction l with
 | nil=>intro K y;simp [qL]
 | cons x l ih =>
  intro K y
  show y∈qL (wo K x) l↔_
  rw [ih,adD,kg,or_assoc]
theorem Wt {l:List Int}:∀ {K:List Int},K.Nodup→(qL K l).Nodup:=by
 induction l with
 | nil=>intro K h;exact h
 | cons x l ih=>intro K h;exact ih (adF h)
theorem adG {K:List Int} {x:Int} {α:Type} {f:α→Int} {A:List α} {k:Nat} (hk:k < A.length):wo (qL K (x :: (A.take k).map f)) (f A[k])=qL K (x :: (A.take (k+1)).map f):=by
 rw [fP hk,kM,← nu,Mj];rfl
theorem adH {K B:List Int} {x:Int} {α:Type} {f:α→Int} {A:List α} {k:Nat} (hk:k < A.length):wo (qL K (x :: (B++(A.take k).map f))) (f A[k])=qL K (x :: (B++(A.take (k+1)).map f)):=by
 rw [fP hk,kM,show x :: (B++((A.take k).map f++[A[k]].map f))=(x :: (B++(A.take k).map f))++[f A[k]] from by simp,Mj];rfl
abbrev AU (b3 bm:Nat) (K:List Int):OL:=[(b3,.cells #[.map (some bm)] 131 (0,0)),(bm,eT (jk K))]
theorem aaP (G:GH) (w0:World) (b3 bm:Nat) (K:List Int) (h:dW) (p d y:Option Addr × Nat × Nat) (hR:fD G h (aM p) (aM d) (aM y)) (hO:fT G (AU b3 bm K) w0) :
  Calls prog 87 #[.agg #[aM p,vi h.marks.ins,vi h.marks.move,aM d,aM y],(aG b3 0)] w0 (fI w0 G (AU b3 bm K) fun _ G' L'=>L'=AU b3 bm (qL K (refs h))):=by
 obtain ⟨dA,dn,dc⟩:=d;obtain ⟨yA,yn,yc⟩:=y;have hml:maxLen=9223372036854775807:=rfl;have hd:=hR.bL;have hy:=hR.layers;dsimp only [aM] at hd hy;have e1:=hd.len;have e2:=hy.len;rw [bM] at e1 e2;subst e1 e2;obtain ⟨_,_,hu1,hd1,hd2,-⟩:=hd.slice;obtain ⟨_,_,hu2,hy1,hy2,-⟩:=hy.slice
 injection hu1 with q1 q2 q3
 subst q1 q3
 injection hu2 with q1 q2 q3
 subst q1 q3;rw [bM] at hd1 hy1;refine jf (N:=35) (T:=[(0,_),(1,_)]) func87 rfl ntmps87 rfl rfl hO ?_;refine ak 1 ?_;intro a H;refine dP (cs:=[_,_,_,_,_]) H wn rfl rfl rfl ?_;clear H;intro b2 a w hb2 H;refine aD 6 H ?_;clear H;intro a H;refine UZ (i:=2) uT kE H wn rfl rfl rfl rfl ?_;clear H;intro w H;dsimp only [List.set] at H;refine aD 10 H ?_;clear H;intro a H;refine eH (ι:=Nat) (Tc:=[(1,_),(2,_),(13,_),(14,_)]) (Lc:=[(_,_),(_,_)]) (fun gh=>[(15,vi gh)]) (fun gh=>[(bm,eT (jk (qL K (h.marks.ins :: (h.marks.bL.take gh).map fF.rev))))]) (fun gh=>G) (fun gh=>gh≤h.marks.bL.length) (fun gh=>h.marks.bL.length - gh) (0) sB ?_ ?_
 ·exact gN _
 clear H;intro i a w hI H;have hi:=hI;dsimp only [lca,bG] at H;refine dO 4 H ?_ ?_ <;> clear H
 ·intro p16
  have hi2:i < h.marks.bL.length:=by omega
  obtain ⟨b,o,rfl,hrow⟩:=MQ hd hi2;refine ak 5 ?_;intro a H;refine aR ow (cs:=[_,_]) H wn rfl rfl (fun j v hj=>H.hp.aI (hrow j v hj)) rfl ?_;clear H;intro a H;refine dz ow H wn rfl ?_;clear H;intro b4 a w hb4 H;refine aX ow 0 (vs:=[_,_]) _ H wn rfl rfl rfl rfl rfl rfl rfl rfl ?_;clear H;intro w H;dsimp only [List.set,setRow] at H;refine aD 5 H ?_;clear H;intro a H;refine UZ (i:=3) uT kE H wn rfl rfl rfl rfl ?_;clear H;intro w H;dsimp only [List.set] at H;rw [adG hi2] at H;refine aD 4 H ?_;clear H;intro a H;refine aC ?_;refine cB (i+1) (by exact (H.dY (Pl:=[_,_,_,_]) (dJ:=[_,_,_]) [1,2,3] (by decide) rfl).sub ⟨rfl,rfl,rfl,rfl,rfl,bq⟩) ?_ ?_
  ·omega
  first|omega|(dsimp only;omega)
 intro p16
 obtain rfl:i=h.marks.bL.length:=by omega
 intro a H;rw [uZ] at H;refine fM 9 H ?_;clear H;intro a H;refine eH (ι:=Nat) (Tc:=[(1,_),(25,_),(26,_)]) (Lc:=[(_,_),(_,_)]) (fun gh=>[(27,vi gh)]) (fun gh=>[(bm,eT (jk (qL K (h.marks.ins :: (h.marks.bL.map fF.rev++(h.marks.layers.take gh).map cK.rev)))))]) (fun gh=>G) (fun gh=>gh≤h.marks.layers.length) (fun gh=>h.marks.layers.length - gh) (0) (by exact (by rw [List.take_zero,qx,gu];exact (H.sub ⟨rfl,rfl,rfl,rfl,bq⟩))) ?_ ?_
 ·exact gN _
 clear H;intro k a w hI H;have hk:=hI;dsimp only [lca,bG] at H;refine dO 4 H ?_ ?_ <;> clear H
 ·intro p28
  have hk2:k < h.marks.layers.length:=by omega
  obtain ⟨b,o,rfl,hrow⟩:=Dp hy hk2;refine ak 5 ?_;intro a H;refine aR jv (cs:=[_,_,_,_]) H wn rfl rfl (fun j v hj=>H.hp.aI (hrow j v hj)) rfl ?_;clear H;intro a H;refine dz jv H wn rfl ?_;clear H;intro b6 a w hb6 H;refine aX jv 0 (vs:=[_,_,_,_]) _ H wn rfl rfl rfl rfl rfl rfl rfl rfl ?_;clear H;intro w H;dsimp only [List.set,setRow] at H;refine aD 5 H ?_;clear H;intro a H;refine UZ (i:=3) uT kE H wn rfl rfl rfl rfl ?_;clear H;intro w H;dsimp only [List.set] at H;rw [adH hk2] at H;refine aD 4 H ?_;clear H;intro a H;refine aC ?_;refine cB (k+1) (by exact (H.dY (Pl:=[_,_,_,_]) (dJ:=[_,_,_]) [1,2,3] (by decide) rfl).sub ⟨rfl,rfl,rfl,rfl,bq⟩) ?_ ?_
  ·omega
  first|omega|(dsimp only;omega)
 intro p28
 obtain rfl:k=h.marks.layers.length:=by omega
 intro a H;rw [uZ] at H;refine yK ?_;refine (leave0 H results87 ?_).2;exact H.hp.kC (L':=AU b3 bm _) (by repeat (first|exact jR _|apply List.Sublist.cons)) rfl
def UF (d:gI):List Int:=(nZ d.flow).flatMap refs++refs d.fin
def qW (d:gI):List Int:=(qL [] (UF d)).filter fun q=>decide (q≠0)
theorem aoj {G:GH} {b3 bm:Nat} {hs:List dW}:VE prog (.func (.func 87) #[] #[(aG b3 0)]) G (hs.map ED) fun k _ L=>L=AU b3 bm (qL [] ((hs.take k).flatMap refs)):=by
 rintro k args G1 L w ⟨p,hp,h⟩ hG rfl hO;rw [qM] at hp;obtain ⟨x,hx,rfl⟩:=oO.1 hp;obtain ⟨q1,q2,q3,rfl,hR⟩:=h;obtain ⟨hk,rfl⟩:=jy.1 hx;refine iM (caps:=[(aG b3 0)]) X7 ((aaP G1 w b3 bm _ hs[k] q1 q2 q3 hR hO).mono ?_);rintro e w' ⟨v,G',L',rfl,hc,rfl⟩;exact ⟨v,G',_,rfl,hc,by show AU b3 bm _=AU b3 bm (qL [] ((hs.take (k+1)).flatMap refs));rw [fP hk,List.flatMap_append,Mj];simp⟩
theorem afE (G:GH) (w0:World) (hG:Hold G w0) (D:iE) (d:gI) (hR:jP G D d) (hz:bZ d.flow≤4294967296) (hw:∀ k∈qW d,-9223372036854775808≤k∧k < 9223372036854775808) (hl:(qW d).length≤4294967296) :
  Calls prog 38 #[D.val] w0 (bC w0 G fun u G'=>au G' (.sl 1 ((Cn (qW d)).map fun k=>[li k])) u):=by
 refine eN [(0,_)] func38 rfl ntmps38 rfl rfl hG ?_;refine ak 1 ?_;intro a H;refine dP (cs:=[_,_,_,_,_,_,_,_,_,_,_]) H wn rfl rfl rfl ?_;clear H;intro b1 a w hb1 H;refine aD 2 H ?_;clear H;intro a H;obtain ⟨Ga,hma,hb1',HQ⟩:=H.eu;clear H;have H:=HQ;clear HQ;have hga:=fun j v hj=>kW hb1' 0 D.cells rfl j v hj
 have hgd:∀ j v,[aM D.p,vi d.fin.marks.ins,vi d.fin.marks.move,aM D.d,aM D.y][j]?=some v→aI Ga b1 (1+j)=some v:=fun j v hj=>by rw [← hR.ins,← hR.mv] at hj;exact kW hb1' 1 [aM D.p,vi D.ins,vi D.move,aM D.d,aM D.y] rfl j v hj
 replace hR:=hR.mono hma;refine yP ?_;refine Fw H wn rfl ?_;clear H;intro b5 a w hb5 H;refine dz DN H wn rfl ?_;clear H;intro b3 a w hb3 H;refine aX DN 0 (vs:=[_]) _ H wn rfl rfl rfl rfl rfl rfl rfl rfl ?_;clear H;intro w H;dsimp only [List.set,setRow] at H;refine aD 2 H ?_;clear H;intro a H;refine nQ H wn rfl rfl ?_;clear H;refine ak 4 ?_;intro a H;refine iC pG H wn rfl (H.hp.aI (hga 0 _ rfl)) rfl ?_;clear H;refine ak 1 ?_;intro a H;refine gy Q5 (Li:=[]) (L:=AU b3 b5 []) H wn rfl (Y3 4294967297 (by omega) _ Ga ((nZ d.flow).map ED) (fun k _ L=>L=AU b3 b5 (qL [] (((nZ d.flow).take k).flatMap refs))) Ga _ _ 0 d.flow _ (fun _ _ h=>h) aoj (fun _ _ _ _ _ h=>h) rfl (Hp.owns (Li:=[]) H.hp) hR.fl (by omega) (fun i a h=>by rw [fU,qM,h];rfl)) rfl ?_;clear H;rintro v10 zO L10 a w rfl BH H;rw [fU,uZ] at H;dsimp only [List.nil_append] at H;refine aD 4 H ?_;clear H;intro a H;refine aR dw (cs:=[aM D.p,vi d.fin.marks.ins,vi d.fin.marks.move,aM D.d,aM D.y]) H wn rfl rfl (fun j v hj=>H.hp.aI (aH BH (hgd j v hj))) rfl ?_;clear H;intro a H;refine Cj (Li:=[]) (L:=AU b3 b5 _) H wn rfl rfl (iM (caps:=[(aG b3 0)]) X7 (aaP _ _ b3 b5 _ d.fin D.p D.d D.y (hR.hd.mono BH) (Hp.owns (Li:=[]) H.hp))) rfl ?_;clear H;rintro v14 zP L14 a w rfl wK H;rw [← Mj] at H;dsimp only [List.nil_append] at H;refine aD 3 H ?_;clear H;intro a H;refine apX (i:=1) uT kE (Wt List.nodup_nil) H wn rfl rfl rfl ?_;clear H;intro es clock w hst hks H;dsimp only [List.set] at H;refine aD 3 H ?_;clear H;intro a H;refine s_call aiv H wn rfl (anI _ _ H.ro _) rfl ?_;clear H;rintro v17 yE a w ⟨bx,rfl,hbx⟩ qR H;refine s_call aiu H wn rfl (arf _ _ H.ro b5 bx clock es (qW d) hbx (H.hp.own (b5,.map es clock) (by simp)) hst hks hw hl) rfl ?_;clear H;rintro v18 VJ a w NU hm18 H;refine fu 2 H ?_;exact NU
end
section
open Go.RowKit
theorem Y4 {C:bN} {e:Int} {h:dW} (hE:gQ C e h=0):∀ q∈refs h,q=0∨q∈C.zI:=by
 have z:=lG hE;have h3:=z (jG C h.marks) (by simp);have h4:=z (iF (sQ C h.marks.bL) h.marks.bL.length) (by simp);have h6:=z (iF (xP C e h.marks.layers) h.marks.layers.length) (by simp);intro q hq
 unfold refs at hq
 rcases kg.1 hq with rfl|hq
 ·unfold jG at h3
  by_cases h0:h.marks.ins=0
  ·exact .inl h0
  refine .inr (Classical.byContradiction fun hn=>?_);rw [av ⟨h0,hn⟩] at h3;cases h3
 rcases nV.1 hq with hq|hq
 ·obtain ⟨x,hx,rfl⟩:=List.mem_map.1 hq;obtain ⟨k,hk,rfl⟩:=List.getElem_of_mem hx;have h5:=Ee h4 k hk
  unfold sQ at h5
  rw [eO hk] at h5;dsimp only [sS] at h5;refine .inr (Classical.byContradiction fun hn=>?_);rw [av hn] at h5;cases h5
 obtain ⟨x,hx,rfl⟩:=List.mem_map.1 hq;obtain ⟨k,hk,rfl⟩:=List.getElem_of_mem hx;have h5:=Ee h6 k hk
 unfold xP at h5
 rw [eO hk] at h5;dsimp only [vT] at h5;refine .inr (Classical.byContradiction fun hn=>?_);rw [av hn] at h5;cases h5
def oC (C:bN) (L:List dW):Prop:=∀ h∈L,∃ e,gQ C e h=0
theorem oC.nil (C:bN):oC C []:=fun _ h=>by cases h
theorem oC.cons {C:bN} {e:Int} {h:dW} {L:List dW} (h1:gQ C e h=0) (h2:oC C L):oC C (h :: L):=fun x hx=>by
 rcases kg.1 hx with rfl|hx
 ·exact ⟨e,h1⟩
 exact h2 x hx
theorem oC.app {C:bN} {A B:List dW} (h1:oC C A) (h2:oC C B):oC C (A++B):=fun x hx=>(nV.1 hx).elim (h1 x) (h2 x)
mutual
theorem alV (C:bN) (body note:Bool) (t:Int):∀ (x:ay) (s s':CS),eY C body note t x s=(0,s')→oC C (JF x)
 | .mk k c i tx h f r,s,s',e=>by
  have hf:=NK C false true t f;have hr:=Zy C note (t+1) r;rw [eY] at e;(iterate 2 obtain ⟨-,e⟩:=lT e);obtain ⟨e1,e⟩:=lT e;rw [JF];refine oC.cons e1 ?_
  by_cases h6:k=6
  ·rw [av h6] at e ⊢;rw [ah (show ¬ k=7 by omega),gu];exact hf _ _ e
  rw [ah h6] at e ⊢;rw [oD]
  by_cases h7:k=7
  ·rw [av h7] at e ⊢;exact hr _ _ (UH e).2
  rw [ah h7];exact oC.nil C
theorem NK (C:bN) (body note:Bool) (t:Int):∀ (l:List ay) (s s':CS),jo C body note t l s=(0,s')→oC C (nZ l)
 | [],_,_,_=>by rw [nZ];exact oC.nil C
 | x :: r,s,s',e=>by
  rw [jo] at e;obtain ⟨e1,e⟩:=lT e;rw [nZ];exact (alV C body note t x s _ (Prod.ext e1 rfl)).app (NK C body note t r _ _ e)
theorem alW (C:bN) (note:Bool) (t:Int):∀ (x:aV) (s s':CS),xU C note t x s=(0,s')→oC C (JJ x)
 | .mk h cs,s,s',e=>by
  have hc:=Zx C note t cs;rw [xU] at e;obtain ⟨e1,e⟩:=lT e;rw [JJ];exact oC.cons (lG e1 _ fK) (hc _ _ e)
theorem Zy (C:bN) (note:Bool) (t:Int):∀ (l:List aV) (s s':CS),iB C note t l s=(0,s')→oC C (Aj l)
 | [],_,_,_=>by rw [Aj];exact oC.nil C
 | x :: r,s,s',e=>by
  rw [iB] at e;obtain ⟨e1,e⟩:=lT e;rw [Aj];exact (alW C note t x s _ (Prod.ext e1 rfl)).app (Zy C note t r _ _ e)
theorem alU (C:bN) (note:Bool) (t:Int):∀ (x:bB) (s s':CS),cellC C note t x s=(0,s')→oC C (JC x)
 | .mk i h f,s,s',e=>by
  have hf:=NK C false note t f;rw [cellC] at e;obtain ⟨-,e⟩:=lT e;obtain ⟨e1,e⟩:=lT e;rw [JC];exact oC.cons e1 (hf _ _ e)
theorem Zx (C:bN) (note:Bool) (t:Int):∀ (l:List bB) (s s':CS),oP C note t l s=(0,s')→oC C (Bw l)
 | [],_,_,_=>by rw [Bw];exact oC.nil C
 | x :: r,s,s',e=>by
  rw [oP] at e;obtain ⟨e1,e⟩:=lT e;rw [Bw];exact (alU C note t x s _ (Prod.ext e1 rfl)).app (Zx C note t r _ _ e)
end
theorem abl {d:gI} (hc:jc d=0):∀ q∈UF d,q=0∨q∈d.revs.map bX.id:=by
 have z:=lG hc;have h2:=z (dh [gQ d.nX 3 d.fin,dx (qU d.fin.marks) 21]) (by simp);have h3:=z (jo d.nX true false 0 d.flow ⟨0,[]⟩).1 (by simp);have hi:=NK d.nX true false 0 d.flow _ _ (Qx h3);intro q hq
 unfold UF at hq
 rcases nV.1 hq with hq|hq
 ·obtain ⟨h,hh,hq⟩:=List.mem_flatMap.1 hq;obtain ⟨e,he⟩:=hi h hh;exact Y4 he q hq
 exact Y4 (lG h2 _ fK) q hq
theorem abn {d:gI} (hc:jc d=0):(d.revs.map bX.id).Pairwise (· < ·)∧∀ q∈d.revs.map bX.id,1≤q∧q≤1073741824:=by
 have h:=lG (lG hc _ fK) (El d.revs) (by simp);have h1:=lG h _ (fK);have h2:=lG h _ (gB _ fK)
 have hl:d.revs.length≤256:=by
  unfold dx at h1
  by_cases hd:256 < (d.revs.length:Int)
  ·rw [av (aK hd)] at h1;cases h1
  omega
 have hi:∀ i (hi:i < d.revs.length),1≤d.revs[i].id∧d.revs[i].id≤1073741824∧(∀ k (hk:k < d.revs.length),k+1=i→d.revs[k].id < d.revs[i].id):=by
  intro i hi;have h3:=Ee h2 i (by omega)
  unfold Dz at h3
  rw [eO hi] at h3;have h4:=TL (lG h3 _ fK);rw [eO hi] at h4;refine ⟨h4.1,h4.2.1,fun k hk e=>?_⟩;subst e;have h5:=h4.2.2 (by omega);rw [Nat.add_sub_cancel,eO hk] at h5;exact h5
 refine ⟨List.pairwise_iff_getElem.2 ?_,fun q hq=>?_⟩
 ·intro i j hi' hj hij;rw [bM] at hi' hj;rw [List.getElem_map,List.getElem_map]
  induction j with
  | zero=>omega
  | succ j ih =>
   have h1:=(hi (j+1) hj).2.2 j (by omega) rfl
   by_cases e:i=j
   ·subst e;exact h1
   exact Int.lt_trans (ih (by omega) (by omega) (by omega)) h1
 obtain ⟨x,hx,rfl⟩:=List.mem_map.1 hq;obtain ⟨k,hk,rfl⟩:=List.getElem_of_mem hx;exact ⟨(hi k hk).1,(hi k hk).2.1⟩
theorem arS {d:gI} (hc:jc d=0) {q:Int} (h:q∈qW d):1≤q∧q≤1073741824:=by
 unfold qW at h
 rw [List.mem_filter,lS,Ws] at h;obtain ⟨h1|h1,h2⟩:=h
 ·cases h1
 exact (abn hc).2 q ((abl hc q h1).resolve_left h2)
theorem arR {d:gI} (hc:jc d=0):(qW d).length≤d.revs.length:=by
 obtain ⟨hi,-⟩:=abn hc
 have hnd:(d.revs.map bX.id).Nodup:=hi.imp fun h=>by omega
 have hu:(qW d).Nodup:=(Wt List.nodup_nil).sublist List.filter_sublist
 have hp:=(List.perm_ext_iff_of_nodup (hnd.sublist (List.filter_sublist (p:=fun q=>decide (q∈qW d)))) hu).2 fun q=>by
  rw [List.mem_filter,lS];refine ⟨fun h=>h.2,fun h=>⟨?_,h⟩⟩;have h1:=h
  unfold qW at h1
  rw [List.mem_filter,lS,Ws] at h1;obtain ⟨h2|h2,h3⟩:=h1
  ·cases h2
  exact (abl hc q h2).resolve_left h3
 rw [← hp.length_eq];exact Nat.le_trans (List.length_filter_le _ _) (by rw [bM];exact bP _)
end
section
open Go.RowKit
theorem afX:∀ args w,(callFunc 113 args).run prog w=.ok (.enter 113 args) w:=enters func113 rfl (by kernel_rfl)
theorem KN (G:GH) (x:bX):aU G x.dat x.cells:=by
 simp only [bX.dat,bX.cells,aU]
 exact ⟨_,_,rfl,by simp [au,Value.oneCell'],_,_,rfl,by simp [au,Value.oneCell'],_,_,rfl,by simp [au,Value.oneCell'],rfl⟩
def nH (l:List bX):List aj:=(l.map bX.cells).flatten
theorem OI:∀ l:List bX,(nH l).length=l.length*3
 | []=>rfl
 | p :: l=>by
  have:=OI l
  simp only [nH,eZ,List.flatten_cons,iA] at this ⊢
  rw [this,show p.cells.length=3 from rfl,kr];omega
theorem UR:∀ {l:List bX} {k:Nat} (h:k < l.length) (j:Nat),j < 3→(nH l)[k*3+j]?=l[k].cells[j]?
 | p :: l,0,_,j,hj=>by
  simp only [nH,eZ,List.flatten_cons,Nat.zero_mul,fU,List.getElem_cons_zero]
  rw [xE (by rw [show p.cells.length=3 from rfl];exact hj)]
 | p :: l,k+1,h,j,hj=>by
  have ih:=UR (l:=l) (k:=k) (by simpa using h) j hj
  simp only [nH,eZ,List.flatten_cons,List.getElem_cons_succ] at ih ⊢
  rw [rz (by rw [show p.cells.length=3 from rfl];omega),show p.cells.length=3 from rfl,show (k+1)*3+j - 3=k*3+j by omega];exact ih
theorem UQ (l m:List bX):nH (l++m)=nH l++nH m:=by simp [nH]
theorem apz {w0 w:World} {F:Nat→Prop} {G0 G:GH} {L Lo:OL} {e c n:Nat} {A:Option Addr} {l:List bX} (h:bV e 3 (.slice A n c) n (nH l) Lo) (hn:n=l.length) (H:Hp w0 F G0 G L w) (hsub:∀ x∈Lo,x∈L) {k:Nat} (hk:k < l.length) :
  ∃ b,A=some ⟨b,0,none⟩∧∀ j u,[vi l[k].id,.string l[k].author,vi l[k].time][j]?=some u→w.cell? ⟨b,0+k*3+j,none⟩=some u:=by
 rcases h.2 with ⟨_,h0,_⟩|⟨b,cap,cur,he,hl,h1,h2,h3,h4⟩
 ·omega
 injection he with e1 e2 e3
 refine ⟨b,e1,fun j u hu=>?_⟩
 have hj:j < 3:=by have:=(jy.1 hu).1;simpa using this
 refine H.wQ (c:=cur) (e:=e) (fz:=(0,0)) (hsub _ (by rw [hl];exact List.mem_singleton_self _)) ?_;have h5:=UR hk j hj;rw [← h4,ru,av (by omega),Array.getElem?_toList] at h5;rw [show 0+k*3+j=k*3+j by omega,h5];exact hu
theorem amW {G:GH} {w0:World} {Lo:OL} {v fv:aj} (l:List bX) (p:bX→Bool) (hO:fT G Lo w0) (hrw:bV 102 3 v l.length (nH l) Lo) (hf:∀ x∈l,qY fv G x.dat (p x)) :
  Calls prog 113 #[v,fv] w0 (fI w0 G Lo fun u G' L'=>L'=Lo∧u=vi (mJ (l.findIdx? p))):=by
 obtain ⟨A,c,rfl,hc1,hc2⟩:=hrw.shape;have hml:maxLen=9223372036854775807:=rfl;refine jf (N:=19) (T:=[(0,_),(1,_)]) func113 rfl ntmps113 rfl rfl hO ?_;refine ak 10 ?_;intro a H;refine eH (ι:=Nat × GH) (Tc:=[(0,_),(1,_),(7,_)]) (Lc:=[]) (fun gh=>[(8,vi gh.1)]) (fun gh=>[]++Lo) (fun gh=>gh.2) (fun gh=>gh.1≤l.length∧(l.take gh.1).findIdx? p=none∧(∀ b o,G b=some o→gh.2 b=some o)) (fun gh=>l.length - gh.1) ((0,G)) sB ?_ ?_
 ·exact ⟨by omega,rfl,fun _ _ h=>h⟩
 clear H;rintro ⟨k,g⟩ a w hI H;dsimp only at hI H;obtain ⟨hk,hno,hgm⟩:=hI;dsimp only [lca,bG] at H;refine dO 4 H ?_ ?_ <;> clear H
 ·intro p9
  have hk2:k < l.length:=by omega
  intro a H;obtain ⟨b,rfl,hrow⟩:=apz hrw rfl H.hp (fun x hx=>by first|exact hx|exact gB _ hx|simpa using hx) hk2;refine fM 12 H ?_;clear H;intro a H;refine aR ou (cs:=[vi l[k].id,.string l[k].author,vi l[k].time]) H wn rfl rfl hrow rfl ?_;clear H;intro a H;refine ji H wn rfl rfl (hf _ (lD hk2) _ _ _ hgm H.ro (KN _ l[k])) rfl ?_;clear H;rintro v16 nk a w rfl gU H;refine iR 1 H ?_ ?_ <;> clear H
  ·intro h16
   try have p16:=dT h16
   refine ak 4 ?_;intro a H;refine lr H results113 rfl ?_
   first
    | exact H.hp.dG ⟨rfl,by rw [rR hk2 hno h16];rfl⟩
    | exact H.hp.dG ⟨rfl,by rw [show l.take k=l from fJ (by omega)] at hno;rw [hno];rfl⟩
  intro h16
  try have p16:=dF h16
  refine ak 4 ?_;intro a H;refine aC ?_;refine cB ((k+1,nk)) sB ?_ ?_
  ·(try dsimp only);exact ⟨by omega,BU hk2 hno h16,fun b o h=>gU b o (hgm b o h)⟩
  first|omega|(dsimp only;omega)
 intro p9
 refine ak 4 ?_;intro a H;refine lr H results113 rfl ?_
 first
  | exact H.hp.dG ⟨rfl,by rw [rR hk2 hno h16];rfl⟩
  | exact H.hp.dG ⟨rfl,by rw [show l.take k=l from fJ (by omega)] at hno;rw [hno];rfl⟩
theorem apu {G:GH} {l:List bX} {xs:List aj} (h:bU G 3 (l.map bX.dat) xs):xs=nH l:=by
 obtain ⟨css,rfl,h2,h3⟩:=h;rw [bM] at h2
 have e:css=l.map bX.cells:=by
  apply List.ext_getElem?
  intro j;rw [qM]
  by_cases hj:j < l.length
  ·have h4:=(h3 j l[j].dat css[j] (by simp [hj]) (eO (by omega))).1;rw [eO hj,eO (by omega),KM h4];rfl
  rw [List.getElem?_eq_none (by omega),List.getElem?_eq_none (by omega)];rfl
 rw [e];rfl
theorem ape {l:List bX} {p:bX→Bool} {i:Nat} (h:l.findIdx? p=some i):∃ hi:i < l.length,(l.take (i+1)).filter (fun x=>!p x)=l.take i:=by
 obtain ⟨hi,h1,h2⟩:=List.findIdx?_eq_some_iff_getElem.1 h;refine ⟨hi,?_⟩;rw [fP hi,List.filter_append,List.filter_eq_self.2]
 ·simp [h1]
 intro x hx;obtain ⟨j,hj,rfl⟩:=List.getElem_of_mem hx;rw [List.getElem_take]
 have hj2:j < i:=by rw [List.length_take] at hj;omega
 have:=h2 j hj2
 simpa using this
theorem apf {l:List bX} {p:bX→Bool} (h:l.findIdx? p=none):l.filter (fun x=>!p x)=l:=by
 rw [List.findIdx?_eq_none_iff] at h
 exact List.filter_eq_self.2 fun x hx=>by rw [h x hx];rfl
theorem apg {cl:List aj} {i:Nat} {x y z:aj} (h:i*3+3≤cl.length):(setRow cl (0+i*3) [x,y,z]).length=cl.length∧(setRow cl (0+i*3) [x,y,z]).take ((i+1)*3)=cl.take (i*3)++[x,y,z]∧∀ m,(i+1)*3≤m→(setRow cl (0+i*3) [x,y,z])[m]?=cl[m]?:=by
 have e:setRow cl (0+i*3) [x,y,z]=cl.take (i*3)++[x,y,z]++cl.drop (i*3+3):=by
  rw [fU,OV _ _ _ (by simpa using h)];rfl
 have hl:(cl.take (i*3)++[x,y,z]).length=(i+1)*3:=by rw [iA,List.length_take];simp;omega
 refine ⟨U3 ..,?_,fun m hm=>?_⟩
 ·rw [e,← hl,List.take_left]
 rw [e,rz (by omega),hl,List.getElem?_drop];congr 1;omega
theorem apd {l:List bX} {cl:List aj} {i:Nat} (hi:i < l.length) (h:cl.take (l.length*3)=nH l):cl.take (i*3)=nH (l.take i):=by
 have e:cl.take (i*3)=(cl.take (l.length*3)).take (i*3):=by rw [List.take_take,Nat.min_eq_left (by omega)]
 have h2:nH l=nH (l.take i)++nH (l.drop i):=by rw [← UQ,List.take_append_drop]
 have h3:(nH (l.take i)).length=i*3:=by rw [OI,List.length_take];omega
 rw [e,h,h2,← h3,List.take_left]
theorem aph {l:List bX} {p:bX→Bool} {j:Nat} (hj:j < l.length):(l.take (j+1)).filter (fun x=>!p x)=(l.take j).filter (fun x=>!p x)++if p l[j] then [] else [l[j]]:=by
 rw [fP hj,List.filter_append]
 cases h:p l[j] <;> simp [h]
theorem afC {G:GH} {w0:World} {Lo:OL} {v fv:aj} (l:List bX) (p:bX→Bool) (hO:fT G Lo w0) (hrw:bV 102 3 v l.length (nH l) Lo) (hf:∀ x∈l,qY fv G x.dat (p x)) :
  Calls prog 59 #[v,fv] w0 (fI w0 G Lo fun u G' L'=>bV 102 3 u (l.filter fun x=>!p x).length (nH (l.filter fun x=>!p x)) L'):=by
 obtain ⟨A,c,rfl,hc1,hc2⟩:=hrw.shape;have hml:maxLen=9223372036854775807:=rfl;have hdl:=OI l;refine jf (N:=42) (T:=[(0,_),(1,_)]) func59 rfl ntmps59 rfl rfl hO ?_;refine ak 6 ?_;intro a H;refine gy afX (Li:=[]) (L:=Lo) H wn rfl (amW l p (Hp.owns (Li:=[]) H.hp) hrw hf) rfl ?_;clear H;rintro v10 zO L10 a w ⟨rfl,rfl⟩ BH H;dsimp only [List.nil_append] at H;obtain ⟨o,ho⟩:∃ o,o=l.findIdx? p:=⟨_,rfl⟩;rw [← ho] at H;refine gF 7 H ?_ ?_ <;> clear H
 ·intro pE
  obtain rfl:o=none:=by cases o with|none=>rfl|some i=>first|(simp [mJ] at pE;done)|(simp [mJ] at pE;omega)
  refine ak 4 ?_;intro a H;refine lr H results59 rfl ?_;exact H.hp.dG (by rw [apf ho.symm];exact hrw)
 intro pE
 obtain ⟨i0,rfl⟩:∃ i,o=some i:=by cases o with|none=>simp [mJ] at pE|some i=>exact ⟨i,rfl⟩
 obtain ⟨hi0,hinit⟩:=ape ho.symm
 rcases hrw.2 with ⟨_,h0,_⟩|⟨b,cap,cur,he,rfl,hcap1,hcap2,hsz,htk⟩
 ·intro a H;omega
 intro a H;injection he with e1 e2 e3
 subst e1;subst e3;obtain ⟨cl0,rfl⟩:∃ cl:List aj,cur=cl.toArray:=⟨cur.toList,by simp⟩;rw [List.size_toArray] at hsz;dsimp only [mJ] at H;refine fM 8 H ?_;clear H;intro a H;refine eH (ι:=Nat × Nat × List aj × GH) (Tc:=[(0,_),(1,_)]) (Lc:=[]) (fun gh=>[(5,vi gh.2.1),(6,vi gh.1)]) (fun gh=>[(b,.cells gh.2.2.1.toArray 102 (0,0))]) (fun gh=>gh.2.2.2) (fun gh=>gh.2.1 < gh.1∧gh.1≤l.length∧gh.2.2.1.length=c*3∧gh.2.1=((l.take gh.1).filter fun x=>!p x).length∧gh.2.2.1.take (gh.2.1*3)=nH ((l.take gh.1).filter fun x=>!p x)∧(∀ m,gh.1*3≤m→m < l.length*3→gh.2.2.1[m]?=(nH l)[m]?)∧(∀ b o,G b=some o→gh.2.2.2 b=some o)) (fun gh=>l.length - gh.1) ((i0+1,i0,cl0,zO)) sB ?_ ?_
 ·exact ⟨Nat.lt_succ_self _,hi0,hsz,by rw [hinit,List.length_take];exact (Nat.min_eq_left (Nat.le_of_lt hi0)).symm,by rw [hinit];exact apd hi0 htk,fun m h1 h2=>by rw [← htk,ru,av h2],BH⟩
 clear H;rintro ⟨j,i,cl,g⟩ a w hI H;dsimp only at hI H;obtain ⟨hij,hj,hcl,hil,hkept,hrest,hgm⟩:=hI;dsimp only [lca,bG] at H;refine dO 7 H ?_ ?_ <;> clear H
 ·intro rX
  have hj2:j < l.length:=by omega
  have hjc:∀ q u,[vi l[j].id,.string l[j].author,vi l[j].time][q]?=some u→cl.toArray[0+j*3+q]?=some u:=fun q u hq=>by
   have hq2:q < 3:=by have:=(jy.1 hq).1;simpa using this
   rw [List.getElem?_toArray,fU,hrest _ (by omega) (by omega),UR hj2 q hq2];exact hq
  have hdt:=aph (p:=p) hj2;refine ak 7 ?_;intro a H;refine aR ou (cs:=[vi l[j].id,.string l[j].author,vi l[j].time]) H wn rfl rfl (fun q u hq=>H.hp.wQ (c:=cl.toArray) fK (hjc q u hq)) rfl ?_;clear H;intro a H;refine dz ou H wn rfl ?_;clear H;intro b7 a w vG H;refine aX ou 0 (vs:=[_,_,_]) _ H wn rfl rfl rfl rfl rfl rfl rfl rfl ?_;clear H;intro w H;dsimp only [List.set,setRow] at H;refine aD 3 H ?_;clear H;intro a H;refine aR ou (cs:=[_,_,_]) H wn rfl rfl (H.hp.bO 0 rfl rfl) rfl ?_;clear H;intro a H;refine ji H wn rfl rfl (hf _ (lD hj2) _ _ _ hgm H.ro (KN _ l[j])) rfl ?_;clear H;rintro v28 PI a w rfl Zj H;refine iR 2 H ?_ ?_ <;> clear H
  ·intro oG
   try have p29:=dT oG
   rw [ah (by simpa using oG)] at hdt;have hds:=apg (cl:=cl) (i:=i) (x:=vi l[j].id) (y:=.string l[j].author) (z:=vi l[j].time) (by omega);refine ak 3 ?_;intro a H;refine aR ou (cs:=[_,_,_]) H wn rfl rfl (H.hp.bO 0 rfl rfl) rfl ?_;clear H;refine ak 1 ?_;intro a H;refine aX ou 1 (c:=cl) (vs:=[vi l[j].id,.string l[j].author,vi l[j].time]) _ H wn rfl rfl rfl rfl rfl rfl (Nat.ble_eq_true_of_le (by simp only [kr,List.length_nil];omega)) rfl ?_;clear H;intro w H;dsimp only [List.set] at H;refine aD 10 H ?_;clear H;intro a H;refine aC ?_;refine cB ((j+1,i+1,setRow cl (0+i*3) [vi l[j].id,.string l[j].author,vi l[j].time],PI)) (by exact (H.dY (Pl:=[_,_]) (dJ:=[_]) [1] (by decide) rfl).sub ⟨rfl,rfl,rfl,rfl,bq⟩) ?_ ?_
   ·(try dsimp only);exact ⟨by omega,by omega,by rw [hds.1,hcl],by rw [hdt,iA,← hil];rfl,by rw [hdt,UQ,← hkept,hds.2.1];rfl,fun m h1 h2=>by rw [hds.2.2 m (by omega),hrest m (by omega) h2],fun b o h=>Zj b o (hgm b o h)⟩
   first|omega|(dsimp only;omega)
  intro oG
  try have p29:=dF oG
  rw [av (by simpa using oG),gu] at hdt;refine ak 5 ?_;intro a H;refine aC ?_;refine cB ((j+1,i,cl,PI)) (by exact (H.dY (Pl:=[_,_]) (dJ:=[_]) [1] (by decide) rfl).sub ⟨rfl,rfl,rfl,rfl,bq⟩) ?_ ?_
  ·(try dsimp only);exact ⟨by omega,by omega,hcl,by rw [hdt];exact hil,by rw [hdt];exact hkept,fun m h1 h2=>hrest m (by omega) h2,fun b o h=>Zj b o (hgm b o h)⟩
  first|omega|(dsimp only;omega)
 intro rX
 refine ak 4 ?_;intro a H;refine xX sG ou i H wn rfl rfl rfl (by omega) rfl ?_;clear H;intro a H;rw [ah (by omega),uf,add_lit] at H;refine abG sG ou rfl rfl 0 H wn rfl rfl (by omega) (by omega) ?_;clear H;intro cz w hz1 hz2 H;dsimp only [List.set] at H;refine aD 4 H ?_;clear H;intro a H;refine DJ sG ou i H wn rfl rfl rfl (by omega) rfl ?_;clear H;refine ak 2 ?_;intro a H;refine lr H results59 rfl ?_
 obtain rfl:j=l.length:=by omega
 rw [uZ] at hil hkept;exact H.hp.dG ⟨OI _,.inr ⟨b,c,cz.toArray,by rw [← hil],rfl,by omega,hcap2,by rw [List.size_toArray,hz1,hcl],by rw [← hkept,← hil];rw [fU] at hz2;exact hz2⟩⟩
end
section
open Go.RowKit
theorem Xb (G:GH) (w0:World) (hO:fT G [] w0) (rows:List (List Dat)) (A:Option Addr) (n c:Nat) (hv:au G (.sl 3 rows) (.slice A n c)) (hz:rows.length≤4294967296) :
  Calls prog 60 #[.slice A n c] w0 (fI w0 G [] fun u G' L'=>∃ xs,bV 102 3 u rows.length xs L'∧bU G' 3 rows xs):=by
 obtain ⟨hn,hc1,hc2,hnil,hx⟩:=hv.cells;refine jf (N:=8) (T:=[(0,_)]) func60 rfl ntmps60 rfl rfl hO ?_;refine ak 6 ?_;intro a H;refine AL sG H wn rfl rfl ?_;clear H;refine goC 1 ?_ ?_
 ·intro h4
  refine ak 3 ?_;intro a H;refine lr H results60 rfl ?_;have hr0:=hnil (by simpa using h4);subst hr0;exact H.hp.dG ⟨[],bV.nil,bU.nil⟩
 intro h4
 try have p4:=dF h4
 refine ak 1 ?_
 have hA:¬ A=none:=by intro e;rw [e] at h4;cases h4
 refine ak 1 ?_;intro a H;refine AB sG ou H wn rfl ?_;clear H;intro b5 a w hb5 H;refine aD 1 H ?_;clear H
 intro a H;by_cases hr0:rows=[]
 ·have hn0:n=0:=by rw [hn,hr0];rfl
  subst hn0;refine AA sG ou H wn rfl rfl (bP _) rfl ?_;clear H;refine ak 2 ?_;intro a H;refine lr H results60 rfl ?_;subst hr0;exact H.hp.dG ⟨[],bV.empty,bU.nil⟩
 obtain ⟨b,o,xs,rfl,hxl,hxc,hx1,dV⟩:=hx hr0;refine lJ (Li:=[]) (Lo:=[_]) (news:=xs) sG ou rfl rfl H wn rfl rfl bV.empty hxl (fun j u hj=>H.hp.aI (hxc j u hj)) hx1 (by omega) (by omega) rfl ?_;clear H;intro v7 Lo a w hrow H;dsimp only [List.nil_append] at H;refine aD 2 H ?_;clear H;intro a H;refine lr H results60 rfl ?_;exact H.hp.dG ⟨_,by rw [fU,hn] at hrow;exact hrow,dV⟩
theorem afc (G:GH) (w0:World) (hO:fT G [] w0) (rows:List (List Dat)) (A:Option Addr) (n c:Nat) (hv:au G (.sl 6 rows) (.slice A n c)) (hz:rows.length≤4294967296) :
  Calls prog 175 #[.slice A n c] w0 (fI w0 G [] fun u G' L'=>∃ xs,bV 192 6 u rows.length xs L'∧bU G' 6 rows xs):=by
 obtain ⟨hn,hc1,hc2,hnil,hx⟩:=hv.cells;refine jf (N:=8) (T:=[(0,_)]) func175 rfl ntmps175 rfl rfl hO ?_;refine ak 6 ?_;intro a H;refine AL tX H wn rfl rfl ?_;clear H;refine goC 1 ?_ ?_
 ·intro h4
  refine ak 3 ?_;intro a H;refine lr H results175 rfl ?_;have hr0:=hnil (by simpa using h4);subst hr0;exact H.hp.dG ⟨[],bV.nil,bU.nil⟩
 intro h4
 try have p4:=dF h4
 refine ak 1 ?_
 have hA:¬ A=none:=by intro e;rw [e] at h4;cases h4
 refine ak 1 ?_;intro a H;refine AB tX jD H wn rfl ?_;clear H;intro b5 a w hb5 H;refine aD 1 H ?_;clear H
 intro a H;by_cases hr0:rows=[]
 ·have hn0:n=0:=by rw [hn,hr0];rfl
  subst hn0;refine AA tX jD H wn rfl rfl (bP _) rfl ?_;clear H;refine ak 2 ?_;intro a H;refine lr H results175 rfl ?_;subst hr0;exact H.hp.dG ⟨[],bV.empty,bU.nil⟩
 obtain ⟨b,o,xs,rfl,hxl,hxc,hx1,dV⟩:=hx hr0;refine lJ (Li:=[]) (Lo:=[_]) (news:=xs) tX jD rfl rfl H wn rfl rfl bV.empty hxl (fun j u hj=>H.hp.aI (hxc j u hj)) hx1 (by omega) (by omega) rfl ?_;clear H;intro v7 Lo a w hrow H;dsimp only [List.nil_append] at H;refine aD 2 H ?_;clear H;intro a H;refine lr H results175 rfl ?_;exact H.hp.dG ⟨_,by rw [fU,hn] at hrow;exact hrow,dV⟩
theorem afb (G:GH) (w0:World) (hO:fT G [] w0) (rows:List (List Dat)) (A:Option Addr) (n c:Nat) (hv:au G (.sl 2 rows) (.slice A n c)) (hz:rows.length≤4294967296) :
  Calls prog 176 #[.slice A n c] w0 (fI w0 G [] fun u G' L'=>∃ xs,bV 93 2 u rows.length xs L'∧bU G' 2 rows xs):=by
 obtain ⟨hn,hc1,hc2,hnil,hx⟩:=hv.cells;refine jf (N:=8) (T:=[(0,_)]) func176 rfl ntmps176 rfl rfl hO ?_;refine ak 6 ?_;intro a H;refine AL AZ H wn rfl rfl ?_;clear H;refine goC 1 ?_ ?_
 ·intro h4
  refine ak 3 ?_;intro a H;refine lr H results176 rfl ?_;have hr0:=hnil (by simpa using h4);subst hr0;exact H.hp.dG ⟨[],bV.nil,bU.nil⟩
 intro h4
 try have p4:=dF h4
 refine ak 1 ?_
 have hA:¬ A=none:=by intro e;rw [e] at h4;cases h4
 refine ak 1 ?_;intro a H;refine AB AZ sF H wn rfl ?_;clear H;intro b5 a w hb5 H;refine aD 1 H ?_;clear H
 intro a H;by_cases hr0:rows=[]
 ·have hn0:n=0:=by rw [hn,hr0];rfl
  subst hn0;refine AA AZ sF H wn rfl rfl (bP _) rfl ?_;clear H;refine ak 2 ?_;intro a H;refine lr H results176 rfl ?_;subst hr0;exact H.hp.dG ⟨[],bV.empty,bU.nil⟩
 obtain ⟨b,o,xs,rfl,hxl,hxc,hx1,dV⟩:=hx hr0;refine lJ (Li:=[]) (Lo:=[_]) (news:=xs) AZ sF rfl rfl H wn rfl rfl bV.empty hxl (fun j u hj=>H.hp.aI (hxc j u hj)) hx1 (by omega) (by omega) rfl ?_;clear H;intro v7 Lo a w hrow H;dsimp only [List.nil_append] at H;refine aD 2 H ?_;clear H;intro a H;refine lr H results176 rfl ?_;exact H.hp.dG ⟨_,by rw [fU,hn] at hrow;exact hrow,dV⟩
theorem aeZ (G:GH) (w0:World) (hO:fT G [] w0) (rows:List (List Dat)) (A:Option Addr) (n c:Nat) (hv:au G (.sl 6 rows) (.slice A n c)) (hz:rows.length≤4294967296) :
  Calls prog 177 #[.slice A n c] w0 (fI w0 G [] fun u G' L'=>∃ xs,bV 107 6 u rows.length xs L'∧bU G' 6 rows xs):=by
 obtain ⟨hn,hc1,hc2,hnil,hx⟩:=hv.cells;refine jf (N:=8) (T:=[(0,_)]) func177 rfl ntmps177 rfl rfl hO ?_;refine ak 6 ?_;intro a H;refine AL A9 H wn rfl rfl ?_;clear H;refine goC 1 ?_ ?_
 ·intro h4
  refine ak 3 ?_;intro a H;refine lr H results177 rfl ?_;have hr0:=hnil (by simpa using h4);subst hr0;exact H.hp.dG ⟨[],bV.nil,bU.nil⟩
 intro h4
 try have p4:=dF h4
 refine ak 1 ?_
 have hA:¬ A=none:=by intro e;rw [e] at h4;cases h4
 refine ak 1 ?_;intro a H;refine AB A9 yg H wn rfl ?_;clear H;intro b5 a w hb5 H;refine aD 1 H ?_;clear H
 intro a H;by_cases hr0:rows=[]
 ·have hn0:n=0:=by rw [hn,hr0];rfl
  subst hn0;refine AA A9 yg H wn rfl rfl (bP _) rfl ?_;clear H;refine ak 2 ?_;intro a H;refine lr H results177 rfl ?_;subst hr0;exact H.hp.dG ⟨[],bV.empty,bU.nil⟩
 obtain ⟨b,o,xs,rfl,hxl,hxc,hx1,dV⟩:=hx hr0;refine lJ (Li:=[]) (Lo:=[_]) (news:=xs) A9 yg rfl rfl H wn rfl rfl bV.empty hxl (fun j u hj=>H.hp.aI (hxc j u hj)) hx1 (by omega) (by omega) rfl ?_;clear H;intro v7 Lo a w hrow H;dsimp only [List.nil_append] at H;refine aD 2 H ?_;clear H;intro a H;refine lr H results177 rfl ?_;exact H.hp.dG ⟨_,by rw [fU,hn] at hrow;exact hrow,dV⟩
theorem aeU (G:GH) (w0:World) (hG:Hold G w0) (rows:List (List Dat)) (A:Option Addr) (n c:Nat) (hv:au G (.sl 6 rows) (.slice A n c)) (hz:rows.length≤4294967296) :
  Calls prog 177 #[.slice A n c] w0 (bC w0 G fun u G'=>au G' (.sl 6 rows) u):=Gp hG (aeZ G w0 (wS hG) rows A n c hv hz) rfl
theorem afd (G:GH) (w0:World) (hO:fT G [] w0) (rows:List (List Dat)) (A:Option Addr) (n c:Nat) (hv:au G (.sl 2 rows) (.slice A n c)) (hz:rows.length≤4294967296) :
  Calls prog 178 #[.slice A n c] w0 (fI w0 G [] fun u G' L'=>∃ xs,bV 110 2 u rows.length xs L'∧bU G' 2 rows xs):=by
 obtain ⟨hn,hc1,hc2,hnil,hx⟩:=hv.cells;refine jf (N:=8) (T:=[(0,_)]) func178 rfl ntmps178 rfl rfl hO ?_;refine ak 6 ?_;intro a H;refine AL sH H wn rfl rfl ?_;clear H;refine goC 1 ?_ ?_
 ·intro h4
  refine ak 3 ?_;intro a H;refine lr H results178 rfl ?_;have hr0:=hnil (by simpa using h4);subst hr0;exact H.hp.dG ⟨[],bV.nil,bU.nil⟩
 intro h4
 try have p4:=dF h4
 refine ak 1 ?_
 have hA:¬ A=none:=by intro e;rw [e] at h4;cases h4
 refine ak 1 ?_;intro a H;refine AB sH uS H wn rfl ?_;clear H;intro b5 a w hb5 H;refine aD 1 H ?_;clear H
 intro a H;by_cases hr0:rows=[]
 ·have hn0:n=0:=by rw [hn,hr0];rfl
  subst hn0;refine AA sH uS H wn rfl rfl (bP _) rfl ?_;clear H;refine ak 2 ?_;intro a H;refine lr H results178 rfl ?_;subst hr0;exact H.hp.dG ⟨[],bV.empty,bU.nil⟩
 obtain ⟨b,o,xs,rfl,hxl,hxc,hx1,dV⟩:=hx hr0;refine lJ (Li:=[]) (Lo:=[_]) (news:=xs) sH uS rfl rfl H wn rfl rfl bV.empty hxl (fun j u hj=>H.hp.aI (hxc j u hj)) hx1 (by omega) (by omega) rfl ?_;clear H;intro v7 Lo a w hrow H;dsimp only [List.nil_append] at H;refine aD 2 H ?_;clear H;intro a H;refine lr H results178 rfl ?_;exact H.hp.dG ⟨_,by rw [fU,hn] at hrow;exact hrow,dV⟩
theorem aeW (G:GH) (w0:World) (hG:Hold G w0) (rows:List (List Dat)) (A:Option Addr) (n c:Nat) (hv:au G (.sl 2 rows) (.slice A n c)) (hz:rows.length≤4294967296) :
  Calls prog 178 #[.slice A n c] w0 (bC w0 G fun u G'=>au G' (.sl 2 rows) u):=Gp hG (afd G w0 (wS hG) rows A n c hv hz) rfl
theorem afa (G:GH) (w0:World) (hO:fT G [] w0) (rows:List (List Dat)) (A:Option Addr) (n c:Nat) (hv:au G (.sl 4 rows) (.slice A n c)) (hz:rows.length≤4294967296) :
  Calls prog 179 #[.slice A n c] w0 (fI w0 G [] fun u G' L'=>∃ xs,bV 96 4 u rows.length xs L'∧bU G' 4 rows xs):=by
 obtain ⟨hn,hc1,hc2,hnil,hx⟩:=hv.cells;refine jf (N:=8) (T:=[(0,_)]) func179 rfl ntmps179 rfl rfl hO ?_;refine ak 6 ?_;intro a H;refine AL FK H wn rfl rfl ?_;clear H;refine goC 1 ?_ ?_
 ·intro h4
  refine ak 3 ?_;intro a H;refine lr H results179 rfl ?_;have hr0:=hnil (by simpa using h4);subst hr0;exact H.hp.dG ⟨[],bV.nil,bU.nil⟩
 intro h4
 try have p4:=dF h4
 refine ak 1 ?_
 have hA:¬ A=none:=by intro e;rw [e] at h4;cases h4
 refine ak 1 ?_;intro a H;refine AB FK AY H wn rfl ?_;clear H;intro b5 a w hb5 H;refine aD 1 H ?_;clear H
 intro a H;by_cases hr0:rows=[]
 ·have hn0:n=0:=by rw [hn,hr0];rfl
  subst hn0;refine AA FK AY H wn rfl rfl (bP _) rfl ?_;clear H;refine ak 2 ?_;intro a H;refine lr H results179 rfl ?_;subst hr0;exact H.hp.dG ⟨[],bV.empty,bU.nil⟩
 obtain ⟨b,o,xs,rfl,hxl,hxc,hx1,dV⟩:=hx hr0;refine lJ (Li:=[]) (Lo:=[_]) (news:=xs) FK AY rfl rfl H wn rfl rfl bV.empty hxl (fun j u hj=>H.hp.aI (hxc j u hj)) hx1 (by omega) (by omega) rfl ?_;clear H;intro v7 Lo a w hrow H;dsimp only [List.nil_append] at H;refine aD 2 H ?_;clear H;intro a H;refine lr H results179 rfl ?_;exact H.hp.dG ⟨_,by rw [fU,hn] at hrow;exact hrow,dV⟩
theorem aeV (G:GH) (w0:World) (hG:Hold G w0) (rows:List (List Dat)) (A:Option Addr) (n c:Nat) (hv:au G (.sl 4 rows) (.slice A n c)) (hz:rows.length≤4294967296) :
  Calls prog 179 #[.slice A n c] w0 (bC w0 G fun u G'=>au G' (.sl 4 rows) u):=Gp hG (afa G w0 (wS hG) rows A n c hv hz) rfl
end
section
open Go.RowKit
theorem agO:∀ args w,(callFunc 175 args).run prog w=.ok (.enter 175 args) w:=enters func175 rfl (by kernel_rfl)
theorem agP:∀ args w,(callFunc 176 args).run prog w=.ok (.enter 176 args) w:=enters func176 rfl (by kernel_rfl)
theorem agQ:∀ args w,(callFunc 177 args).run prog w=.ok (.enter 177 args) w:=enters func177 rfl (by kernel_rfl)
theorem agR:∀ args w,(callFunc 178 args).run prog w=.ok (.enter 178 args) w:=enters func178 rfl (by kernel_rfl)
theorem aro:pI prog 36 [(0,1),(1,1),(2,1),(3,1)] [.slice none 0 0,.slice none 0 0,.slice none 0 0,.slice none 0 0]:=⟨by kernel_rfl,by kernel_rfl⟩
theorem agS:∀ args w,(callFunc 179 args).run prog w=.ok (.enter 179 args) w:=enters func179 rfl (by kernel_rfl)
theorem aU.setAt {G:GH}:∀ {r:List Dat} {cs:List aj} {k:Nat} {d:Dat} {v:aj},aU G r cs→r[k]?=some d→au G d v→aU G r (cs.set k v)
 | [],_,_,_,_,_,h,_=>by simp at h
 | e :: r,cs,k,d,v,h,hk,hv=>by
  simp only [aU] at h ⊢
  obtain ⟨x,vs,rfl,h1,h2⟩:=h
  cases k with
  | zero =>
   simp only [zW,nJ] at hk
   subst hk;exact ⟨v,vs,rfl,hv,h2⟩
  | succ k=>exact ⟨x,vs.set k v,rfl,h1,aU.setAt h2 (by simpa using hk) hv⟩
theorem bU.setAt {G:GH} {sz:Nat}:∀ {rows:List (List Dat)} {xs:List aj} {i k:Nat} {r:List Dat} {d:Dat} {v:aj},bU G sz rows xs→rows[i]?=some r→r[k]?=some d→k < sz→au G d v→bU G sz rows (xs.set (i*sz+k) v)
 | [],_,_,_,_,_,_,_,h,_,_,_=>by simp at h
 | q :: rows,xs,i,k,r,d,v,h,hr,hk,hs,hv=>by
  obtain ⟨css,rfl,h2,h3⟩:=h
  cases css with
  | nil=>simp at h2
  | cons c css =>
   obtain ⟨h4,h5⟩:=h3 0 q c rfl rfl;have h6:bU G sz rows css.flatten:=⟨css,rfl,by simpa using h2,fun j r' cs hr' hc=>h3 (j+1) r' cs (by simpa using hr') (by simpa using hc)⟩
   have h7:∀ {c' x':List aj},aU G q c'→c'.length=sz→bU G sz rows x'→bU G sz (q :: rows) (c'++x'):=fun a b e=>by
    have h8:=((bU.nil (G:=G) (sz:=sz)).snoc a b).append e
    simpa using h8
   rw [List.flatten_cons]
   cases i with
   | zero =>
    simp only [zW,nJ] at hr
    subst hr;rw [Nat.zero_mul,fU,List.set_append_left _ _ (by omega)];exact h7 (h4.setAt hk hv) (by rw [List.length_set];exact h5) h6
   | succ i =>
    rw [List.set_append_right _ _ (by rw [h5,Nat.succ_mul];omega),h5,show (i+1)*sz+k - sz=i*sz+k by rw [Nat.succ_mul];omega];exact h7 h4 h5 (bU.setAt h6 (by simpa using hr) hk hs hv)
theorem ars {G:GH} {l:List bS} {xs:List aj} {k:Nat} (h:bU G 6 (l.map bS.dat) xs) (hk:k < l.length):∃ A c,xs[k*6+5]?=some (.slice A l[k].props.length c)∧au G (.sl 2 (l[k].props.map aT.dat)) (.slice A l[k].props.length c):=by
 obtain ⟨cs,hcl,hcx,hcr⟩:=h.at (k:=k) (r:=l[k].dat) (by simp [hk]);obtain ⟨A,c,rfl,hp⟩:=KT hcr;exact ⟨A,c,hcx 5 _ rfl,hp⟩
theorem ant {G:GH} {l:List eD} {xs:List aj} {k:Nat} (h:bU G 2 (l.map eD.dat) xs) (hk:k < l.length):∃ A n c,xs[k*2+1]?=some (.slice A n c)∧au G (.sl 4 (l[k].levels.map iX.dat)) (.slice A n c):=by
 obtain ⟨cs,hcl,hcx,hcr⟩:=h.at (k:=k) (r:=l[k].dat) (by simp [hk]);obtain ⟨v1,vs,rfl,-,v2,vs2,rfl,h2,-⟩:=hcr;obtain ⟨A,n,c,rfl⟩:=au.form h2;exact ⟨A,n,c,hcx 1 _ rfl,h2⟩
theorem afh (G:GH) (w0:World) (hG:Hold G w0) (s:zU) (a1 WA c1 d1:aj) (hR:xC G s a1 WA c1 d1) (z1:s.styles.length≤4294967296) (z2:s.lists.length≤4294967296) (z3:s.comments.length≤4294967296) (z4:s.vars.length≤4294967296) (z5:∀ x∈s.styles,x.props.length≤4294967296) (z6:∀ x∈s.lists,x.levels.length≤4294967296) :
  Calls prog 116 #[.agg #[a1,WA,c1,d1]] w0 (bC w0 G fun u G'=>∃ a' b' c' d',u=.agg #[a',b',c',d']∧xC G' s a' b' c' d'):=by
 have hml:maxLen=9223372036854775807:=rfl;obtain ⟨aA,an,ac,rfl⟩:=hR.st.form;obtain ⟨bA,bn,bc,rfl⟩:=hR.li.form;obtain ⟨cA,cn,cc,rfl⟩:=hR.cm.form;obtain ⟨dA,dn,dc,rfl⟩:=hR.va.form;obtain ⟨hs1,hs2,hs3,hs4⟩:=hR;refine eN [(0,_)] func116 rfl ntmps116 rfl rfl hG ?_;refine ak 1 ?_;intro a H;refine dP (cs:=[_,_,_,_]) H wn rfl rfl rfl ?_;clear H;intro b1 a w hb1 H;refine dz sD H wn rfl ?_;clear H;intro b2 a w hb2 H;refine aD 2 H ?_;clear H;intro a H;have H:=H.dY (Pl:=[_,_]) (dJ:=[_,_]) [1,0] (by decide) rfl;obtain ⟨Ga,hma,hb1',H⟩:=H.eu;have hga:=fun j v hj=>kW hb1' 0 [.slice aA an ac,.slice bA bn bc,.slice cA cn cc,.slice dA dn dc] rfl j v hj;replace hs1:=hs1.mono hma;replace hs2:=hs2.mono hma;replace hs3:=hs3.mono hma;replace hs4:=hs4.mono hma
 have dM:∀ (aJ:Nat→aj × OL) (aQ:Nat) (v:aj) (G G':GH),(∀ k o,G k=some o→G' k=some o)→(fun (aJ:Nat→aj × OL) (aQ:Nat) (v:aj) (G:GH)=>match aQ with|0=>v=(aG b1 0)|1=>v=.slice aA an ac|2=>v=(aJ 2).1∧∃ xs,bV 192 6 v s.styles.length xs (aJ 2).2∧bU G 6 (s.styles.map bS.dat) xs|3=>v=(aG b1 1)|4=>v=.slice bA bn bc|5=>v=(aJ 5).1∧∃ xs,bV 93 2 v s.lists.length xs (aJ 5).2∧bU G 2 (s.lists.map eD.dat) xs|6=>v=(aG b1 2)|7=>v=.slice cA cn cc|8=>au G (.sl 6 (s.comments.map fE.dat)) v|9=>v=(aG b1 3)|10=>v=.slice dA dn dc|11=>au G (.sl 2 (s.vars.map iy.dat)) v|12=>∃ c' d',v=.agg #[(aJ 2).1,(aJ 5).1,c',d']∧au G (.sl 6 (s.comments.map fE.dat)) c'∧au G (.sl 2 (s.vars.map iy.dat)) d'|13=>∃ b,v=(aG b 0)∧aJ 13=((aG b 0),[(b,.cells #[.slice none 0 0,.slice none 0 0,.slice none 0 0,.slice none 0 0] 36 (0,0))])|_=>True) aJ aQ v G→(fun (aJ:Nat→aj × OL) (aQ:Nat) (v:aj) (G:GH)=>match aQ with|0=>v=(aG b1 0)|1=>v=.slice aA an ac|2=>v=(aJ 2).1∧∃ xs,bV 192 6 v s.styles.length xs (aJ 2).2∧bU G 6 (s.styles.map bS.dat) xs|3=>v=(aG b1 1)|4=>v=.slice bA bn bc|5=>v=(aJ 5).1∧∃ xs,bV 93 2 v s.lists.length xs (aJ 5).2∧bU G 2 (s.lists.map eD.dat) xs|6=>v=(aG b1 2)|7=>v=.slice cA cn cc|8=>au G (.sl 6 (s.comments.map fE.dat)) v|9=>v=(aG b1 3)|10=>v=.slice dA dn dc|11=>au G (.sl 2 (s.vars.map iy.dat)) v|12=>∃ c' d',v=.agg #[(aJ 2).1,(aJ 5).1,c',d']∧au G (.sl 6 (s.comments.map fE.dat)) c'∧au G (.sl 2 (s.vars.map iy.dat)) d'|13=>∃ b,v=(aG b 0)∧aJ 13=((aG b 0),[(b,.cells #[.slice none 0 0,.slice none 0 0,.slice none 0 0,.slice none 0 0] 36 (0,0))])|_=>True) aJ aQ v G':=by
  intro aJ aQ v G G' hm h
  match aQ,h with
  | 0,h=>exact h
  | 1,h=>exact h
  | 2,h=>exact let ⟨h1,xs,h2,h3⟩:=h;⟨h1,xs,h2,h3.mono hm⟩
  | 3,h=>exact h
  | 4,h=>exact h
  | 5,h=>exact let ⟨h1,xs,h2,h3⟩:=h;⟨h1,xs,h2,h3.mono hm⟩
  | 6,h=>exact h
  | 7,h=>exact h
  | 8,h=>exact au.mono hm h
  | 9,h=>exact h
  | 10,h=>exact h
  | 11,h=>exact au.mono hm h
  | 12,h=>exact let ⟨c',d',h1,h2,h3⟩:=h;⟨c',d',h1,h2.mono hm,h3.mono hm⟩
  | 13,h=>exact h
  | 14,h=>exact trivial
  | _+15,h=>exact trivial
 refine Mx [2,5,13] (hmx) [[],[0],[0,1],[],[3],(ra 0 5),[],[6],(ra 0 8),[],[9],(ra 0 11),(ra 0 12),[],(ra 0 14)] [14] (by kernel_rfl) (by kernel_rfl) (by decide) (by kernel_rfl) (fun (aJ:Nat→aj × OL) (aQ:Nat) (v:aj) (G:GH)=>match aQ with|0=>v=(aG b1 0)|1=>v=.slice aA an ac|2=>v=(aJ 2).1∧∃ xs,bV 192 6 v s.styles.length xs (aJ 2).2∧bU G 6 (s.styles.map bS.dat) xs|3=>v=(aG b1 1)|4=>v=.slice bA bn bc|5=>v=(aJ 5).1∧∃ xs,bV 93 2 v s.lists.length xs (aJ 5).2∧bU G 2 (s.lists.map eD.dat) xs|6=>v=(aG b1 2)|7=>v=.slice cA cn cc|8=>au G (.sl 6 (s.comments.map fE.dat)) v|9=>v=(aG b1 3)|10=>v=.slice dA dn dc|11=>au G (.sl 2 (s.vars.map iy.dat)) v|12=>∃ c' d',v=.agg #[(aJ 2).1,(aJ 5).1,c',d']∧au G (.sl 6 (s.comments.map fE.dat)) c'∧au G (.sl 2 (s.vars.map iy.dat)) d'|13=>∃ b,v=(aG b 0)∧aJ 13=((aG b 0),[(b,.cells #[.slice none 0 0,.slice none 0 0,.slice none 0 0,.slice none 0 0] 36 (0,0))])|_=>True) (fun m hm x y i v G hi hc h=>by
  have hm:m=2∨m=5∨m=13:=by simpa using hm
  rcases hm with rfl|rfl|rfl
  ·match i,hi,hc,h with
   | 0,_,_,h=>exact h
   | 1,_,_,h=>exact h
   | 2,hi,_,_=>exact absurd hi (by decide)
   | 3,_,_,h=>exact h
   | 4,_,_,h=>exact h
   | 5,_,hc,_=>exact absurd hc (by decide)
   | 6,_,_,h=>exact h
   | 7,_,_,h=>exact h
   | 8,_,hc,_=>exact absurd hc (by decide)
   | 9,_,_,h=>exact h
   | 10,_,_,h=>exact h
   | 11,_,hc,_=>exact absurd hc (by decide)
   | 12,_,hc,_=>exact absurd hc (by decide)
   | 13,_,_,h=>exact h
   | 14,_,hc,_=>exact absurd hc (by decide)
   | _+15,_,_,_=>exact trivial
  ·match i,hi,hc,h with
   | 0,_,_,h=>exact h
   | 1,_,_,h=>exact h
   | 2,_,_,h=>exact h
   | 3,_,_,h=>exact h
   | 4,_,_,h=>exact h
   | 5,hi,_,_=>exact absurd hi (by decide)
   | 6,_,_,h=>exact h
   | 7,_,_,h=>exact h
   | 8,_,hc,_=>exact absurd hc (by decide)
   | 9,_,_,h=>exact h
   | 10,_,_,h=>exact h
   | 11,_,hc,_=>exact absurd hc (by decide)
   | 12,_,hc,_=>exact absurd hc (by decide)
   | 13,_,_,h=>exact h
   | 14,_,hc,_=>exact absurd hc (by decide)
   | _+15,_,_,_=>exact trivial
  ·match i,hi,hc,h with
   | 0,_,_,h=>exact h
   | 1,_,_,h=>exact h
   | 2,_,_,h=>exact h
   | 3,_,_,h=>exact h
   | 4,_,_,h=>exact h
   | 5,_,_,h=>exact h
   | 6,_,_,h=>exact h
   | 7,_,_,h=>exact h
   | 8,_,_,h=>exact h
   | 9,_,_,h=>exact h
   | 10,_,_,h=>exact h
   | 11,_,_,h=>exact h
   | 12,_,_,h=>exact h
   | 13,hi,_,_=>exact absurd hi (by decide)
   | 14,_,hc,_=>exact absurd hc (by decide)
   | _+15,_,_,_=>exact trivial
  ) H ?_ ?_ ?_
 ·clear H;refine aF ?_ ?_ ?_ ?_ (aF ?_ ?_ ?_ ?_ (aF ?_ ?_ ?_ ?_ (bH ?_ (bH ?_ (bH ?_ cO)))))
  ·intro aJ dH aS a w G1 dN _ _ aL hc hG HT hv;have H:=HT;clear aL;have Hb:=H.full;have H:=Hb;clear hc;refine aD 1 H ?_;clear H;intro a H;refine aC ⟨rfl,?_⟩;exact dL (by kernel_rfl) (dM aJ) rfl rfl HT Hb hG hv (fun _ _ h=>h) (rfl) H
  ·intro aJ dH aS a w G1 dN _ _ aL hc hG HT hv;have H:=HT;clear aL;have H:=H.aN (hv 0 6 (hc 0 (by decide)) rfl) rfl;have Hb:=H.full;have H:=Hb;clear hc;refine iC FD H wn rfl (H.hp.aI (aH hG (hga 0 _ rfl))) rfl ?_;clear H;intro a H;refine aC ⟨rfl,?_⟩;exact dL (by kernel_rfl) (dM aJ) rfl rfl HT Hb hG hv (fun _ _ h=>h) (rfl) H
  ·intro _ _ _ _ _ _ _ _ hB;exact absurd hB (by decide)
  ·intro aJ dH aS a w G1 dN _ _ aL hc hG HT hv;have H:=HT;clear aL;have Hb:=H.full;have H:=Hb;clear hc;refine aD 1 H ?_;clear H;intro a H;refine aC ⟨rfl,?_⟩;exact dL (by kernel_rfl) (dM aJ) rfl rfl HT Hb hG hv (fun _ _ h=>h) (rfl) H
  ·intro aJ dH aS a w G1 dN _ _ aL hc hG HT hv;have H:=HT;clear aL;have H:=H.aN (hv 3 9 (hc 3 (by decide)) rfl) rfl;have Hb:=H.full;have H:=Hb;clear hc;refine iC FE H wn rfl (H.hp.aI (aH hG (hga 1 _ rfl))) rfl ?_;clear H;intro a H;refine aC ⟨rfl,?_⟩;exact dL (by kernel_rfl) (dM aJ) rfl rfl HT Hb hG hv (fun _ _ h=>h) (rfl) H
  ·intro _ _ _ _ _ _ _ _ hB;exact absurd hB (by decide)
  ·intro aJ dH aS a w G1 dN _ _ aL hc hG HT hv;have H:=HT;clear aL;have Hb:=H.full;have H:=Hb;clear hc;refine aD 1 H ?_;clear H;intro a H;refine aC ⟨rfl,?_⟩;exact dL (by kernel_rfl) (dM aJ) rfl rfl HT Hb hG hv (fun _ _ h=>h) (rfl) H
  ·intro aJ dH aS a w G1 dN _ _ aL hc hG HT hv;have H:=HT;clear aL;have H:=H.aN (hv 6 12 (hc 6 (by decide)) rfl) rfl;have Hb:=H.full;have H:=Hb;clear hc;refine iC Pg H wn rfl (H.hp.aI (aH hG (hga 2 _ rfl))) rfl ?_;clear H;intro a H;refine aC ⟨rfl,?_⟩;exact dL (by kernel_rfl) (dM aJ) rfl rfl HT Hb hG hv (fun _ _ h=>h) (rfl) H
  ·intro aJ dH aS a w G1 dN _ _ aL hc hG HT hv;have H:=HT;clear aL;have H:=H.aN (hv 7 13 (hc 7 (by decide)) rfl) rfl;have Hb:=H.full;have H:=Hb;clear hc;refine s_call agQ H wn rfl (aeU _ _ H.ro _ _ _ _ (hs3.mono hG) (by simpa using z3)) rfl ?_;clear H;rintro v14 zP a w qG wI H;refine aC ⟨rfl,?_⟩;exact dL (by kernel_rfl) (dM aJ) rfl rfl HT Hb hG hv wI (qG) H
  ·intro aJ dH aS a w G1 dN _ _ aL hc hG HT hv;have H:=HT;clear aL;have Hb:=H.full;have H:=Hb;clear hc;refine aD 1 H ?_;clear H;intro a H;refine aC ⟨rfl,?_⟩;exact dL (by kernel_rfl) (dM aJ) rfl rfl HT Hb hG hv (fun _ _ h=>h) (rfl) H
  ·intro aJ dH aS a w G1 dN _ _ aL hc hG HT hv;have H:=HT;clear aL;have H:=H.aN (hv 9 15 (hc 9 (by decide)) rfl) rfl;have Hb:=H.full;have H:=Hb;clear hc;refine iC yh H wn rfl (H.hp.aI (aH hG (hga 3 _ rfl))) rfl ?_;clear H;intro a H;refine aC ⟨rfl,?_⟩;exact dL (by kernel_rfl) (dM aJ) rfl rfl HT Hb hG hv (fun _ _ h=>h) (rfl) H
  ·intro aJ dH aS a w G1 dN _ _ aL hc hG HT hv;have H:=HT;clear aL;have H:=H.aN (hv 10 16 (hc 10 (by decide)) rfl) rfl;have Hb:=H.full;have H:=Hb;clear hc;refine s_call agR H wn rfl (aeW _ _ H.ro _ _ _ _ (hs4.mono hG) (by simpa using z4)) rfl ?_;clear H;rintro v17 yE a w J7 akb H;refine aC ⟨rfl,?_⟩;exact dL (by kernel_rfl) (dM aJ) rfl rfl HT Hb hG hv akb (J7) H
  ·intro aJ dH aS a w G1 dN _ _ aL hc hG HT hv;have H:=HT;clear aL;obtain ⟨u8,zy,lV⟩:=hv 2 8 (hc 2 (by decide)) rfl;(try dsimp only at lV);obtain ⟨h8,Pq,BS,Ns⟩:=lV;obtain ⟨sA,sc,rfl,-,-⟩:=BS.shape;have H:=H.ig zy;obtain ⟨Vh,ET,vO⟩:=hv 5 11 (hc 5 (by decide)) rfl;(try dsimp only at vO);obtain ⟨h11,IJ,xL,Hl⟩:=vO;obtain ⟨lA,lc,rfl,-,-⟩:=xL.shape;have H:=H.ig ET;obtain ⟨u14,Km,qG⟩:=hv 8 14 (hc 8 (by decide)) rfl;(try dsimp only at qG);obtain ⟨Px,n14,c14,rfl⟩:=qG.form;have H:=H.ig Km;obtain ⟨u17,amA,J7⟩:=hv 11 17 (hc 11 (by decide)) rfl;(try dsimp only at J7);obtain ⟨A17,n17,c17,rfl⟩:=J7.form;have H:=H.ig amA;have Hb:=H.full;have H:=Hb;clear hc;refine jh aro [_,_,_,_] H wn rfl rfl rfl rfl ?_;clear H;intro a H;refine aC ⟨rfl,?_⟩;exact dL (by kernel_rfl) (dM aJ) rfl rfl HT Hb hG hv (fun _ _ h=>h) (⟨_,_,by rw [← h8,← h11],qG,J7⟩) H
  ·intro _ _ _ _ _ _ _ _ hB;exact absurd hB (by decide)
  intro _ _ _ _ _ _ _ hB;exact absurd hB (by decide)
 ·clear H;refine aF ?_ ?_ ?_ ?_ (aF ?_ ?_ ?_ ?_ (aF ?_ ?_ ?_ ?_ (bH ?_ (bH ?_ (bH ?_ cO)))))
  ·intro hB;exact absurd hB (by decide)
  ·intro hB;exact absurd hB (by decide)
  ·intro _ aJ dH aS a w G1 dN _ hc hG HT hv;have H:=HT;have H:=H.aN (hv (.bool false,[]) 1 7 (by decide) (hc 1 (by decide)) rfl) rfl;have Hb:=H.full;have H:=Hb;clear hc;refine gy agO (Li:=dH) (L:=[]) (H.cast (gu _).symm) wn rfl (afc _ _ (wS H.ro) _ _ _ _ (hs1.mono hG) (by simpa using z1)) rfl ?_;clear H;rintro v8 G8 L8 a w ⟨Pq,BS,Ns⟩ nL H;rw [bM] at BS;have H:=H.perm ug;refine aC ⟨rfl,(v8,L8),?_⟩;exact Bq (by kernel_rfl) (dM (uV aJ 2 (v8,L8))) rfl HT Hb hG (fun j e h1 h2 h3=>hv (v8,L8) j e h1 h2 h3) nL (⟨rfl,Pq,BS,Ns⟩) H
  ·intro hB;exact absurd hB (by decide)
  ·intro hB;exact absurd hB (by decide)
  ·intro _ aJ dH aS a w G1 dN _ hc hG HT hv;have H:=HT;have H:=H.aN (hv (.bool false,[]) 4 10 (by decide) (hc 4 (by decide)) rfl) rfl;have Hb:=H.full;have H:=Hb;clear hc;refine gy agP (Li:=dH) (L:=[]) (H.cast (gu _).symm) wn rfl (afb _ _ (wS H.ro) _ _ _ _ (hs2.mono hG) (by simpa using z2)) rfl ?_;clear H;rintro v11 qX Ea a w ⟨IJ,xL,Hl⟩ kZ H;rw [bM] at xL;have H:=H.perm ug;refine aC ⟨rfl,(v11,Ea),?_⟩;exact Bq (by kernel_rfl) (dM (uV aJ 5 (v11,Ea))) rfl HT Hb hG (fun j e h1 h2 h3=>hv (v11,Ea) j e h1 h2 h3) kZ (⟨rfl,IJ,xL,Hl⟩) H
  ·intro hB;exact absurd hB (by decide)
  ·intro hB;exact absurd hB (by decide)
  ·intro hB;exact absurd hB (by decide)
  ·intro hB;exact absurd hB (by decide)
  ·intro hB;exact absurd hB (by decide)
  ·intro hB;exact absurd hB (by decide)
  ·intro hB;exact absurd hB (by decide)
  ·intro _ aJ dH aS a w G1 dN _ hc hG HT hv;have H:=HT;have Hb:=H.full;have H:=Hb;clear hc;refine dz sD H wn rfl ?_;clear H;intro b3 a w hb3 H;refine aC ⟨rfl,((aG b3 0),[(b3,.cells #[.slice none 0 0,.slice none 0 0,.slice none 0 0,.slice none 0 0] 36 (0,0))]),?_⟩;exact Bq (by kernel_rfl) (dM (uV aJ 13 ((aG b3 0),[(b3,.cells #[.slice none 0 0,.slice none 0 0,.slice none 0 0,.slice none 0 0] 36 (0,0))]))) rfl HT Hb hG (fun j e h1 h2 h3=>hv ((aG b3 0),[(b3,.cells #[.slice none 0 0,.slice none 0 0,.slice none 0 0,.slice none 0 0] 36 (0,0))]) j e h1 h2 h3) (fun _ _ h=>h) (⟨b3,rfl,rfl⟩) H
  intro hB;exact absurd hB (by decide)
 clear H;intro aJ a w G iN H hv
 simp only [oF,List.flatMap_cons,List.flatMap_nil,cond_true,gu,iZ] at H
 obtain ⟨u3,hu3,hp3⟩:=hv 13 3 (by decide) rfl;(try dsimp only at hp3);obtain ⟨b3,rfl,e13⟩:=hp3;have H:=H.ig hu3;obtain ⟨u8,zy,lV⟩:=hv 2 8 (by decide) rfl;(try dsimp only at lV);obtain ⟨h8,Pq,BS,Ns⟩:=lV;obtain ⟨sA,sc,rfl,-,-⟩:=BS.shape;have H:=H.ig zy;obtain ⟨Vh,ET,vO⟩:=hv 5 11 (by decide) rfl;(try dsimp only at vO);obtain ⟨h11,IJ,xL,Hl⟩:=vO;obtain ⟨lA,lc,rfl,-,-⟩:=xL.shape;have H:=H.ig ET;obtain ⟨u18,Tp,J8⟩:=hv 12 18 (by decide) rfl;(try dsimp only at J8);obtain ⟨aue,auf,rfl,hc18,YZ⟩:=J8;obtain ⟨eA,en,ec,rfl⟩:=hc18.form;obtain ⟨fA,fn,fc,rfl⟩:=YZ.form;have H:=H.ig Tp;clear hv;obtain ⟨⟨vS,LS⟩,eS⟩:∃ y,y=aJ 2:=⟨_,rfl⟩;obtain ⟨⟨vL,LL⟩,eL⟩:∃ y,y=aJ 5:=⟨_,rfl⟩;rw [← eS,← eL,e13] at H;rw [← eS] at BS h8;rw [← eL] at xL h11;dsimp only at H BS xL h8 h11;subst h8;subst h11;rw [← iZ] at H;have H:=H.perm (ug (l₁:=LS++LL) (l₂:=[_,_]));dsimp only [lca,bG] at H;refine aX sD 0 (vs:=[_,_,_,_]) _ H wn rfl rfl rfl rfl rfl rfl rfl rfl ?_;clear H;intro w H;dsimp only [List.set,setRow] at H;refine aC ⟨rfl,?_⟩;refine dQ ?_;refine fM 8 H ?_;clear H;intro a H;refine eH (ι:=Nat × List aj × OL × GH) (Tc:=[(2,_),(3,_),(21,_)]) (Lc:=[(_,_),(_,_)]) (fun gh=>[(22,vi gh.1)]) (fun gh=>[]++(gh.2.2.1++LL)) (fun gh=>gh.2.2.2) (fun gh=>gh.1≤s.styles.length∧bV 192 6 (.slice sA s.styles.length sc) s.styles.length gh.2.1 gh.2.2.1∧bU gh.2.2.2 6 (s.styles.map bS.dat) gh.2.1∧(∀ b o,G b=some o→gh.2.2.2 b=some o)) (fun gh=>s.styles.length - gh.1) ((0,Pq,LS,G)) sB ?_ ?_
 ·exact ⟨gN _,BS,Ns,fun _ _ h=>h⟩
 clear H;rintro ⟨k,xs,Lo,g⟩ a w hI H;dsimp only at hI H;obtain ⟨hk,hrw,dV,hgm⟩:=hI;dsimp only [lca,bG] at H;refine dO 4 H ?_ ?_ <;> clear H
 ·intro Az
  have hk2:k < s.styles.length:=by omega
  obtain ⟨bs,rfl⟩:=hrw.ptr (by omega);obtain ⟨pA,pc,hpx,hpr⟩:=ars dV hk2;obtain ⟨cur,-,rfl,hcur,hset⟩:=hrw.set1;have hpz:=z5 _ (lD hk2);refine ak 7 ?_
  have oI:∀ (aQ:Nat) (v:aj) (G G':GH),(∀ k o,G k=some o→G' k=some o)→(fun (aQ:Nat) (v:aj) (G:GH)=>match aQ with|0=>v=(aG b3 0)|1=>v=.slice (some ⟨bs,0,none⟩) s.styles.length sc|2=>v=vi k|3=>v=(aG b3 0)|4=>v=.slice (some ⟨bs,0,none⟩) s.styles.length sc|5=>v=vi k|6=>v=(aG bs (0+k*6))|7=>v=(aG bs (0+k*6+5))|8=>v=.slice pA s.styles[k].props.length pc|9=>au G (.sl 2 (s.styles[k].props.map aT.dat)) v|_=>True) aQ v G→(fun (aQ:Nat) (v:aj) (G:GH)=>match aQ with|0=>v=(aG b3 0)|1=>v=.slice (some ⟨bs,0,none⟩) s.styles.length sc|2=>v=vi k|3=>v=(aG b3 0)|4=>v=.slice (some ⟨bs,0,none⟩) s.styles.length sc|5=>v=vi k|6=>v=(aG bs (0+k*6))|7=>v=(aG bs (0+k*6+5))|8=>v=.slice pA s.styles[k].props.length pc|9=>au G (.sl 2 (s.styles[k].props.map aT.dat)) v|_=>True) aQ v G':=by
   intro aQ v G G' hm h
   match aQ,h with
   | 0,h=>exact h
   | 1,h=>exact h
   | 2,h=>exact h
   | 3,h=>exact h
   | 4,h=>exact h
   | 5,h=>exact h
   | 6,h=>exact h
   | 7,h=>exact h
   | 8,h=>exact h
   | 9,h=>exact au.mono hm h
   | 10,h=>exact trivial
   | 11,h=>exact trivial
   | 12,h=>exact trivial
   | _+13,h=>exact trivial
  intro a H;refine yJ (hmx) [[],[0],[],[],[3],[],[3,4,5],(ra 3 4),(ra 3 5),(ra 3 6),(ra 0 10),(ra 0 11),(ra 0 12)] [10,11,12] (by kernel_rfl) (by kernel_rfl) (fun (aQ:Nat) (v:aj) (G:GH)=>match aQ with|0=>v=(aG b3 0)|1=>v=.slice (some ⟨bs,0,none⟩) s.styles.length sc|2=>v=vi k|3=>v=(aG b3 0)|4=>v=.slice (some ⟨bs,0,none⟩) s.styles.length sc|5=>v=vi k|6=>v=(aG bs (0+k*6))|7=>v=(aG bs (0+k*6+5))|8=>v=.slice pA s.styles[k].props.length pc|9=>au G (.sl 2 (s.styles[k].props.map aT.dat)) v|_=>True) oI H ?_ ?_
  ·clear H;refine aF ?_ ?_ ?_ ?_ (aF ?_ ?_ ?_ ?_ (aF ?_ ?_ (bQ rfl) (bQ rfl) (bH (bQ rfl) cO)))
   ·refine dU [] rfl trivial (by kernel_rfl) oI rfl rfl ?_;intro aS a w G1 hG HT H fin;exact kH H (Rf Rj rfl fun _ H=>fin H iJ rfl)
   ·refine dU [(0,25,_)] rfl ⟨fun _ _ h=>h,bq⟩ (by kernel_rfl) oI rfl rfl ?_;intro aS a w G1 hG HT H fin;exact kH H (Ro FD 0 rfl fun _ H=>fin H iJ rfl)
   ·refine dU [] rfl trivial (by kernel_rfl) oI rfl rfl ?_;intro aS a w G1 hG HT H fin;exact kH H (Rm rfl fun _ H=>fin H iJ rfl)
   ·refine dU [] rfl trivial (by kernel_rfl) oI rfl rfl ?_;intro aS a w G1 hG HT H fin;exact kH H (Rf Rj rfl fun _ H=>fin H iJ rfl)
   ·refine dU [(3,28,_)] rfl ⟨fun _ _ h=>h,bq⟩ (by kernel_rfl) oI rfl rfl ?_;intro aS a w G1 hG HT H fin;exact kH H (Ro FD 0 rfl fun _ H=>fin H iJ rfl)
   ·refine dU [] rfl trivial (by kernel_rfl) oI rfl rfl ?_;intro aS a w G1 hG HT H fin;exact kH H (Rm rfl fun _ H=>fin H iJ rfl)
   ·refine dU [(4,29,_),(5,30,_)] rfl ⟨fun _ _ h=>h,fun _ _ h=>h,bq⟩ (by kernel_rfl) oI rfl rfl ?_;intro aS a w G1 hG HT H fin;exact kH H (Ri tX jD rfl rfl fun _ H=>fin H iJ rfl)
   ·refine dU [(6,31,_)] rfl ⟨fun _ _ h=>h,bq⟩ (by kernel_rfl) oI rfl rfl ?_;intro aS a w G1 hG HT H fin;exact kH H (Rf Rb rfl fun _ H=>fin H iJ rfl)
   ·refine dU [(7,32,_)] rfl ⟨fun _ _ h=>h,bq⟩ (by kernel_rfl) oI rfl rfl ?_;intro aS a w G1 hG HT H fin;refine iC FC H wn rfl (hrw.at H.hp (fun x hx=>gB _ (gB _ (List.mem_append_left _ hx))) (by rw [fU];exact hpx)) rfl ?_;clear H;intro a H;exact fin H iJ rfl
   refine dU [(8,33,_)] rfl ⟨fun _ _ h=>h,bq⟩ (by kernel_rfl) oI rfl rfl ?_;intro aS a w G1 hG HT H fin;refine s_call MS H wn rfl (Qr _ _ H.ro _ _ _ _ (hpr.mono hG) (by simpa using hpz)) rfl ?_;clear H;rintro v34 LV a w Dn akh H;exact fin H akh (Dn)
  clear H;intro a w G kS H hv;have H:=H.aN (hv 1 26 rfl rfl) rfl;have H:=H.aN (hv 2 27 rfl rfl) rfl;obtain ⟨u34,amC,Dn⟩:=hv 9 34 (by decide) rfl;(try dsimp only at Dn);obtain ⟨CB,n34,c34,rfl⟩:=Dn.form;have H:=H.ig amC;clear hv;refine kH H (Ri tX jD rfl rfl (Rf Rb rfl ?_));clear H;intro a H;refine aX FC 2 (c:=cur) (vs:=[.slice CB n34 c34]) (cur.set (k*6+5) (.slice CB n34 c34)) H wn rfl rfl rfl rfl rfl rfl (by simp;omega) (by rw [fU];rfl) ?_;clear H;intro w H;dsimp only [List.set,List.cons_append,List.nil_append] at H;have hrwn:=hset (k*6+5) (.slice CB n34 c34);have akZ:=(dV.mono kS).setAt (i:=k) (k:=5) (r:=s.styles[k].dat) (v:=.slice CB n34 c34) (by simp [hk2]) rfl (by decide) Dn;refine aC ⟨rfl,?_⟩;refine dQ ?_;refine fM 3 H ?_;clear H;intro a H;refine aC ?_;refine cB ((k+1,xs.set (k*6+5) (.slice CB n34 c34),[(bs,.cells (cur.set (k*6+5) (.slice CB n34 c34)).toArray 192 (0,0))],_)) sB ?_ ?_
  ·(try dsimp only);exact ⟨by omega,hrwn,akZ,fun b o h=>kS b o (hgm b o h)⟩
  first|omega|(dsimp only;omega)
 intro Az
 obtain rfl:k=s.styles.length:=by omega
 refine ak 9 ?_;intro a H;refine eH (ι:=Nat × List aj × OL × GH) (Tc:=[(2,_),(3,_),(40,_)]) (Lc:=[(_,_),(_,_)]) (fun gh=>[(41,vi gh.1)]) (fun gh=>[]++(Lo++gh.2.2.1)) (fun gh=>gh.2.2.2) (fun gh=>gh.1≤s.lists.length∧bV 93 2 (.slice lA s.lists.length lc) s.lists.length gh.2.1 gh.2.2.1∧bU gh.2.2.2 2 (s.lists.map eD.dat) gh.2.1∧(∀ b o,g b=some o→gh.2.2.2 b=some o)) (fun gh=>s.lists.length - gh.1) ((0,IJ,LL,g)) sB ?_ ?_
 ·exact ⟨gN _,xL,Hl.mono hgm,fun _ _ h=>h⟩
 clear H;rintro ⟨k2,xs2,Lo2,g2⟩ a w hI H;dsimp only at hI H;obtain ⟨hk2,hrw2,rM,iT⟩:=hI;dsimp only [lca,bG] at H;refine dO 4 H ?_ ?_ <;> clear H
 ·intro p42
  have hk3:k2 < s.lists.length:=by omega
  obtain ⟨bl,rfl⟩:=hrw2.ptr (by omega);obtain ⟨qA,qn,qc,hqx,hqr⟩:=ant rM hk3;obtain ⟨CW,-,rfl,atn,amr⟩:=hrw2.set1;have hqz:=z6 _ (lD hk3);refine ak 7 ?_
  have zq:∀ (aQ:Nat) (v:aj) (G G':GH),(∀ k o,G k=some o→G' k=some o)→(fun (aQ:Nat) (v:aj) (G:GH)=>match aQ with|0=>v=(aG b3 1)|1=>v=.slice (some ⟨bl,0,none⟩) s.lists.length lc|2=>v=vi k2|3=>v=(aG b3 1)|4=>v=.slice (some ⟨bl,0,none⟩) s.lists.length lc|5=>v=vi k2|6=>v=(aG bl (0+k2*2))|7=>v=(aG bl (0+k2*2+1))|8=>v=.slice qA qn qc|9=>au G (.sl 4 (s.lists[k2].levels.map iX.dat)) v|_=>True) aQ v G→(fun (aQ:Nat) (v:aj) (G:GH)=>match aQ with|0=>v=(aG b3 1)|1=>v=.slice (some ⟨bl,0,none⟩) s.lists.length lc|2=>v=vi k2|3=>v=(aG b3 1)|4=>v=.slice (some ⟨bl,0,none⟩) s.lists.length lc|5=>v=vi k2|6=>v=(aG bl (0+k2*2))|7=>v=(aG bl (0+k2*2+1))|8=>v=.slice qA qn qc|9=>au G (.sl 4 (s.lists[k2].levels.map iX.dat)) v|_=>True) aQ v G':=by
   intro aQ v G G' hm h
   match aQ,h with
   | 0,h=>exact h
   | 1,h=>exact h
   | 2,h=>exact h
   | 3,h=>exact h
   | 4,h=>exact h
   | 5,h=>exact h
   | 6,h=>exact h
   | 7,h=>exact h
   | 8,h=>exact h
   | 9,h=>exact au.mono hm h
   | 10,h=>exact trivial
   | 11,h=>exact trivial
   | 12,h=>exact trivial
   | _+13,h=>exact trivial
  intro a H;refine yJ (hmx) [[],[0],[],[],[3],[],[3,4,5],(ra 3 4),(ra 3 5),(ra 3 6),(ra 0 10),(ra 0 11),(ra 0 12)] [10,11,12] (by kernel_rfl) (by kernel_rfl) (fun (aQ:Nat) (v:aj) (G:GH)=>match aQ with|0=>v=(aG b3 1)|1=>v=.slice (some ⟨bl,0,none⟩) s.lists.length lc|2=>v=vi k2|3=>v=(aG b3 1)|4=>v=.slice (some ⟨bl,0,none⟩) s.lists.length lc|5=>v=vi k2|6=>v=(aG bl (0+k2*2))|7=>v=(aG bl (0+k2*2+1))|8=>v=.slice qA qn qc|9=>au G (.sl 4 (s.lists[k2].levels.map iX.dat)) v|_=>True) zq H ?_ ?_
  ·clear H;refine aF ?_ ?_ ?_ ?_ (aF ?_ ?_ ?_ ?_ (aF ?_ ?_ (bQ rfl) (bQ rfl) (bH (bQ rfl) cO)))
   ·refine dU [] rfl trivial (by kernel_rfl) zq rfl rfl ?_;intro aS a w G1 hG HT H fin;exact kH H (Rf Rp rfl fun _ H=>fin H iJ rfl)
   ·refine dU [(0,44,_)] rfl ⟨fun _ _ h=>h,bq⟩ (by kernel_rfl) zq rfl rfl ?_;intro aS a w G1 hG HT H fin;exact kH H (Ro FE 0 rfl fun _ H=>fin H iJ rfl)
   ·refine dU [] rfl trivial (by kernel_rfl) zq rfl rfl ?_;intro aS a w G1 hG HT H fin;exact kH H (Rm rfl fun _ H=>fin H iJ rfl)
   ·refine dU [] rfl trivial (by kernel_rfl) zq rfl rfl ?_;intro aS a w G1 hG HT H fin;exact kH H (Rf Rp rfl fun _ H=>fin H iJ rfl)
   ·refine dU [(3,47,_)] rfl ⟨fun _ _ h=>h,bq⟩ (by kernel_rfl) zq rfl rfl ?_;intro aS a w G1 hG HT H fin;exact kH H (Ro FE 0 rfl fun _ H=>fin H iJ rfl)
   ·refine dU [] rfl trivial (by kernel_rfl) zq rfl rfl ?_;intro aS a w G1 hG HT H fin;exact kH H (Rm rfl fun _ H=>fin H iJ rfl)
   ·refine dU [(4,48,_),(5,49,_)] rfl ⟨fun _ _ h=>h,fun _ _ h=>h,bq⟩ (by kernel_rfl) zq rfl rfl ?_;intro aS a w G1 hG HT H fin;exact kH H (Ri AZ sF rfl rfl fun _ H=>fin H iJ rfl)
   ·refine dU [(6,50,_)] rfl ⟨fun _ _ h=>h,bq⟩ (by kernel_rfl) zq rfl rfl ?_;intro aS a w G1 hG HT H fin;exact kH H (Rf Rx rfl fun _ H=>fin H iJ rfl)
   ·refine dU [(7,51,_)] rfl ⟨fun _ _ h=>h,bq⟩ (by kernel_rfl) zq rfl rfl ?_;intro aS a w G1 hG HT H fin;refine iC Vg H wn rfl (hrw2.at H.hp (fun x hx=>gB _ (gB _ (List.mem_append_right _ hx))) (by rw [fU];exact hqx)) rfl ?_;clear H;intro a H;exact fin H iJ rfl
   refine dU [(8,52,_)] rfl ⟨fun _ _ h=>h,bq⟩ (by kernel_rfl) zq rfl rfl ?_;intro aS a w G1 hG HT H fin;refine s_call agS H wn rfl (aeV _ _ H.ro _ _ _ _ (hqr.mono hG) (by simpa using hqz)) rfl ?_;clear H;rintro v53 VW a w Aq JE H;exact fin H JE (Aq)
  clear H;intro a w G pW H hv;have H:=H.aN (hv 1 45 rfl rfl) rfl;have H:=H.aN (hv 2 46 rfl rfl) rfl;obtain ⟨u53,Tw,Aq⟩:=hv 9 53 (by decide) rfl;(try dsimp only at Aq);obtain ⟨sI,n53,c53,rfl⟩:=Aq.form;have H:=H.ig Tw;clear hv;refine kH H (Ri AZ sF rfl rfl (Rf Rx rfl ?_));clear H;intro a H;refine aX Vg (2+Lo.length) (c:=CW) (vs:=[.slice sI n53 c53]) (CW.set (k2*2+1) (.slice sI n53 c53)) H wn rfl (amP [_,_] Lo _) rfl rfl rfl rfl (by simp;omega) (by rw [fU];rfl) ?_;clear H;intro w H;have H:=H.cast (aqD [_,_] Lo _ _);have amq:=amr (k2*2+1) (.slice sI n53 c53);have ala:=(rM.mono pW).setAt (i:=k2) (k:=1) (r:=s.lists[k2].dat) (v:=.slice sI n53 c53) (by simp [hk3]) rfl (by decide) Aq;refine aC ⟨rfl,?_⟩;refine dQ ?_;refine fM 3 H ?_;clear H;intro a H;refine aC ?_;refine cB ((k2+1,xs2.set (k2*2+1) (.slice sI n53 c53),[(bl,.cells (CW.set (k2*2+1) (.slice sI n53 c53)).toArray 93 (0,0))],_)) sB ?_ ?_
  ·(try dsimp only);exact ⟨by omega,amq,ala,fun b o h=>pW b o (iT b o h)⟩
  first|omega|(dsimp only;omega)
 intro p42
 obtain rfl:k2=s.lists.length:=by omega
 refine ak 2 ?_;intro a H;refine aR sD (cs:=[_,_,_,_]) H wn rfl rfl (H.hp.bO 0 rfl rfl) rfl ?_;clear H;intro a H;refine aX sD 1 (vs:=[_,_,_,_]) _ H wn rfl rfl rfl rfl rfl rfl rfl rfl ?_;clear H;intro w H;dsimp only [List.set,setRow] at H;refine aC ?_;refine dQ ?_;refine cu ?_;have H:=H.un (A:=[_,_]);obtain ⟨Gr,hmr,rQ,H⟩:=St.mR (Li:=[_,_]++Lo) H hrw2 (rows:=s.lists.map eD.dat) (by simp) rM;obtain ⟨Gs,hms,amc,H⟩:=St.mR (Li:=[_,_]) H hrw (rows:=s.styles.map bS.dat) (by simp) ((dV.mono iT).mono hmr);refine (leave1 H results116 (.cons (kT sD (cs:=[_,_,_,_]) H rfl rfl (H.hp.bO 1 rfl rfl)) .nil) ?_).1;exact H.rt ⟨_,_,_,_,rfl,amc,rQ.mono hms,(((hc18.mono hgm).mono iT).mono hmr).mono hms,(((YZ.mono hgm).mono iT).mono hmr).mono hms⟩
end
section
open Go.RowKit
theorem X5:∀ args w,(callFunc 60 args).run prog w=.ok (.enter 60 args) w:=enters func60 rfl (by kernel_rfl)
theorem aga:∀ args w,(callFunc 116 args).run prog w=.ok (.enter 116 args) w:=enters func116 rfl (by kernel_rfl)
theorem OX:pI prog 38 [(0,1),(1,5),(6,1),(7,4)] [.slice none 0 0,.slice none 0 0,.int .i64 0,.int .i64 0,.slice none 0 0,.slice none 0 0,.slice none 0 0,.slice none 0 0,.slice none 0 0,.slice none 0 0,.slice none 0 0]:=⟨by kernel_rfl,by kernel_rfl⟩
theorem aeX (G:GH) (w0:World) (hO:fT G [] w0) (l:List ay) (v:aj) (hv:au G (.sl 11 (l.map ay.dat)) v) (hz:bZ l≤4294967296) :
  Calls prog 80 #[v] w0 (fI w0 G [] fun u G' L'=>∃ xs,bV 68 11 u l.length xs L'∧bU G' 11 (l.map ay.dat) xs):=by
 have ih:=Qs 4294967297 (by omega);have hl:=FM l;refine jf (N:=5) (T:=[(0,_)]) func80 rfl ntmps80 rfl rfl hO ?_;refine ak 5 ?_;intro a H;refine gy XI (Li:=[]) (L:=[]) H wn rfl (XA (fun x=>x) _ _ (wS H.ro) l _ _ hv (by omega) (fun y hy=>Xa (n:=4294967296) (Qs 4294967296 (by omega)) (by omega) y (by have:=Vv hy;omega))) rfl ?_;clear H;rintro v4 G4 L4 a w ⟨xs4,amh,akW⟩ JV H;dsimp only [List.nil_append] at H;refine aD 2 H ?_;clear H;intro a H;refine lr H results80 rfl ?_;exact H.hp.dG ⟨xs4,amh,akW⟩
def adh (G:GH) (D:iE) (d:gI) (L:OL):Prop :=
 ∃ xf Lf xr Lr,L=Lf++Lr∧bV 68 11 (aM D.f) d.flow.length xf Lf∧bU G 11 (d.flow.map ay.dat) xf∧bV 102 3 (aM D.r) d.revs.length xr Lr∧bU G 3 (d.revs.map bX.dat) xr ∧
  fD G d.fin (aM D.p) (aM D.d) (aM D.y)∧D.ins=d.fin.marks.ins∧D.move=d.fin.marks.move∧xC G d.gZ (aM D.s1) (aM D.s2) (aM D.s3) (aM D.s4)
theorem afD (G:GH) (w0:World) (hO:fT G [] w0) (D:iE) (d:gI) (hR:jP G D d) (hz:xk d) :
  Calls prog 63 #[D.val] w0 (fI w0 G [] fun u G' L'=>∃ D':iE,u=D'.val∧adh G' D' d L'):=by
 obtain ⟨hfl,hhd,hins,hmv,og,hst⟩:=hR;obtain ⟨zf,zh,zr,zt,zs,FP⟩:=hz;refine jf (N:=16) (T:=[(0,_)]) func63 rfl ntmps63 rfl rfl hO ?_;refine ak 1 ?_;intro a H;refine dP (cs:=[_,_,_,_,_,_,_,_,_,_,_]) H wn rfl rfl rfl ?_;clear H;intro b1 a w hb1 H;refine dz iq H wn rfl ?_;clear H;intro b2 a w hb2 H;refine aD 2 H ?_;clear H;intro a H;have H:=H.dY (Pl:=[_,_]) (dJ:=[_,_]) [1,0] (by decide) rfl;obtain ⟨Ga,hma,hb1',H⟩:=H.eu;have hga:=fun j v hj=>kW hb1' 0 D.cells rfl j v hj;replace hfl:=hfl.mono hma;replace hhd:=hhd.mono hma;replace og:=og.mono hma;replace hst:=hst.mono hma
 have dM:∀ (aJ:Nat→aj × OL) (aQ:Nat) (v:aj) (G G':GH),(∀ k o,G k=some o→G' k=some o)→(fun (aJ:Nat→aj × OL) (aQ:Nat) (v:aj) (G:GH)=>match aQ with|0=>v=(aG b1 0)|1=>v=aM D.f|2=>v=(aJ 2).1∧∃ xs,bV 68 11 v d.flow.length xs (aJ 2).2∧bU G 11 (d.flow.map ay.dat) xs|3=>v=(aG b1 1)|4=>v=oW d.fin (aM D.p) (aM D.d) (aM D.y)|5=>∃ p y z,v=.agg #[p,vi d.fin.marks.ins,vi d.fin.marks.move,y,z]∧fD G d.fin p y z|6=>v=(aG b1 6)|7=>v=aM D.r|8=>v=(aJ 8).1∧∃ xs,bV 102 3 v d.revs.length xs (aJ 8).2∧bU G 3 (d.revs.map bX.dat) xs|9=>v=(aG b1 7)|10=>v=.agg #[aM D.s1,aM D.s2,aM D.s3,aM D.s4]|11=>∃ a' b' c' d',v=.agg #[a',b',c',d']∧xC G d.gZ a' b' c' d'|_=>True) aJ aQ v G→(fun (aJ:Nat→aj × OL) (aQ:Nat) (v:aj) (G:GH)=>match aQ with|0=>v=(aG b1 0)|1=>v=aM D.f|2=>v=(aJ 2).1∧∃ xs,bV 68 11 v d.flow.length xs (aJ 2).2∧bU G 11 (d.flow.map ay.dat) xs|3=>v=(aG b1 1)|4=>v=oW d.fin (aM D.p) (aM D.d) (aM D.y)|5=>∃ p y z,v=.agg #[p,vi d.fin.marks.ins,vi d.fin.marks.move,y,z]∧fD G d.fin p y z|6=>v=(aG b1 6)|7=>v=aM D.r|8=>v=(aJ 8).1∧∃ xs,bV 102 3 v d.revs.length xs (aJ 8).2∧bU G 3 (d.revs.map bX.dat) xs|9=>v=(aG b1 7)|10=>v=.agg #[aM D.s1,aM D.s2,aM D.s3,aM D.s4]|11=>∃ a' b' c' d',v=.agg #[a',b',c',d']∧xC G d.gZ a' b' c' d'|_=>True) aJ aQ v G':=by
  intro aJ aQ v G G' hm h
  match aQ,h with
  | 0,h=>exact h
  | 1,h=>exact h
  | 2,h=>exact let ⟨h1,xs,h2,h3⟩:=h;⟨h1,xs,h2,h3.mono hm⟩
  | 3,h=>exact h
  | 4,h=>exact h
  | 5,h=>exact let ⟨p,y,z,h1,h2⟩:=h;⟨p,y,z,h1,h2.mono hm⟩
  | 6,h=>exact h
  | 7,h=>exact h
  | 8,h=>exact let ⟨h1,xs,h2,h3⟩:=h;⟨h1,xs,h2,h3.mono hm⟩
  | 9,h=>exact h
  | 10,h=>exact h
  | 11,h=>exact let ⟨p,q,y,z,h1,h2⟩:=h;⟨p,q,y,z,h1,h2.mono hm⟩
  | 12,h=>exact trivial
  | 13,h=>exact trivial
  | _+14,h=>exact trivial
 refine Mx [2,8] (hmx) [[],[0],[0,1],[],[3],(ra 0 5),[],[6],(ra 0 8),[],[9],(ra 0 11),(ra 0 12),(ra 0 13)] [12,13] (by kernel_rfl) (by kernel_rfl) (by decide) (by kernel_rfl) (fun (aJ:Nat→aj × OL) (aQ:Nat) (v:aj) (G:GH)=>match aQ with|0=>v=(aG b1 0)|1=>v=aM D.f|2=>v=(aJ 2).1∧∃ xs,bV 68 11 v d.flow.length xs (aJ 2).2∧bU G 11 (d.flow.map ay.dat) xs|3=>v=(aG b1 1)|4=>v=oW d.fin (aM D.p) (aM D.d) (aM D.y)|5=>∃ p y z,v=.agg #[p,vi d.fin.marks.ins,vi d.fin.marks.move,y,z]∧fD G d.fin p y z|6=>v=(aG b1 6)|7=>v=aM D.r|8=>v=(aJ 8).1∧∃ xs,bV 102 3 v d.revs.length xs (aJ 8).2∧bU G 3 (d.revs.map bX.dat) xs|9=>v=(aG b1 7)|10=>v=.agg #[aM D.s1,aM D.s2,aM D.s3,aM D.s4]|11=>∃ a' b' c' d',v=.agg #[a',b',c',d']∧xC G d.gZ a' b' c' d'|_=>True) (fun m hm x y i v G hi hc h=>by
  have hm:m=2∨m=8:=by simpa using hm
  rcases hm with rfl|rfl
  ·match i,hi,hc,h with
   | 0,_,_,h=>exact h
   | 1,_,_,h=>exact h
   | 2,hi,_,_=>exact absurd hi (by decide)
   | 3,_,_,h=>exact h
   | 4,_,_,h=>exact h
   | 5,_,hc,_=>exact absurd hc (by decide)
   | 6,_,_,h=>exact h
   | 7,_,_,h=>exact h
   | 8,_,hc,_=>exact absurd hc (by decide)
   | 9,_,_,h=>exact h
   | 10,_,_,h=>exact h
   | 11,_,hc,_=>exact absurd hc (by decide)
   | 12,_,hc,_=>exact absurd hc (by decide)
   | 13,_,hc,_=>exact absurd hc (by decide)
   | _+14,_,_,_=>exact trivial
  ·match i,hi,hc,h with
   | 0,_,_,h=>exact h
   | 1,_,_,h=>exact h
   | 2,_,_,h=>exact h
   | 3,_,_,h=>exact h
   | 4,_,_,h=>exact h
   | 5,_,_,h=>exact h
   | 6,_,_,h=>exact h
   | 7,_,_,h=>exact h
   | 8,hi,_,_=>exact absurd hi (by decide)
   | 9,_,_,h=>exact h
   | 10,_,_,h=>exact h
   | 11,_,hc,_=>exact absurd hc (by decide)
   | 12,_,hc,_=>exact absurd hc (by decide)
   | 13,_,hc,_=>exact absurd hc (by decide)
   | _+14,_,_,_=>exact trivial
  ) H ?_ ?_ ?_
 ·clear H;refine aF ?_ ?_ ?_ ?_ (aF ?_ ?_ ?_ ?_ (aF ?_ ?_ ?_ ?_ (bH ?_ (bH ?_ cO))))
  ·intro aJ dH aS a w G1 dN _ _ aL hc hG HT hv;have H:=HT;clear aL;have Hb:=H.full;have H:=Hb;clear hc;refine aD 1 H ?_;clear H;intro a H;refine aC ⟨rfl,?_⟩;exact dL (by kernel_rfl) (dM aJ) rfl rfl HT Hb hG hv (fun _ _ h=>h) (rfl) H
  ·intro aJ dH aS a w G1 dN _ _ aL hc hG HT hv;have H:=HT;clear aL;have H:=H.aN (hv 0 3 (hc 0 (by decide)) rfl) rfl;have Hb:=H.full;have H:=Hb;clear hc;refine iC pG H wn rfl (H.hp.aI (aH hG (hga 0 _ rfl))) rfl ?_;clear H;intro a H;refine aC ⟨rfl,?_⟩;exact dL (by kernel_rfl) (dM aJ) rfl rfl HT Hb hG hv (fun _ _ h=>h) (rfl) H
  ·intro _ _ _ _ _ _ _ _ hB;exact absurd hB (by decide)
  ·intro aJ dH aS a w G1 dN _ _ aL hc hG HT hv;have H:=HT;clear aL;have Hb:=H.full;have H:=Hb;clear hc;refine aD 1 H ?_;clear H;intro a H;refine aC ⟨rfl,?_⟩;exact dL (by kernel_rfl) (dM aJ) rfl rfl HT Hb hG hv (fun _ _ h=>h) (rfl) H
  ·intro aJ dH aS a w G1 dN _ _ aL hc hG HT hv;have H:=HT;clear aL;have H:=H.aN (hv 3 6 (hc 3 (by decide)) rfl) rfl;have Hb:=H.full;have H:=Hb;clear hc;refine aR dw (cs:=[aM D.p,vi d.fin.marks.ins,vi d.fin.marks.move,aM D.d,aM D.y]) H wn rfl rfl (fun j v hj=>H.hp.aI (aH hG (by rw [← hins,← hmv] at hj;exact kW hb1' 1 _ rfl j v hj))) rfl ?_;clear H;intro a H;refine aC ⟨rfl,?_⟩;exact dL (by kernel_rfl) (dM aJ) rfl rfl HT Hb hG hv (fun _ _ h=>h) (rfl) H
  ·intro aJ dH aS a w G1 dN _ _ aL hc hG HT hv;have H:=HT;clear aL;have H:=H.aN (hv 4 7 (hc 4 (by decide)) rfl) rfl;have Hb:=H.full;have H:=Hb;clear hc;refine s_call Ep H wn rfl (Em _ _ H.ro d.fin _ _ _ _ _ _ _ _ _ (hhd.mono hG) zh) rfl ?_;clear H;rintro v8 G8 a w lV nL H;refine aC ⟨rfl,?_⟩;exact dL (by kernel_rfl) (dM aJ) rfl rfl HT Hb hG hv nL (lV) H
  ·intro aJ dH aS a w G1 dN _ _ aL hc hG HT hv;have H:=HT;clear aL;have Hb:=H.full;have H:=Hb;clear hc;refine aD 1 H ?_;clear H;intro a H;refine aC ⟨rfl,?_⟩;exact dL (by kernel_rfl) (dM aJ) rfl rfl HT Hb hG hv (fun _ _ h=>h) (rfl) H
  ·intro aJ dH aS a w G1 dN _ _ aL hc hG HT hv;have H:=HT;clear aL;have H:=H.aN (hv 6 9 (hc 6 (by decide)) rfl) rfl;have Hb:=H.full;have H:=Hb;clear hc;refine iC zK H wn rfl (H.hp.aI (aH hG (hga 6 _ rfl))) rfl ?_;clear H;intro a H;refine aC ⟨rfl,?_⟩;exact dL (by kernel_rfl) (dM aJ) rfl rfl HT Hb hG hv (fun _ _ h=>h) (rfl) H
  ·intro _ _ _ _ _ _ _ _ hB;exact absurd hB (by decide)
  ·intro aJ dH aS a w G1 dN _ _ aL hc hG HT hv;have H:=HT;clear aL;have Hb:=H.full;have H:=Hb;clear hc;refine aD 1 H ?_;clear H;intro a H;refine aC ⟨rfl,?_⟩;exact dL (by kernel_rfl) (dM aJ) rfl rfl HT Hb hG hv (fun _ _ h=>h) (rfl) H
  ·intro aJ dH aS a w G1 dN _ _ aL hc hG HT hv;have H:=HT;clear aL;have H:=H.aN (hv 9 12 (hc 9 (by decide)) rfl) rfl;have Hb:=H.full;have H:=Hb;clear hc;refine aR sD (cs:=[aM D.s1,aM D.s2,aM D.s3,aM D.s4]) H wn rfl rfl (fun j v hj=>H.hp.aI (aH hG (kW hb1' 7 _ rfl j v hj))) rfl ?_;clear H;intro a H;refine aC ⟨rfl,?_⟩;exact dL (by kernel_rfl) (dM aJ) rfl rfl HT Hb hG hv (fun _ _ h=>h) (rfl) H
  ·intro aJ dH aS a w G1 dN _ _ aL hc hG HT hv;have H:=HT;clear aL;have H:=H.aN (hv 10 13 (hc 10 (by decide)) rfl) rfl;have Hb:=H.full;have H:=Hb;clear hc;refine s_call aga H wn rfl (afh _ _ H.ro d.gZ _ _ _ _ (hst.mono hG) zs FP.ln FP.cn FP.vn FP.pl FP.ll) rfl ?_;clear H;rintro v14 zP a w qG wI H;refine aC ⟨rfl,?_⟩;exact dL (by kernel_rfl) (dM aJ) rfl rfl HT Hb hG hv wI (qG) H
  ·intro _ _ _ _ _ _ _ hB;exact absurd hB (by decide)
  intro _ _ _ _ _ _ _ hB;exact absurd hB (by decide)
 ·clear H;refine aF ?_ ?_ ?_ ?_ (aF ?_ ?_ ?_ ?_ (aF ?_ ?_ ?_ ?_ (bH ?_ (bH ?_ cO))))
  ·intro hB;exact absurd hB (by decide)
  ·intro hB;exact absurd hB (by decide)
  ·intro _ aJ dH aS a w G1 dN _ hc hG HT hv;have H:=HT;have H:=H.aN (hv (.bool false,[]) 1 4 (by decide) (hc 1 (by decide)) rfl) rfl;have Hb:=H.full;have H:=Hb;clear hc;refine gy Q0 (Li:=dH) (L:=[]) (H.cast (gu _).symm) wn rfl (aeX _ _ (wS H.ro) d.flow _ (hfl.mono hG) (by omega)) rfl ?_;clear H;rintro v5 G5 L5 a w ⟨xs5,ami,akX⟩ kS H;have H:=H.perm ug;refine aC ⟨rfl,(v5,L5),?_⟩;exact Bq (by kernel_rfl) (dM (uV aJ 2 (v5,L5))) rfl HT Hb hG (fun j e h1 h2 h3=>hv (v5,L5) j e h1 h2 h3) kS (⟨rfl,xs5,ami,akX⟩) H
  ·intro hB;exact absurd hB (by decide)
  ·intro hB;exact absurd hB (by decide)
  ·intro hB;exact absurd hB (by decide)
  ·intro hB;exact absurd hB (by decide)
  ·intro hB;exact absurd hB (by decide)
  ·intro _ aJ dH aS a w G1 dN _ hc hG HT hv;have H:=HT;have H:=H.aN (hv (.bool false,[]) 7 10 (by decide) (hc 7 (by decide)) rfl) rfl;have Hb:=H.full;have H:=Hb;clear hc;refine gy X5 (Li:=dH) (L:=[]) (H.cast (gu _).symm) wn rfl (Xb _ _ (wS H.ro) _ _ _ _ (og.mono hG) (by simpa using zr)) rfl ?_;clear H;rintro v11 qX Ea a w ⟨IJ,xL,Hl⟩ kZ H;rw [bM] at xL;have H:=H.perm ug;refine aC ⟨rfl,(v11,Ea),?_⟩;exact Bq (by kernel_rfl) (dM (uV aJ 8 (v11,Ea))) rfl HT Hb hG (fun j e h1 h2 h3=>hv (v11,Ea) j e h1 h2 h3) kZ (⟨rfl,IJ,xL,Hl⟩) H
  ·intro hB;exact absurd hB (by decide)
  ·intro hB;exact absurd hB (by decide)
  ·intro hB;exact absurd hB (by decide)
  ·intro hB;exact absurd hB (by decide)
  intro hB;exact absurd hB (by decide)
 clear H;intro aJ a w G iN H hv
 simp only [oF,List.flatMap_cons,List.flatMap_nil,cond_true,gu,iZ] at H
 obtain ⟨u5,EU,pX⟩:=hv 2 5 (by decide) rfl;(try dsimp only at pX);obtain ⟨h5,xf,Ib,Sw⟩:=pX;obtain ⟨fA,fc,rfl,-,-⟩:=Ib.shape;have H:=H.ig EU;obtain ⟨u8,zy,lV⟩:=hv 5 8 (by decide) rfl;(try dsimp only at lV);obtain ⟨p8,y8,z8,rfl,Ht⟩:=lV;obtain ⟨a1,a2,a3,rfl⟩:=Ht.props.form;obtain ⟨a4,a5,a6,rfl⟩:=Ht.bL.form;obtain ⟨a7,a8,a9,rfl⟩:=Ht.layers.form;have H:=H.ig zy;obtain ⟨Vh,ET,vO⟩:=hv 8 11 (by decide) rfl;(try dsimp only at vO);obtain ⟨h11,xr,Ic,Sy⟩:=vO;obtain ⟨rA,rc,rfl,-,-⟩:=Ic.shape;have H:=H.ig ET;obtain ⟨u14,Km,qG⟩:=hv 11 14 (by decide) rfl;(try dsimp only at qG);obtain ⟨jX,q14,y14,z14,rfl,Kk⟩:=qG;obtain ⟨c1,c2,c3,rfl⟩:=Kk.st.form;obtain ⟨c4,c5,c6,rfl⟩:=Kk.li.form;obtain ⟨c7,c8,c9,rfl⟩:=Kk.cm.form;obtain ⟨d1,d2,d3,rfl⟩:=Kk.va.form;have H:=H.ig Km;clear hv;obtain ⟨⟨vF,LF⟩,eF⟩:∃ y,y=aJ 2:=⟨_,rfl⟩;obtain ⟨⟨vR,LR⟩,eR⟩:∃ y,y=aJ 8:=⟨_,rfl⟩;rw [← eF,← eR] at H;rw [← eF] at Ib h5;rw [← eR] at Ic h11;dsimp only at H Ib Ic h5 h11;subst h5;subst h11;rw [← iZ] at H;have H:=H.perm (ug (l₁:=LF++LR) (l₂:=[_]));dsimp only [lca,bG] at H;refine jh OX [_,_,_,_,_,_,_,_,_,_,_] H wn rfl rfl rfl rfl ?_;clear H;intro a H;refine aX iq 0 (vs:=[_,_,_,_,_,_,_,_,_,_,_]) _ H wn rfl rfl rfl rfl rfl rfl rfl rfl ?_;clear H;intro w H;dsimp only [List.set,setRow] at H;refine aC ⟨rfl,?_⟩;refine dQ ?_;refine cu ?_;refine (leave1 H results63 (.cons (kT iq (cs:=[_,_,_,_,_,_,_,_,_,_,_]) H rfl rfl (H.hp.bO 0 rfl rfl)) .nil) ?_).1;exact H.hp.kC (L':=LF++LR) (zX _ _) ⟨⟨(fA,d.flow.length,fc),(a1,a2,a3),(a4,a5,a6),(a7,a8,a9),(rA,d.revs.length,rc),(c1,c2,c3),(c4,c5,c6),(c7,c8,c9),(d1,d2,d3),d.fin.marks.ins,d.fin.marks.move⟩,rfl,xf,LF,xr,LR,rfl,Ib,Sw,Ic,Sy,Ht,rfl,rfl,Kk⟩
end
section
open Go.RowKit
theorem QX:∀ args w,(callFunc 58 args).run prog w=.ok (.enter 58 args) w:=enters func58 rfl (by kernel_rfl)
theorem afU:∀ args w,(callFunc 109 args).run prog w=.ok (.enter 109 args) w:=enters func109 rfl (by kernel_rfl)
theorem GI:∀ args w,(callFunc 52 args).run prog w=.ok (.enter 52 args) w:=enters func52 rfl (by kernel_rfl)
theorem afW:∀ args w,(callFunc 112 args).run prog w=.ok (.enter 112 args) w:=enters func112 rfl (by kernel_rfl)
theorem agN:∀ args w,(callFunc 173 args).run prog w=.ok (.enter 173 args) w:=enters func173 rfl (by kernel_rfl)
theorem afV:∀ args w,(callFunc 111 args).run prog w=.ok (.enter 111 args) w:=enters func111 rfl (by kernel_rfl)
theorem aoh {G:GH} (r:aV):qY (.func (.func 112) #[] #[]) G r.dat (decide (r.cells.length=0)):=by
 intro G1 w0 cs hm hG hr;refine iM (caps:=[]) afW ?_;obtain ⟨pA,pn,pc,dA,dn,dc,yA,yn,yc,fA,fn,fc,rfl,-,hf⟩:=hr.row;have hn:=hf.len;rw [bM] at hn;subst hn;refine eN [(0,_)] func112 rfl ntmps112 rfl rfl hG ?_;refine ak 1 ?_;intro a H;refine dP (cs:=[_,_,_,_,_,_]) H wn rfl rfl rfl ?_;clear H;intro b1 a w hb1 H;refine fu 9 H ?_;exact (dB (decide_eq_decide.2 (by omega)))
theorem afB (G:GH) (w0:World) (hG:Hold G w0) (l:List aV) (v:aj) (hv:au G (.sl 6 (l.map aV.dat)) v) (hne:∀ r∈l,r.cells≠[]) :
  Calls prog 109 #[v,.func (.func 112) #[] #[]] w0 (bC w0 G fun u G'=>au G' (.sl 6 (l.map aV.dat)) u):=by
 obtain ⟨A,n,c,rfl⟩:=hv.form
 have hno:l.findIdx? (fun r=>decide (r.cells.length=0))=none:=by
  rw [List.findIdx?_eq_none_iff];intro r hr;exact iY fun h=>hne r hr (List.length_eq_zero_iff.1 h)
 refine eN [(0,_),(1,_)] func109 rfl ntmps109 rfl rfl hG ?_;refine ak 6 ?_;intro a H;refine s_call agM H wn rfl (amS _ _ H.ro l (fun r=>decide (r.cells.length=0)) _ _ hv (fun r _=>aoh r)) rfl ?_;clear H;rintro v10 zO a w rfl BH H;rw [hno] at H;refine gF 7 H ?_ ?_ <;> clear H
 ·intro pE
  refine aP 4 ?_;exact (hv.mono BH)
 intro pE
 intro a H;exact absurd rfl pE
def Ed (n:Nat):Prop:=∀ (G:GH) (w0:World),Hold G w0→∀ (l:List ay) (v:aj),au G (.sl 11 (l.map ay.dat)) v→tN l→bZ l < n →
 Calls prog 58 #[v] w0 (bC w0 G fun u G'=>au G' (.sl 11 ((lX l).map ay.dat)) u)
theorem aob {n:Nat} (ih:Ed n) (hn:n≤4294967296) (G:GH) (w0:World) (hG:Hold G w0) (x:bB) (cs:List aj) (hv:aU G x.dat cs) (hne:Dw x) (hz:bY x.dat < n+1) :
  Calls prog 173 #[.agg cs.toArray] w0 (bC w0 G fun u G'=>∃ cs',u=.agg cs'.toArray∧aU G' (nC x).dat cs'):=by
 have he:=Cy x;obtain ⟨pA,pn,pc,dA,dn,dc,yA,yn,yc,fA,fn,fc,rfl,hh,hf⟩:=hv.cell;rw [anR] at hne;refine eN [(0,_)] func173 rfl ntmps173 rfl rfl hG ?_;refine ak 1 ?_;intro a H;refine dP (cs:=[_,_,_,_,_,_,_]) H wn rfl rfl rfl ?_;clear H;intro b1 a w hb1 H;refine dz jO H wn rfl ?_;clear H;intro b2 a w hb2 H;refine aD 2 H ?_;clear H
 have dM:∀ (aQ:Nat) (v:aj) (G G':GH),(∀ k o,G k=some o→G' k=some o)→(fun (aQ:Nat) (v:aj) (G:GH)=>match aQ with|0=>v=(aG b1 0)|1=>v=vi x.id|2=>v=(aG b1 1)|3=>v=.agg #[.slice pA pn pc,vi x.head.marks.ins,vi x.head.marks.move,.slice dA dn dc,.slice yA yn yc]|4=>∃ p d l,v=.agg #[p,vi x.head.marks.ins,vi x.head.marks.move,d,l]∧fD G x.head p d l|5=>v=(aG b1 6)|6=>v=.slice fA fn fc|7=>au G (.sl 11 ((lX x.flow).map ay.dat)) v|_=>True) aQ v G→(fun (aQ:Nat) (v:aj) (G:GH)=>match aQ with|0=>v=(aG b1 0)|1=>v=vi x.id|2=>v=(aG b1 1)|3=>v=.agg #[.slice pA pn pc,vi x.head.marks.ins,vi x.head.marks.move,.slice dA dn dc,.slice yA yn yc]|4=>∃ p d l,v=.agg #[p,vi x.head.marks.ins,vi x.head.marks.move,d,l]∧fD G x.head p d l|5=>v=(aG b1 6)|6=>v=.slice fA fn fc|7=>au G (.sl 11 ((lX x.flow).map ay.dat)) v|_=>True) aQ v G':=by
  intro aQ v G G' hm h
  match aQ,h with
  | 0,h=>exact h
  | 1,h=>exact h
  | 2,h=>exact h
  | 3,h=>exact h
  | 4,h=>exact let ⟨p,d,l,h1,h2⟩:=h;⟨p,d,l,h1,h2.mono hm⟩
  | 5,h=>exact h
  | 6,h=>exact h
  | 7,h=>exact au.mono hm h
  | 8,h=>exact trivial
  | 9,h=>exact trivial
  | _+10,h=>exact trivial
 intro a H;refine yJ (hmx) [[],[0],[],[2],[2,3],[],[5],(ra 2 5),(ra 0 8),(ra 0 9)] [8,9] (by kernel_rfl) (by kernel_rfl) (fun (aQ:Nat) (v:aj) (G:GH)=>match aQ with|0=>v=(aG b1 0)|1=>v=vi x.id|2=>v=(aG b1 1)|3=>v=.agg #[.slice pA pn pc,vi x.head.marks.ins,vi x.head.marks.move,.slice dA dn dc,.slice yA yn yc]|4=>∃ p d l,v=.agg #[p,vi x.head.marks.ins,vi x.head.marks.move,d,l]∧fD G x.head p d l|5=>v=(aG b1 6)|6=>v=.slice fA fn fc|7=>au G (.sl 11 ((lX x.flow).map ay.dat)) v|_=>True) dM H ?_ ?_
 ·clear H;refine aF ?_ ?_ ?_ ?_ (aF ?_ ?_ ?_ ?_ (bH (bQ rfl) (bH (bQ rfl) cO)))
  ·refine dU [] rfl trivial (by kernel_rfl) dM rfl rfl ?_;intro aS a w G1 hG HT H fin;exact kH H (Rf Yn rfl fun _ H=>fin H iJ rfl)
  ·refine dU [(0,3,_)] rfl ⟨fun _ _ h=>h,bq⟩ (by kernel_rfl) dM rfl rfl ?_;intro aS a w G1 hG HT H fin;exact kH H (Ro bR 1 rfl fun _ H=>fin H iJ rfl)
  ·refine dU [] rfl trivial (by kernel_rfl) dM rfl rfl ?_;intro aS a w G1 hG HT H fin;exact kH H (Rf Yo rfl fun _ H=>fin H iJ rfl)
  ·refine dU [(2,5,_)] rfl ⟨fun _ _ h=>h,bq⟩ (by kernel_rfl) dM rfl rfl ?_;intro aS a w G1 hG HT H fin;refine aR dw (cs:=[_,_,_,_,_]) H wn rfl rfl (H.hp.bO 1 rfl rfl) rfl ?_;clear H;intro a H;exact fin H iJ rfl
  ·refine dU [(3,6,_)] rfl ⟨fun _ _ h=>h,bq⟩ (by kernel_rfl) dM rfl rfl ?_;intro aS a w G1 hG HT H fin;refine s_call Ep H wn rfl (Em _ _ H.ro x.head _ _ _ _ _ _ _ _ _ (hh.mono hG) (by omega)) rfl ?_;clear H;rintro v7 G7 a w BO Hf H;exact fin H Hf (BO)
  ·refine dU [] rfl trivial (by kernel_rfl) dM rfl rfl ?_;intro aS a w G1 hG HT H fin;exact kH H (Rf Yp rfl fun _ H=>fin H iJ rfl)
  ·refine dU [(5,8,_)] rfl ⟨fun _ _ h=>h,bq⟩ (by kernel_rfl) dM rfl rfl ?_;intro aS a w G1 hG HT H fin;exact kH H (Ro pG 1 rfl fun _ H=>fin H iJ rfl)
  refine dU [(6,9,_)] rfl ⟨fun _ _ h=>h,bq⟩ (by kernel_rfl) dM rfl rfl ?_;intro aS a w G1 hG HT H fin;refine s_call QX H wn rfl (ih _ _ H.ro x.flow _ (hf.mono hG) hne (by omega)) rfl ?_;clear H;rintro v10 zO a w rP pW H;exact fin H pW (rP)
 clear H;intro a w G iN H hv;have H:=H.aN (hv 1 4 rfl rfl) rfl;obtain ⟨u7,Tx,BO⟩:=hv 4 7 (by decide) rfl;(try dsimp only at BO);obtain ⟨p7,d7,l7,rfl,yZ⟩:=BO;obtain ⟨a1,a2,a3,rfl⟩:=yZ.props.form;obtain ⟨a4,a5,a6,rfl⟩:=yZ.bL.form;obtain ⟨a7,a8,a9,rfl⟩:=yZ.layers.form;have H:=H.ig Tx;obtain ⟨u10,Kl,rP⟩:=hv 7 10 (by decide) rfl;(try dsimp only at rP);obtain ⟨VA,n10,c10,rfl⟩:=rP.form;have H:=H.ig Kl;clear hv;refine jh OZ [_,_,_,_,_,_,_] H wn rfl rfl rfl rfl ?_;clear H;intro a H;refine aX jO 0 (vs:=[_,_,_,_,_,_,_]) _ H wn rfl rfl rfl rfl rfl rfl rfl rfl ?_;clear H;intro w H;dsimp only [List.set,setRow] at H;refine aC ⟨rfl,?_⟩;refine dQ ?_;refine cu ?_;refine (leave1 H results173 (.cons (kT jO (cs:=[_,_,_,_,_,_,_]) H rfl rfl (H.hp.bO 0 rfl rfl)) .nil) ?_).1;exact H.rt ⟨_,rfl,by rw [anN];exact aU.KD (x:=.mk x.id x.head (lX x.flow)) yZ rP⟩
theorem aoc {n:Nat} (ih:Ed n) (hn:n≤4294967296) {G:GH} {w0:World} (x:bB) (hne:Dw x) (hz:bY x.dat < n+1):Bb (.func (.func 173) #[] #[]) w0 G x.dat (nC x).dat:=by
 intro G1 w1 cs hm1 hG1 hr;have h:=aob ih hn _ _ hG1 x cs hr hne hz;have h2:=iM (P:=prog) (caps:=[]) (args:=[.agg cs.toArray]) agN h;exact h2
theorem aod {n:Nat} (ih:Ed n) (hn:n≤4294967296) (G:GH) (w0:World) (hG:Hold G w0) (x:aV) (cs:List aj) (hv:aU G x.dat cs) (hne:Dy x) (hz:bY x.dat < n+1) :
  Calls prog 111 #[.agg cs.toArray] w0 (bC w0 G fun u G'=>∃ cs',u=.agg cs'.toArray∧aU G' (nR x).dat cs'):=by
 have he:=Cz x;have hl:=IK x.cells;obtain ⟨pA,pn,pc,dA,dn,dc,yA,yn,yc,fA,fn,fc,rfl,hh,hf⟩:=hv.row;rw [aaL] at hne;refine eN [(0,_)] func111 rfl ntmps111 rfl rfl hG ?_;refine ak 1 ?_;intro a H;refine dP (cs:=[_,_,_,_,_,_]) H wn rfl rfl rfl ?_;clear H;intro b1 a w hb1 H;refine dz jI H wn rfl ?_;clear H;intro b2 a w hb2 H;refine aD 2 H ?_;clear H
 have dM:∀ (aQ:Nat) (v:aj) (G G':GH),(∀ k o,G k=some o→G' k=some o)→(fun (aQ:Nat) (v:aj) (G:GH)=>match aQ with|0=>v=(aG b1 0)|1=>v=.agg #[.slice pA pn pc,vi x.head.marks.ins,vi x.head.marks.move,.slice dA dn dc,.slice yA yn yc]|2=>∃ p d l,v=.agg #[p,vi x.head.marks.ins,vi x.head.marks.move,d,l]∧fD G x.head p d l|3=>v=(aG b1 5)|4=>v=.slice fA fn fc|5=>au G (.sl 7 (x.cells.map fun y=>(nC y).dat)) v|_=>True) aQ v G→(fun (aQ:Nat) (v:aj) (G:GH)=>match aQ with|0=>v=(aG b1 0)|1=>v=.agg #[.slice pA pn pc,vi x.head.marks.ins,vi x.head.marks.move,.slice dA dn dc,.slice yA yn yc]|2=>∃ p d l,v=.agg #[p,vi x.head.marks.ins,vi x.head.marks.move,d,l]∧fD G x.head p d l|3=>v=(aG b1 5)|4=>v=.slice fA fn fc|5=>au G (.sl 7 (x.cells.map fun y=>(nC y).dat)) v|_=>True) aQ v G':=by
  intro aQ v G G' hm h
  match aQ,h with
  | 0,h=>exact h
  | 1,h=>exact h
  | 2,h=>exact let ⟨p,d,l,h1,h2⟩:=h;⟨p,d,l,h1,h2.mono hm⟩
  | 3,h=>exact h
  | 4,h=>exact h
  | 5,h=>exact au.mono hm h
  | 6,h=>exact trivial
  | 7,h=>exact trivial
  | _+8,h=>exact trivial
 intro a H;refine yJ (hmx) [[],[0],[0,1],[],[3],(ra 0 5),(ra 0 6),(ra 0 7)] [6,7] (by kernel_rfl) (by kernel_rfl) (fun (aQ:Nat) (v:aj) (G:GH)=>match aQ with|0=>v=(aG b1 0)|1=>v=.agg #[.slice pA pn pc,vi x.head.marks.ins,vi x.head.marks.move,.slice dA dn dc,.slice yA yn yc]|2=>∃ p d l,v=.agg #[p,vi x.head.marks.ins,vi x.head.marks.move,d,l]∧fD G x.head p d l|3=>v=(aG b1 5)|4=>v=.slice fA fn fc|5=>au G (.sl 7 (x.cells.map fun y=>(nC y).dat)) v|_=>True) dM H ?_ ?_
 ·clear H;refine aF ?_ ?_ ?_ ?_ (aF ?_ ?_ (bQ rfl) (bQ rfl) cO)
  ·refine dU [] rfl trivial (by kernel_rfl) dM rfl rfl ?_;intro aS a w G1 hG HT H fin;exact kH H (Rf Rw rfl fun _ H=>fin H iJ rfl)
  ·refine dU [(0,3,_)] rfl ⟨fun _ _ h=>h,bq⟩ (by kernel_rfl) dM rfl rfl ?_;intro aS a w G1 hG HT H fin;refine aR dw (cs:=[_,_,_,_,_]) H wn rfl rfl (H.hp.bO 1 rfl rfl) rfl ?_;clear H;intro a H;exact fin H iJ rfl
  ·refine dU [(1,4,_)] rfl ⟨fun _ _ h=>h,bq⟩ (by kernel_rfl) dM rfl rfl ?_;intro aS a w G1 hG HT H fin;refine s_call Ep H wn rfl (Em _ _ H.ro x.head _ _ _ _ _ _ _ _ _ (hh.mono hG) (by omega)) rfl ?_;clear H;rintro v5 G5 a w pX kS H;exact fin H kS (pX)
  ·refine dU [] rfl trivial (by kernel_rfl) dM rfl rfl ?_;intro aS a w G1 hG HT H fin;exact kH H (Rf Ju rfl fun _ H=>fin H iJ rfl)
  ·refine dU [(3,6,_)] rfl ⟨fun _ _ h=>h,bq⟩ (by kernel_rfl) dM rfl rfl ?_;intro aS a w G1 hG HT H fin;exact kH H (Ro IB 1 rfl fun _ H=>fin H iJ rfl)
  refine dU [(4,7,_)] rfl ⟨fun _ _ h=>h,bq⟩ (by kernel_rfl) dM rfl rfl ?_;intro aS a w G1 hG HT H fin;refine s_call XL H wn rfl (XB nC _ _ H.ro x.cells _ _ (hf.mono hG) (by omega) (fun y hy=>aoc ih hn y (aaJ hne.2 y hy) (by have:=acV hy;omega))) rfl ?_;clear H;rintro v8 G8 a w lV nL H;exact fin H nL (lV)
 clear H;intro a w G iN H hv;obtain ⟨u5,EU,pX⟩:=hv 2 5 (by decide) rfl;(try dsimp only at pX);obtain ⟨p5,d5,l5,rfl,qQ⟩:=pX;obtain ⟨a1,a2,a3,rfl⟩:=qQ.props.form;obtain ⟨a4,a5,a6,rfl⟩:=qQ.bL.form;obtain ⟨a7,a8,a9,rfl⟩:=qQ.layers.form;have H:=H.ig EU;obtain ⟨u8,zy,lV⟩:=hv 5 8 (by decide) rfl;(try dsimp only at lV);obtain ⟨A8,n8,c8,rfl⟩:=lV.form;have H:=H.ig zy;clear hv;refine jh OY [_,_,_,_,_,_] H wn rfl rfl rfl rfl ?_;clear H;intro a H;refine aX jI 0 (vs:=[_,_,_,_,_,_]) _ H wn rfl rfl rfl rfl rfl rfl rfl rfl ?_;clear H;intro w H;dsimp only [List.set,setRow] at H;refine aC ⟨rfl,?_⟩;refine dQ ?_;refine cu ?_;refine (leave1 H results111 (.cons (kT jI (cs:=[_,_,_,_,_,_]) H rfl rfl (H.hp.bO 0 rfl rfl)) .nil) ?_).1;exact H.rt ⟨_,rfl,by rw [aaF];exact aU.KE (x:=.mk x.head (x.cells.map nC)) qQ (by show au _ (.sl 7 ((x.cells.map nC).map bB.dat)) _;rw [List.map_map];exact lV)⟩
theorem aoe {n:Nat} (ih:Ed n) (hn:n≤4294967296) {G:GH} {w0:World} (x:aV) (hne:Dy x) (hz:bY x.dat < n+1):Bb (.func (.func 111) #[] #[]) w0 G x.dat (nR x).dat:=by
 intro G1 w1 cs hm1 hG1 hr;have h:=aod ih hn _ _ hG1 x cs hr hne hz;have h2:=iM (P:=prog) (caps:=[]) (args:=[.agg cs.toArray]) afV h;exact h2
theorem joined {G:GH} {o:List ay} {z y:ay} {x0:List aj} {s p d q f r:aj} (hc:bU G 11 (o.map ay.dat) x0) (hl:x0.length=o.length*11) (hh:fD G z.head p d q) (hf:au G (.sl 11 (z.flow.map ay.dat)) f) (hr:au G (.sl 6 (z.rows.map aV.dat)) r) (hs:s=.string (z.text++y.text)) :
  bU G 11 ((o++[qb z y]).map ay.dat) ((x0++[vi z.kind,vi z.code,vi z.id,.string z.text,p,vi z.head.marks.ins,vi z.head.marks.move,d,q,f,r]).set (((o++[z]).length - 1)*11+3) s):=by
 rw [kM,iA,List.length_singleton,Nat.add_sub_cancel,List.set_append_right _ _ (by omega),hl,I7];refine hc.snoc ?_ rfl;rw [hs];exact aU.mkItem (x:=qb z y) hh hf hr
theorem Mt {s:ByteArray} {k:Int} {n:Nat} (hk:k=1):(s.toList == (⟨#[]⟩:ByteArray).toList)=true↔(k=7∧n=0)∨(k=1∧s.size=0):=by
 rw [beq_iff_eq,ByteArray.toList_eq,ByteArray.toList_eq]
 constructor
 ·intro h;refine .inr ⟨hk,?_⟩;have:=aB List.length h
  simpa using this
 rintro (⟨h,-⟩|⟨-,h⟩)
 ·omega
 have:s.data.toList.length=0:=by simpa using h
 rw [List.length_eq_zero_iff.1 this]
theorem aog {n:Nat} (ih:Ed n) (hn:n≤1073741824):Ed (n+1):=by
  intro G w0 hG l v hv hne hz;obtain ⟨A,c,rfl,hc1,hc2,hg⟩:=hv.slice
  have hml:4294967297≤maxLen:=by decide
  have htl:mZ l≤bZ l:=acn l;have hll:l.length≤mZ l:=Ub l;rw [bM] at *;refine eN [(0,_)] func58 rfl ntmps58 rfl rfl hG ?_;refine ak 13 ?_;intro a H;refine eH (ι:=Nat × aj × List aj × OL × GH) (Tc:=[(7,_),(8,_)]) (Lc:=[]) (fun gh=>[(3,gh.2.1),(9,vi gh.1)]) (fun gh=>[]++gh.2.2.2.1) (fun gh=>gh.2.2.2.2) (fun gh=>gh.1≤l.length∧bV 68 11 gh.2.1 (rW l gh.1).length gh.2.2.1 gh.2.2.2.1∧bU gh.2.2.2.2 11 ((rW l gh.1).map ay.dat) gh.2.2.1∧(∀ b o,G b=some o→gh.2.2.2.2 b=some o)) (fun gh=>l.length - gh.1) ((0,.slice none 0 0,[],[],G)) sB ?_ ?_
  · exact ⟨by omega,bV.nil,bU.nil,fun _ _ h=>h⟩
  clear H;rintro ⟨k,v,xs,Lo,g⟩ a w hI H;dsimp only at hI H;obtain ⟨hk,hrw,dV,hgm⟩:=hI;have hol:=aor hk;obtain ⟨out,hout⟩:∃ o,o=rW l k:=⟨_,rfl⟩;rw [← hout] at hrw dV hol;dsimp only [lca,bG] at H;refine dO 4 H ?_ ?_ <;> clear H
  · intro gX
    have hk2:k < l.length:=by omega
    have hos:=aaV hk2;have hot:=Uu (l:=l) (k:=k) (by omega);have ZX:=aco l (k+1);rw [fP hk2,Fz] at ZX
    simp only [mZ] at ZX
    rw [← hout] at hos hot;obtain ⟨vA,vc,rfl,-,-⟩:=hrw.shape;obtain ⟨b,o,pA,pn,pc,dA,dn,dc,yA,yn,yc,fA,fn,fc,rA,rn,rc,rfl,hrow,hhd,hfl,hrs⟩:=Es hk2 hg;replace hrow:=fun j u hj=>aH hgm (hrow j u hj);have hnx:=aaK hne _ (lD hk2);rw [anS] at hnx;obtain ⟨hnf,hnr⟩:=hnx;have hzi:=IL hk2;have hze:=yB l[k];have hrl:=IQ l[k].rows
    have amd:∀ r∈l[k].rows.map nR,r.cells≠[]:=fun r hr=>by
      obtain ⟨x,hx,rfl⟩:=List.mem_map.1 hr;have h1:=Un hnr x hx;rw [aaL] at h1;rw [aaF];exact fun e=>h1.1 (List.map_eq_nil_iff.1 e)
    refine ak 5 ?_;intro a H;refine aR fZ (cs:=[_,_,_,_,_,_,_,_,_,_,_]) H wn rfl rfl (fun j v hj=>H.hp.aI (hrow j v hj)) rfl ?_;clear H;intro a H;refine dz fZ H wn rfl ?_;clear H;intro b5 a w hb5 H;refine aX fZ 0 (vs:=[_,_,_,_,_,_,_,_,_,_,_]) _ H wn rfl rfl rfl rfl rfl rfl rfl rfl ?_;clear H;intro w H;dsimp only [List.set,setRow] at H;refine aD 3 H ?_;clear H;intro a H;refine aR dw (cs:=[_,_,_,_,_]) H wn rfl rfl (H.hp.bO 0 rfl rfl) rfl ?_;clear H;intro a H;refine s_call Ep H wn rfl (Em _ _ H.ro _ _ _ _ _ _ _ _ _ _ (hhd.mono hgm) (by omega)) rfl ?_;clear H;rintro v15 Bg a w ⟨qh,d15,l15,rfl,Hq⟩ ze H;obtain ⟨a1,a2,a3,rfl⟩:=Hq.props.form;obtain ⟨a4,a5,a6,rfl⟩:=Hq.bL.form;obtain ⟨a7,a8,a9,rfl⟩:=Hq.layers.form;refine aD 1 H ?_;clear H;intro a H;refine aX dw 0 (vs:=[_,_,_,_,_]) _ H wn rfl rfl rfl rfl rfl rfl rfl rfl ?_;clear H;intro w H;dsimp only [List.set,setRow] at H;refine aD 4 H ?_;clear H;intro a H;refine s_call QX H wn rfl (ih _ _ H.ro l[k].flow _ (hfl.mono fun b o h=>ze b o (hgm b o h)) hnf (by omega)) rfl ?_;clear H;rintro v19 FT a w J9 qF H;obtain ⟨FQ,n19,c19,rfl⟩:=J9.form;refine aD 1 H ?_;clear H;intro a H;refine aX pG 0 (vs:=[_]) _ H wn rfl rfl rfl rfl rfl rfl rfl rfl ?_;clear H;intro w H;dsimp only [List.set,setRow] at H;refine aD 4 H ?_;clear H;intro a H;refine s_call XF H wn rfl (XC nR _ _ H.ro l[k].rows _ _ (hrs.mono fun b o h=>qF b o (ze b o (hgm b o h))) (by omega) (fun x hx=>aoe ih (by omega) x (Un hnr x hx) (by have:=acZ hx;omega))) rfl ?_;clear H;rintro v23 VL a w Ta Db H;rw [show (l[k].rows.map fun x=>(nR x).dat)=(l[k].rows.map nR).map aV.dat by rw [List.map_map];rfl] at Ta;obtain ⟨A23,n23,c23,rfl⟩:=Ta.form;refine s_call afU H wn rfl (afB _ _ H.ro (l[k].rows.map nR) _ Ta amd) rfl ?_;clear H;rintro v24 xq a w Td kK H;obtain ⟨Py,n24,c24,rfl⟩:=Td.form;have Zt:=Td.len;rw [bM,bM] at Zt;subst Zt;refine aD 1 H ?_;clear H;intro a H;refine aX KW 0 (vs:=[_]) _ H wn rfl rfl rfl rfl rfl rfl rfl rfl ?_;clear H;intro w H;dsimp only [List.set,setRow] at H;refine aC ?_;refine dQ ?_;obtain ⟨y,hy⟩:∃ y,y=nI l[k]:=⟨_,rfl⟩;have hye:=hy.trans (aaE l[k])
    have hyk:y.kind=l[k].kind:=by rw [hye];rfl
    have Kr:y.text=l[k].text:=by rw [hye];rfl
    have Ie:y.head=l[k].head:=by rw [hye];rfl
    have NZ:y.rows.length=l[k].rows.length:=by rw [hye];simp [ay.rows]
    rw [← hy] at hos;obtain ⟨Qy,Nt⟩:∃ x,x=[vi l[k].kind,vi l[k].code,vi l[k].id,.string l[k].text,.slice a1 a2 a3,vi l[k].head.marks.ins,vi l[k].head.marks.move,.slice a4 a5 a6,.slice a7 a8 a9,.slice FQ n19 c19,.slice Py l[k].rows.length c24]:=⟨_,rfl⟩
    have ZK:aU xq y.dat Qy:=by
      rw [Nt,hye];exact aU.mkItem (x:=.mk l[k].kind l[k].code l[k].id l[k].text l[k].head (lX l[k].flow) (l[k].rows.map nR)) (Hq.mono fun b o h=>kK b o (Db b o (qF b o h))) (J9.mono fun b o h=>kK b o (Db b o h)) Td
    have Nr:=dV.mono fun b o h=>kK b o (Db b o (qF b o (ze b o h)));have Y8:∀ b o,G b=some o→xq b=some o:=fun b o h=>kK b o (Db b o (qF b o (ze b o (hgm b o h))));refine fM 6 H ?_;clear H;intro a H;refine qz (ι:=Bool) (Tc:=[(3,_),(5,_),(6,_),(7,_),(8,_),(9,_)]) (Lc:=[]) (fun gh=>[(32,.bool gh)]) (fun gh=>[(b5,.cells [vi l[k].kind,vi l[k].code,vi l[k].id,.string l[k].text,.slice a1 a2 a3,vi l[k].head.marks.ins,vi l[k].head.marks.move,.slice a4 a5 a6,.slice a7 a8 a9,.slice FQ n19 c19,.slice Py l[k].rows.length c24].toArray 68 (0,0))]++Lo) (fun gh=>xq) (fun gh=>gh=true↔um y) sB ?_ ?_
    · refine Ag 5 36 H ?_ ?_ <;> clear H
      · intro p36
        refine lU 6 42 ?_ ?_
        · intro p42
          refine ak 10 ?_;intro a H;refine aC ?_;refine ⟨_,sB,?_⟩;rw [um,hyk,NZ,Kr]
          first
            | exact ⟨fun _=>.inl ⟨p36,by omega⟩,fun _=>by first|rfl|exact iQ p42⟩
            | exact ⟨fun h=>(by cases h),fun h=>(by exfalso;omega)⟩
            | exact Mt p46
            | fail
        intro p42
        refine lU 4 46 ?_ ?_
        · intro p46
          intro a H;exfalso;omega
        intro p46
        refine ak 6 ?_;intro a H;refine aC ?_;refine ⟨_,sB,?_⟩;rw [um,hyk,NZ,Kr]
        first
          | exact ⟨fun _=>.inl ⟨p36,by omega⟩,fun _=>by first|rfl|exact iQ p42⟩
          | exact ⟨fun h=>(by cases h),fun h=>(by exfalso;omega)⟩
          | exact Mt p46
          | fail
      intro p36
      refine ak 6 ?_;intro a H;refine Iu Bu H (wg H rfl rfl rfl) rfl rfl ?_;clear H;intro a H;refine iC bR H (wg H rfl rfl rfl) rfl (H.hp.qH 0 rfl rfl) rfl ?_;clear H;intro a H;refine Ir H (wg H rfl rfl rfl) rfl rfl rfl rfl ?_;clear H;intro a H;refine Iw H (wg H rfl rfl rfl) rfl rfl ?_;clear H;refine jM 0 46 ?_ ?_
      · intro h46
        try have p46:=dT h46
        refine ak 2 ?_;intro a H;refine AO H (wg H rfl rfl h46) rfl rfl rfl ?_;clear H;intro a H;refine KP H (wg H rfl rfl rfl) rfl h46 rfl rfl ?_;clear H;refine ak 2 ?_;intro a H;refine aC ?_;refine ⟨_,sB,?_⟩;rw [um,hyk,NZ,Kr]
        first
          | exact ⟨fun _=>.inl ⟨p36,by omega⟩,fun _=>by first|rfl|exact iQ p42⟩
          | exact ⟨fun h=>(by cases h),fun h=>(by exfalso;omega)⟩
          | exact Mt p46
          | fail
      intro h46
      try have p46:=dF h46
      refine ak 3 ?_;intro a H;refine OT H (wg H rfl rfl rfl) rfl h46 rfl rfl ?_;clear H;refine ak 2 ?_;intro a H;refine aC ?_;refine ⟨_,sB,?_⟩;rw [um,hyk,NZ,Kr]
      first
        | exact ⟨fun _=>.inl ⟨p36,by omega⟩,fun _=>by first|rfl|exact iQ p42⟩
        | exact ⟨fun h=>(by cases h),fun h=>(by exfalso;omega)⟩
        | exact Mt p46
        | fail
    clear H;intro db a w hI H;dsimp only [lca,bG] at H;refine dO 0 H ?_ ?_ <;> clear H
    · intro p32
      have hdp:=hI.1 (by assumption);rw [Qc hdp] at hos;refine ak 4 ?_;intro a H;refine aC ?_;refine cB ((k+1,_,xs,Lo,_)) (by exact (H.dY (Pl:=[_]) (dJ:=[]) [] (by decide) rfl).sub ⟨rfl,rfl,rfl,rfl,bq⟩) ?_ ?_
      · (try dsimp only);exact ⟨by omega,by rw [hos];exact hrw,by rw [hos];exact Nr,Y8⟩
      first|omega|(dsimp only;omega)
    intro p32
    have hnd:¬ um y:=fun h=>by have:=hI.2 h;simp_all
    obtain ⟨bo,pk,pt,pp,pd,pl,vP⟩:∃ (bo:Nat) (pk:dW × Int) (pt:ByteArray) (pp pd pl:aj),0 < (out.length:Int)→∃ (o:List ay) (z:ay) (x0:List aj) (f r:aj),out=o++[z]∧vA=some ⟨bo,0,none⟩∧pk=(z.head,z.kind)∧pt=z.text ∧
        xs=x0++[vi z.kind,vi z.code,vi z.id,.string z.text,pp,vi z.head.marks.ins,vi z.head.marks.move,pd,pl,f,r]∧x0.length=o.length*11∧bU xq 11 (o.map ay.dat) x0∧fD xq z.head pp pd pl∧au xq (.sl 11 (z.flow.map ay.dat)) f∧au xq (.sl 6 (z.rows.map aV.dat)) r ∧
        ∀ j u,[vi pk.2,vi z.code,vi z.id,.string pt,pp,vi pk.1.marks.ins,vi pk.1.marks.move,pd,pl][j]?=some u→xs[(out.length - 1)*11+j]?=some u:=by
      by_cases h0:0 < out.length
      · obtain ⟨bo,hbo⟩:=hrw.ptr h0;obtain ⟨o,z,e⟩:∃ o z,out=o++[z]:=⟨_,_,(List.dropLast_concat_getLast (fun e=>by rw [e] at h0;simp at h0)).symm⟩;rw [e,kM] at Nr;obtain ⟨x0,cs,hxs,hc0,hrz,hcl,hxl⟩:=Nr.ara;obtain ⟨qA,qn,qc,sA,sn,sc,tA,tn,tc,GL,GZ,GN,rA2,rn2,rc2,rfl,hh,hf2,hr2⟩:=hrz.item;rw [bM] at hxl;refine ⟨bo,(z.head,z.kind),z.text,.slice qA qn qc,.slice sA sn sc,.slice tA tn tc,fun _=>⟨o,z,x0,_,_,e,hbo,rfl,rfl,hxs,hxl,hc0,hh,hf2,hr2,fun j u hj=>?_⟩⟩;rw [hxs,e,iA,List.length_singleton,Nat.add_sub_cancel,rz (by omega),hxl,I7];rw [← hj]
        match j,hj with
        | 0,hj=>rfl
        | 1,hj=>rfl
        | 2,hj=>rfl
        | 3,hj=>rfl
        | 4,hj=>rfl
        | 5,hj=>rfl
        | 6,hj=>rfl
        | 7,hj=>rfl
        | 8,hj=>rfl
        | _+9,hj=>simp at hj
      exact ⟨0,(⟨[],⟨0,0,[],[]⟩⟩,0),⟨#[]⟩,.slice none 0 0,.slice none 0 0,.slice none 0 0,fun h=>by omega⟩
    have Kq:0 < (out.length:Int)→vA=some ⟨bo,0,none⟩:=fun h=>by obtain ⟨_,_,_,_,_,_,e,_⟩:=vP h;exact e
    intro a H;refine qz (ι:=Bool × GH) (Tc:=[(3,_),(5,_),(6,_),(7,_),(8,_),(9,_)]) (Lc:=[]) (fun gh=>[(52,.bool gh.1)]) (fun gh=>[(b5,.cells [vi l[k].kind,vi l[k].code,vi l[k].id,.string l[k].text,.slice a1 a2 a3,vi l[k].head.marks.ins,vi l[k].head.marks.move,.slice a4 a5 a6,.slice a7 a8 a9,.slice FQ n19 c19,.slice Py l[k].rows.length c24].toArray 68 (0,0))]++Lo) (fun gh=>gh.2) (fun gh=>(gh.1=true→(l[k].kind=1∧0 < (out.length:Int)∧pk.2=1∧pk.1=l[k].head))∧(gh.1=false→rW l (k+1)=out++[y])∧(∀ b o,xq b=some o→gh.2 b=some o)) sB ?_ ?_
    · skip
      by_cases c1:l[k].kind=1
      · skip
        by_cases c2:0 < (out.length:Int)
        · skip
          by_cases c3:pk.2=1
          · skip
            by_cases c4:pk.1=l[k].head
            · refine dI hmx [[],[0],[0,1],[0,1,2],(ra 0 4),(ra 0 5),(ra 0 6),(ra 0 7),(ra 0 8),(ra 0 8),(ra 0 8++[9]),(ra 0 11),(ra 0 12),(ra 0 13),(ra 0 14),(ra 0 15),(ra 0 16),(ra 0 17),(ra 0 17),(ra 0 17++[18]),(ra 0 20),(ra 0 21),(ra 0 22),(ra 0 17),(ra 0 17++[23]),(ra 0 25),(ra 0 26),(ra 0 27)] [] (by kernel_rfl) [_,vi l[k].kind,_,_,_,_,_,_,.slice (some ⟨bo,0,none⟩) out.length vc,_,vi ((out.length - 1:Nat):Int),_,_,vi pk.2,_,_,_,.slice (some ⟨bo,0,none⟩) out.length vc,_,vi ((out.length - 1:Nat):Int),_,_,oW pk.1 pp pd pl,_,oW l[k].head (.slice a1 a2 a3) (.slice a4 a5 a6) (.slice a7 a8 a9),.bool (decide (pk.1=l[k].head)),_,_] H (aF (Z0 rfl (Rf Bu rfl)) (Z1 0 53 rfl (Ro bR 0 rfl)) (Z1 1 54 rfl (Rc rfl)) (Z1 2 55 rfl (Rm rfl)) (aF (Z1 3 56 rfl (YM (aK c1) rfl)) (Z2 4 57 3 56 rfl (YC (aK c1) rfl)) (Z2 3 56 5 58 rfl (Pt (aK c1) rfl)) (Z1 6 59 rfl (Rm rfl)) (aF ?_ (Z1 7 60 rfl (YM (aK c2) rfl)) ?_ (Z3 8 61 10 63 7 60 rfl (YI nT fZ (aK c2) rfl rfl)) (aF (Z2 11 64 7 60 rfl (YF Bu (aK c2) rfl)) ?_ (Z2 13 66 7 60 rfl (YC (aK c2) rfl)) (Z2 7 60 14 67 rfl (Pt (aK c2) rfl)) (aF (Z1 15 68 rfl (Rm rfl)) ?_ (Z1 16 69 rfl (YM (aK c3) rfl)) ?_ (aF (Z3 17 70 19 72 16 69 rfl (YI nT fZ (aK c3) rfl rfl)) (Z2 20 73 16 69 rfl (YF GV (aK c3) rfl)) ?_ (Z1 16 69 rfl (YF GV (aK c3) rfl)) (aF ?_ ?_ (Z2 16 69 25 78 rfl (Pt (aK c3) rfl)) (Z1 26 79 rfl (Ra rfl)) cO))))))) ?_
              · refine dZ 7 60 rfl rfl fun _ a w G1 hG HT H fin=>?_;refine aD 1 H ?_;clear H;intro a H;exact fin H iJ (by show _=_;first|rfl|exact aB (fun A=>Value.slice A out.length vc) (Kq c2))
              · refine dD 9 62 7 60 rfl rfl fun _ a w G1 hG HT H fin=>?_;refine lK _ H (wg H rfl rfl (aK c2)) rfl rfl rfl (by omega) (by omega) rfl ?_;clear H;intro a H;exact fin H iJ (by show _=_;first|rfl|exact aB vi (by omega))
              · refine dD 12 65 7 60 rfl rfl fun _ a w G1 hG HT H fin=>?_;obtain ⟨_,_,_,_,_,_,rfl,_,_,_,_,_,_,_,_,hx⟩:=vP c2;refine iC bR H (wg H rfl rfl (aK c2)) rfl (hrw.at H.hp (fun x hx=>gB _ hx) (by rw [fU];exact hx 0 _ rfl)) rfl ?_;clear H;intro a H;exact fin H iJ rfl
              · refine dZ 16 69 rfl rfl fun _ a w G1 hG HT H fin=>?_;refine aD 1 H ?_;clear H;intro a H;exact fin H iJ (by show _=_;first|rfl|exact aB (fun A=>Value.slice A out.length vc) (Kq c2))
              · refine dD 18 71 16 69 rfl rfl fun _ a w G1 hG HT H fin=>?_;refine lK _ H (wg H rfl rfl (aK c3)) rfl rfl rfl (by omega) (by omega) rfl ?_;clear H;intro a H;exact fin H iJ (by show _=_;first|rfl|exact aB vi (by omega))
              · refine dD 21 74 16 69 rfl rfl fun _ a w G1 hG HT H fin=>?_;obtain ⟨_,_,_,_,_,_,rfl,_,_,_,_,_,_,_,_,hx⟩:=vP c2
                refine aR dw (cs:=[pp,vi pk.1.marks.ins,vi pk.1.marks.move,pd,pl]) H (wg H rfl rfl (aK c3)) rfl rfl (fun j u hj=>hrw.at H.hp (fun x hx=>gB _ hx) (by
                    rw [fU,Nat.add_assoc];refine hx (4+j) u ?_
                    match j,hj with
                    | 0,hj=>exact hj
                    | 1,hj=>exact hj
                    | 2,hj=>exact hj
                    | 3,hj=>exact hj
                    | 4,hj=>exact hj)) rfl ?_;clear H;intro a H
                exact fin H iJ rfl
              · refine dD 23 76 16 69 rfl rfl fun _ a w G1 hG HT H fin=>?_;refine aR dw (cs:=[_,_,_,_,_]) H (wg H rfl rfl (aK c3)) rfl rfl (H.hp.bO 0 rfl rfl) rfl ?_;clear H;intro a H;exact fin H iJ rfl
              · refine xA 22 75 24 77 16 69 rfl rfl fun _ a w G1 hG HT H fin=>?_;refine s_call GI H (wg H rfl rfl (aK c3)) rfl (GK _ _ H.ro pk.1 l[k].head _ _ _ _ _ _ (by obtain ⟨_,_,_,_,_,_,_,e,_,_,_,_,hh,_⟩:=vP c2;rw [e];exact hh.mono hG) (Hq.mono fun b o h=>hG b o (kK b o (Db b o (qF b o h))))) rfl ?_;clear H;rintro v78 G78 a w rfl R7 H;exact fin H R7 (rfl)
              clear H;intro a w G kZ H hv;have H:=H.aN (hv 27 52 rfl rfl) rfl;clear hv;refine aC ⟨rfl,?_⟩;refine ⟨(_,_),sB,?_⟩;(try dsimp only);refine ⟨fun h=>by first|exact absurd h (by decide)|exact ⟨c1,c2,c3,mE h⟩,fun h=>?_,kZ⟩
              first
                | exact absurd ((aK c4).symm.trans h) (by decide)
                | (rw [hos]
                   refine CK hnd fun o2 z2 e2 hj=>?_;rw [rT,hyk,Ie] at hj;obtain ⟨j1,j2,j3⟩:=hj
                   first
                     | exact c1 j1
                     | (have c2':0 < (out.length:Int):=by rw [e2,iA,List.length_singleton];omega
                        obtain ⟨o,z,_,_,_,e,_,vB,_⟩:=vP c2';obtain ⟨-,ez⟩:=List.append_inj' (e2.symm.trans e) rfl
                        injection ez with ez
                        subst ez
                        first
                          | exact c2 c2'
                          | exact c3 (by rw [vB];exact j2)
                          | exact c4 (by rw [vB];exact j3)))
            refine dI hmx [[],[0],[0,1],[0,1,2],(ra 0 4),(ra 0 5),(ra 0 6),(ra 0 7),(ra 0 8),(ra 0 8),(ra 0 8++[9]),(ra 0 11),(ra 0 12),(ra 0 13),(ra 0 14),(ra 0 15),(ra 0 16),(ra 0 17),(ra 0 17),(ra 0 17++[18]),(ra 0 20),(ra 0 21),(ra 0 22),(ra 0 17),(ra 0 17++[23]),(ra 0 25),(ra 0 26),(ra 0 27)] [] (by kernel_rfl) [_,vi l[k].kind,_,_,_,_,_,_,.slice (some ⟨bo,0,none⟩) out.length vc,_,vi ((out.length - 1:Nat):Int),_,_,vi pk.2,_,_,_,.slice (some ⟨bo,0,none⟩) out.length vc,_,vi ((out.length - 1:Nat):Int),_,_,oW pk.1 pp pd pl,_,oW l[k].head (.slice a1 a2 a3) (.slice a4 a5 a6) (.slice a7 a8 a9),.bool (decide (pk.1=l[k].head)),_,_] H (aF (Z0 rfl (Rf Bu rfl)) (Z1 0 53 rfl (Ro bR 0 rfl)) (Z1 1 54 rfl (Rc rfl)) (Z1 2 55 rfl (Rm rfl)) (aF (Z1 3 56 rfl (YM (aK c1) rfl)) (Z2 4 57 3 56 rfl (YC (aK c1) rfl)) (Z2 3 56 5 58 rfl (Pt (aK c1) rfl)) (Z1 6 59 rfl (Rm rfl)) (aF ?_ (Z1 7 60 rfl (YM (aK c2) rfl)) ?_ (Z3 8 61 10 63 7 60 rfl (YI nT fZ (aK c2) rfl rfl)) (aF (Z2 11 64 7 60 rfl (YF Bu (aK c2) rfl)) ?_ (Z2 13 66 7 60 rfl (YC (aK c2) rfl)) (Z2 7 60 14 67 rfl (Pt (aK c2) rfl)) (aF (Z1 15 68 rfl (Rm rfl)) ?_ (Z1 16 69 rfl (YM (aK c3) rfl)) ?_ (aF (Z3 17 70 19 72 16 69 rfl (YI nT fZ (aK c3) rfl rfl)) (Z2 20 73 16 69 rfl (YF GV (aK c3) rfl)) ?_ (Z1 16 69 rfl (YF GV (aK c3) rfl)) (aF ?_ ?_ (Z2 16 69 25 78 rfl (Pt (aK c3) rfl)) (Z1 26 79 rfl (Ra rfl)) cO))))))) ?_
            · refine dZ 7 60 rfl rfl fun _ a w G1 hG HT H fin=>?_;refine aD 1 H ?_;clear H;intro a H;exact fin H iJ (by show _=_;first|rfl|exact aB (fun A=>Value.slice A out.length vc) (Kq c2))
            · refine dD 9 62 7 60 rfl rfl fun _ a w G1 hG HT H fin=>?_;refine lK _ H (wg H rfl rfl (aK c2)) rfl rfl rfl (by omega) (by omega) rfl ?_;clear H;intro a H;exact fin H iJ (by show _=_;first|rfl|exact aB vi (by omega))
            · refine dD 12 65 7 60 rfl rfl fun _ a w G1 hG HT H fin=>?_;obtain ⟨_,_,_,_,_,_,rfl,_,_,_,_,_,_,_,_,hx⟩:=vP c2;refine iC bR H (wg H rfl rfl (aK c2)) rfl (hrw.at H.hp (fun x hx=>gB _ hx) (by rw [fU];exact hx 0 _ rfl)) rfl ?_;clear H;intro a H;exact fin H iJ rfl
            · refine dZ 16 69 rfl rfl fun _ a w G1 hG HT H fin=>?_;refine aD 1 H ?_;clear H;intro a H;exact fin H iJ (by show _=_;first|rfl|exact aB (fun A=>Value.slice A out.length vc) (Kq c2))
            · refine dD 18 71 16 69 rfl rfl fun _ a w G1 hG HT H fin=>?_;refine lK _ H (wg H rfl rfl (aK c3)) rfl rfl rfl (by omega) (by omega) rfl ?_;clear H;intro a H;exact fin H iJ (by show _=_;first|rfl|exact aB vi (by omega))
            · refine dD 21 74 16 69 rfl rfl fun _ a w G1 hG HT H fin=>?_;obtain ⟨_,_,_,_,_,_,rfl,_,_,_,_,_,_,_,_,hx⟩:=vP c2
              refine aR dw (cs:=[pp,vi pk.1.marks.ins,vi pk.1.marks.move,pd,pl]) H (wg H rfl rfl (aK c3)) rfl rfl (fun j u hj=>hrw.at H.hp (fun x hx=>gB _ hx) (by
                  rw [fU,Nat.add_assoc];refine hx (4+j) u ?_
                  match j,hj with
                  | 0,hj=>exact hj
                  | 1,hj=>exact hj
                  | 2,hj=>exact hj
                  | 3,hj=>exact hj
                  | 4,hj=>exact hj)) rfl ?_;clear H;intro a H
              exact fin H iJ rfl
            · refine dD 23 76 16 69 rfl rfl fun _ a w G1 hG HT H fin=>?_;refine aR dw (cs:=[_,_,_,_,_]) H (wg H rfl rfl (aK c3)) rfl rfl (H.hp.bO 0 rfl rfl) rfl ?_;clear H;intro a H;exact fin H iJ rfl
            · refine xA 22 75 24 77 16 69 rfl rfl fun _ a w G1 hG HT H fin=>?_;refine s_call GI H (wg H rfl rfl (aK c3)) rfl (GK _ _ H.ro pk.1 l[k].head _ _ _ _ _ _ (by obtain ⟨_,_,_,_,_,_,_,e,_,_,_,_,hh,_⟩:=vP c2;rw [e];exact hh.mono hG) (Hq.mono fun b o h=>hG b o (kK b o (Db b o (qF b o h))))) rfl ?_;clear H;rintro v78 G78 a w rfl R7 H;exact fin H R7 (rfl)
            clear H;intro a w G kZ H hv;have H:=H.aN (hv 27 52 rfl rfl) rfl;clear hv;refine aC ⟨rfl,?_⟩;refine ⟨(_,_),sB,?_⟩;(try dsimp only);refine ⟨fun h=>by first|exact absurd h (by decide)|exact ⟨c1,c2,c3,mE h⟩,fun h=>?_,kZ⟩
            first
              | exact absurd ((aK c4).symm.trans h) (by decide)
              | (rw [hos]
                 refine CK hnd fun o2 z2 e2 hj=>?_;rw [rT,hyk,Ie] at hj;obtain ⟨j1,j2,j3⟩:=hj
                 first
                   | exact c1 j1
                   | (have c2':0 < (out.length:Int):=by rw [e2,iA,List.length_singleton];omega
                      obtain ⟨o,z,_,_,_,e,_,vB,_⟩:=vP c2';obtain ⟨-,ez⟩:=List.append_inj' (e2.symm.trans e) rfl
                      injection ez with ez
                      subst ez
                      first
                        | exact c2 c2'
                        | exact c3 (by rw [vB];exact j2)
                        | exact c4 (by rw [vB];exact j3)))
          refine dI hmx [[],[0],[0,1],[0,1,2],(ra 0 4),(ra 0 5),(ra 0 6),(ra 0 7),(ra 0 8),(ra 0 8),(ra 0 8++[9]),(ra 0 11),(ra 0 12),(ra 0 13),(ra 0 14),(ra 0 15),(ra 0 16),(ra 0 17),(ra 0 17),(ra 0 17++[18]),(ra 0 20),(ra 0 21),(ra 0 22),(ra 0 17),(ra 0 17++[23]),(ra 0 25),(ra 0 26),(ra 0 27)] [] (by kernel_rfl) [_,vi l[k].kind,_,_,_,_,_,_,.slice (some ⟨bo,0,none⟩) out.length vc,_,vi ((out.length - 1:Nat):Int),_,_,vi pk.2,_,_,_,undef,undef,undef,undef,undef,undef,undef,undef,undef,_,_] H (aF (Z0 rfl (Rf Bu rfl)) (Z1 0 53 rfl (Ro bR 0 rfl)) (Z1 1 54 rfl (Rc rfl)) (Z1 2 55 rfl (Rm rfl)) (aF (Z1 3 56 rfl (YM (aK c1) rfl)) (Z2 4 57 3 56 rfl (YC (aK c1) rfl)) (Z2 3 56 5 58 rfl (Pt (aK c1) rfl)) (Z1 6 59 rfl (Rm rfl)) (aF ?_ (Z1 7 60 rfl (YM (aK c2) rfl)) ?_ (Z3 8 61 10 63 7 60 rfl (YI nT fZ (aK c2) rfl rfl)) (aF (Z2 11 64 7 60 rfl (YF Bu (aK c2) rfl)) ?_ (Z2 13 66 7 60 rfl (YC (aK c2) rfl)) (Z2 7 60 14 67 rfl (Pt (aK c2) rfl)) (aF (Z1 15 68 rfl (Rm rfl)) (aY 16 (bD c3) rfl rfl) (aY 16 (bD c3) rfl rfl) (aY 16 (bD c3) rfl rfl) (aF (aY 16 (bD c3) rfl rfl) (aY 16 (bD c3) rfl rfl) (aY 16 (bD c3) rfl rfl) (aY 16 (bD c3) rfl rfl) (aF (aY 16 (bD c3) rfl rfl) (aY 16 (bD c3) rfl rfl) (Z2 16 69 25 78 rfl (Pf (bD c3) rfl)) (Z1 26 79 rfl (Ra rfl)) cO))))))) ?_
          · refine dZ 7 60 rfl rfl fun _ a w G1 hG HT H fin=>?_;refine aD 1 H ?_;clear H;intro a H;exact fin H iJ (by show _=_;first|rfl|exact aB (fun A=>Value.slice A out.length vc) (Kq c2))
          · refine dD 9 62 7 60 rfl rfl fun _ a w G1 hG HT H fin=>?_;refine lK _ H (wg H rfl rfl (aK c2)) rfl rfl rfl (by omega) (by omega) rfl ?_;clear H;intro a H;exact fin H iJ (by show _=_;first|rfl|exact aB vi (by omega))
          · refine dD 12 65 7 60 rfl rfl fun _ a w G1 hG HT H fin=>?_;obtain ⟨_,_,_,_,_,_,rfl,_,_,_,_,_,_,_,_,hx⟩:=vP c2;refine iC bR H (wg H rfl rfl (aK c2)) rfl (hrw.at H.hp (fun x hx=>gB _ hx) (by rw [fU];exact hx 0 _ rfl)) rfl ?_;clear H;intro a H;exact fin H iJ rfl
          clear H;intro a w G kZ H hv;have H:=H.aN (hv 27 52 rfl rfl) rfl;clear hv;refine aC ⟨rfl,?_⟩;refine ⟨(_,_),sB,?_⟩;(try dsimp only);refine ⟨fun h=>by first|exact absurd h (by decide)|exact ⟨c1,c2,c3,mE h⟩,fun h=>?_,kZ⟩
          first
            | exact absurd ((aK c4).symm.trans h) (by decide)
            | (rw [hos]
               refine CK hnd fun o2 z2 e2 hj=>?_;rw [rT,hyk,Ie] at hj;obtain ⟨j1,j2,j3⟩:=hj
               first
                 | exact c1 j1
                 | (have c2':0 < (out.length:Int):=by rw [e2,iA,List.length_singleton];omega
                    obtain ⟨o,z,_,_,_,e,_,vB,_⟩:=vP c2';obtain ⟨-,ez⟩:=List.append_inj' (e2.symm.trans e) rfl
                    injection ez with ez
                    subst ez
                    first
                      | exact c2 c2'
                      | exact c3 (by rw [vB];exact j2)
                      | exact c4 (by rw [vB];exact j3)))
        refine dI hmx [[],[0],[0,1],[0,1,2],(ra 0 4),(ra 0 5),(ra 0 6),(ra 0 7),(ra 0 8),(ra 0 8),(ra 0 8++[9]),(ra 0 11),(ra 0 12),(ra 0 13),(ra 0 14),(ra 0 15),(ra 0 16),(ra 0 17),(ra 0 17),(ra 0 17++[18]),(ra 0 20),(ra 0 21),(ra 0 22),(ra 0 17),(ra 0 17++[23]),(ra 0 25),(ra 0 26),(ra 0 27)] [] (by kernel_rfl) [_,vi l[k].kind,_,_,_,_,_,_,undef,undef,undef,undef,undef,undef,undef,_,_,undef,undef,undef,undef,undef,undef,undef,undef,undef,_,_] H (aF (Z0 rfl (Rf Bu rfl)) (Z1 0 53 rfl (Ro bR 0 rfl)) (Z1 1 54 rfl (Rc rfl)) (Z1 2 55 rfl (Rm rfl)) (aF (Z1 3 56 rfl (YM (aK c1) rfl)) (Z2 4 57 3 56 rfl (YC (aK c1) rfl)) (Z2 3 56 5 58 rfl (Pt (aK c1) rfl)) (Z1 6 59 rfl (Rm rfl)) (aF (aY 7 (bD c2) rfl rfl) (aY 7 (bD c2) rfl rfl) (aY 7 (bD c2) rfl rfl) (aY 7 (bD c2) rfl rfl) (aF (aY 7 (bD c2) rfl rfl) (aY 7 (bD c2) rfl rfl) (aY 7 (bD c2) rfl rfl) (Z2 7 60 14 67 rfl (Pf (bD c2) rfl)) (aF (Z1 15 68 rfl (Rm rfl)) (aY 16 rfl rfl rfl) (aY 16 rfl rfl rfl) (aY 16 rfl rfl rfl) (aF (aY 16 rfl rfl rfl) (aY 16 rfl rfl rfl) (aY 16 rfl rfl rfl) (aY 16 rfl rfl rfl) (aF (aY 16 rfl rfl rfl) (aY 16 rfl rfl rfl) (Z2 16 69 25 78 rfl (Pf rfl rfl)) (Z1 26 79 rfl (Ra rfl)) cO))))))) ?_
        clear H;intro a w G kZ H hv;have H:=H.aN (hv 27 52 rfl rfl) rfl;clear hv;refine aC ⟨rfl,?_⟩;refine ⟨(_,_),sB,?_⟩;(try dsimp only);refine ⟨fun h=>by first|exact absurd h (by decide)|exact ⟨c1,c2,c3,mE h⟩,fun h=>?_,kZ⟩
        first
          | exact absurd ((aK c4).symm.trans h) (by decide)
          | (rw [hos]
             refine CK hnd fun o2 z2 e2 hj=>?_;rw [rT,hyk,Ie] at hj;obtain ⟨j1,j2,j3⟩:=hj
             first
               | exact c1 j1
               | (have c2':0 < (out.length:Int):=by rw [e2,iA,List.length_singleton];omega
                  obtain ⟨o,z,_,_,_,e,_,vB,_⟩:=vP c2';obtain ⟨-,ez⟩:=List.append_inj' (e2.symm.trans e) rfl
                  injection ez with ez
                  subst ez
                  first
                    | exact c2 c2'
                    | exact c3 (by rw [vB];exact j2)
                    | exact c4 (by rw [vB];exact j3)))
      refine dI hmx [[],[0],[0,1],[0,1,2],(ra 0 4),(ra 0 5),(ra 0 6),(ra 0 7),(ra 0 8),(ra 0 8),(ra 0 8++[9]),(ra 0 11),(ra 0 12),(ra 0 13),(ra 0 14),(ra 0 15),(ra 0 16),(ra 0 17),(ra 0 17),(ra 0 17++[18]),(ra 0 20),(ra 0 21),(ra 0 22),(ra 0 17),(ra 0 17++[23]),(ra 0 25),(ra 0 26),(ra 0 27)] [] (by kernel_rfl) [_,vi l[k].kind,_,_,undef,undef,_,_,undef,undef,undef,undef,undef,undef,undef,_,_,undef,undef,undef,undef,undef,undef,undef,undef,undef,_,_] H (aF (Z0 rfl (Rf Bu rfl)) (Z1 0 53 rfl (Ro bR 0 rfl)) (Z1 1 54 rfl (Rc rfl)) (Z1 2 55 rfl (Rm rfl)) (aF (aY 3 (bD c1) rfl rfl) (aY 3 (bD c1) rfl rfl) (Z2 3 56 5 58 rfl (Pf (bD c1) rfl)) (Z1 6 59 rfl (Rm rfl)) (aF (aY 7 rfl rfl rfl) (aY 7 rfl rfl rfl) (aY 7 rfl rfl rfl) (aY 7 rfl rfl rfl) (aF (aY 7 rfl rfl rfl) (aY 7 rfl rfl rfl) (aY 7 rfl rfl rfl) (Z2 7 60 14 67 rfl (Pf rfl rfl)) (aF (Z1 15 68 rfl (Rm rfl)) (aY 16 rfl rfl rfl) (aY 16 rfl rfl rfl) (aY 16 rfl rfl rfl) (aF (aY 16 rfl rfl rfl) (aY 16 rfl rfl rfl) (aY 16 rfl rfl rfl) (aY 16 rfl rfl rfl) (aF (aY 16 rfl rfl rfl) (aY 16 rfl rfl rfl) (Z2 16 69 25 78 rfl (Pf rfl rfl)) (Z1 26 79 rfl (Ra rfl)) cO))))))) ?_
      clear H;intro a w G kZ H hv;have H:=H.aN (hv 27 52 rfl rfl) rfl;clear hv;refine aC ⟨rfl,?_⟩;refine ⟨(_,_),sB,?_⟩;(try dsimp only);refine ⟨fun h=>by first|exact absurd h (by decide)|exact ⟨c1,c2,c3,mE h⟩,fun h=>?_,kZ⟩
      first
        | exact absurd ((aK c4).symm.trans h) (by decide)
        | (rw [hos]
           refine CK hnd fun o2 z2 e2 hj=>?_;rw [rT,hyk,Ie] at hj;obtain ⟨j1,j2,j3⟩:=hj
           first
             | exact c1 j1
             | (have c2':0 < (out.length:Int):=by rw [e2,iA,List.length_singleton];omega
                obtain ⟨o,z,_,_,_,e,_,vB,_⟩:=vP c2';obtain ⟨-,ez⟩:=List.append_inj' (e2.symm.trans e) rfl
                injection ez with ez
                subst ez
                first
                  | exact c2 c2'
                  | exact c3 (by rw [vB];exact j2)
                  | exact c4 (by rw [vB];exact j3)))
    clear H;rintro ⟨jb,g9⟩ a w hI H;dsimp only at hI H;obtain ⟨hjy,hjn,tF⟩:=hI;have akY:=Nr.mono tF;have wN:=ZK.mono tF;have Y9:∀ b o,G b=some o→g9 b=some o:=fun b o h=>tF b o (Y8 b o h);dsimp only [lca,bG] at H;refine dO 0 H ?_ ?_ <;> clear H
    · intro p52
      obtain ⟨c1,c2,c3,c4⟩:=hjy (by assumption);obtain ⟨oo,z,x0,zf,zr,NM,rfl,rfl,rfl,hxs,hxl,hc0,hhz,hfz,hrz,hxj⟩:=vP c2
      have hzt:z.text.size≤mZ out:=by
        rw [NM,Fz];simp only [mZ];omega
      obtain ⟨cur,-,rfl,hcur,hset⟩:=hrw.set1;intro a H;refine dI hmx [[],[],[1],[0,1,2],(ra 0 4),(ra 0 5),[],[6],(ra 0 8),(ra 0 9),(ra 0 10),(ra 0 11)] [9,10,11] (by kernel_rfl) [_,_,vi ((out.length - 1:Nat):Int),_,_,.string z.text,_,.string l[k].text,.string (z.text++l[k].text)] H (aF (Z0 rfl (Rm rfl)) (Z0 rfl (Rm rfl)) ?_ (Z2 0 80 2 82 rfl (Ri nT fZ rfl rfl)) (aF (Z1 3 83 rfl (Rf GU rfl)) ?_ (Z0 rfl (Rf GU rfl)) (Z1 6 86 rfl (Ro mh 0 rfl)) (aF ?_ (bQ rfl) (bQ rfl) (bQ rfl) cO))) ?_
      · refine dZ 1 81 rfl rfl fun _ a w G1 hG HT H fin=>?_;refine aD 1 H ?_;clear H;intro a H;exact fin H iJ (by show _=_;first|rfl|exact aB vi (by omega))
      · refine dZ 4 84 rfl rfl fun _ a w G1 hG HT H fin=>?_;refine iC mh H wn rfl (hrw.at H.hp (fun x hx=>gB _ hx) (by rw [fU];exact hxj 3 _ rfl)) rfl ?_;clear H;intro a H;exact fin H iJ rfl
      · refine dD 5 85 7 87 rfl rfl fun _ a w G1 hG HT H fin=>?_;refine apW H wn rfl rfl (by omega) rfl ?_;clear H;intro a H;exact fin H iJ rfl
      clear H;intro a w G mV H hv;have H:=H.aN (hv 0 80 rfl rfl) rfl;have H:=H.aN (hv 2 82 rfl rfl) rfl;have H:=H.aN (hv 8 88 rfl rfl) rfl;clear hv;refine kH H (Ri nT fZ rfl rfl (Rf GU rfl ?_));clear H;intro a H;refine aX mh 1 (c:=cur) (vs:=[.string (z.text++l[k].text)]) (cur.set ((out.length - 1)*11+3) (.string (z.text++l[k].text))) H wn rfl rfl rfl rfl rfl rfl (by simp;omega) (by rw [fU];rfl) ?_;clear H;intro w H;dsimp only [List.set] at H;have amo:=hset ((out.length - 1)*11+3) (.string (z.text++l[k].text))
      have Zw:rW l (k+1)=oo++[qb z y]:=by rw [hos,NM];exact Mk hnd ⟨by rw [hyk];exact c1,c3,by rw [Ie];exact c4⟩
      refine aC ⟨rfl,?_⟩;refine dQ ?_;refine fM 3 H ?_;clear H;intro a H;refine aC ?_;refine cB ((k+1,_,xs.set ((out.length - 1)*11+3) (.string (z.text++l[k].text)),_,_)) (by exact (H.dY (Pl:=[_]) (dJ:=[]) [] (by decide) rfl).sub ⟨rfl,rfl,rfl,rfl,bq⟩) ?_ ?_
      · (try dsimp only);exact ⟨by omega,by rw [Zw,show (oo++[qb z y]).length=out.length by rw [NM];simp];exact amo,by rw [Zw,hxs,NM];exact joined (hc0.mono fun b o h=>mV b o (tF b o h)) hxl (hhz.mono fun b o h=>mV b o (tF b o h)) (hfz.mono fun b o h=>mV b o (tF b o h)) (hrz.mono fun b o h=>mV b o (tF b o h)) (by rw [Kr]),fun b o h=>mV b o (Y9 b o h)⟩
      first|omega|(dsimp only;omega)
    intro p52
    have hnx:=hjn (by assumption);refine ak 2 ?_;intro a H;refine aR fZ (cs:=[_,_,_,_,_,_,_,_,_,_,_]) H wn rfl rfl (H.hp.bO 0 rfl rfl) rfl ?_;clear H;intro a H;refine gG nT fZ [_,_,_,_,_,_,_,_,_,_,_] [_,_,_,_,_,_,_,_,_,_,_] H wn rfl rfl rfl rfl rfl (by intro i q h;match i,h with|0,h=>exact h|n+1,h=>simp at h) rfl rfl ?_;clear H;intro WB a w akJ H;refine lJ (Li:=[_,_]) (Lo:=Lo) (news:=Qy) nT fZ rfl rfl H wn rfl rfl hrw (by rw [Nt];rfl) (by rw [Nt];exact H.hp.bO 0 rfl rfl) ZK.one (by omega) (by omega) rfl ?_;clear H;intro v31 adp a w NS H;refine aD 5 H ?_;clear H;intro a H;refine aC ?_;refine cB ((k+1,v31,xs++Qy,adp,_)) (by exact (H.dY (Pl:=[_,_]) (dJ:=[]) [] (by decide) rfl).sub ⟨rfl,rfl,rfl,rfl,bq⟩) ?_ ?_
    · (try dsimp only);exact ⟨by omega,by rw [hnx,iA];exact NS,by rw [hnx,kM];exact (akY.snoc wN (by rw [Nt];rfl)),Y9⟩
    first|omega|(dsimp only;omega)
  intro gX
  refine ak 1 ?_
  obtain rfl:k=l.length:=by omega
  intro a H;obtain ⟨G',hm,hrep,H⟩:=H.mR (Li:=[]) hrw (rows:=out.map ay.dat) (by simp) dV;refine uy 4 H ?_;rw [lX,← hout];exact hrep
theorem aaO:∀ n:Nat,n≤1073741825→Ed n
 | 0,_=>fun _ _ _ _ _ _ _ h=>absurd h (by omega)
 | n+1,hn=>aog (aaO n (by omega)) (by omega)
theorem aoi (G:GH) (w0:World) (hG:Hold G w0) (l:List ay) (v:aj) (hv:au G (.sl 11 (l.map ay.dat)) v) (hne:tN l) (hz:bZ l≤1073741824) :
  Calls prog 58 #[v] w0 (bC w0 G fun u G'=>au G' (.sl 11 ((lX l).map ay.dat)) u):=aaO 1073741825 (by omega) G w0 hG l v hv hne (by omega)
end
section
open Go.RowKit
theorem aik:∀ args w,(callFunc 59 args).run prog w=.ok (.enter 59 args) w:=enters func59 rfl (by kernel_rfl)
theorem ain:∀ args w,(callFunc 63 args).run prog w=.ok (.enter 63 args) w:=enters func63 rfl (by kernel_rfl)
theorem ail:∀ args w,(callFunc 61 args).run prog w=.ok (.enter 61 args) w:=enters func61 rfl (by kernel_rfl)
theorem arQ {G:GH} {b3:Nat} {us:List Int} {uv:aj} (hb:aI G b3 0=some uv) (hu:au G (.sl 1 (us.map fun k=>[li k])) uv) (hl:us.length≤4294967296) (x:bX):qY (.func (.func 61) #[] #[(aG b3 0)]) G x.dat (!nM us x.id):=by
 intro G1 w0 cs hm hG hr;obtain rfl:=KM hr;replace hb:=aH hm hb;replace hu:=hu.mono hm;obtain ⟨uA,uc,rfl,-,-,-⟩:=hu.slice;refine iM (caps:=[(aG b3 0)]) ail ?_;refine eN [(0,_),(1,_)] func61 rfl ntmps61 rfl rfl hG ?_;refine ak 1 ?_;intro a H;refine dP (cs:=[_,_,_]) H wn rfl rfl rfl ?_;clear H;intro b2 a w hb2 H;refine aD 6 H ?_;clear H;intro a H;refine s_call X6 H wn rfl (WG _ _ H.ro us x.id _ hu hl) rfl ?_;clear H;rintro v10 zO a w ⟨rfl,rfl⟩ BH H;refine aD 1 H ?_;clear H;intro a H;(iterate 2 refine jY H wn rfl rfl rfl ?_;clear H;intro a H);refine fu 8 H ?_;exact rfl
def xQ (d:gI):gI:=⟨lX d.flow,d.fin,d.revs,d.gZ⟩
def nD (d:gI):gI:=⟨lX d.flow,d.fin,d.revs.filter fun r=>nM (Cn (qW (xQ d))) r.id,d.gZ⟩
theorem apt (G:GH) (l:List bX):bU G 3 (l.map bX.dat) (nH l):=by
 have h:∀ (B A:List bX),bU G 3 (A.map bX.dat) (nH A)→bU G 3 ((A++B).map bX.dat) (nH (A++B)):=by
  intro B
  induction B with
  | nil=>intro A h;rw [gu];exact h
  | cons x B ih =>
   intro A h;have h2:=h.snoc (KN G x) rfl;have h3:=ih (A++[x]) (by rw [UQ,kM];exact h2)
   simpa using h3
 exact h l [] bU.nil
set_option maxRecDepth 8000 in
theorem Xy (G:GH) (w0:World) (hG:Hold G w0) (D:iE) (d:gI) (hR:jP G D d) (hz:xk d) (hne:tN d.flow) (hz2:bZ (lX d.flow)≤1073741824) (hw:∀ k∈qW (xQ d),-9223372036854775808≤k∧k < 9223372036854775808) (hl:(qW (xQ d)).length≤4294967296) :
  Calls prog 17 #[D.val] w0 (bC w0 G fun u G'=>∃ D':iE,u=D'.val∧jP G' D' (nD d)):=by
 obtain ⟨df,dp,dd,dy,dr,d1,d2,d3,d4,ins,mv⟩:=D;obtain ⟨zf,zh,zr,zt,zs,FP⟩:=hz;refine eN [(0,_)] func17 rfl ntmps17 rfl rfl hG ?_;refine ak 1 ?_;intro a H;refine dP (cs:=[_,_,_,_,_,_,_,_,_,_,_]) H wn rfl rfl rfl ?_;clear H;intro b1 a w hb1 H;refine dz iq H wn rfl ?_;clear H;intro b2 a w hb2 H;refine aD 4 H ?_;clear H;intro a H;refine s_call QX H wn rfl (aoi _ _ H.ro d.flow _ hR.fl hne zf) rfl ?_;clear H;rintro v6 G6 a w hv6 EK H;obtain ⟨fA,fn,fc,rfl⟩:=hv6.form;have yT:jP G6 ⟨(fA,fn,fc),dp,dd,dy,dr,d1,d2,d3,d4,ins,mv⟩ (xQ d):=⟨hv6,hR.hd.mono EK,hR.ins,hR.mv,hR.rv.mono EK,hR.st.mono EK⟩;refine aD 1 H ?_;clear H;intro a H;refine aX pG 1 (vs:=[_]) _ H wn rfl rfl rfl rfl rfl rfl rfl rfl ?_;clear H;intro w H;dsimp only [List.set,setRow] at H;refine aD 2 H ?_;clear H;intro a H;refine aR iq (cs:=(⟨(fA,fn,fc),dp,dd,dy,dr,d1,d2,d3,d4,ins,mv⟩:iE).cells) H wn rfl rfl (H.hp.bO 1 rfl rfl) rfl ?_;clear H;intro a H;refine s_call ahW H wn rfl (afE _ _ H.ro _ _ yT (by show bZ (lX d.flow)≤_;omega) hw hl) rfl ?_;clear H;rintro v9 G9 a w NV zk H;obtain ⟨uA,un,uc,rfl⟩:=NV.form;refine dz AX H wn rfl ?_;clear H;intro b3 a w hb3 H;refine aX AX 0 (vs:=[_]) _ H wn rfl rfl rfl rfl rfl rfl rfl rfl ?_;clear H;intro w H;dsimp only [List.set,setRow] at H;refine aC ?_;refine dQ ?_;obtain ⟨Gb,hmb,rJ,H⟩:=H.eu;have hq3:aI Gb b3 0=some (.slice uA un uc):=kW rJ 0 [.slice uA un uc] rfl 0 _ rfl;replace NV:=NV.mono hmb;replace yT:=(yT.mono zk).mono hmb;refine fM 3 H ?_;clear H;intro a H;refine gy X5 (Li:=[_,_]) (L:=[]) H wn rfl (Xb _ _ (wS H.ro) _ _ _ _ yT.rv (by simpa [xQ] using zr)) rfl ?_;clear H;rintro v12 Bf L12 a w ⟨aug,Tj,akV⟩ BJ H;obtain rfl:=apu akV;rw [bM] at Tj;obtain ⟨rA,rc,rfl,-,-⟩:=Tj.shape;refine nQ H wn rfl rfl ?_;clear H;intro a H;refine gy aik (Li:=[_,_]) (L:=L12) H wn rfl (afC d.revs (fun r=>!nM (Cn (qW (xQ d))) r.id) (Hp.owns (Li:=[_,_]) H.hp) Tj (fun x _=>arQ (aH BJ hq3) (NV.mono BJ) (by rw [Cn,List.length_mergeSort];exact hl) x)) rfl ?_;clear H;rintro v14 zP L14 a w Kj wK H
 simp only [Bool.not_not] at Kj
 obtain ⟨Gr,hmr,ZP,H⟩:=St.mR (Li:=[_,_]) H Kj (rows:=(nD d).revs.map bX.dat) (by simp [nD]) (apt _ _);obtain ⟨rB,rn,rd,rfl⟩:=ZP.form;replace yT:=((yT.mono BJ).mono wK).mono hmr;have hR2:jP Gr ⟨(fA,fn,fc),dp,dd,dy,(rB,rn,rd),d1,d2,d3,d4,ins,mv⟩ (nD d):=⟨yT.fl,yT.hd,yT.ins,yT.mv,ZP,yT.st⟩;refine aD 1 H ?_;clear H;intro a H;refine aX zK 1 (vs:=[_]) _ H wn rfl rfl rfl rfl rfl rfl rfl rfl ?_;clear H;intro w H;dsimp only [List.set,setRow] at H;refine aD 2 H ?_;clear H;intro a H;refine aR iq (cs:=(⟨(fA,fn,fc),dp,dd,dy,(rB,rn,rd),d1,d2,d3,d4,ins,mv⟩:iE).cells) H wn rfl rfl (H.hp.bO 1 rfl rfl) rfl ?_;clear H;intro a H;refine gy ain (Li:=[_,_]) (L:=[]) H wn rfl (afD _ _ (wS H.ro) _ _ hR2 ⟨by show bZ (lX d.flow)≤_;omega,zh,Nat.le_trans (List.length_filter_le _ _) zr,fun x hx=>zt x (List.mem_filter.1 hx).1,zs,FP⟩) rfl ?_;clear H;rintro v17 yE PW a w ⟨D',rfl,xf,Lf,xr,Lr,rfl,Ib,Sw,Ic,Sy,alC,alD,alO,hst'⟩ qR H;obtain ⟨Gs,hms,ame,H⟩:=St.mR (Li:=[_,_]++Lf) (by rw [iZ];exact H) Ic (rows:=(nD d).revs.map bX.dat) (by simp) Sy;obtain ⟨Gt,hmt,alx,H⟩:=St.mR (Li:=[_,_]) H Ib (rows:=(nD d).flow.map ay.dat) (by simp) (Sw.mono hms);refine aX iq 0 (vs:=[_,_,_,_,_,_,_,_,_,_,_]) _ H wn rfl rfl rfl rfl rfl rfl rfl rfl ?_;clear H;intro w H;dsimp only [List.set,setRow] at H;refine aC ?_;refine dQ ?_;refine cu ?_;refine (leave1 H results17 (.cons (kT iq (cs:=[_,_,_,_,_,_,_,_,_,_,_]) H rfl rfl (H.hp.bO 0 rfl rfl)) .nil) ?_).1;exact H.rt ⟨D',rfl,alx,(alC.mono hms).mono hmt,alD,alO,ame.mono hmt,(hst'.mono hms).mono hmt⟩
end
section
open Go.RowKit
theorem M4 {l:List Int} (h:∀ x∈l,x=0):dh l=0:=by
 induction l with
 | nil=>rfl
 | cons x l ih=>rw [h x fK];simp only [dh,ne_eq,not_true_eq_false,if_false];exact ih fun y hy=>h y (gB _ hy)
theorem Wx {E:Nat→Int} {n:Nat} (h:∀ i,i < n→E i=0):iF E n=0:=M4 fun x hx=>by
 obtain ⟨i,hi,rfl⟩:=List.mem_map.1 hx;exact h i (sM.1 hi)
end
end Go.Proofs.YtdiflmikikiedaaGreat
