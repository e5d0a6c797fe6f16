/-
  What the claim stands on, part 7: Df13 Brs.
-/
import Derived.Test.YtlnhhlighgaapaaGreatWkf
namespace Go.Proofs.YtlnhhlighgaapaaGreat
open Go.Proofs.Tryz
section
open Go.RowKit
theorem ajb:∀ args w,(callFunc 26 args).run prog w=.ok (.enter 26 args) w:=enters func26 rfl (by kernel_rfl)
theorem ajc:∀ args w,(callFunc 27 args).run prog w=.ok (.enter 27 args) w:=enters func27 rfl (by kernel_rfl)
theorem ajd:∀ args w,(callFunc 28 args).run prog w=.ok (.enter 28 args) w:=enters func28 rfl (by kernel_rfl)
theorem aaF:∀ args w,(callFunc 29 args).run prog w=.ok (.enter 29 args) w:=enters func29 rfl (by kernel_rfl)
theorem D8:prog.underlying 4=some .bool:=by kernel_rfl
theorem akc:dV prog 75 2 2:=⟨by kernel_rfl⟩
theorem Ug:Mr prog 54 [(0,false),(1,false)]:=⟨by kernel_rfl,by kernel_rfl,by kernel_rfl,by kernel_rfl,by kernel_rfl⟩
theorem aaG:∀ args w,(callFunc 32 args).run prog w=.ok (.enter 32 args) w:=enters func32 rfl (by kernel_rfl)
theorem Px {α:Type} {p:α→Bool} {l:List α} {k:Nat} (h:k < l.length):(l.take (k+1)).any p=((l.take k).any p || p l[k]):=by
 rw [jZ h,List.any_append,List.any_cons,List.any_nil,Bool.or_false]
set_option maxHeartbeats 4000000 in
theorem akr (G:GH) (w0:World) (hG:Hold G w0) (D:kN) (d:zw) (hR:D9 G D d) (hz:J9 d) (id:Int) :
  Calls prog 7 #[D.val,vi id] w0 (bR w0 G fun u G'=>u=.bool true):=by
 have Lm:=hz.fl;refine eN [(0,_),(1,_)] func7 rfl ntmps7 rfl rfl hG ?_;intro a H;refine dz (fun _ K1=>?_);refine eU (cs:=[_,_,_,_,_,_,_,_,_,_,_]) H wn rfl rfl rfl ?_;clear H;intro b2 a w hb2 H;refine kH H (ak K1 rfl (SQ fun _ K2=>SQ fun _ K3=>?_));clear H K1;intro a H;obtain ⟨Ga,hma,hb',H⟩:=H.fD;have hga:=fun j v hj=>Dn hb' 0 D.cells rfl j v hj;replace hR:=hR.mono hma;refine oD ?_;refine s_call TN H wn rfl (WS _ _ H.ro) rfl ?_;clear H;rintro v28 G28 a w rfl abQ H;replace hR:=hR.mono abQ;replace hga:=fun j v hj=>aF abQ (hga j v hj);refine kH H (Rn rfl (Rm rfl (Sp 30 rfl ?_ ?_))) <;> clear H
 ·intro kG a H
  exact absurd kG (by decide)
 intro kG a H
 try have p30:=dF kG
 refine bD mZ (cs:=D.cells) H (wg H rfl rfl kG) rfl rfl (fun j v hj=>H.hp.aH (hga j v hj)) rfl ?_;clear H;intro a H;refine s_call aiD H (wg H rfl rfl kG) rfl (aqu _ _ H.ro D d hR hz) rfl ?_;clear H;rintro v32 G32 a w ⟨b32,rfl⟩ abR H;replace hR:=hR.mono abR;replace hga:=fun j v hj=>aF abR (hga j v hj);refine kH H (YN kG rfl (Pf kG rfl (Rm rfl (Sp 35 rfl ?_ ?_)))) <;> clear H
 ·intro qj a H
  try have p35:=dT qj
  refine kH H (aT qj rfl (Pt qj rfl (Kn K3 (Ct rfl rfl (SR fun _ K4=>?_)))));clear H K3;intro a H;refine s_call TN H wn rfl (WS _ _ H.ro) rfl ?_;clear H;rintro v40 Pg a w rfl KX H;exact kH H (ak K4 rfl (LR results7 rfl fun H=>H.rt (aL (by first|rfl|(simp_all;done)))))
 intro qj a H
 try have p35:=dF qj
 refine bD mZ (cs:=D.cells) H (wg H rfl rfl qj) rfl rfl (fun j v hj=>H.hp.aH (hga j v hj)) rfl ?_;clear H;intro a H;refine s_call aiP H (wg H rfl rfl qj) rfl (anU _ _ H.ro D d hR hz) rfl ?_;clear H;rintro v37 G37 a w rfl abU H;replace hR:=hR.mono abU;replace hga:=fun j v hj=>aF abU (hga j v hj);refine kH H (YC qj rfl (Pf qj rfl (Kn K3 (Cd rfl ?_ ?_)))) <;> clear H K3
 ·intro kT a H
  try have p39:=dT kT
  refine dz (fun _ K5=>?_);refine s_call TN H wn rfl (WS _ _ H.ro) rfl ?_;clear H;rintro v40 Pg a w rfl KX H;exact kH H (ak K5 rfl (LR results7 rfl fun H=>H.rt (aL (by first|rfl|(simp_all;done)))))
 intro kT a H
 try have p39:=dF kT
 refine fI ?_;refine K2 _ _ ?_;clear K2;refine aO (fun _ K6=>?_)
 have hc:jV d=0:=by first|omega|simp_all
 have hok:=aou hc;obtain ⟨l,hl⟩:∃ l,l=d.flow:=⟨_,rfl⟩;have hfl:=hR.fl;rw [← hl] at hok Lm hfl
 have Oh:∀ (bL:Nat) (v:aj) (G G':GH),(∀ k o,G k=some o→G' k=some o)→(fun (bL:Nat) (v:aj) (G:GH)=>match bL with|0=>v=.agg D.cells.toArray|1=>aB G (.sl 1 ((jS l).map fun f:jM=>[li f.id])) v|2=>v=.agg D.cells.toArray|3=>aB G (.sl 1 ((jG l).map fun a:(Int × Int) × ay=>[li a.2.id])) v|_=>True) bL v G→(fun (bL:Nat) (v:aj) (G:GH)=>match bL with|0=>v=.agg D.cells.toArray|1=>aB G (.sl 1 ((jS l).map fun f:jM=>[li f.id])) v|2=>v=.agg D.cells.toArray|3=>aB G (.sl 1 ((jG l).map fun a:(Int × Int) × ay=>[li a.2.id])) v|_=>True) bL v G':=by
  intro bL v G G' hm h
  match bL,h with
  | 0,h=>exact h
  | 1,h=>exact aB.mono hm h
  | 2,h=>exact h
  | 3,h=>exact aB.mono hm h
  | 4,h=>exact trivial
  | 5,h=>exact trivial
  | _+6,h=>exact trivial
 refine BH (hmx) [[],[0],[],[0,1,2],(ra 0 4),(ra 0 5)] [4,5] (by kernel_rfl) (by kernel_rfl) (fun (bL:Nat) (v:aj) (G:GH)=>match bL with|0=>v=.agg D.cells.toArray|1=>aB G (.sl 1 ((jS l).map fun f:jM=>[li f.id])) v|2=>v=.agg D.cells.toArray|3=>aB G (.sl 1 ((jG l).map fun a:(Int × Int) × ay=>[li a.2.id])) v|_=>True) Oh H ?_ ?_
 ·clear H;refine aG ?_ ?_ ?_ ?_ (bG (cZ rfl) (bG (cZ rfl) dU))
  ·refine bC [] rfl trivial (by kernel_rfl) Oh rfl rfl ?_;intro aQ a w G1 hG HT H fin;refine bD mZ (cs:=D.cells) H wn rfl rfl (fun j v hj=>H.hp.aH (aF hG (hga j v hj))) rfl ?_;clear H;intro a H;exact fin H iJ rfl
  ·refine bC [(0,41,_)] rfl ⟨fun _ _ h=>h,av⟩ (by kernel_rfl) Oh rfl rfl ?_;intro aQ a w G1 hG HT H fin;refine s_call aaE H wn rfl (aao _ _ H.ro D l (hfl.mono hG) (by omega)) rfl ?_;clear H;rintro v42 Sw a w Dz I7 H;exact fin H I7 (Dz)
  ·refine bC [] rfl trivial (by kernel_rfl) Oh rfl rfl ?_;intro aQ a w G1 hG HT H fin;refine bD mZ (cs:=D.cells) H wn rfl rfl (fun j v hj=>H.hp.aH (aF hG (hga j v hj))) rfl ?_;clear H;intro a H;exact fin H iJ rfl
  refine bC [(2,43,_)] rfl ⟨fun _ _ h=>h,av⟩ (by kernel_rfl) Oh rfl rfl ?_;intro aQ a w G1 hG HT H fin;refine s_call ajb H wn rfl (ahu _ _ H.ro D l (hfl.mono hG) (by omega)) rfl ?_;clear H;rintro v44 G44 a w yS akL H;exact fin H akL (yS)
 clear H;intro a w G Qp H hv;obtain ⟨u42,amS,Dz⟩:=hv 1 42 (by decide) rfl;(try dsimp only at Dz);obtain ⟨A5,n5,c5,rfl⟩:=Dz.form;have vD:=Dz.len;rw [bZ] at vD;subst vD;have H:=H.mh amS;obtain ⟨u44,amT,yS⟩:=hv 3 44 (by decide) rfl;(try dsimp only at yS);obtain ⟨A6,n6,c6,rfl⟩:=yS.form;have QI:=yS.len;rw [bZ] at QI;subst QI;have H:=H.mh amT;clear hv;refine kH H (Ra rfl (Ra rfl ?_));clear H;intro a H;refine aI ⟨rfl,?_⟩;refine K6 _ _ ?_;clear K6;refine aO (fun _ K7=>?_);replace hfl:=hfl.mono Qp;replace hga:=fun j v hj=>aF Qp (hga j v hj);refine oD ?_;refine bD mZ (cs:=D.cells) H wn rfl rfl (fun j v hj=>H.hp.aH (hga j v hj)) rfl ?_;clear H;intro a H;refine s_call ajc H wn rfl (ako _ _ H.ro D l hfl (by omega)) rfl ?_;clear H;rintro v46 Ph a w Oi yQ H;obtain ⟨A7,n7,c7,rfl⟩:=Oi.form;have QJ:=Oi.len;rw [bZ] at QJ;subst QJ;replace hfl:=hfl.mono yQ;replace hga:=fun j v hj=>aF yQ (hga j v hj);replace Dz:=Dz.mono yQ;replace yS:=yS.mono yQ;refine kH H (aM K7 rfl (SR fun _ K8=>?_));clear H K7;intro a H;refine bD mZ (cs:=D.cells) H wn rfl rfl (fun j v hj=>H.hp.aH (hga j v hj)) rfl ?_;clear H;intro a H;refine s_call ajd H wn rfl (aqM _ _ H.ro D l hfl hok.ok (by omega)) rfl ?_;clear H;rintro v49 YK a w ⟨a8,b8,rfl,hra,hrb⟩ NV H;obtain ⟨A8,n8,c8,rfl⟩:=hra.form;have hn8:=hra.len;rw [bZ] at hn8;subst hn8;obtain ⟨A9,n9,c9,rfl⟩:=hrb.form;have hn9:=hrb.len;rw [bZ] at hn9;subst hn9;replace hfl:=hfl.mono NV;replace hga:=fun j v hj=>aF NV (hga j v hj);replace Dz:=Dz.mono NV;replace yS:=yS.mono NV;replace Oi:=Oi.mono NV
 have hbl:(jS l).length≤1073741825:=by
  have hn:=O1 false 0 l;rw [jS,nG];omega
 have htl:=aey l;have hbw:=MV l;refine kH H (Rm rfl ?_);clear H;intro a H;(iterate 2 refine lD H wn rfl rfl rfl ?_;clear H;intro a H);refine kH H (Ra rfl (ak K8 rfl (SQ fun _ K9=>SR fun _ aZ=>Rm rfl (Rl om rfl (Rm rfl (Rl Aj rfl (Rc rfl (Rm rfl (Sp 57 rfl ?_ ?_))))))))) <;> clear H K8
 ·intro h57 a H
  exact absurd h57 (by simp [hbw])
 intro h57 a H
 try have p57:=dF h57
 refine kH H (YM h57 rfl (YL om h57 rfl (YM h57 rfl (YL iN h57 rfl (YC h57 rfl (Pf h57 rfl (Kz aZ (Cd rfl ?_ ?_)))))))) <;> clear H aZ
 ·intro h63 a H
  exact absurd h63 (by simp)
 intro h63 a H
 try have p63:=dF h63
 refine kP H (Kc K9 (SR fun _ bN=>ak bN rfl (SQ fun _ bQ=>SR fun _ bT=>ak bT rfl (SB ?_))));clear H K9 bN bT;intro a H;skip;refine fH (ι:=Nat × Bool × GH) (Tc:=[(1,_),(2,_),(5,_),(6,_),(7,_),(8,_),(9,_)]) (Lc:=[]) (fun gh=>[(10,.bool gh.2.1),(11,vi gh.1)]) (fun gh=>[]) (fun gh=>gh.2.2) (fun gh=>gh.1≤(jK l).length∧gh.2.1=((jK l).take gh.1).any (fun p=>decide (p.id=id))∧(∀ b o,YK b=some o→gh.2.2 b=some o)) (fun gh=>(jK l).length - gh.1) ((0,false,YK)) (by exact (H).sub ⟨rfl,rfl,rfl,rfl,rfl,rfl,rfl,rfl,rfl,av⟩) ?_ ?_
 ·exact ⟨iK _,rfl,fun _ _ h=>h⟩
 clear H;intro gh a w hI H;obtain ⟨i,t,g⟩:=gh;dsimp only at hI H;obtain ⟨hi,ht,hgm⟩:=hI;dsimp only [lca,aS] at H;refine kP H (SQ fun _ cu=>SR fun _ dL=>Rm rfl (Rm rfl (Rl Aj rfl (Rc rfl (Kz dL (Cd rfl ?_ ?_)))))) <;> clear H dL
 ·intro xC a H
  try have p67:=dT xC
  have hi2:i < (jK l).length:=by omega
  obtain ⟨P,hP⟩:∃ P,P=(jK l)[i]:=⟨_,rfl⟩;have KV:=akn hok hi2;have hpb:=adJ hok hi2
  have hzP:bM P.items≤bM l:=by
   rw [hP,(Tj hi2).2];exact UC (jr _)
  obtain ⟨b,o,pv,rfl,hrow,hpv⟩:=aga (Oi.mono hgm) hi2;obtain ⟨b5,o5,rfl,hid⟩:=acH (f:=jM.id) (Dz.mono hgm) (show i < (jS l).length by omega);rw [← (Tj hi2).1] at hid;rw [← hP] at KV hpb hrow hpv hid
  have hsm:(sP l P.id).isSome=decide (¬ (i:Int)≤0):=by
   rw [hpb]
   by_cases h0:0 < i
   ·rw [au h0,gq (by omega)];rfl
   rw [ah h0,iC (by omega)];rfl
  obtain ⟨p1,p2,hpe⟩:∃ p1 p2,(sP l P.id).getD (0,0)=(p1,p2):=⟨_,_,rfl⟩
  have hp1:0 < i→p1=P.flow∧p2=P.at_:=fun h0=>by
   rw [hpb,au h0] at hpe
   simp only [Option.getD_some,jc] at hpe
   exact ⟨hpe.1.symm,hpe.2.symm⟩
  have hp0:i=0→p1=0∧p2=0:=fun h0=>by
   rw [hpb,ah (by omega)] at hpe
   simp only [Option.getD_none,jc] at hpe
   exact ⟨hpe.1.symm,hpe.2.symm⟩
  have hfg:=hfl.mono hgm;have hgg:=fun j v hj=>aF hgm (hga j v hj);refine kP H (Kc cu (SQ fun _ dO=>SB (SQ fun _ dJ=>?_)));clear H cu;intro a H
  have Bc:∀ (bL:Nat) (v:aj) (G G':GH),(∀ k o,G k=some o→G' k=some o)→(fun (bL:Nat) (v:aj) (G:GH)=>match bL with|0=>v=.agg D.cells.toArray|1=>v=.slice (some ⟨b,o,none⟩) (jK l).length c7|2=>v=vi i|3=>v=(aK b (o+i*6))|4=>v=(aK b (o+i*6+0))|5=>v=vi P.id|6=>∃ x,v=.tuple #[x,.bool true]∧aB G (.sl 11 (P.items.map ay.dat)) x|7=>∃ x,v=.tuple #[x,.bool true]∧aB G (.sl 11 (P.items.map ay.dat)) x|8=>aB G (.sl 11 (P.items.map ay.dat)) v|9=>v=.bool true|10=>aB G (.sl 11 (P.items.map ay.dat)) v|_=>True) bL v G→(fun (bL:Nat) (v:aj) (G:GH)=>match bL with|0=>v=.agg D.cells.toArray|1=>v=.slice (some ⟨b,o,none⟩) (jK l).length c7|2=>v=vi i|3=>v=(aK b (o+i*6))|4=>v=(aK b (o+i*6+0))|5=>v=vi P.id|6=>∃ x,v=.tuple #[x,.bool true]∧aB G (.sl 11 (P.items.map ay.dat)) x|7=>∃ x,v=.tuple #[x,.bool true]∧aB G (.sl 11 (P.items.map ay.dat)) x|8=>aB G (.sl 11 (P.items.map ay.dat)) v|9=>v=.bool true|10=>aB G (.sl 11 (P.items.map ay.dat)) v|_=>True) bL v G':=by
   intro bL v G G' hm h
   match bL,h with
   | 0,h=>exact h
   | 1,h=>exact h
   | 2,h=>exact h
   | 3,h=>exact h
   | 4,h=>exact h
   | 5,h=>exact h
   | 6,h=>exact let ⟨x,h1,h2⟩:=h;⟨x,h1,h2.mono hm⟩
   | 7,h=>exact let ⟨x,h1,h2⟩:=h;⟨x,h1,h2.mono hm⟩
   | 8,h=>exact aB.mono hm h
   | 9,h=>exact h
   | 10,h=>exact aB.mono hm h
   | 11,h=>exact trivial
   | _+12,h=>exact trivial
  refine BH (hmx) [[],[],[],[1,2],[1,2,3],(ra 1 4),(ra 0 6),(ra 0 7),(ra 0 8),(ra 0 8),(ra 0 9),(ra 0 11)] [11] (by kernel_rfl) (by kernel_rfl) (fun (bL:Nat) (v:aj) (G:GH)=>match bL with|0=>v=.agg D.cells.toArray|1=>v=.slice (some ⟨b,o,none⟩) (jK l).length c7|2=>v=vi i|3=>v=(aK b (o+i*6))|4=>v=(aK b (o+i*6+0))|5=>v=vi P.id|6=>∃ x,v=.tuple #[x,.bool true]∧aB G (.sl 11 (P.items.map ay.dat)) x|7=>∃ x,v=.tuple #[x,.bool true]∧aB G (.sl 11 (P.items.map ay.dat)) x|8=>aB G (.sl 11 (P.items.map ay.dat)) v|9=>v=.bool true|10=>aB G (.sl 11 (P.items.map ay.dat)) v|_=>True) Bc H ?_ ?_
  ·clear H;refine aG ?_ ?_ ?_ ?_ (aG ?_ ?_ ?_ ?_ (aG ?_ ?_ ?_ (cZ rfl) dU))
   ·refine bC [] rfl trivial (by kernel_rfl) Bc rfl rfl ?_;intro aQ a w G1 hG HT H fin;refine bD mZ (cs:=D.cells) H wn rfl rfl (fun j v hj=>H.hp.aH (aF hG (hgg j v hj))) rfl ?_;clear H;intro a H;exact fin H iJ rfl
   ·refine bC [] rfl trivial (by kernel_rfl) Bc rfl rfl ?_;intro aQ a w G1 hG HT H fin;exact kH H (Rm rfl fun _ H=>fin H iJ rfl)
   ·refine bC [] rfl trivial (by kernel_rfl) Bc rfl rfl ?_;intro aQ a w G1 hG HT H fin;exact kH H (Rm rfl fun _ H=>fin H iJ rfl)
   ·refine bC [(1,72,_),(2,73,_)] rfl ⟨fun _ _ h=>h,fun _ _ h=>h,av⟩ (by kernel_rfl) Bc rfl rfl ?_;intro aQ a w G1 hG HT H fin;exact kH H (Ri Aj Bt rfl rfl fun _ H=>fin H iJ rfl)
   ·refine bC [(3,74,_)] rfl ⟨fun _ _ h=>h,av⟩ (by kernel_rfl) Bc rfl rfl ?_;intro aQ a w G1 hG HT H fin;exact kH H (Rf KH rfl fun _ H=>fin H iJ rfl)
   ·refine bC [(4,75,_)] rfl ⟨fun _ _ h=>h,av⟩ (by kernel_rfl) Bc rfl rfl ?_;intro aQ a w G1 hG HT H fin;exact kH H (Rg aD rfl (aF hG (hrow 0 _ rfl)) fun _ H=>fin H iJ rfl)
   ·refine bC [(0,71,_),(5,76,_)] rfl ⟨fun _ _ h=>h,fun _ _ h=>h,av⟩ (by kernel_rfl) Bc rfl rfl ?_;intro aQ a w G1 hG HT H fin;refine s_call aaF H wn rfl (abk _ _ H.ro D l P.id (hfg.mono hG) (by omega)) rfl ?_;clear H;rintro v77 G77 a w hx akQ H;rw [KV] at hx;obtain ⟨Yk,rfl,Jw⟩:=hx;dsimp only [Option.getD_some,Option.isSome_some] at Jw H;exact fin H akQ (⟨_,rfl,Jw⟩)
   ·intro aQ a w G1 _ bK hc hG HT hv;have H:=HT;clear bK;obtain ⟨u77,amU,acg⟩:=hv 6 77 (hc 6 (by decide)) rfl;(try dsimp only at acg);obtain ⟨Yk,rfl,Jw⟩:=acg;have H:=H.mh amU;have Hb:=H.full;have H:=Hb;clear hc;refine kH H (Rm rfl ?_);clear H;intro a H;refine aI ⟨rfl,?_⟩;exact iL (by kernel_rfl) Bc rfl rfl HT Hb hG hv (fun _ _ h=>h) (⟨_,rfl,Jw⟩) H
   ·intro aQ a w G1 _ bK hc hG HT hv;have H:=HT;clear bK;obtain ⟨u70,Wv,Oe⟩:=hv 7 70 (hc 7 (by decide)) rfl;(try dsimp only at Oe);obtain ⟨Yk,rfl,Jw⟩:=Oe;have H:=H.mh Wv;have Hb:=H.full;have H:=Hb;clear hc;refine lD H wn rfl rfl rfl ?_;clear H;intro a H;refine aI ⟨rfl,?_⟩;exact iL (by kernel_rfl) Bc rfl rfl HT Hb hG hv (fun _ _ h=>h) (Jw) H
   ·intro aQ a w G1 _ bK hc hG HT hv;have H:=HT;clear bK;obtain ⟨u70,Wv,Oe⟩:=hv 7 70 (hc 7 (by decide)) rfl;(try dsimp only at Oe);obtain ⟨Yk,rfl,Jw⟩:=Oe;have H:=H.mh Wv;have Hb:=H.full;have H:=Hb;clear hc;refine lD H wn rfl rfl rfl ?_;clear H;intro a H;refine aI ⟨rfl,?_⟩;exact iL (by kernel_rfl) Bc rfl rfl HT Hb hG hv (fun _ _ h=>h) (rfl) H
   intro aQ a w G1 _ bK hc hG HT hv;have H:=HT;clear bK;obtain ⟨u78,amV,ach⟩:=hv 8 78 (hc 8 (by decide)) rfl;(try dsimp only at ach);have H:=H.mh amV;have Hb:=H.full;have H:=Hb;clear hc;refine kH H (Ra rfl ?_);clear H;intro a H;refine aI ⟨rfl,?_⟩;exact iL (by kernel_rfl) Bc rfl rfl HT Hb hG hv (fun _ _ h=>h) (ach) H
  clear H;intro a w G oG H hv;obtain ⟨u12,amM,Jq⟩:=hv 10 12 (by decide) rfl;(try dsimp only at Jq);have H:=H.mh amM;have H:=H.aU (hv 9 79 rfl rfl) rfl;clear hv;refine kH H (Ra rfl ?_);clear H;intro a H;refine aI ⟨rfl,?_⟩;refine dJ _ _ ?_;clear dJ;refine aO (fun _ dW=>?_);replace hfg:=hfg.mono oG;replace hgg:=fun j v hj=>aF oG (hgg j v hj);replace hrow:=fun j u hj=>aF oG (hrow j u hj);replace hid:=aF oG hid;replace hpv:=hpv.mono oG
  have DC:∀ (cB bL:Nat) (v:aj) (G G':GH),(∀ k o,G k=some o→G' k=some o)→(fun (cB bL:Nat) (v:aj) (G:GH)=>match bL with|0=>v=.agg D.cells.toArray|1=>v=.slice (some ⟨b,o,none⟩) (jK l).length c7|2=>v=vi i|3=>v=(aK b (o+i*6))|4=>v=(aK b (o+i*6+0))|5=>v=vi P.id|6=>v=.tuple #[.agg #[vi p1,vi p2],.bool (decide (¬ (i:Int)≤0))]|7=>v=.tuple #[.agg #[vi p1,vi p2],.bool (decide (¬ (i:Int)≤0))]|8=>v=.agg #[vi p1,vi p2]|9=>v=.bool (decide (¬ (i:Int)≤0))|10=>v=(aK cB 0)|_=>True) cB bL v G→(fun (cB bL:Nat) (v:aj) (G:GH)=>match bL with|0=>v=.agg D.cells.toArray|1=>v=.slice (some ⟨b,o,none⟩) (jK l).length c7|2=>v=vi i|3=>v=(aK b (o+i*6))|4=>v=(aK b (o+i*6+0))|5=>v=vi P.id|6=>v=.tuple #[.agg #[vi p1,vi p2],.bool (decide (¬ (i:Int)≤0))]|7=>v=.tuple #[.agg #[vi p1,vi p2],.bool (decide (¬ (i:Int)≤0))]|8=>v=.agg #[vi p1,vi p2]|9=>v=.bool (decide (¬ (i:Int)≤0))|10=>v=(aK cB 0)|_=>True) cB bL v G':=by
   intro cB bL v G G' hm h
   match bL,h with
   | 0,h=>exact h
   | 1,h=>exact h
   | 2,h=>exact h
   | 3,h=>exact h
   | 4,h=>exact h
   | 5,h=>exact h
   | 6,h=>exact h
   | 7,h=>exact h
   | 8,h=>exact h
   | 9,h=>exact h
   | 10,h=>exact h
   | 11,h=>exact trivial
   | 12,h=>exact trivial
   | _+13,h=>exact trivial
  refine ZT (hmx) [[],[],[],[1,2],[1,2,3],(ra 1 4),(ra 0 6),(ra 0 7),(ra 0 8),(ra 0 8),[],(ra 0 9++[10]),(ra 0 12)] [12] (by kernel_rfl) (by kernel_rfl) 10 11 (by decide) (by decide) (by decide) (by decide) (.cells #[vi 0,vi 0] 54 (0,0)) (.cells #[vi p1,vi p2] 54 (0,0)) (fun (cB bL:Nat) (v:aj) (G:GH)=>match bL with|0=>v=.agg D.cells.toArray|1=>v=.slice (some ⟨b,o,none⟩) (jK l).length c7|2=>v=vi i|3=>v=(aK b (o+i*6))|4=>v=(aK b (o+i*6+0))|5=>v=vi P.id|6=>v=.tuple #[.agg #[vi p1,vi p2],.bool (decide (¬ (i:Int)≤0))]|7=>v=.tuple #[.agg #[vi p1,vi p2],.bool (decide (¬ (i:Int)≤0))]|8=>v=.agg #[vi p1,vi p2]|9=>v=.bool (decide (¬ (i:Int)≤0))|10=>v=(aK cB 0)|_=>True) (fun b b' i v G hi hc h=>by match i,hi,hc,h with|0,_,_,h=>exact h|1,_,_,h=>exact h|2,_,_,h=>exact h|3,_,_,h=>exact h|4,_,_,h=>exact h|5,_,_,h=>exact h|6,_,_,h=>exact h|7,_,_,h=>exact h|8,_,_,h=>exact h|9,_,_,h=>exact h|10,hi,_,_=>exact absurd hi (by decide)|11,_,hc,_=>exact absurd hc (by decide)|12,_,hc,_=>exact absurd hc (by decide)|_+13,_,_,_=>exact trivial) H ?_ ?_ ?_ ?_ (by kernel_rfl)
  ·clear H;refine aG ?_ ?_ ?_ ?_ (aG ?_ ?_ ?_ ?_ (aG ?_ ?_ ?_ ?_ (bG ?_ dU)))
   ·intro cB kQ aQ a w G1 kM _ _ _ bK hc hG HT hv;have H:=HT;clear bK;have Hb:=H.full;have H:=Hb;clear hc;refine bD mZ (cs:=D.cells) H wn rfl rfl (fun j v hj=>H.hp.aH (aF hG (hgg j v hj))) rfl ?_;clear H;intro a H;refine aI ⟨rfl,?_⟩;exact iL (by kernel_rfl) (DC cB) rfl rfl HT Hb hG hv (fun _ _ h=>h) (rfl) H
   ·intro cB kQ aQ a w G1 kM _ _ _ bK hc hG HT hv;have H:=HT;clear bK;have Hb:=H.full;have H:=Hb;clear hc;refine kH H (Rm rfl ?_);clear H;intro a H;refine aI ⟨rfl,?_⟩;exact iL (by kernel_rfl) (DC cB) rfl rfl HT Hb hG hv (fun _ _ h=>h) (rfl) H
   ·intro cB kQ aQ a w G1 kM _ _ _ bK hc hG HT hv;have H:=HT;clear bK;have Hb:=H.full;have H:=Hb;clear hc;refine kH H (Rm rfl ?_);clear H;intro a H;refine aI ⟨rfl,?_⟩;exact iL (by kernel_rfl) (DC cB) rfl rfl HT Hb hG hv (fun _ _ h=>h) (rfl) H
   ·intro cB kQ aQ a w G1 kM _ _ _ bK hc hG HT hv;have H:=HT;clear bK;have H:=H.aU (hv 1 82 (hc 1 (by decide)) rfl) rfl;have H:=H.aU (hv 2 83 (hc 2 (by decide)) rfl) rfl;have Hb:=H.full;have H:=Hb;clear hc;refine kH H (Ri Aj Bt rfl rfl ?_);clear H;intro a H;refine aI ⟨rfl,?_⟩;exact iL (by kernel_rfl) (DC cB) rfl rfl HT Hb hG hv (fun _ _ h=>h) (rfl) H
   ·intro cB kQ aQ a w G1 kM _ _ _ bK hc hG HT hv;have H:=HT;clear bK;have H:=H.aU (hv 3 84 (hc 3 (by decide)) rfl) rfl;have Hb:=H.full;have H:=Hb;clear hc;refine kH H (Rf KH rfl ?_);clear H;intro a H;refine aI ⟨rfl,?_⟩;exact iL (by kernel_rfl) (DC cB) rfl rfl HT Hb hG hv (fun _ _ h=>h) (rfl) H
   ·intro cB kQ aQ a w G1 kM _ _ _ bK hc hG HT hv;have H:=HT;clear bK;have H:=H.aU (hv 4 85 (hc 4 (by decide)) rfl) rfl;have Hb:=H.full;have H:=Hb;clear hc;refine kH H (Rg aD rfl (aF hG (hrow 0 _ rfl)) ?_);clear H;intro a H;refine aI ⟨rfl,?_⟩;exact iL (by kernel_rfl) (DC cB) rfl rfl HT Hb hG hv (fun _ _ h=>h) (rfl) H
   ·intro cB kQ aQ a w G1 kM _ _ _ bK hc hG HT hv;have H:=HT;clear bK;have H:=H.aU (hv 0 81 (hc 0 (by decide)) rfl) rfl;have H:=H.aU (hv 5 86 (hc 5 (by decide)) rfl) rfl;have Hb:=H.full;have H:=Hb;clear hc;refine s_call P5 H wn rfl (Rz _ _ H.ro D l P.id (hfg.mono hG) (by omega)) rfl ?_;clear H;rintro v87 G87 a w rfl akR H;rw [hpe,hsm] at H;dsimp only at H;refine aI ⟨rfl,?_⟩;exact iL (by kernel_rfl) (DC cB) rfl rfl HT Hb hG hv akR (rfl) H
   ·intro cB kQ aQ a w G1 kM _ _ _ bK hc hG HT hv;have H:=HT;clear bK;have H:=H.aU (hv 6 87 (hc 6 (by decide)) rfl) rfl;have Hb:=H.full;have H:=Hb;clear hc;refine kH H (Rm rfl ?_);clear H;intro a H;refine aI ⟨rfl,?_⟩;exact iL (by kernel_rfl) (DC cB) rfl rfl HT Hb hG hv (fun _ _ h=>h) (rfl) H
   ·intro cB kQ aQ a w G1 kM _ _ _ bK hc hG HT hv;have H:=HT;clear bK;have H:=H.aU (hv 7 80 (hc 7 (by decide)) rfl) rfl;have Hb:=H.full;have H:=Hb;clear hc;refine lD H wn rfl rfl rfl ?_;clear H;intro a H;refine aI ⟨rfl,?_⟩;exact iL (by kernel_rfl) (DC cB) rfl rfl HT Hb hG hv (fun _ _ h=>h) (rfl) H
   ·intro cB kQ aQ a w G1 kM _ _ _ bK hc hG HT hv;have H:=HT;clear bK;have H:=H.aU (hv 7 80 (hc 7 (by decide)) rfl) rfl;have Hb:=H.full;have H:=Hb;clear hc;refine lD H wn rfl rfl rfl ?_;clear H;intro a H;refine aI ⟨rfl,?_⟩;exact iL (by kernel_rfl) (DC cB) rfl rfl HT Hb hG hv (fun _ _ h=>h) (rfl) H
   ·intro _ _ _ _ _ _ _ _ hB;exact absurd hB (by decide)
   ·intro _ _ _ _ _ _ _ _ _ hB;exact absurd hB (by decide)
   intro _ _ _ _ _ _ _ hB;exact absurd hB (by decide)
  ·clear H;intro o_ aQ a w G1 nK _ hc hG HT hv;obtain rfl:_=o_:=Option.some.inj nK;clear nK;have H:=HT;have Hb:=H.full;have H:=Hb;clear hc;refine dR iW H wn rfl ?_;clear H;intro b14 a w KS H;refine aI ⟨rfl,b14,?_⟩;exact M7 (by kernel_rfl) rfl HT Hb hG (fun j e h1 h2 h3=>hv _ j e h1 h2 h3) (rfl) H
  ·clear H;intro o_ cB aQ a w G1 nK _ hc hG HT hv;obtain rfl:_=o_:=Option.some.inj nK;clear nK;have H:=HT;have H:=H.aU (hv 10 14 (hc 10 (by decide)) rfl) rfl;have H:=H.aU (hv 8 88 (hc 8 (by decide)) rfl) rfl;have Hb:=H.full;have H:=Hb;clear hc;refine bO iW 0 (vs:=[_,_]) _ H wn rfl rfl rfl rfl rfl rfl rfl rfl ?_;clear H;intro w H;dsimp only [List.set,setRow] at H;refine aI ⟨rfl,?_⟩;exact TD rfl HT hG hv H
  clear H;intro b14 a w G F8 H hv;have H:=H.aU (hv 10 14 rfl rfl) rfl;have H:=H.aU (hv 9 89 rfl rfl) rfl;clear hv;refine kH H (Ra rfl ?_);clear H;intro a H;refine aI ⟨rfl,?_⟩;refine dW _ _ ?_;clear dW;refine oO (ι:=GH) (Tc:=[(1,_),(2,_),(5,_),(6,_),(7,_),(8,_),(9,_),(10,_),(11,_)]) (Lc:=[]) (fun gh=>[]) (fun gh=>[]) (fun gh=>gh) (fun gh=>(∀ b o,g b=some o→gh b=some o)∧aH gh b (o+i*6+0)=some (vi P.id)) (by exact (H).sub ⟨rfl,rfl,rfl,rfl,rfl,rfl,rfl,rfl,rfl,av⟩) ?_ ?_
  ·skip;refine aO (fun _ eG=>?_);obtain ⟨Gb,hmb,KS,H⟩:=H.fD;have NK:=fun j v hj=>Dn KS 0 [vi p1,vi p2] rfl j v hj;replace hrow:=fun j u hj=>aF hmb (aF F8 (hrow j u hj));replace hid:=aF hmb (aF F8 hid);replace hpv:=(hpv.mono F8).mono hmb;replace Jq:=(Jq.mono F8).mono hmb
   by_cases c0:¬ (i:Int)≤0
   ·skip
    have dN:∀ (bL:Nat) (v:aj) (G G':GH),(∀ k o,G k=some o→G' k=some o)→(fun (bL:Nat) (v:aj) (G:GH)=>match bL with|0=>v=.slice (some ⟨b5,o5,none⟩) (jS l).length c5|1=>v=vi i|2=>v=(aK b5 (o5+i*1))|3=>v=vi P.id|4=>v=.slice (some ⟨b,o,none⟩) (jK l).length c7|5=>v=vi i|6=>v=(aK b (o+i*6))|7=>v=(aK b (o+i*6+0))|8=>v=vi P.id|9=>v=.bool false|10=>v=.bool false|11=>v=.bool true|12=>v=.bool false|13=>v=.bool false|14=>v=.bool false|15=>aB G (.sl 11 (P.items.map ay.dat)) v|16=>v=.slice (some ⟨b,o,none⟩) (jK l).length c7|17=>v=vi i|18=>v=(aK b (o+i*6))|19=>v=(aK b (o+i*6+1))|20=>v=pv|21=>v=.bool true|22=>v=.bool false|23=>v=.bool false|24=>v=.bool false|25=>v=.bool (decide (¬ (i:Int)≤0))|26=>v=vi i|27=>v=.bool (decide (0 < (i:Int)))|28=>v=.bool false|29=>v=.bool false|30=>v=.bool false|31=>v=.bool (decide (¬ (i:Int)≤0))|32=>v=.bool (decide (¬ (i:Int)≤0))|33=>v=.agg #[vi p1,vi p2]|34=>v=.slice (some ⟨b,o,none⟩) (jK l).length c7|35=>v=vi i|36=>v=(aK b (o+i*6))|37=>v=(aK b (o+i*6+2))|38=>v=.agg #[vi P.flow,vi P.at_]|39=>v=.bool false|40=>v=.bool false|41=>v=.bool false|42=>v=.bool false|43=>v=.bool (decide (¬ (i:Int)≤0))|44=>v=.bool (decide ((i:Int)≤0))|45=>v=.bool (decide ((i:Int)≤0))|46=>v=undef|47=>v=undef|48=>v=undef|49=>v=.bool false|50=>v=.bool false|_=>True) bL v G→(fun (bL:Nat) (v:aj) (G:GH)=>match bL with|0=>v=.slice (some ⟨b5,o5,none⟩) (jS l).length c5|1=>v=vi i|2=>v=(aK b5 (o5+i*1))|3=>v=vi P.id|4=>v=.slice (some ⟨b,o,none⟩) (jK l).length c7|5=>v=vi i|6=>v=(aK b (o+i*6))|7=>v=(aK b (o+i*6+0))|8=>v=vi P.id|9=>v=.bool false|10=>v=.bool false|11=>v=.bool true|12=>v=.bool false|13=>v=.bool false|14=>v=.bool false|15=>aB G (.sl 11 (P.items.map ay.dat)) v|16=>v=.slice (some ⟨b,o,none⟩) (jK l).length c7|17=>v=vi i|18=>v=(aK b (o+i*6))|19=>v=(aK b (o+i*6+1))|20=>v=pv|21=>v=.bool true|22=>v=.bool false|23=>v=.bool false|24=>v=.bool false|25=>v=.bool (decide (¬ (i:Int)≤0))|26=>v=vi i|27=>v=.bool (decide (0 < (i:Int)))|28=>v=.bool false|29=>v=.bool false|30=>v=.bool false|31=>v=.bool (decide (¬ (i:Int)≤0))|32=>v=.bool (decide (¬ (i:Int)≤0))|33=>v=.agg #[vi p1,vi p2]|34=>v=.slice (some ⟨b,o,none⟩) (jK l).length c7|35=>v=vi i|36=>v=(aK b (o+i*6))|37=>v=(aK b (o+i*6+2))|38=>v=.agg #[vi P.flow,vi P.at_]|39=>v=.bool false|40=>v=.bool false|41=>v=.bool false|42=>v=.bool false|43=>v=.bool (decide (¬ (i:Int)≤0))|44=>v=.bool (decide ((i:Int)≤0))|45=>v=.bool (decide ((i:Int)≤0))|46=>v=undef|47=>v=undef|48=>v=undef|49=>v=.bool false|50=>v=.bool false|_=>True) bL v G':=by
     intro bL v G G' hm h
     match bL,h with
     | 0,h=>exact h
     | 1,h=>exact h
     | 2,h=>exact h
     | 3,h=>exact h
     | 4,h=>exact h
     | 5,h=>exact h
     | 6,h=>exact h
     | 7,h=>exact h
     | 8,h=>exact h
     | 9,h=>exact h
     | 10,h=>exact h
     | 11,h=>exact h
     | 12,h=>exact h
     | 13,h=>exact h
     | 14,h=>exact h
     | 15,h=>exact aB.mono hm h
     | 16,h=>exact h
     | 17,h=>exact h
     | 18,h=>exact h
     | 19,h=>exact h
     | 20,h=>exact h
     | 21,h=>exact h
     | 22,h=>exact h
     | 23,h=>exact h
     | 24,h=>exact h
     | 25,h=>exact h
     | 26,h=>exact h
     | 27,h=>exact h
     | 28,h=>exact h
     | 29,h=>exact h
     | 30,h=>exact h
     | 31,h=>exact h
     | 32,h=>exact h
     | 33,h=>exact h
     | 34,h=>exact h
     | 35,h=>exact h
     | 36,h=>exact h
     | 37,h=>exact h
     | 38,h=>exact h
     | 39,h=>exact h
     | 40,h=>exact h
     | 41,h=>exact h
     | 42,h=>exact h
     | 43,h=>exact h
     | 44,h=>exact h
     | 45,h=>exact h
     | 46,h=>exact h
     | 47,h=>exact h
     | 48,h=>exact h
     | 49,h=>exact h
     | 50,h=>exact h
     | _+51,h=>exact trivial
    refine BH (hmx) [[],[],[0,1],[0,1,2],[],[],[4,5],[4,5,6],(ra 4 4),(ra 0 9),(ra 0 10),(ra 0 11),(ra 0 12),(ra 0 13),(ra 0 14),(ra 0 15),(ra 0 15),(ra 0 15),(ra 0 15++[16,17]),(ra 0 15++[16,17,18]),(ra 0 15++ra 16 4),(ra 0 21),(ra 0 22),(ra 0 23),(ra 0 24),(ra 0 25),(ra 0 25),(ra 0 25++[26]),(ra 0 28),(ra 0 29),(ra 0 30),(ra 0 31),(ra 0 32),(ra 0 33),(ra 0 33),(ra 0 33),(ra 0 33++[34,35]),(ra 0 33++[34,35,36]),(ra 0 33++ra 34 4),(ra 0 39),(ra 0 40),(ra 0 41),(ra 0 42),(ra 0 43),(ra 0 44),(ra 0 45),(ra 0 46),(ra 0 46),(ra 0 48),(ra 0 49),(ra 0 50)] [] (by kernel_rfl) (by kernel_rfl) (fun (bL:Nat) (v:aj) (G:GH)=>match bL with|0=>v=.slice (some ⟨b5,o5,none⟩) (jS l).length c5|1=>v=vi i|2=>v=(aK b5 (o5+i*1))|3=>v=vi P.id|4=>v=.slice (some ⟨b,o,none⟩) (jK l).length c7|5=>v=vi i|6=>v=(aK b (o+i*6))|7=>v=(aK b (o+i*6+0))|8=>v=vi P.id|9=>v=.bool false|10=>v=.bool false|11=>v=.bool true|12=>v=.bool false|13=>v=.bool false|14=>v=.bool false|15=>aB G (.sl 11 (P.items.map ay.dat)) v|16=>v=.slice (some ⟨b,o,none⟩) (jK l).length c7|17=>v=vi i|18=>v=(aK b (o+i*6))|19=>v=(aK b (o+i*6+1))|20=>v=pv|21=>v=.bool true|22=>v=.bool false|23=>v=.bool false|24=>v=.bool false|25=>v=.bool (decide (¬ (i:Int)≤0))|26=>v=vi i|27=>v=.bool (decide (0 < (i:Int)))|28=>v=.bool false|29=>v=.bool false|30=>v=.bool false|31=>v=.bool (decide (¬ (i:Int)≤0))|32=>v=.bool (decide (¬ (i:Int)≤0))|33=>v=.agg #[vi p1,vi p2]|34=>v=.slice (some ⟨b,o,none⟩) (jK l).length c7|35=>v=vi i|36=>v=(aK b (o+i*6))|37=>v=(aK b (o+i*6+2))|38=>v=.agg #[vi P.flow,vi P.at_]|39=>v=.bool false|40=>v=.bool false|41=>v=.bool false|42=>v=.bool false|43=>v=.bool (decide (¬ (i:Int)≤0))|44=>v=.bool (decide ((i:Int)≤0))|45=>v=.bool (decide ((i:Int)≤0))|46=>v=undef|47=>v=undef|48=>v=undef|49=>v=.bool false|50=>v=.bool false|_=>True) dN H ?_ ?_
    ·clear H;refine aG ?_ ?_ ?_ ?_ (aG ?_ ?_ ?_ ?_ (aG ?_ ?_ ?_ ?_ (aG ?_ ?_ ?_ ?_ (aG ?_ ?_ ?_ ?_ (aG ?_ ?_ ?_ ?_ (aG ?_ ?_ ?_ ?_ (aG ?_ ?_ ?_ ?_ (aG ?_ ?_ ?_ ?_ (aG ?_ ?_ ?_ ?_ (aG ?_ ?_ ?_ ?_ (aG ?_ ?_ (bg (j:=45) (by kernel_rfl) dN rfl rfl rfl rfl rfl (fun _ _ h=>bq h (aL (aR c0))) rfl (fun _=>rfl)) (bg (j:=45) (by kernel_rfl) dN rfl rfl rfl rfl rfl (fun _ _ h=>bq h (aL (aR c0))) rfl (fun _=>rfl)) (bG ?_ (bG ?_ (bG ?_ dU))))))))))))))
     ·refine bC [] rfl trivial (by kernel_rfl) dN rfl rfl ?_;intro aQ a w G1 hG HT H fin;exact kH H (Rm rfl fun _ H=>fin H iJ rfl)
     ·refine bC [] rfl trivial (by kernel_rfl) dN rfl rfl ?_;intro aQ a w G1 hG HT H fin;exact kH H (Rm rfl fun _ H=>fin H iJ rfl)
     ·refine bC [(0,90,_),(1,91,_)] rfl ⟨fun _ _ h=>h,fun _ _ h=>h,av⟩ (by kernel_rfl) dN rfl rfl ?_;intro aQ a w G1 hG HT H fin;exact kH H (Ri om aD rfl rfl fun _ H=>fin H iJ rfl)
     ·refine bC [(2,92,_)] rfl ⟨fun _ _ h=>h,av⟩ (by kernel_rfl) dN rfl rfl ?_;intro aQ a w G1 hG HT H fin;exact kH H (Rg aD rfl (aF hG (by simpa using hid)) fun _ H=>fin H iJ rfl)
     ·refine bC [] rfl trivial (by kernel_rfl) dN rfl rfl ?_;intro aQ a w G1 hG HT H fin;exact kH H (Rm rfl fun _ H=>fin H iJ rfl)
     ·refine bC [] rfl trivial (by kernel_rfl) dN rfl rfl ?_;intro aQ a w G1 hG HT H fin;exact kH H (Rm rfl fun _ H=>fin H iJ rfl)
     ·refine bC [(4,94,_),(5,95,_)] rfl ⟨fun _ _ h=>h,fun _ _ h=>h,av⟩ (by kernel_rfl) dN rfl rfl ?_;intro aQ a w G1 hG HT H fin;exact kH H (Ri Aj Bt rfl rfl fun _ H=>fin H iJ rfl)
     ·refine bC [(6,96,_)] rfl ⟨fun _ _ h=>h,av⟩ (by kernel_rfl) dN rfl rfl ?_;intro aQ a w G1 hG HT H fin;exact kH H (Rf KH rfl fun _ H=>fin H iJ rfl)
     ·refine bC [(7,97,_)] rfl ⟨fun _ _ h=>h,av⟩ (by kernel_rfl) dN rfl rfl ?_;intro aQ a w G1 hG HT H fin;exact kH H (Rg aD rfl (aF hG (hrow 0 _ rfl)) fun _ H=>fin H iJ rfl)
     ·refine bC [(3,93,_),(8,98,_)] rfl ⟨fun _ _ h=>h,fun _ _ h=>h,av⟩ (by kernel_rfl) dN rfl rfl ?_;intro aQ a w G1 hG HT H fin;refine kH H (Rc rfl ?_);clear H;intro a H;exact fin H iJ (aL (by simp))
     ·refine bC [(9,99,_)] rfl ⟨fun _ _ h=>h,av⟩ (by kernel_rfl) dN rfl rfl ?_;intro aQ a w G1 hG HT H fin;exact kH H (Rm rfl fun _ H=>fin H iJ rfl)
     ·refine bC [(10,100,_)] rfl ⟨fun _ _ h=>h,av⟩ (by kernel_rfl) dN rfl rfl ?_;intro aQ a w G1 hG HT H fin;refine mE H (wg H rfl rfl rfl) rfl rfl ?_;clear H;intro a H;exact fin H iJ rfl
     ·refine bC [(11,101,_),(10,100,_)] rfl ⟨fun _ _ h=>h,fun _ _ h=>h,av⟩ (by kernel_rfl) dN rfl rfl ?_;intro aQ a w G1 hG HT H fin;refine Bl H (wg H rfl rfl rfl) rfl rfl ?_;clear H;intro a H;exact fin H iJ rfl
     ·refine bC [(10,100,_),(12,102,_)] rfl ⟨fun _ _ h=>h,fun _ _ h=>h,av⟩ (by kernel_rfl) dN rfl rfl ?_;intro aQ a w G1 hG HT H fin;exact kH H (Pf rfl rfl fun _ H=>fin H iJ rfl)
     ·refine bC [(13,103,_)] rfl ⟨fun _ _ h=>h,av⟩ (by kernel_rfl) dN rfl rfl ?_;intro aQ a w G1 hG HT H fin;exact kH H (Rm rfl fun _ H=>fin H iJ rfl)
     ·refine bC [(14,104,_)] rfl ⟨fun _ _ h=>h,av⟩ (by kernel_rfl) dN rfl rfl ?_;intro aQ a w G1 hG HT H fin;refine mE H (wg H rfl rfl rfl) rfl rfl ?_;clear H;intro a H;exact fin H iJ (Jq.mono hG)
     ·refine bC [(14,104,_)] rfl ⟨fun _ _ h=>h,av⟩ (by kernel_rfl) dN rfl rfl ?_;intro aQ a w G1 hG HT H fin;refine mE H (wg H rfl rfl rfl) rfl rfl ?_;clear H;intro a H;exact fin H iJ rfl
     ·refine bC [(14,104,_)] rfl ⟨fun _ _ h=>h,av⟩ (by kernel_rfl) dN rfl rfl ?_;intro aQ a w G1 hG HT H fin;refine mE H (wg H rfl rfl rfl) rfl rfl ?_;clear H;intro a H;exact fin H iJ rfl
     ·refine bC [(16,106,_),(17,107,_),(14,104,_)] rfl ⟨fun _ _ h=>h,fun _ _ h=>h,fun _ _ h=>h,av⟩ (by kernel_rfl) dN rfl rfl ?_;intro aQ a w G1 hG HT H fin;refine E5 Aj Bt _ H (wg H rfl rfl rfl) rfl rfl rfl (by first|assumption|omega) rfl ?_;clear H;intro a H;exact fin H iJ rfl
     ·refine bC [(18,108,_),(14,104,_)] rfl ⟨fun _ _ h=>h,fun _ _ h=>h,av⟩ (by kernel_rfl) dN rfl rfl ?_;intro aQ a w G1 hG HT H fin;refine GZ KI H (wg H rfl rfl rfl) rfl rfl ?_;clear H;intro a H;exact fin H iJ rfl
     ·refine bC [(19,109,_),(14,104,_)] rfl ⟨fun _ _ h=>h,fun _ _ h=>h,av⟩ (by kernel_rfl) dN rfl rfl ?_;intro aQ a w G1 hG HT H fin;refine Af iM H (wg H rfl rfl rfl) rfl (H.hp.aH (aF hG (hrow 1 _ rfl))) rfl ?_;clear H;intro a H;exact fin H iJ rfl
     ·intro aQ a w G1 _ bK hc hG HT hv;have H:=HT;clear bK;obtain ⟨u105,Wq,N9⟩:=hv 15 105 (hc 15 (by decide)) rfl;(try dsimp only at N9);have H:=H.mh Wq;have H:=H.aU (hv 20 110 (hc 20 (by decide)) rfl) rfl;have H:=H.aU (hv 14 104 (hc 14 (by decide)) rfl) rfl;have Hb:=H.full;have H:=Hb;clear hc;refine s_call P6 H (wg H rfl rfl rfl) rfl (aaO _ _ H.ro P.items P.items _ _ N9 (hpv.mono hG) (by omega)) rfl ?_;clear H;rintro aeW afy a w ⟨afR,rfl,Vu⟩ U3 H;obtain rfl:=Vu.2 rfl;refine aI ⟨rfl,?_⟩;exact iL (by kernel_rfl) dN rfl rfl HT Hb hG hv U3 (rfl) H
     ·refine bC [(21,111,_),(14,104,_)] rfl ⟨fun _ _ h=>h,fun _ _ h=>h,av⟩ (by kernel_rfl) dN rfl rfl ?_;intro aQ a w G1 hG HT H fin;refine Bl H (wg H rfl rfl rfl) rfl rfl ?_;clear H;intro a H;exact fin H iJ rfl
     ·refine bC [(14,104,_),(22,112,_)] rfl ⟨fun _ _ h=>h,fun _ _ h=>h,av⟩ (by kernel_rfl) dN rfl rfl ?_;intro aQ a w G1 hG HT H fin;exact kH H (Pf rfl rfl fun _ H=>fin H iJ rfl)
     ·refine bC [(23,113,_)] rfl ⟨fun _ _ h=>h,av⟩ (by kernel_rfl) dN rfl rfl ?_;intro aQ a w G1 hG HT H fin;exact kH H (Rm rfl fun _ H=>fin H iJ rfl)
     ·refine bC [(24,114,_)] rfl ⟨fun _ _ h=>h,av⟩ (by kernel_rfl) dN rfl rfl ?_;intro aQ a w G1 hG HT H fin;refine mE H (wg H rfl rfl rfl) rfl rfl ?_;clear H;intro a H;exact fin H iJ rfl
     ·refine bC [(24,114,_)] rfl ⟨fun _ _ h=>h,av⟩ (by kernel_rfl) dN rfl rfl ?_;intro aQ a w G1 hG HT H fin;refine mE H (wg H rfl rfl rfl) rfl rfl ?_;clear H;intro a H;exact fin H iJ rfl
     ·refine bC [(26,116,_),(24,114,_)] rfl ⟨fun _ _ h=>h,fun _ _ h=>h,av⟩ (by kernel_rfl) dN rfl rfl ?_;intro aQ a w G1 hG HT H fin;refine GX H (wg H rfl rfl rfl) rfl rfl rfl rfl ?_;clear H;intro a H;exact fin H iJ rfl
     ·refine bC [(25,115,_),(27,117,_),(24,114,_)] rfl ⟨fun _ _ h=>h,fun _ _ h=>h,fun _ _ h=>h,av⟩ (by kernel_rfl) dN rfl rfl ?_;intro aQ a w G1 hG HT H fin;refine XG D8 H (wg H rfl rfl rfl) rfl rfl rfl ?_;clear H;intro a H;exact fin H iJ (by first|exact aL (by rw [show decide (¬ (i:Int)≤0)=decide (0 < (i:Int)) from decide_eq_decide.2 (by omega)];simp)|rfl)
     ·refine bC [(24,114,_),(28,118,_)] rfl ⟨fun _ _ h=>h,fun _ _ h=>h,av⟩ (by kernel_rfl) dN rfl rfl ?_;intro aQ a w G1 hG HT H fin;exact kH H (Pf rfl rfl fun _ H=>fin H iJ rfl)
     ·refine bC [(29,119,_)] rfl ⟨fun _ _ h=>h,av⟩ (by kernel_rfl) dN rfl rfl ?_;intro aQ a w G1 hG HT H fin;exact kH H (Rm rfl fun _ H=>fin H iJ rfl)
     ·refine bC [(30,120,_)] rfl ⟨fun _ _ h=>h,av⟩ (by kernel_rfl) dN rfl rfl ?_;intro aQ a w G1 hG HT H fin;refine mE H (wg H rfl rfl rfl) rfl rfl ?_;clear H;intro a H;exact fin H iJ rfl
     ·refine bC [(31,121,_),(30,120,_)] rfl ⟨fun _ _ h=>h,fun _ _ h=>h,av⟩ (by kernel_rfl) dN rfl rfl ?_;intro aQ a w G1 hG HT H fin;refine mE H (wg H rfl rfl rfl) rfl rfl ?_;clear H;intro a H;exact fin H iJ rfl
     ·refine bC [(32,122,_)] rfl ⟨fun _ _ h=>h,av⟩ (by kernel_rfl) dN rfl rfl ?_;intro aQ a w G1 hG HT H fin;refine bD iW (cs:=[vi p1,vi p2]) H (wg H rfl rfl (aJ c0)) rfl rfl (fun j v hj=>H.hp.aH (aF hG (NK j v hj))) rfl ?_;clear H;intro a H;exact fin H iJ rfl
     ·refine bC [(32,122,_)] rfl ⟨fun _ _ h=>h,av⟩ (by kernel_rfl) dN rfl rfl ?_;intro aQ a w G1 hG HT H fin;exact kH H (YM (aJ c0) rfl fun _ H=>fin H iJ rfl)
     ·refine bC [(32,122,_)] rfl ⟨fun _ _ h=>h,av⟩ (by kernel_rfl) dN rfl rfl ?_;intro aQ a w G1 hG HT H fin;exact kH H (YM (aJ c0) rfl fun _ H=>fin H iJ rfl)
     ·refine bC [(34,124,_),(35,125,_),(32,122,_)] rfl ⟨fun _ _ h=>h,fun _ _ h=>h,fun _ _ h=>h,av⟩ (by kernel_rfl) dN rfl rfl ?_;intro aQ a w G1 hG HT H fin;exact kH H (YI Aj Bt (aJ c0) rfl rfl fun _ H=>fin H iJ rfl)
     ·refine bC [(36,126,_),(32,122,_)] rfl ⟨fun _ _ h=>h,fun _ _ h=>h,av⟩ (by kernel_rfl) dN rfl rfl ?_;intro aQ a w G1 hG HT H fin;exact kH H (YF akc (aJ c0) rfl fun _ H=>fin H iJ rfl)
     ·refine bC [(37,127,_),(32,122,_)] rfl ⟨fun _ _ h=>h,fun _ _ h=>h,av⟩ (by kernel_rfl) dN rfl rfl ?_;intro aQ a w G1 hG HT H fin;refine bD iW (cs:=[vi P.flow,vi P.at_]) H (wg H rfl rfl (aJ c0)) rfl rfl (fun j v hj=>H.hp.aH (aF hG (by match j,hj with|0,hj=>exact hrow 2 v hj|1,hj=>exact hrow 3 v hj))) rfl ?_;clear H;intro a H;exact fin H iJ rfl
     ·refine bC [(33,123,_),(38,128,_),(32,122,_)] rfl ⟨fun _ _ h=>h,fun _ _ h=>h,fun _ _ h=>h,av⟩ (by kernel_rfl) dN rfl rfl ?_;intro aQ a w G1 hG HT H fin;refine LY (.inr rfl) Ug H (wg H rfl rfl (aJ c0)) rfl rfl rfl rfl ?_;clear H;intro a H;exact fin H iJ (by first|exact aL (by simp [sF,(hp1 (by omega)).1,(hp1 (by omega)).2])|rfl)
     ·refine bC [(32,122,_),(39,129,_),(30,120,_)] rfl ⟨fun _ _ h=>h,fun _ _ h=>h,fun _ _ h=>h,av⟩ (by kernel_rfl) dN rfl rfl ?_;intro aQ a w G1 hG HT H fin;refine E8 H (wg H rfl rfl rfl) rfl (aJ c0) rfl rfl ?_;clear H;intro a H;exact fin H iJ rfl
     ·refine bC [(30,120,_),(40,130,_)] rfl ⟨fun _ _ h=>h,fun _ _ h=>h,av⟩ (by kernel_rfl) dN rfl rfl ?_;intro aQ a w G1 hG HT H fin;exact kH H (Pf rfl rfl fun _ H=>fin H iJ rfl)
     ·refine bC [(41,131,_)] rfl ⟨fun _ _ h=>h,av⟩ (by kernel_rfl) dN rfl rfl ?_;intro aQ a w G1 hG HT H fin;exact kH H (Rm rfl fun _ H=>fin H iJ rfl)
     ·refine bC [(42,132,_)] rfl ⟨fun _ _ h=>h,av⟩ (by kernel_rfl) dN rfl rfl ?_;intro aQ a w G1 hG HT H fin;refine mE H (wg H rfl rfl rfl) rfl rfl ?_;clear H;intro a H;exact fin H iJ rfl
     ·refine bC [(43,133,_),(42,132,_)] rfl ⟨fun _ _ h=>h,fun _ _ h=>h,av⟩ (by kernel_rfl) dN rfl rfl ?_;intro aQ a w G1 hG HT H fin;refine Bl H (wg H rfl rfl rfl) rfl rfl ?_;clear H;intro a H;exact fin H iJ (by first|exact aL (by simp)|rfl)
     ·refine bC [(44,134,_),(42,132,_)] rfl ⟨fun _ _ h=>h,fun _ _ h=>h,av⟩ (by kernel_rfl) dN rfl rfl ?_;intro aQ a w G1 hG HT H fin;refine mE H (wg H rfl rfl rfl) rfl rfl ?_;clear H;intro a H;exact fin H iJ rfl
     ·intro aQ a w G1 _ bK hc hG HT hv;have H:=HT;clear bK;have H:=H.aU (hv 46 136 (hc 46 (by decide)) rfl) rfl;have H:=H.aU (hv 47 137 (hc 47 (by decide)) rfl) rfl;have H:=H.aU (hv 45 135 (hc 45 (by decide)) rfl) rfl;have Hb:=H.full;have H:=Hb;clear hc;refine kH H (Ks (aR c0) rfl ?_);clear H;intro a H;refine aI ⟨rfl,?_⟩;exact iL (by kernel_rfl) dN rfl rfl HT Hb hG hv (fun _ _ h=>h) (by first|exact aL (by simp [sF,(hp0 (by omega)).1,(hp0 (by omega)).2])|rfl) H
     ·refine bC [(45,135,_),(48,138,_),(42,132,_)] rfl ⟨fun _ _ h=>h,fun _ _ h=>h,fun _ _ h=>h,av⟩ (by kernel_rfl) dN rfl rfl ?_;intro aQ a w G1 hG HT H fin;refine JY H (wg H rfl rfl rfl) rfl (aR c0) rfl rfl ?_;clear H;intro a H;exact fin H iJ rfl
     refine bC [(42,132,_),(49,139,_)] rfl ⟨fun _ _ h=>h,fun _ _ h=>h,av⟩ (by kernel_rfl) dN rfl rfl ?_;intro aQ a w G1 hG HT H fin;exact kH H (Pf rfl rfl fun _ H=>fin H iJ rfl)
    clear H;intro a w G Cb H hv;have H:=H.aU (hv 50 140 rfl rfl) rfl;clear hv;refine aI ⟨rfl,?_⟩;refine eG _ _ ?_;clear eG;refine nW H rfl rfl ?_;refine fI ?_;refine ⟨_,by exact (H).sub ⟨rfl,rfl,rfl,rfl,rfl,rfl,rfl,rfl,rfl,av⟩,?_⟩;exact ⟨fun b o h=>Cb b o (hmb b o (F8 b o (oG b o h))),aF Cb (hrow 0 _ rfl)⟩
   skip
   have dN:∀ (bL:Nat) (v:aj) (G G':GH),(∀ k o,G k=some o→G' k=some o)→(fun (bL:Nat) (v:aj) (G:GH)=>match bL with|0=>v=.slice (some ⟨b5,o5,none⟩) (jS l).length c5|1=>v=vi i|2=>v=(aK b5 (o5+i*1))|3=>v=vi P.id|4=>v=.slice (some ⟨b,o,none⟩) (jK l).length c7|5=>v=vi i|6=>v=(aK b (o+i*6))|7=>v=(aK b (o+i*6+0))|8=>v=vi P.id|9=>v=.bool false|10=>v=.bool false|11=>v=.bool true|12=>v=.bool false|13=>v=.bool false|14=>v=.bool false|15=>aB G (.sl 11 (P.items.map ay.dat)) v|16=>v=.slice (some ⟨b,o,none⟩) (jK l).length c7|17=>v=vi i|18=>v=(aK b (o+i*6))|19=>v=(aK b (o+i*6+1))|20=>v=pv|21=>v=.bool true|22=>v=.bool false|23=>v=.bool false|24=>v=.bool false|25=>v=.bool (decide (¬ (i:Int)≤0))|26=>v=vi i|27=>v=.bool (decide (0 < (i:Int)))|28=>v=.bool false|29=>v=.bool false|30=>v=.bool false|31=>v=.bool (decide (¬ (i:Int)≤0))|32=>v=.bool (decide (¬ (i:Int)≤0))|33=>v=undef|34=>v=undef|35=>v=undef|36=>v=undef|37=>v=undef|38=>v=undef|39=>v=undef|40=>v=.bool false|41=>v=.bool false|42=>v=.bool false|43=>v=.bool (decide (¬ (i:Int)≤0))|44=>v=.bool (decide ((i:Int)≤0))|45=>v=.bool (decide ((i:Int)≤0))|46=>v=.agg #[vi p1,vi p2]|47=>v=.agg #[vi 0,vi 0]|48=>v=.bool false|49=>v=.bool false|50=>v=.bool false|_=>True) bL v G→(fun (bL:Nat) (v:aj) (G:GH)=>match bL with|0=>v=.slice (some ⟨b5,o5,none⟩) (jS l).length c5|1=>v=vi i|2=>v=(aK b5 (o5+i*1))|3=>v=vi P.id|4=>v=.slice (some ⟨b,o,none⟩) (jK l).length c7|5=>v=vi i|6=>v=(aK b (o+i*6))|7=>v=(aK b (o+i*6+0))|8=>v=vi P.id|9=>v=.bool false|10=>v=.bool false|11=>v=.bool true|12=>v=.bool false|13=>v=.bool false|14=>v=.bool false|15=>aB G (.sl 11 (P.items.map ay.dat)) v|16=>v=.slice (some ⟨b,o,none⟩) (jK l).length c7|17=>v=vi i|18=>v=(aK b (o+i*6))|19=>v=(aK b (o+i*6+1))|20=>v=pv|21=>v=.bool true|22=>v=.bool false|23=>v=.bool false|24=>v=.bool false|25=>v=.bool (decide (¬ (i:Int)≤0))|26=>v=vi i|27=>v=.bool (decide (0 < (i:Int)))|28=>v=.bool false|29=>v=.bool false|30=>v=.bool false|31=>v=.bool (decide (¬ (i:Int)≤0))|32=>v=.bool (decide (¬ (i:Int)≤0))|33=>v=undef|34=>v=undef|35=>v=undef|36=>v=undef|37=>v=undef|38=>v=undef|39=>v=undef|40=>v=.bool false|41=>v=.bool false|42=>v=.bool false|43=>v=.bool (decide (¬ (i:Int)≤0))|44=>v=.bool (decide ((i:Int)≤0))|45=>v=.bool (decide ((i:Int)≤0))|46=>v=.agg #[vi p1,vi p2]|47=>v=.agg #[vi 0,vi 0]|48=>v=.bool false|49=>v=.bool false|50=>v=.bool false|_=>True) bL v G':=by
    intro bL v G G' hm h
    match bL,h with
    | 0,h=>exact h
    | 1,h=>exact h
    | 2,h=>exact h
    | 3,h=>exact h
    | 4,h=>exact h
    | 5,h=>exact h
    | 6,h=>exact h
    | 7,h=>exact h
    | 8,h=>exact h
    | 9,h=>exact h
    | 10,h=>exact h
    | 11,h=>exact h
    | 12,h=>exact h
    | 13,h=>exact h
    | 14,h=>exact h
    | 15,h=>exact aB.mono hm h
    | 16,h=>exact h
    | 17,h=>exact h
    | 18,h=>exact h
    | 19,h=>exact h
    | 20,h=>exact h
    | 21,h=>exact h
    | 22,h=>exact h
    | 23,h=>exact h
    | 24,h=>exact h
    | 25,h=>exact h
    | 26,h=>exact h
    | 27,h=>exact h
    | 28,h=>exact h
    | 29,h=>exact h
    | 30,h=>exact h
    | 31,h=>exact h
    | 32,h=>exact h
    | 33,h=>exact h
    | 34,h=>exact h
    | 35,h=>exact h
    | 36,h=>exact h
    | 37,h=>exact h
    | 38,h=>exact h
    | 39,h=>exact h
    | 40,h=>exact h
    | 41,h=>exact h
    | 42,h=>exact h
    | 43,h=>exact h
    | 44,h=>exact h
    | 45,h=>exact h
    | 46,h=>exact h
    | 47,h=>exact h
    | 48,h=>exact h
    | 49,h=>exact h
    | 50,h=>exact h
    | _+51,h=>exact trivial
   refine BH (hmx) [[],[],[0,1],[0,1,2],[],[],[4,5],[4,5,6],(ra 4 4),(ra 0 9),(ra 0 10),(ra 0 11),(ra 0 12),(ra 0 13),(ra 0 14),(ra 0 15),(ra 0 15),(ra 0 15),(ra 0 15++[16,17]),(ra 0 15++[16,17,18]),(ra 0 15++ra 16 4),(ra 0 21),(ra 0 22),(ra 0 23),(ra 0 24),(ra 0 25),(ra 0 25),(ra 0 25++[26]),(ra 0 28),(ra 0 29),(ra 0 30),(ra 0 31),(ra 0 32),(ra 0 33),(ra 0 33),(ra 0 33),(ra 0 33++[34,35]),(ra 0 33++[34,35,36]),(ra 0 33++ra 34 4),(ra 0 39),(ra 0 40),(ra 0 41),(ra 0 42),(ra 0 43),(ra 0 44),(ra 0 45),(ra 0 46),(ra 0 46),(ra 0 48),(ra 0 49),(ra 0 50)] [] (by kernel_rfl) (by kernel_rfl) (fun (bL:Nat) (v:aj) (G:GH)=>match bL with|0=>v=.slice (some ⟨b5,o5,none⟩) (jS l).length c5|1=>v=vi i|2=>v=(aK b5 (o5+i*1))|3=>v=vi P.id|4=>v=.slice (some ⟨b,o,none⟩) (jK l).length c7|5=>v=vi i|6=>v=(aK b (o+i*6))|7=>v=(aK b (o+i*6+0))|8=>v=vi P.id|9=>v=.bool false|10=>v=.bool false|11=>v=.bool true|12=>v=.bool false|13=>v=.bool false|14=>v=.bool false|15=>aB G (.sl 11 (P.items.map ay.dat)) v|16=>v=.slice (some ⟨b,o,none⟩) (jK l).length c7|17=>v=vi i|18=>v=(aK b (o+i*6))|19=>v=(aK b (o+i*6+1))|20=>v=pv|21=>v=.bool true|22=>v=.bool false|23=>v=.bool false|24=>v=.bool false|25=>v=.bool (decide (¬ (i:Int)≤0))|26=>v=vi i|27=>v=.bool (decide (0 < (i:Int)))|28=>v=.bool false|29=>v=.bool false|30=>v=.bool false|31=>v=.bool (decide (¬ (i:Int)≤0))|32=>v=.bool (decide (¬ (i:Int)≤0))|33=>v=undef|34=>v=undef|35=>v=undef|36=>v=undef|37=>v=undef|38=>v=undef|39=>v=undef|40=>v=.bool false|41=>v=.bool false|42=>v=.bool false|43=>v=.bool (decide (¬ (i:Int)≤0))|44=>v=.bool (decide ((i:Int)≤0))|45=>v=.bool (decide ((i:Int)≤0))|46=>v=.agg #[vi p1,vi p2]|47=>v=.agg #[vi 0,vi 0]|48=>v=.bool false|49=>v=.bool false|50=>v=.bool false|_=>True) dN H ?_ ?_
   ·clear H;refine aG ?_ ?_ ?_ ?_ (aG ?_ ?_ ?_ ?_ (aG ?_ ?_ ?_ ?_ (aG ?_ ?_ ?_ ?_ (aG ?_ ?_ ?_ ?_ (aG ?_ ?_ ?_ ?_ (aG ?_ ?_ ?_ ?_ (aG ?_ ?_ ?_ ?_ (aG ?_ (bg (j:=32) (by kernel_rfl) dN rfl rfl rfl rfl rfl (fun _ _ h=>bq h (aL (aR c0))) rfl (fun _=>rfl)) (bg (j:=32) (by kernel_rfl) dN rfl rfl rfl rfl rfl (fun _ _ h=>bq h (aL (aR c0))) rfl (fun _=>rfl)) (bg (j:=32) (by kernel_rfl) dN rfl rfl rfl rfl rfl (fun _ _ h=>bq h (aL (aR c0))) rfl (fun _=>rfl)) (aG (bg (j:=32) (by kernel_rfl) dN rfl rfl rfl rfl rfl (fun _ _ h=>bq h (aL (aR c0))) rfl (fun _=>rfl)) (bg (j:=32) (by kernel_rfl) dN rfl rfl rfl rfl rfl (fun _ _ h=>bq h (aL (aR c0))) rfl (fun _=>rfl)) (bg (j:=32) (by kernel_rfl) dN rfl rfl rfl rfl rfl (fun _ _ h=>bq h (aL (aR c0))) rfl (fun _=>rfl)) ?_ (aG ?_ ?_ ?_ ?_ (aG ?_ ?_ ?_ ?_ (bG ?_ (bG ?_ (bG ?_ dU))))))))))))))
    ·refine bC [] rfl trivial (by kernel_rfl) dN rfl rfl ?_;intro aQ a w G1 hG HT H fin;exact kH H (Rm rfl fun _ H=>fin H iJ rfl)
    ·refine bC [] rfl trivial (by kernel_rfl) dN rfl rfl ?_;intro aQ a w G1 hG HT H fin;exact kH H (Rm rfl fun _ H=>fin H iJ rfl)
    ·refine bC [(0,90,_),(1,91,_)] rfl ⟨fun _ _ h=>h,fun _ _ h=>h,av⟩ (by kernel_rfl) dN rfl rfl ?_;intro aQ a w G1 hG HT H fin;exact kH H (Ri om aD rfl rfl fun _ H=>fin H iJ rfl)
    ·refine bC [(2,92,_)] rfl ⟨fun _ _ h=>h,av⟩ (by kernel_rfl) dN rfl rfl ?_;intro aQ a w G1 hG HT H fin;exact kH H (Rg aD rfl (aF hG (by simpa using hid)) fun _ H=>fin H iJ rfl)
    ·refine bC [] rfl trivial (by kernel_rfl) dN rfl rfl ?_;intro aQ a w G1 hG HT H fin;exact kH H (Rm rfl fun _ H=>fin H iJ rfl)
    ·refine bC [] rfl trivial (by kernel_rfl) dN rfl rfl ?_;intro aQ a w G1 hG HT H fin;exact kH H (Rm rfl fun _ H=>fin H iJ rfl)
    ·refine bC [(4,94,_),(5,95,_)] rfl ⟨fun _ _ h=>h,fun _ _ h=>h,av⟩ (by kernel_rfl) dN rfl rfl ?_;intro aQ a w G1 hG HT H fin;exact kH H (Ri Aj Bt rfl rfl fun _ H=>fin H iJ rfl)
    ·refine bC [(6,96,_)] rfl ⟨fun _ _ h=>h,av⟩ (by kernel_rfl) dN rfl rfl ?_;intro aQ a w G1 hG HT H fin;exact kH H (Rf KH rfl fun _ H=>fin H iJ rfl)
    ·refine bC [(7,97,_)] rfl ⟨fun _ _ h=>h,av⟩ (by kernel_rfl) dN rfl rfl ?_;intro aQ a w G1 hG HT H fin;exact kH H (Rg aD rfl (aF hG (hrow 0 _ rfl)) fun _ H=>fin H iJ rfl)
    ·refine bC [(3,93,_),(8,98,_)] rfl ⟨fun _ _ h=>h,fun _ _ h=>h,av⟩ (by kernel_rfl) dN rfl rfl ?_;intro aQ a w G1 hG HT H fin;refine kH H (Rc rfl ?_);clear H;intro a H;exact fin H iJ (aL (by simp))
    ·refine bC [(9,99,_)] rfl ⟨fun _ _ h=>h,av⟩ (by kernel_rfl) dN rfl rfl ?_;intro aQ a w G1 hG HT H fin;exact kH H (Rm rfl fun _ H=>fin H iJ rfl)
    ·refine bC [(10,100,_)] rfl ⟨fun _ _ h=>h,av⟩ (by kernel_rfl) dN rfl rfl ?_;intro aQ a w G1 hG HT H fin;refine mE H (wg H rfl rfl rfl) rfl rfl ?_;clear H;intro a H;exact fin H iJ rfl
    ·refine bC [(11,101,_),(10,100,_)] rfl ⟨fun _ _ h=>h,fun _ _ h=>h,av⟩ (by kernel_rfl) dN rfl rfl ?_;intro aQ a w G1 hG HT H fin;refine Bl H (wg H rfl rfl rfl) rfl rfl ?_;clear H;intro a H;exact fin H iJ rfl
    ·refine bC [(10,100,_),(12,102,_)] rfl ⟨fun _ _ h=>h,fun _ _ h=>h,av⟩ (by kernel_rfl) dN rfl rfl ?_;intro aQ a w G1 hG HT H fin;exact kH H (Pf rfl rfl fun _ H=>fin H iJ rfl)
    ·refine bC [(13,103,_)] rfl ⟨fun _ _ h=>h,av⟩ (by kernel_rfl) dN rfl rfl ?_;intro aQ a w G1 hG HT H fin;exact kH H (Rm rfl fun _ H=>fin H iJ rfl)
    ·refine bC [(14,104,_)] rfl ⟨fun _ _ h=>h,av⟩ (by kernel_rfl) dN rfl rfl ?_;intro aQ a w G1 hG HT H fin;refine mE H (wg H rfl rfl rfl) rfl rfl ?_;clear H;intro a H;exact fin H iJ (Jq.mono hG)
    ·refine bC [(14,104,_)] rfl ⟨fun _ _ h=>h,av⟩ (by kernel_rfl) dN rfl rfl ?_;intro aQ a w G1 hG HT H fin;refine mE H (wg H rfl rfl rfl) rfl rfl ?_;clear H;intro a H;exact fin H iJ rfl
    ·refine bC [(14,104,_)] rfl ⟨fun _ _ h=>h,av⟩ (by kernel_rfl) dN rfl rfl ?_;intro aQ a w G1 hG HT H fin;refine mE H (wg H rfl rfl rfl) rfl rfl ?_;clear H;intro a H;exact fin H iJ rfl
    ·refine bC [(16,106,_),(17,107,_),(14,104,_)] rfl ⟨fun _ _ h=>h,fun _ _ h=>h,fun _ _ h=>h,av⟩ (by kernel_rfl) dN rfl rfl ?_;intro aQ a w G1 hG HT H fin;refine E5 Aj Bt _ H (wg H rfl rfl rfl) rfl rfl rfl (by first|assumption|omega) rfl ?_;clear H;intro a H;exact fin H iJ rfl
    ·refine bC [(18,108,_),(14,104,_)] rfl ⟨fun _ _ h=>h,fun _ _ h=>h,av⟩ (by kernel_rfl) dN rfl rfl ?_;intro aQ a w G1 hG HT H fin;refine GZ KI H (wg H rfl rfl rfl) rfl rfl ?_;clear H;intro a H;exact fin H iJ rfl
    ·refine bC [(19,109,_),(14,104,_)] rfl ⟨fun _ _ h=>h,fun _ _ h=>h,av⟩ (by kernel_rfl) dN rfl rfl ?_;intro aQ a w G1 hG HT H fin;refine Af iM H (wg H rfl rfl rfl) rfl (H.hp.aH (aF hG (hrow 1 _ rfl))) rfl ?_;clear H;intro a H;exact fin H iJ rfl
    ·intro aQ a w G1 _ bK hc hG HT hv;have H:=HT;clear bK;obtain ⟨u105,Wq,N9⟩:=hv 15 105 (hc 15 (by decide)) rfl;(try dsimp only at N9);have H:=H.mh Wq;have H:=H.aU (hv 20 110 (hc 20 (by decide)) rfl) rfl;have H:=H.aU (hv 14 104 (hc 14 (by decide)) rfl) rfl;have Hb:=H.full;have H:=Hb;clear hc;refine s_call P6 H (wg H rfl rfl rfl) rfl (aaO _ _ H.ro P.items P.items _ _ N9 (hpv.mono hG) (by omega)) rfl ?_;clear H;rintro aeW afy a w ⟨afR,rfl,Vu⟩ U3 H;obtain rfl:=Vu.2 rfl;refine aI ⟨rfl,?_⟩;exact iL (by kernel_rfl) dN rfl rfl HT Hb hG hv U3 (rfl) H
    ·refine bC [(21,111,_),(14,104,_)] rfl ⟨fun _ _ h=>h,fun _ _ h=>h,av⟩ (by kernel_rfl) dN rfl rfl ?_;intro aQ a w G1 hG HT H fin;refine Bl H (wg H rfl rfl rfl) rfl rfl ?_;clear H;intro a H;exact fin H iJ rfl
    ·refine bC [(14,104,_),(22,112,_)] rfl ⟨fun _ _ h=>h,fun _ _ h=>h,av⟩ (by kernel_rfl) dN rfl rfl ?_;intro aQ a w G1 hG HT H fin;exact kH H (Pf rfl rfl fun _ H=>fin H iJ rfl)
    ·refine bC [(23,113,_)] rfl ⟨fun _ _ h=>h,av⟩ (by kernel_rfl) dN rfl rfl ?_;intro aQ a w G1 hG HT H fin;exact kH H (Rm rfl fun _ H=>fin H iJ rfl)
    ·refine bC [(24,114,_)] rfl ⟨fun _ _ h=>h,av⟩ (by kernel_rfl) dN rfl rfl ?_;intro aQ a w G1 hG HT H fin;refine mE H (wg H rfl rfl rfl) rfl rfl ?_;clear H;intro a H;exact fin H iJ rfl
    ·refine bC [(24,114,_)] rfl ⟨fun _ _ h=>h,av⟩ (by kernel_rfl) dN rfl rfl ?_;intro aQ a w G1 hG HT H fin;refine mE H (wg H rfl rfl rfl) rfl rfl ?_;clear H;intro a H;exact fin H iJ rfl
    ·refine bC [(26,116,_),(24,114,_)] rfl ⟨fun _ _ h=>h,fun _ _ h=>h,av⟩ (by kernel_rfl) dN rfl rfl ?_;intro aQ a w G1 hG HT H fin;refine GX H (wg H rfl rfl rfl) rfl rfl rfl rfl ?_;clear H;intro a H;exact fin H iJ rfl
    ·refine bC [(25,115,_),(27,117,_),(24,114,_)] rfl ⟨fun _ _ h=>h,fun _ _ h=>h,fun _ _ h=>h,av⟩ (by kernel_rfl) dN rfl rfl ?_;intro aQ a w G1 hG HT H fin;refine XG D8 H (wg H rfl rfl rfl) rfl rfl rfl ?_;clear H;intro a H;exact fin H iJ (by first|exact aL (by rw [show decide (¬ (i:Int)≤0)=decide (0 < (i:Int)) from decide_eq_decide.2 (by omega)];simp)|rfl)
    ·refine bC [(24,114,_),(28,118,_)] rfl ⟨fun _ _ h=>h,fun _ _ h=>h,av⟩ (by kernel_rfl) dN rfl rfl ?_;intro aQ a w G1 hG HT H fin;exact kH H (Pf rfl rfl fun _ H=>fin H iJ rfl)
    ·refine bC [(29,119,_)] rfl ⟨fun _ _ h=>h,av⟩ (by kernel_rfl) dN rfl rfl ?_;intro aQ a w G1 hG HT H fin;exact kH H (Rm rfl fun _ H=>fin H iJ rfl)
    ·refine bC [(30,120,_)] rfl ⟨fun _ _ h=>h,av⟩ (by kernel_rfl) dN rfl rfl ?_;intro aQ a w G1 hG HT H fin;refine mE H (wg H rfl rfl rfl) rfl rfl ?_;clear H;intro a H;exact fin H iJ rfl
    ·refine bC [(31,121,_),(30,120,_)] rfl ⟨fun _ _ h=>h,fun _ _ h=>h,av⟩ (by kernel_rfl) dN rfl rfl ?_;intro aQ a w G1 hG HT H fin;refine mE H (wg H rfl rfl rfl) rfl rfl ?_;clear H;intro a H;exact fin H iJ rfl
    ·intro aQ a w G1 _ bK hc hG HT hv;have H:=HT;clear bK;have H:=H.aU (hv 33 123 (hc 33 (by decide)) rfl) rfl;have H:=H.aU (hv 38 128 (hc 38 (by decide)) rfl) rfl;have H:=H.aU (hv 32 122 (hc 32 (by decide)) rfl) rfl;have Hb:=H.full;have H:=Hb;clear hc;refine kH H (Ks (aR c0) rfl ?_);clear H;intro a H;refine aI ⟨rfl,?_⟩;exact iL (by kernel_rfl) dN rfl rfl HT Hb hG hv (fun _ _ h=>h) (by first|exact aL (by simp [sF,(hp1 (by omega)).1,(hp1 (by omega)).2])|rfl) H
    ·refine bC [(32,122,_),(39,129,_),(30,120,_)] rfl ⟨fun _ _ h=>h,fun _ _ h=>h,fun _ _ h=>h,av⟩ (by kernel_rfl) dN rfl rfl ?_;intro aQ a w G1 hG HT H fin;refine JY H (wg H rfl rfl rfl) rfl (aR c0) rfl rfl ?_;clear H;intro a H;exact fin H iJ rfl
    ·refine bC [(30,120,_),(40,130,_)] rfl ⟨fun _ _ h=>h,fun _ _ h=>h,av⟩ (by kernel_rfl) dN rfl rfl ?_;intro aQ a w G1 hG HT H fin;exact kH H (Pf rfl rfl fun _ H=>fin H iJ rfl)
    ·refine bC [(41,131,_)] rfl ⟨fun _ _ h=>h,av⟩ (by kernel_rfl) dN rfl rfl ?_;intro aQ a w G1 hG HT H fin;exact kH H (Rm rfl fun _ H=>fin H iJ rfl)
    ·refine bC [(42,132,_)] rfl ⟨fun _ _ h=>h,av⟩ (by kernel_rfl) dN rfl rfl ?_;intro aQ a w G1 hG HT H fin;refine mE H (wg H rfl rfl rfl) rfl rfl ?_;clear H;intro a H;exact fin H iJ rfl
    ·refine bC [(43,133,_),(42,132,_)] rfl ⟨fun _ _ h=>h,fun _ _ h=>h,av⟩ (by kernel_rfl) dN rfl rfl ?_;intro aQ a w G1 hG HT H fin;refine Bl H (wg H rfl rfl rfl) rfl rfl ?_;clear H;intro a H;exact fin H iJ (by first|exact aL (by simp)|rfl)
    ·refine bC [(44,134,_),(42,132,_)] rfl ⟨fun _ _ h=>h,fun _ _ h=>h,av⟩ (by kernel_rfl) dN rfl rfl ?_;intro aQ a w G1 hG HT H fin;refine mE H (wg H rfl rfl rfl) rfl rfl ?_;clear H;intro a H;exact fin H iJ rfl
    ·refine bC [(45,135,_)] rfl ⟨fun _ _ h=>h,av⟩ (by kernel_rfl) dN rfl rfl ?_;intro aQ a w G1 hG HT H fin;refine bD iW (cs:=[vi p1,vi p2]) H (wg H rfl rfl (gq (gF.1 c0))) rfl rfl (fun j v hj=>H.hp.aH (aF hG (NK j v hj))) rfl ?_;clear H;intro a H;exact fin H iJ rfl
    ·refine bC [(45,135,_)] rfl ⟨fun _ _ h=>h,av⟩ (by kernel_rfl) dN rfl rfl ?_;intro aQ a w G1 hG HT H fin;refine lY JZ [_,_] H (wg H rfl rfl (gq (gF.1 c0))) rfl rfl rfl rfl ?_;clear H;intro a H;exact fin H iJ rfl
    ·refine bC [(46,136,_),(47,137,_),(45,135,_)] rfl ⟨fun _ _ h=>h,fun _ _ h=>h,fun _ _ h=>h,av⟩ (by kernel_rfl) dN rfl rfl ?_;intro aQ a w G1 hG HT H fin;refine LY (.inr rfl) Ug H (wg H rfl rfl (gq (gF.1 c0))) rfl rfl rfl rfl ?_;clear H;intro a H;exact fin H iJ (by first|exact aL (by simp [sF,(hp0 (by omega)).1,(hp0 (by omega)).2])|rfl)
    ·refine bC [(45,135,_),(48,138,_),(42,132,_)] rfl ⟨fun _ _ h=>h,fun _ _ h=>h,fun _ _ h=>h,av⟩ (by kernel_rfl) dN rfl rfl ?_;intro aQ a w G1 hG HT H fin;refine E8 H (wg H rfl rfl rfl) rfl (gq (gF.1 c0)) rfl rfl ?_;clear H;intro a H;exact fin H iJ rfl
    refine bC [(42,132,_),(49,139,_)] rfl ⟨fun _ _ h=>h,fun _ _ h=>h,av⟩ (by kernel_rfl) dN rfl rfl ?_;intro aQ a w G1 hG HT H fin;exact kH H (Pf rfl rfl fun _ H=>fin H iJ rfl)
   clear H;intro a w G Cb H hv;have H:=H.aU (hv 50 140 rfl rfl) rfl;clear hv;refine aI ⟨rfl,?_⟩;refine eG _ _ ?_;clear eG;refine nW H rfl rfl ?_;refine fI ?_;refine ⟨_,by exact (H).sub ⟨rfl,rfl,rfl,rfl,rfl,rfl,rfl,rfl,rfl,av⟩,?_⟩;exact ⟨fun b o h=>Cb b o (hmb b o (F8 b o (oG b o h))),aF Cb (hrow 0 _ rfl)⟩
  clear H;intro gh a w hI H;obtain ⟨g14,hgh⟩:∃ x,x=gh:=⟨_,rfl⟩;subst hgh;obtain ⟨NK,alR⟩:=hI;dsimp only [lca,aS] at H;refine kP H (SC (Rm rfl (Rm rfl (Sp 142 rfl ?_ ?_)))) <;> clear H
  ·intro rE a H
   try have aoE:=dT rE
   refine kH H (aT rE rfl (aP rE rfl (aP rE rfl (Pt rE rfl (aM dO rfl (SC (Rm rfl (Rd rfl (Ra rfl ?_)))))))));clear H dO;intro a H;refine aI ?_;refine dP ((i+1,true,_)) (by exact (H).sub ⟨rfl,rfl,rfl,rfl,rfl,rfl,rfl,rfl,rfl,av⟩) ?_ ?_
   ·(try dsimp only);exact ⟨by omega,by rw [Px hi2,← ht,rE];rfl,fun b o h=>NK b o (hgm b o h)⟩
   first|omega|(dsimp only;omega)
  intro rE a H
  try have aoE:=dF rE
  refine kH H (YM rE rfl (YM rE rfl (YI Aj Bt rE rfl rfl (YF KH rE rfl (YR aD rE rfl alR (YM rE rfl (YC rE rfl (Pf rE rfl (aM dO rfl (SC (Rm rfl (Rd rfl (Ra rfl ?_)))))))))))));clear H dO;intro a H;refine aI ?_;refine dP ((i+1,decide (P.id=id),_)) (by exact (H).sub ⟨rfl,rfl,rfl,rfl,rfl,rfl,rfl,rfl,rfl,av⟩) ?_ ?_
  ·(try dsimp only);exact ⟨by omega,by rw [Px hi2,← ht,rE,← hP];rfl,fun b o h=>NK b o (hgm b o h)⟩
  first|omega|(dsimp only;omega)
 intro xC a H
 try have p67:=dF xC
 obtain rfl:i=(jK l).length:=by omega
 rw [Db] at ht;replace ht:t=OO l id:=ht;have hfg:=hfl.mono hgm;have hgg:=fun j v hj=>aF hgm (hga j v hj);replace hra:=hra.mono hgm;replace hrb:=hrb.mono hgm;replace yS:=yS.mono hgm;refine eD ?_;refine bQ _ _ ?_;clear bQ;refine dz (fun _ eB=>?_);refine bD mZ (cs:=D.cells) H wn rfl rfl (fun j v hj=>H.hp.aH (hgg j v hj)) rfl ?_;clear H;intro a H;refine kH H (Rm rfl ?_);clear H;intro a H;refine s_call aaF H wn rfl (abk _ _ H.ro D l id hfg (by omega)) rfl ?_;clear H;rintro v154 Sv a w ⟨aue,rfl,acF⟩ NU H;rw [abj,← ht] at H;obtain ⟨A16,n16,c16,rfl⟩:=acF.form;have hn16:=acF.len;rw [bZ] at hn16
 have hn0:t=false→n16=0:=fun h=>by
  have h2:=abj (l:=l) id;rw [← ht,h,Option.isSome_eq_false_iff,Option.isNone_iff_eq_none] at h2;rw [hn16,h2];rfl
 replace hfg:=hfg.mono NU;replace hgg:=fun j v hj=>aF NU (hgg j v hj);replace hra:=hra.mono NU;replace hrb:=hrb.mono NU;replace yS:=yS.mono NU;refine kH H (Rm rfl ?_);clear H;intro a H;(iterate 2 refine lD H wn rfl rfl rfl ?_;clear H;intro a H);refine kH H (Ra rfl (ak eB rfl ?_));clear H eB;intro a H;refine oO (ι:=Unit) (Tc:=[(1,_),(2,_),(6,_),(8,_),(9,_),(10,_)]) (Lc:=[]) (fun gh=>[]) (fun gh=>[]) (fun gh=>Sv) (fun gh=>True) (by exact (H).sub ⟨rfl,rfl,rfl,rfl,rfl,rfl,av⟩) ?_ ?_
 ·skip;refine kP H (SR fun _ eH=>Rm rfl (Rm rfl ?_));clear H;intro a H;refine XG D8 H wn rfl rfl rfl ?_;clear H;intro a H;refine kH H (Rm rfl (Sp 160 rfl ?_ ?_)) <;> clear H
  ·intro Dq a H
   exact absurd Dq (by simp)
  intro Dq a H
  try have atp:=dF Dq
  refine kH H (YM Dq rfl (YN Dq rfl (YM Dq rfl (Sp 163 rfl ?_ ?_)))) <;> clear H
  ·intro EF a H
   try have atq:=dT EF
   refine kH H (YM EF rfl (YL iN EF rfl (YC EF rfl (PT Dq EF rfl (Pf Dq rfl (Kz eH (Cd rfl ?_ ?_))))))) <;> clear H eH
   ·intro Qn a H
    try have atr:=dT Qn
    first|exact absurd Qn (by rw [hn0 (by simpa using EF)];decide)|exact absurd Qn (by decide)
   intro Qn a H
   refine fI ?_;refine ⟨(),by exact (H).sub ⟨rfl,rfl,rfl,rfl,rfl,rfl,av⟩,?_⟩
   trivial
  intro EF a H
  refine kH H (aT EF rfl (PF Dq EF rfl (Pf Dq rfl (Kz eH (Cf rfl rfl ?_)))));clear H eH;intro a H;refine fI ?_;refine ⟨(),by exact (H).sub ⟨rfl,rfl,rfl,rfl,rfl,rfl,av⟩,?_⟩
  trivial
 clear H;intro gh a w hI H;obtain ⟨u20,hgh⟩:∃ x,x=gh:=⟨_,rfl⟩;subst hgh;skip;dsimp only [lca,aS] at H;refine kP H (SR fun _ fO=>ak fO rfl (SQ fun _ gJ=>SR fun _ gT=>ak gT rfl (SB ?_)));clear H fO gT;intro a H;skip;refine fH (ι:=Nat × Bool × GH) (Tc:=[(1,_),(2,_),(6,_),(8,_),(9,_),(10,_)]) (Lc:=[]) (fun gh=>[(18,.bool gh.2.1),(19,vi gh.1)]) (fun gh=>[]) (fun gh=>gh.2.2) (fun gh=>gh.1≤(jG l).length∧gh.2.1=((jG l).take gh.1).any (fun a=>decide (a.2.id=id))∧(∀ b o,Sv b=some o→gh.2.2 b=some o)) (fun gh=>(jG l).length - gh.1) ((0,false,Sv)) (by exact (H).sub ⟨rfl,rfl,rfl,rfl,rfl,rfl,rfl,rfl,av⟩) ?_ ?_
 ·exact ⟨iK _,rfl,fun _ _ h=>h⟩
 clear H;intro gh a w hI H;obtain ⟨k,t2,g2⟩:=gh;dsimp only at hI H;obtain ⟨hk,ht2,jX⟩:=hI;dsimp only [lca,aS] at H;refine kP H (SQ fun _ gM=>SR fun _ jh=>Rm rfl (Rm rfl (Rl iN rfl (Rc rfl (Kz jh (Cd rfl ?_ ?_)))))) <;> clear H jh
 ·intro EG a H
  try have ady:=dT EG
  have hk2:k < (jG l).length:=by omega
  obtain ⟨X,hX⟩:∃ X,X=(jG l)[k]:=⟨_,rfl⟩;obtain ⟨hto,hpo⟩:=aez hok (jr hk2);have hzX:=X4 (jr hk2);obtain ⟨b,o,cx,rfl,hrow,hcx⟩:=aqP (hra.mono jX) hk2;obtain ⟨b9,o9,rfl,Lg⟩:=ape (hrb.mono jX) hk2;obtain ⟨b6,o6,rfl,hid⟩:=acH (f:=fun a:(Int × Int) × ay=>a.2.id) (yS.mono jX) hk2;rw [← hX] at hto hpo hzX hcx Lg hid;have EM:=hfg.mono jX;have hgh:=fun j v hj=>aF jX (hgg j v hj);obtain ⟨aX,Zw,Zt,bX,ZJ,ZF,dX,dnX,dcX,eX,enX,ecX,iX,inX,icX,rfl,-⟩:=hcx.item;refine kP H (Kc gM (SQ fun _ jo=>SB (SQ fun _ iU=>?_)));clear H gM;intro a H
  have DF:∀ (cB:Nat) (dZ:List aj) (bL:Nat) (v:aj) (G G':GH),(∀ k o,G k=some o→G' k=some o)→(fun (cB:Nat) (dZ:List aj) (bL:Nat) (v:aj) (G:GH)=>match bL with|0=>v=.agg D.cells.toArray|1=>v=.slice (some ⟨b,o,none⟩) (jG l).length c8|2=>v=vi k|3=>v=(aK b (o+k*11))|4=>v=(aK b (o+k*11+2))|5=>v=vi X.2.id|6=>v=.tuple #[.agg dZ.toArray,.bool true]∧bH G X.2.dat dZ|7=>v=.tuple #[.agg dZ.toArray,.bool true]∧bH G X.2.dat dZ|8=>v=.agg dZ.toArray∧bH G X.2.dat dZ|9=>v=.bool true|10=>v=(aK cB 0)|_=>True) cB dZ bL v G→(fun (cB:Nat) (dZ:List aj) (bL:Nat) (v:aj) (G:GH)=>match bL with|0=>v=.agg D.cells.toArray|1=>v=.slice (some ⟨b,o,none⟩) (jG l).length c8|2=>v=vi k|3=>v=(aK b (o+k*11))|4=>v=(aK b (o+k*11+2))|5=>v=vi X.2.id|6=>v=.tuple #[.agg dZ.toArray,.bool true]∧bH G X.2.dat dZ|7=>v=.tuple #[.agg dZ.toArray,.bool true]∧bH G X.2.dat dZ|8=>v=.agg dZ.toArray∧bH G X.2.dat dZ|9=>v=.bool true|10=>v=(aK cB 0)|_=>True) cB dZ bL v G':=by
   intro cB dZ bL v G G' hm h
   match bL,h with
   | 0,h=>exact h
   | 1,h=>exact h
   | 2,h=>exact h
   | 3,h=>exact h
   | 4,h=>exact h
   | 5,h=>exact h
   | 6,h=>exact ⟨h.1,h.2.mono hm⟩
   | 7,h=>exact ⟨h.1,h.2.mono hm⟩
   | 8,h=>exact ⟨h.1,h.2.mono hm⟩
   | 9,h=>exact h
   | 10,h=>exact h
   | 11,h=>exact trivial
   | 12,h=>exact trivial
   | _+13,h=>exact trivial
  refine agq (κ:=List aj) ([]) (hmx) [[],[],[],[1,2],[1,2,3],(ra 1 4),(ra 0 6),(ra 0 7),(ra 0 8),(ra 0 8),[],(ra 0 9++[10]),(ra 0 12)] [12] (by kernel_rfl) (by kernel_rfl) 6 10 11 (by decide) (by decide) (by decide) (by decide) (by decide) (by decide) (.cells #[vi 0,vi 0,vi 0,.string ⟨#[]⟩,.slice none 0 0,vi 0,vi 0,.slice none 0 0,.slice none 0 0,.slice none 0 0,.slice none 0 0] 35 (0,0)) (fun k_=>.cells k_.toArray 35 (0,0)) (fun (cB:Nat) (dZ:List aj) (bL:Nat) (v:aj) (G:GH)=>match bL with|0=>v=.agg D.cells.toArray|1=>v=.slice (some ⟨b,o,none⟩) (jG l).length c8|2=>v=vi k|3=>v=(aK b (o+k*11))|4=>v=(aK b (o+k*11+2))|5=>v=vi X.2.id|6=>v=.tuple #[.agg dZ.toArray,.bool true]∧bH G X.2.dat dZ|7=>v=.tuple #[.agg dZ.toArray,.bool true]∧bH G X.2.dat dZ|8=>v=.agg dZ.toArray∧bH G X.2.dat dZ|9=>v=.bool true|10=>v=(aK cB 0)|_=>True) (fun b b' k i v G hi hc h=>by match i,hi,hc,h with|0,_,_,h=>exact h|1,_,_,h=>exact h|2,_,_,h=>exact h|3,_,_,h=>exact h|4,_,_,h=>exact h|5,_,_,h=>exact h|6,_,_,h=>exact h|7,_,_,h=>exact h|8,_,_,h=>exact h|9,_,_,h=>exact h|10,hi,_,_=>exact absurd hi (by decide)|11,_,hc,_=>exact absurd hc (by decide)|12,_,hc,_=>exact absurd hc (by decide)|_+13,_,_,_=>exact trivial) (fun b k k' i v G hi hc h=>by match i,hi,hc,h with|0,_,_,h=>exact h|1,_,_,h=>exact h|2,_,_,h=>exact h|3,_,_,h=>exact h|4,_,_,h=>exact h|5,_,_,h=>exact h|6,hi,_,_=>exact absurd hi (by decide)|7,_,hc,_=>exact absurd hc (by decide)|8,_,hc,_=>exact absurd hc (by decide)|9,_,hc,_=>exact absurd hc (by decide)|10,_,_,h=>exact h|11,_,hc,_=>exact absurd hc (by decide)|12,_,hc,_=>exact absurd hc (by decide)|_+13,_,_,_=>exact trivial) H ?_ ?_ ?_ ?_ ?_ (by kernel_rfl)
  ·clear H;refine aG ?_ ?_ ?_ ?_ (aG ?_ ?_ ?_ ?_ (aG ?_ ?_ ?_ ?_ (bG ?_ dU)))
   ·intro cB dZ kQ aQ a w G1 kM _ _ _ _ bK hc hG HT hv;have H:=HT;clear bK;have Hb:=H.full;have H:=Hb;clear hc;refine bD mZ (cs:=D.cells) H wn rfl rfl (fun j v hj=>H.hp.aH (aF hG (hgh j v hj))) rfl ?_;clear H;intro a H;refine aI ⟨rfl,?_⟩;exact iL (by kernel_rfl) (DF cB dZ) rfl rfl HT Hb hG hv (fun _ _ h=>h) (rfl) H
   ·intro cB dZ kQ aQ a w G1 kM _ _ _ _ bK hc hG HT hv;have H:=HT;clear bK;have Hb:=H.full;have H:=Hb;clear hc;refine kH H (Rm rfl ?_);clear H;intro a H;refine aI ⟨rfl,?_⟩;exact iL (by kernel_rfl) (DF cB dZ) rfl rfl HT Hb hG hv (fun _ _ h=>h) (rfl) H
   ·intro cB dZ kQ aQ a w G1 kM _ _ _ _ bK hc hG HT hv;have H:=HT;clear bK;have Hb:=H.full;have H:=Hb;clear hc;refine kH H (Rm rfl ?_);clear H;intro a H;refine aI ⟨rfl,?_⟩;exact iL (by kernel_rfl) (DF cB dZ) rfl rfl HT Hb hG hv (fun _ _ h=>h) (rfl) H
   ·intro cB dZ kQ aQ a w G1 kM _ _ _ _ bK hc hG HT hv;have H:=HT;clear bK;have H:=H.aU (hv 1 177 (hc 1 (by decide)) rfl) rfl;have H:=H.aU (hv 2 178 (hc 2 (by decide)) rfl) rfl;have Hb:=H.full;have H:=Hb;clear hc;refine kH H (Ri iN dB rfl rfl ?_);clear H;intro a H;refine aI ⟨rfl,?_⟩;exact iL (by kernel_rfl) (DF cB dZ) rfl rfl HT Hb hG hv (fun _ _ h=>h) (rfl) H
   ·intro cB dZ kQ aQ a w G1 kM _ _ _ _ bK hc hG HT hv;have H:=HT;clear bK;have H:=H.aU (hv 3 179 (hc 3 (by decide)) rfl) rfl;have Hb:=H.full;have H:=Hb;clear hc;refine kH H (Rf qg rfl ?_);clear H;intro a H;refine aI ⟨rfl,?_⟩;exact iL (by kernel_rfl) (DF cB dZ) rfl rfl HT Hb hG hv (fun _ _ h=>h) (rfl) H
   ·intro cB dZ kQ aQ a w G1 kM _ _ _ _ bK hc hG HT hv;have H:=HT;clear bK;have H:=H.aU (hv 4 180 (hc 4 (by decide)) rfl) rfl;have Hb:=H.full;have H:=Hb;clear hc;refine kH H (Rg aD rfl (aF hG (hrow 2 _ rfl)) ?_);clear H;intro a H;refine aI ⟨rfl,?_⟩;exact iL (by kernel_rfl) (DF cB dZ) rfl rfl HT Hb hG hv (fun _ _ h=>h) (rfl) H
   ·intro _ _ _ _ _ _ _ _ _ hB;exact absurd hB (by decide)
   ·intro cB dZ kQ aQ a w G1 kM _ _ _ _ bK hc hG HT hv;have H:=HT;clear bK;obtain ⟨atx,amR,acf⟩:=hv 6 182 (hc 6 (by decide)) rfl;(try dsimp only at acf);obtain ⟨rfl,wB⟩:=acf;have H:=H.mh amR;have Hb:=H.full;have H:=Hb;clear hc;refine kH H (Rm rfl ?_);clear H;intro a H;refine aI ⟨rfl,?_⟩;exact iL (by kernel_rfl) (DF cB dZ) rfl rfl HT Hb hG hv (fun _ _ h=>h) (⟨rfl,wB⟩) H
   ·intro cB dZ kQ aQ a w G1 kM _ _ _ _ bK hc hG HT hv;have H:=HT;clear bK;obtain ⟨aqU,Ws,Oc⟩:=hv 7 175 (hc 7 (by decide)) rfl;(try dsimp only at Oc);obtain ⟨rfl,wB⟩:=Oc;have H:=H.mh Ws;have Hb:=H.full;have H:=Hb;clear hc;refine lD H wn rfl rfl rfl ?_;clear H;intro a H;refine aI ⟨rfl,?_⟩;exact iL (by kernel_rfl) (DF cB dZ) rfl rfl HT Hb hG hv (fun _ _ h=>h) (⟨rfl,wB⟩) H
   ·intro cB dZ kQ aQ a w G1 kM _ _ _ _ bK hc hG HT hv;have H:=HT;clear bK;obtain ⟨aqU,Ws,Oc⟩:=hv 7 175 (hc 7 (by decide)) rfl;(try dsimp only at Oc);obtain ⟨rfl,wB⟩:=Oc;have H:=H.mh Ws;have Hb:=H.full;have H:=Hb;clear hc;refine lD H wn rfl rfl rfl ?_;clear H;intro a H;refine aI ⟨rfl,?_⟩;exact iL (by kernel_rfl) (DF cB dZ) rfl rfl HT Hb hG hv (fun _ _ h=>h) (rfl) H
   ·intro _ _ _ _ _ _ _ _ _ _ hB;exact absurd hB (by decide)
   ·intro _ _ _ _ _ _ _ _ _ _ _ hB;exact absurd hB (by decide)
   intro _ _ _ _ _ _ _ _ hB;exact absurd hB (by decide)
  ·clear H;intro o_ cB kQ aQ a w G1 kM nK _ hc hG HT hv;obtain rfl:_=o_:=Option.some.inj nK;clear nK;have H:=HT;have H:=H.aU (hv ([]) 0 176 (by decide) (hc 0 (by decide)) rfl) rfl;have H:=H.aU (hv ([]) 5 181 (by decide) (hc 5 (by decide)) rfl) rfl;have Hb:=H.full;have H:=Hb;clear hc;refine s_call aaG H wn rfl (aap _ _ H.ro D l X.2.id (EM.mono hG) (by omega) (fun a ha=>Nat.le_trans (X4 ha) (by omega))) rfl ?_;clear H;rintro v182 arX a w hx akC H;rw [hto] at hx;obtain ⟨aah,rfl,wB⟩:=hx;dsimp only [Option.getD_some,Option.isSome_some] at wB H;refine aI ⟨rfl,aah,?_⟩;exact aaq (by kernel_rfl) (DF cB (aah)) rfl HT Hb hG (fun j e h1 h2 h3=>hv _ j e h1 h2 h3) akC (⟨rfl,wB⟩) H
  ·clear H;intro o_ dZ aQ a w G1 nK _ hc hG HT hv;obtain rfl:_=o_:=Option.some.inj nK;clear nK;have H:=HT;have Hb:=H.full;have H:=Hb;clear hc;refine dR dB H wn rfl ?_;clear H;intro b20 a w Qw H;refine aI ⟨rfl,b20,?_⟩;exact M7 (by kernel_rfl) rfl HT Hb hG (fun j e h1 h2 h3=>hv _ j e h1 h2 h3) (rfl) H
  ·clear H;intro o_ cB dZ aQ a w G1 nK _ hc hG HT hv;obtain rfl:_=o_:=Option.some.inj nK;clear nK;have H:=HT;have H:=H.aU (hv 10 20 (hc 10 (by decide)) rfl) rfl;obtain ⟨aqV,Wt,Od⟩:=hv 8 183 (hc 8 (by decide)) rfl;(try dsimp only at Od);obtain ⟨rfl,wB⟩:=Od;obtain ⟨aY,MQ,ML,bY,MU,MS,dY,M6,M5,eY,Nh,M9,iY,Oo,Om,rfl,-⟩:=wB.item;have H:=H.mh Wt;have Hb:=H.full;have H:=Hb;clear hc;refine bO dB 0 (vs:=[_,_,_,_,_,_,_,_,_,_,_]) _ H wn rfl rfl rfl rfl rfl rfl rfl rfl ?_;clear H;intro w H;dsimp only [List.set,setRow] at H;refine aI ⟨rfl,?_⟩;exact TD rfl HT hG hv H
  clear H;intro b20 dZ a w G F9 H hv;have H:=H.aU (hv 10 20 rfl rfl) rfl;obtain ⟨aqV,Wt,Od⟩:=hv 8 183 (by decide) rfl;(try dsimp only at Od);obtain ⟨rfl,wB⟩:=Od;obtain ⟨aY,MQ,ML,bY,MU,MS,dY,M6,M5,eY,Nh,M9,iY,Oo,Om,rfl,-⟩:=wB.item;have H:=H.mh Wt;have H:=H.aU (hv 9 184 rfl rfl) rfl;clear hv;refine kH H (Ra rfl ?_);clear H;intro a H;refine aI ⟨rfl,?_⟩;refine iU _ _ ?_;clear iU;refine aO (fun _ kX=>?_);obtain ⟨Gc,hmc,Qw,H⟩:=H.fD;have VJ:=fun j v hj=>Dn Qw 0 [vi X.2.kind,vi X.2.code,vi X.2.id,.string X.2.text,.slice aY MQ ML,vi X.2.head.marks.ins,vi X.2.head.marks.move,.slice bY MU MS,.slice dY M6 M5,.slice eY Nh M9,.slice iY Oo Om] rfl j v hj;replace EM:=(EM.mono F9).mono hmc;replace hgh:=fun j v hj=>aF hmc (aF F9 (hgh j v hj));replace hrow:=fun j u hj=>aF hmc (aF F9 (hrow j u hj));replace Lg:=fun j u hj=>aF hmc (aF F9 (Lg j u hj));replace hid:=aF hmc (aF F9 hid);replace hcx:=(hcx.mono F9).mono hmc;replace wB:=wB.mono hmc
  have DI:∀ (cB bL:Nat) (v:aj) (G G':GH),(∀ k o,G k=some o→G' k=some o)→(fun (cB bL:Nat) (v:aj) (G:GH)=>match bL with|0=>v=.agg D.cells.toArray|1=>v=.slice (some ⟨b,o,none⟩) (jG l).length c8|2=>v=vi k|3=>v=(aK b (o+k*11))|4=>v=(aK b (o+k*11+2))|5=>v=vi X.2.id|6=>v=.tuple #[.agg #[vi X.1.1,vi X.1.2],.bool true]|7=>v=.tuple #[.agg #[vi X.1.1,vi X.1.2],.bool true]|8=>v=.agg #[vi X.1.1,vi X.1.2]|9=>v=.bool true|10=>v=(aK cB 0)|_=>True) cB bL v G→(fun (cB bL:Nat) (v:aj) (G:GH)=>match bL with|0=>v=.agg D.cells.toArray|1=>v=.slice (some ⟨b,o,none⟩) (jG l).length c8|2=>v=vi k|3=>v=(aK b (o+k*11))|4=>v=(aK b (o+k*11+2))|5=>v=vi X.2.id|6=>v=.tuple #[.agg #[vi X.1.1,vi X.1.2],.bool true]|7=>v=.tuple #[.agg #[vi X.1.1,vi X.1.2],.bool true]|8=>v=.agg #[vi X.1.1,vi X.1.2]|9=>v=.bool true|10=>v=(aK cB 0)|_=>True) cB bL v G':=by
   intro cB bL v G G' hm h
   match bL,h with
   | 0,h=>exact h
   | 1,h=>exact h
   | 2,h=>exact h
   | 3,h=>exact h
   | 4,h=>exact h
   | 5,h=>exact h
   | 6,h=>exact h
   | 7,h=>exact h
   | 8,h=>exact h
   | 9,h=>exact h
   | 10,h=>exact h
   | 11,h=>exact trivial
   | 12,h=>exact trivial
   | _+13,h=>exact trivial
  refine ZT (hmx) [[],[],[],[1,2],[1,2,3],(ra 1 4),(ra 0 6),(ra 0 7),(ra 0 8),(ra 0 8),[],(ra 0 9++[10]),(ra 0 12)] [12] (by kernel_rfl) (by kernel_rfl) 10 11 (by decide) (by decide) (by decide) (by decide) (.cells #[vi 0,vi 0] 54 (0,0)) (.cells #[vi X.1.1,vi X.1.2] 54 (0,0)) (fun (cB bL:Nat) (v:aj) (G:GH)=>match bL with|0=>v=.agg D.cells.toArray|1=>v=.slice (some ⟨b,o,none⟩) (jG l).length c8|2=>v=vi k|3=>v=(aK b (o+k*11))|4=>v=(aK b (o+k*11+2))|5=>v=vi X.2.id|6=>v=.tuple #[.agg #[vi X.1.1,vi X.1.2],.bool true]|7=>v=.tuple #[.agg #[vi X.1.1,vi X.1.2],.bool true]|8=>v=.agg #[vi X.1.1,vi X.1.2]|9=>v=.bool true|10=>v=(aK cB 0)|_=>True) (fun b b' i v G hi hc h=>by match i,hi,hc,h with|0,_,_,h=>exact h|1,_,_,h=>exact h|2,_,_,h=>exact h|3,_,_,h=>exact h|4,_,_,h=>exact h|5,_,_,h=>exact h|6,_,_,h=>exact h|7,_,_,h=>exact h|8,_,_,h=>exact h|9,_,_,h=>exact h|10,hi,_,_=>exact absurd hi (by decide)|11,_,hc,_=>exact absurd hc (by decide)|12,_,hc,_=>exact absurd hc (by decide)|_+13,_,_,_=>exact trivial) H ?_ ?_ ?_ ?_ (by kernel_rfl)
  ·clear H;refine aG ?_ ?_ ?_ ?_ (aG ?_ ?_ ?_ ?_ (aG ?_ ?_ ?_ ?_ (bG ?_ dU)))
   ·intro cB kQ aQ a w G1 kM _ _ _ bK hc hG HT hv;have H:=HT;clear bK;have Hb:=H.full;have H:=Hb;clear hc;refine bD mZ (cs:=D.cells) H wn rfl rfl (fun j v hj=>H.hp.aH (aF hG (hgh j v hj))) rfl ?_;clear H;intro a H;refine aI ⟨rfl,?_⟩;exact iL (by kernel_rfl) (DI cB) rfl rfl HT Hb hG hv (fun _ _ h=>h) (rfl) H
   ·intro cB kQ aQ a w G1 kM _ _ _ bK hc hG HT hv;have H:=HT;clear bK;have Hb:=H.full;have H:=Hb;clear hc;refine kH H (Rm rfl ?_);clear H;intro a H;refine aI ⟨rfl,?_⟩;exact iL (by kernel_rfl) (DI cB) rfl rfl HT Hb hG hv (fun _ _ h=>h) (rfl) H
   ·intro cB kQ aQ a w G1 kM _ _ _ bK hc hG HT hv;have H:=HT;clear bK;have Hb:=H.full;have H:=Hb;clear hc;refine kH H (Rm rfl ?_);clear H;intro a H;refine aI ⟨rfl,?_⟩;exact iL (by kernel_rfl) (DI cB) rfl rfl HT Hb hG hv (fun _ _ h=>h) (rfl) H
   ·intro cB kQ aQ a w G1 kM _ _ _ bK hc hG HT hv;have H:=HT;clear bK;have H:=H.aU (hv 1 187 (hc 1 (by decide)) rfl) rfl;have H:=H.aU (hv 2 188 (hc 2 (by decide)) rfl) rfl;have Hb:=H.full;have H:=Hb;clear hc;refine kH H (Ri iN dB rfl rfl ?_);clear H;intro a H;refine aI ⟨rfl,?_⟩;exact iL (by kernel_rfl) (DI cB) rfl rfl HT Hb hG hv (fun _ _ h=>h) (rfl) H
   ·intro cB kQ aQ a w G1 kM _ _ _ bK hc hG HT hv;have H:=HT;clear bK;have H:=H.aU (hv 3 189 (hc 3 (by decide)) rfl) rfl;have Hb:=H.full;have H:=Hb;clear hc;refine kH H (Rf qg rfl ?_);clear H;intro a H;refine aI ⟨rfl,?_⟩;exact iL (by kernel_rfl) (DI cB) rfl rfl HT Hb hG hv (fun _ _ h=>h) (rfl) H
   ·intro cB kQ aQ a w G1 kM _ _ _ bK hc hG HT hv;have H:=HT;clear bK;have H:=H.aU (hv 4 190 (hc 4 (by decide)) rfl) rfl;have Hb:=H.full;have H:=Hb;clear hc;refine kH H (Rg aD rfl (aF hG (hrow 2 _ rfl)) ?_);clear H;intro a H;refine aI ⟨rfl,?_⟩;exact iL (by kernel_rfl) (DI cB) rfl rfl HT Hb hG hv (fun _ _ h=>h) (rfl) H
   ·intro cB kQ aQ a w G1 kM _ _ _ bK hc hG HT hv;have H:=HT;clear bK;have H:=H.aU (hv 0 186 (hc 0 (by decide)) rfl) rfl;have H:=H.aU (hv 5 191 (hc 5 (by decide)) rfl) rfl;have Hb:=H.full;have H:=Hb;clear hc;refine s_call P5 H wn rfl (Rz _ _ H.ro D l X.2.id (EM.mono hG) (by omega)) rfl ?_;clear H;rintro atZ arY a w rfl akD H;rw [hpo] at H;dsimp only [Option.getD_some,Option.isSome_some] at H;refine aI ⟨rfl,?_⟩;exact iL (by kernel_rfl) (DI cB) rfl rfl HT Hb hG hv akD (rfl) H
   ·intro cB kQ aQ a w G1 kM _ _ _ bK hc hG HT hv;have H:=HT;clear bK;have H:=H.aU (hv 6 192 (hc 6 (by decide)) rfl) rfl;have Hb:=H.full;have H:=Hb;clear hc;refine kH H (Rm rfl ?_);clear H;intro a H;refine aI ⟨rfl,?_⟩;exact iL (by kernel_rfl) (DI cB) rfl rfl HT Hb hG hv (fun _ _ h=>h) (rfl) H
   ·intro cB kQ aQ a w G1 kM _ _ _ bK hc hG HT hv;have H:=HT;clear bK;have H:=H.aU (hv 7 185 (hc 7 (by decide)) rfl) rfl;have Hb:=H.full;have H:=Hb;clear hc;refine lD H wn rfl rfl rfl ?_;clear H;intro a H;refine aI ⟨rfl,?_⟩;exact iL (by kernel_rfl) (DI cB) rfl rfl HT Hb hG hv (fun _ _ h=>h) (rfl) H
   ·intro cB kQ aQ a w G1 kM _ _ _ bK hc hG HT hv;have H:=HT;clear bK;have H:=H.aU (hv 7 185 (hc 7 (by decide)) rfl) rfl;have Hb:=H.full;have H:=Hb;clear hc;refine lD H wn rfl rfl rfl ?_;clear H;intro a H;refine aI ⟨rfl,?_⟩;exact iL (by kernel_rfl) (DI cB) rfl rfl HT Hb hG hv (fun _ _ h=>h) (rfl) H
   ·intro _ _ _ _ _ _ _ _ hB;exact absurd hB (by decide)
   ·intro _ _ _ _ _ _ _ _ _ hB;exact absurd hB (by decide)
   intro _ _ _ _ _ _ _ hB;exact absurd hB (by decide)
  ·clear H;intro o_ aQ a w G1 nK _ hc hG HT hv;obtain rfl:_=o_:=Option.some.inj nK;clear nK;have H:=HT;have Hb:=H.full;have H:=Hb;clear hc;refine dR iW H wn rfl ?_;clear H;intro ZA a w abz H;refine aI ⟨rfl,ZA,?_⟩;exact M7 (by kernel_rfl) rfl HT Hb hG (fun j e h1 h2 h3=>hv _ j e h1 h2 h3) (rfl) H
  ·clear H;intro o_ cB aQ a w G1 nK _ hc hG HT hv;obtain rfl:_=o_:=Option.some.inj nK;clear nK;have H:=HT;have H:=H.aU (hv 10 22 (hc 10 (by decide)) rfl) rfl;have H:=H.aU (hv 8 193 (hc 8 (by decide)) rfl) rfl;have Hb:=H.full;have H:=Hb;clear hc;refine bO iW 0 (vs:=[_,_]) _ H wn rfl rfl rfl rfl rfl rfl rfl rfl ?_;clear H;intro w H;dsimp only [List.set,setRow] at H;refine aI ⟨rfl,?_⟩;exact TD rfl HT hG hv H
  clear H;intro ZA a w G Dr H hv;have H:=H.aU (hv 10 22 rfl rfl) rfl;have H:=H.aU (hv 9 194 rfl rfl) rfl;clear hv;refine kH H (Ra rfl ?_);clear H;intro a H;refine aI ⟨rfl,?_⟩;refine kX _ _ ?_;clear kX;refine aO (fun _ kY=>?_);refine aO (fun _ jT=>?_);obtain ⟨Gd,hmd,abz,H⟩:=H.fD;have alN:=fun j v hj=>Dn abz 0 [vi X.1.1,vi X.1.2] rfl j v hj;replace hrow:=fun j u hj=>aF hmd (aF Dr (hrow j u hj));replace Lg:=fun j u hj=>aF hmd (aF Dr (Lg j u hj));replace hid:=aF hmd (aF Dr hid);replace hcx:=(hcx.mono Dr).mono hmd;replace wB:=(wB.mono Dr).mono hmd;replace VJ:=fun j u hj=>aF hmd (aF Dr (VJ j u hj));refine dI hmx [[],[],[0,1],[0,1,2],[],[],[4,5],[4,5,6],(ra 4 4),(ra 0 9),(ra 0 10),(ra 0 11),(ra 0 12),(ra 0 13),(ra 0 14),(ra 0 15),(ra 0 15),(ra 0 15),(ra 0 15++[16,17]),(ra 0 15++[16,17,18]),(ra 0 20),(ra 0 21),(ra 0 22),(ra 0 23),(ra 0 24),(ra 0 25),(ra 0 26),(ra 0 27),(ra 0 28),(ra 0 28),(ra 0 28),(ra 0 28++[29,30]),(ra 0 28++[29,30,31]),(ra 0 33),(ra 0 34)] [] (by kernel_rfl) [_,_,_,_,_,_,_,_,_,.bool false,_,.bool true,.bool false,_,_,.agg #[vi X.2.kind,vi X.2.code,vi X.2.id,.string X.2.text,.slice aY MQ ML,vi X.2.head.marks.ins,vi X.2.head.marks.move,.slice bY MU MS,.slice dY M6 M5,.slice eY Nh M9,.slice iY Oo Om],.slice (some ⟨b,o,none⟩) (jG l).length c8,vi k,(aK b (o+k*11)),.agg #[vi X.2.kind,vi X.2.code,vi X.2.id,.string X.2.text,.slice aX Zw Zt,vi X.2.head.marks.ins,vi X.2.head.marks.move,.slice bX ZJ ZF,.slice dX dnX dcX,.slice eX enX ecX,.slice iX inX icX],.bool true,.bool false,_,_,.bool true,.bool false,_,_,.agg #[vi X.1.1,vi X.1.2],.slice (some ⟨b9,o9,none⟩) (jG l).length c9,vi k,(aK b9 (o9+k*2)),.agg #[vi X.1.1,vi X.1.2],.bool false,_] H (aG (Z0 rfl (Rm rfl)) (Z0 rfl (Rm rfl)) (Z2 0 195 1 196 rfl (Ri om aD rfl rfl)) (X1 2 197 rfl fun hG=>Rg aD rfl (aF hG (by simpa using hid))) (aG (Z0 rfl (Rm rfl)) (Z0 rfl (Rm rfl)) (Z2 4 199 5 200 rfl (Ri iN dB rfl rfl)) (Z1 6 201 rfl (Rf qg rfl)) (aG (X1 7 202 rfl fun hG=>Rg aD rfl (aF hG (hrow 2 _ rfl))) ?_ (Z1 9 204 rfl (Rm rfl)) ?_ (aG ?_ (Z2 10 205 12 207 rfl (Pf rfl rfl)) (Z1 13 208 rfl (Rm rfl)) ?_ (aG ?_ ?_ ?_ ?_ (aG ?_ ?_ (Z2 14 209 21 216 rfl (Pf rfl rfl)) (Z1 22 217 rfl (Rm rfl)) (aG ?_ ?_ (Z2 23 218 25 220 rfl (Pf rfl rfl)) (Z1 26 221 rfl (Rm rfl)) (aG ?_ ?_ ?_ ?_ (bG ?_ (bG ?_ (bG (Z2 27 222 33 228 rfl (Pf rfl rfl)) dU))))))))))) ?_
  ·refine fu 3 198 8 203 rfl rfl fun _ a w G1 hG HT H fin=>?_;refine kH H (Rc rfl ?_);clear H;intro a H;exact fin H iJ (aL (by simp))
  ·refine eF 10 205 rfl rfl fun _ a w G1 hG HT H fin=>?_;refine mE H (wg H rfl rfl rfl) rfl rfl ?_;clear H;intro a H;exact fin H iJ rfl
  ·refine fu 11 206 10 205 rfl rfl fun _ a w G1 hG HT H fin=>?_;refine Bl H (wg H rfl rfl rfl) rfl rfl ?_;clear H;intro a H;exact fin H iJ rfl
  ·refine eF 14 209 rfl rfl fun _ a w G1 hG HT H fin=>?_;refine bD dB (cs:=[vi X.2.kind,vi X.2.code,vi X.2.id,.string X.2.text,.slice aY MQ ML,vi X.2.head.marks.ins,vi X.2.head.marks.move,.slice bY MU MS,.slice dY M6 M5,.slice eY Nh M9,.slice iY Oo Om]) H (wg H rfl rfl rfl) rfl rfl (fun j v hj=>H.hp.aH (aF hG (VJ j v hj))) rfl ?_;clear H;intro a H;exact fin H iJ rfl
  ·refine eF 14 209 rfl rfl fun _ a w G1 hG HT H fin=>?_;refine mE H (wg H rfl rfl rfl) rfl rfl ?_;clear H;intro a H;exact fin H iJ rfl
  ·refine eF 14 209 rfl rfl fun _ a w G1 hG HT H fin=>?_;refine mE H (wg H rfl rfl rfl) rfl rfl ?_;clear H;intro a H;exact fin H iJ rfl
  ·refine sW 16 211 17 212 14 209 rfl rfl fun _ a w G1 hG HT H fin=>?_;refine E5 iN dB _ H (wg H rfl rfl rfl) rfl rfl rfl (by first|assumption|omega) rfl ?_;clear H;intro a H;exact fin H iJ rfl
  ·refine fu 18 213 14 209 rfl rfl fun _ a w G1 hG HT H fin=>?_;refine bD dB (cs:=[vi X.2.kind,vi X.2.code,vi X.2.id,.string X.2.text,.slice aX Zw Zt,vi X.2.head.marks.ins,vi X.2.head.marks.move,.slice bX ZJ ZF,.slice dX dnX dcX,.slice eX enX ecX,.slice iX inX icX]) H (wg H rfl rfl rfl) rfl rfl (fun j v hj=>H.hp.aH (aF hG (hrow j v hj))) rfl ?_;clear H;intro a H;exact fin H iJ rfl
  ·refine sW 15 210 19 214 14 209 rfl rfl fun _ a w G1 hG HT H fin=>?_;refine s_call aaH H (wg H rfl rfl rfl) rfl (ajK _ _ H.ro X.2 X.2 _ _ (wB.mono hG) (hcx.mono hG) (by omega)) rfl ?_;clear H;rintro aua arZ a w ⟨asi,rfl,alg⟩ akF H;obtain rfl:=alg.2 rfl;exact fin H akF (rfl)
  ·refine fu 20 215 14 209 rfl rfl fun _ a w G1 hG HT H fin=>?_;refine Bl H (wg H rfl rfl rfl) rfl rfl ?_;clear H;intro a H;exact fin H iJ rfl
  ·refine eF 23 218 rfl rfl fun _ a w G1 hG HT H fin=>?_;refine mE H (wg H rfl rfl rfl) rfl rfl ?_;clear H;intro a H;exact fin H iJ rfl
  ·refine fu 24 219 23 218 rfl rfl fun _ a w G1 hG HT H fin=>?_;refine Bl H (wg H rfl rfl rfl) rfl rfl ?_;clear H;intro a H;exact fin H iJ rfl
  ·refine eF 27 222 rfl rfl fun _ a w G1 hG HT H fin=>?_;refine bD iW (cs:=[vi X.1.1,vi X.1.2]) H (wg H rfl rfl rfl) rfl rfl (fun j v hj=>H.hp.aH (aF hG (alN j v hj))) rfl ?_;clear H;intro a H;exact fin H iJ rfl
  ·refine eF 27 222 rfl rfl fun _ a w G1 hG HT H fin=>?_;refine mE H (wg H rfl rfl rfl) rfl rfl ?_;clear H;intro a H;exact fin H iJ rfl
  ·refine eF 27 222 rfl rfl fun _ a w G1 hG HT H fin=>?_;refine mE H (wg H rfl rfl rfl) rfl rfl ?_;clear H;intro a H;exact fin H iJ rfl
  ·refine sW 29 224 30 225 27 222 rfl rfl fun _ a w G1 hG HT H fin=>?_;refine E5 OY iW _ H (wg H rfl rfl rfl) rfl rfl rfl (by first|assumption|omega) rfl ?_;clear H;intro a H;exact fin H iJ rfl
  ·refine fu 31 226 27 222 rfl rfl fun _ a w G1 hG HT H fin=>?_;refine bD iW (cs:=[vi X.1.1,vi X.1.2]) H (wg H rfl rfl rfl) rfl rfl (fun j v hj=>H.hp.aH (aF hG (Lg j v hj))) rfl ?_;clear H;intro a H;exact fin H iJ rfl
  ·refine sW 28 223 32 227 27 222 rfl rfl fun _ a w G1 hG HT H fin=>?_;refine LY (.inr rfl) Ug H (wg H rfl rfl rfl) rfl rfl rfl rfl ?_;clear H;intro a H;exact fin H iJ (aL (by simp [sF]))
  clear H;intro a w G U5 H hv;have H:=H.aU (hv 34 229 rfl rfl) rfl;clear hv;refine aI ⟨rfl,?_⟩;refine jT _ _ ?_;clear jT;refine nW H rfl rfl ?_;refine kP H (Kc kY (SC (Rm rfl (Rm rfl (Sp 231 rfl ?_ ?_))))) <;> clear H kY
  ·intro vk a H
   try have aoI:=dT vk
   refine kH H (aT vk rfl (aP vk rfl (aP vk rfl (Pt vk rfl (aM jo rfl (SC (Rm rfl (Rd rfl (Ra rfl ?_)))))))));clear H jo;intro a H;refine aI ?_;refine dP ((k+1,true,_)) (by exact (H).sub ⟨rfl,rfl,rfl,rfl,rfl,rfl,rfl,rfl,av⟩) ?_ ?_
   ·(try dsimp only);exact ⟨by omega,by rw [Px hk2,← ht2,vk];rfl,fun b o h=>U5 b o (hmd b o (Dr b o (hmc b o (F9 b o (jX b o h)))))⟩
   first|omega|(dsimp only;omega)
  intro vk a H
  try have aoI:=dF vk
  refine kH H (YM vk rfl (YM vk rfl (YI iN dB vk rfl rfl (YF qg vk rfl (YR aD vk rfl (aF U5 (hrow 2 _ rfl)) (YM vk rfl (YC vk rfl (Pf vk rfl (aM jo rfl (SC (Rm rfl (Rd rfl (Ra rfl ?_)))))))))))));clear H jo;intro a H;refine aI ?_;refine dP ((k+1,decide (X.2.id=id),_)) (by exact (H).sub ⟨rfl,rfl,rfl,rfl,rfl,rfl,rfl,rfl,av⟩) ?_ ?_
  ·(try dsimp only);exact ⟨by omega,by rw [Px hk2,← ht2,vk,← hX];rfl,fun b o h=>U5 b o (hmd b o (Dr b o (hmc b o (F9 b o (jX b o h)))))⟩
  first|omega|(dsimp only;omega)
 intro EG a H
 try have ady:=dF EG
 obtain rfl:k=(jG l).length:=by omega
 rw [Db] at ht2;replace ht2:t2=OM l id:=ht2;have EM:=hfg.mono jX;have hgh:=fun j v hj=>aF jX (hgg j v hj);refine eD ?_;refine gJ _ _ ?_;clear gJ;refine dz (fun _ lG=>?_);refine bD mZ (cs:=D.cells) H wn rfl rfl (fun j v hj=>H.hp.aH (hgh j v hj)) rfl ?_;clear H;intro a H;refine kH H (Rm rfl ?_);clear H;intro a H;refine s_call aaG H wn rfl (aap _ _ H.ro D l id EM (by omega) (fun a ha=>Nat.le_trans (X4 ha) (by omega))) rfl ?_;clear H;rintro aub asa a w ⟨aso,rfl,anb⟩ abP H;rw [aeA,← ht2] at H;obtain ⟨aY,MQ,ML,bY,MU,MS,dY,M6,M5,eY,Nh,M9,iY,Oo,Om,rfl,-,-,hrw⟩:=anb.item;have hrn:=hrw.len;rw [bZ] at hrn
 have hn2:t2=false→(CG l id).getD Sm=Sm:=fun h=>by
  have h2:=aeA (l:=l) id;rw [← ht2,h,Option.isSome_eq_false_iff,Option.isNone_iff_eq_none] at h2;rw [h2];rfl
 replace EM:=EM.mono abP;replace hgh:=fun j v hj=>aF abP (hgh j v hj);refine kH H (Rm rfl ?_);clear H;intro a H;(iterate 2 refine lD H wn rfl rfl rfl ?_;clear H;intro a H);refine dR dB H wn rfl ?_;clear H;intro b24 a w ali H;refine bO dB 0 (vs:=[_,_,_,_,_,_,_,_,_,_,_]) _ H wn rfl rfl rfl rfl rfl rfl rfl rfl ?_;clear H;intro w H;dsimp only [List.set,setRow] at H;refine kH H (ak lG rfl (SR fun _ lH=>?_));clear H lG;intro a H;refine bD mZ (cs:=D.cells) H wn rfl rfl (fun j v hj=>H.hp.aH (hgh j v hj)) rfl ?_;clear H;intro a H;refine kH H (Rm rfl ?_);clear H;intro a H;refine s_call P5 H wn rfl (Rz _ _ H.ro D l id EM (by omega)) rfl ?_;clear H;rintro auc asb a w rfl asX H;rw [aoT hok,← ht,← ht2] at H;refine kH H (Rm rfl ?_);clear H;intro a H;(iterate 2 refine lD H wn rfl rfl rfl ?_;clear H;intro a H);refine dR iW H wn rfl ?_;clear H;intro b26 a w asC H;refine bO iW 0 (vs:=[_,_]) _ H wn rfl rfl rfl rfl rfl rfl rfl rfl ?_;clear H;intro w H;dsimp only [List.set,setRow] at H;refine kH H (ak lH rfl (SR fun _ kL=>Rm rfl (Rm rfl ?_)));clear H lH;intro a H;refine JX D8 H wn rfl rfl rfl ?_;clear H;intro a H;refine kH H (Rm rfl (Sp 255 rfl ?_ ?_)) <;> clear H
 ·intro AU a H
  try have aoJ:=dT AU
  refine kH H (YM AU rfl (YM AU rfl (Sp 257 rfl ?_ ?_))) <;> clear H
  ·intro xw a H
   try have aoK:=dT xw
   refine kH H (aP xw rfl (aP xw rfl (Ku rfl (Ku rfl (Ku rfl (Ku rfl (Ks xw rfl (PT AU xw rfl (Pt AU rfl (Rm rfl ?_))))))))));clear H;intro a H;(iterate 2 refine mE H (wg H rfl rfl rfl) rfl rfl ?_;clear H;intro a H);refine GX H (wg H rfl rfl rfl) rfl rfl rfl rfl ?_;clear H;intro a H;refine mE H (wg H rfl rfl rfl) rfl rfl ?_;clear H;intro a H;refine RU H 273 rfl ?_ ?_
   ·intro oP
    try have Xk:=dT oP
    refine kH H (YM oP rfl (YM oP rfl (Sp 275 rfl ?_ ?_))) <;> clear H
    ·intro xB a H
     try have Xl:=dT xB
     refine kH H (Ks xB rfl (PT oP xB rfl ?_));clear H;intro a H;refine E8 H (wg H rfl rfl rfl) rfl oP rfl rfl ?_;clear H;intro a H;refine JX D8 H (wg H rfl rfl rfl) rfl rfl rfl ?_;clear H;intro a H;exact kH H (Pt rfl rfl (ak kL rfl (LR results7 rfl fun H=>H.rt (aL (by first|rfl|(simp_all;done))))))
    intro xB a H
    try have Xl:=dF xB
    refine kH H (YM xB rfl (PF oP xB rfl ?_));clear H;intro a H;refine E8 H (wg H rfl rfl rfl) rfl oP rfl rfl ?_;clear H;intro a H;refine JX D8 H (wg H rfl rfl rfl) rfl rfl rfl ?_;clear H;intro a H;exact kH H (Pt rfl rfl (ak kL rfl (LR results7 rfl fun H=>H.rt (aL (by first|rfl|(simp_all;done))))))
   intro oP
   try have Xk:=dF oP
   refine kH H (aP oP rfl (Ku rfl (Ks oP rfl ?_)));clear H;intro a H;refine JY H (wg H rfl rfl rfl) rfl oP rfl rfl ?_;clear H;intro a H;refine JX D8 H (wg H rfl rfl rfl) rfl rfl rfl ?_;clear H;intro a H;exact kH H (Pt rfl rfl (ak kL rfl (LR results7 rfl fun H=>H.rt (aL (by first|rfl|(simp_all;done))))))
  intro xw a H
  try have aoK:=dF xw
  refine kH H (YF gG xw rfl (YO aD 1 xw rfl (YC xw rfl (YM xw rfl (Sp 261 rfl ?_ ?_))))) <;> clear H
  ·intro F6 a H
   try have att:=dT F6
   refine kH H (YF rC F6 rfl (YO rR 1 F6 rfl (YL jH F6 rfl (YC F6 rfl (PT xw F6 rfl (PF AU xw rfl (Pt AU rfl (Rm rfl (Sp 269 rfl ?_ ?_))))))))) <;> clear H
   ·intro uD a H
    try have aoL:=dT uD
    refine kH H (YM uD rfl (YM uD rfl (YC uD rfl (YM uD rfl (Sp 273 rfl ?_ ?_))))) <;> clear H
    ·intro oP a H
     try have Xk:=dT oP
     refine kH H (YM oP rfl (YM oP rfl (Sp 275 rfl ?_ ?_))) <;> clear H
     ·intro xB a H
      try have Xl:=dT xB
      refine kH H (Ks xB rfl (PT oP xB rfl (PT uD oP rfl ?_)));clear H;intro a H;refine JX D8 H (wg H rfl rfl uD) rfl rfl rfl ?_;clear H;intro a H;exact kH H (Pt uD rfl (ak kL rfl (LR results7 rfl fun H=>H.rt (aL (by first|rfl|(simp_all;done))))))
     intro xB a H
     try have Xl:=dF xB
     refine kH H (YM xB rfl (PF oP xB rfl (PT uD oP rfl ?_)));clear H;intro a H;refine JX D8 H (wg H rfl rfl uD) rfl rfl rfl ?_;clear H;intro a H;exact kH H (Pt uD rfl (ak kL rfl (LR results7 rfl fun H=>H.rt (aL (by first|rfl|(simp_all;done))))))
    intro oP a H
    try have Xk:=dF oP
    refine kH H (aP oP rfl (Ku rfl (Ks oP rfl (PF uD oP rfl ?_))));clear H;intro a H;refine JX D8 H (wg H rfl rfl uD) rfl rfl rfl ?_;clear H;intro a H;exact kH H (Pt uD rfl (ak kL rfl (LR results7 rfl fun H=>H.rt (aL (by first|rfl|(simp_all;done))))))
   intro uD a H
   try have aoL:=dF uD
   first|exact absurd uD (by decide)|exact absurd uD (by rw [hrn,hn2 xw];decide)
  intro F6 a H
  exact absurd F6 (by rw [hn2 xw];decide)
 intro AU a H
 try have aoJ:=dF AU
 exact kH H (aP AU rfl (Ku rfl (Ku rfl (Ku rfl (Ku rfl (Ku rfl (Ku rfl (Ku rfl (Ku rfl (Ku rfl (Ks AU rfl (Pf AU rfl (Rm rfl (aP rfl rfl (aP rfl rfl (Ku rfl (Ku rfl (Ku rfl (Ku rfl (aP rfl rfl (Pf rfl rfl (ak kL rfl (LR results7 rfl fun H=>H.rt (aL (by first|rfl|(simp_all;done))))))))))))))))))))))))))
end
section
open Go.ChangeShapes Go.RowKit Go.Deep
theorem J3 {ρ:Type} {dat:ρ→List Dat}:∀ {l:List ρ} {x:ρ},x∈l→dG (dat x)+1≤fB (l.map dat)
 | y :: l,x,h=>by
  rw [fJ,fB]
  rcases nE.1 h with rfl|h
  ·omega
  have:=J3 (dat:=dat) h;omega
section
variable {H:Type} {enc:TypeId × aj→H} {W:World} {base:Nat} {spare:Nat→Bool} {held:Bool}
theorem aqr:uQ prog 100 6 [(3,0,1),(3,1,1),(9,2,1),(3,3,1),(3,4,1),(25,5,1)]:=⟨by kernel_rfl,by kernel_rfl,by kernel_rfl⟩
theorem agF:prog.cellsOf 100=6:=by kernel_rfl
theorem apt {n:Nat} {cs:List aj} {D:DataW H} {Pl:List MemPlace} (h:DataW.trod enc prog W base spare held n 100 cs=some (D,Pl)):∃ r:cK,bH (sJ W) r.dat cs∧dG r.dat+1≤8*Rows.uptoBulk D:=by
 obtain ⟨xs,m,hx,hl,hxl,hf⟩:=wE aqr h
 match cs,hl,xs,hxl with
 | [c0,c1,c2,c3,c4,c5],_,[y0,y1,y2,y3,y4,y5],_ =>
  have h0:=hf 0 _ _ _ rfl;have h1:=hf 1 _ _ _ rfl;have h2:=hf 2 _ _ _ rfl;have h3:=hf 3 _ _ _ rfl;have h4:=hf 4 _ _ _ rfl;have h5:=hf 5 _ _ _ rfl
  simp only at hx
  have hD:Rows.uptoBulk D=Rows.uptoBulk y0.1+(Rows.uptoBulk y1.1+(Rows.uptoBulk y2.1+(Rows.uptoBulk y3.1+(Rows.uptoBulk y4.1+(Rows.uptoBulk y5.1+0)))))+1:=by rw [hx];simp only [fJ,wR,Rows.uptoBulk,Rows.uptoBulkAll]
  obtain ⟨k0,e0,d0,-⟩:=DataW.trod_int underlying3 h0;obtain ⟨k1,e1,d1,-⟩:=DataW.trod_int underlying3 h1;obtain ⟨k2,e2,d2,-⟩:=DataW.trod_string underlying9 h2;obtain ⟨k3,e3,d3,-⟩:=DataW.trod_int underlying3 h3;obtain ⟨k4,e4,d4,-⟩:=DataW.trod_int underlying3 h4;obtain ⟨k5,q5,e5,r5,d5⟩:=xR (dat:=jq.dat) (sz:=2) (by omega) underlying25 ZX h5 (fun n cs' D Pl hh _=>adS hh)
  simp at e0 e1 e2 e3 e4 e5
  subst e0 e1 e2 e3 e4 e5
  have b0:Rows.uptoBulk y0.1=1:=by rw [d0];rfl
  have b1:Rows.uptoBulk y1.1=1:=by rw [d1];rfl
  have b2:Rows.uptoBulk y2.1=k2.size+1:=by rw [d2];show k2.data.toList.length+1=k2.data.size+1;rw [Az]
  have b3:Rows.uptoBulk y3.1=1:=by rw [d3];rfl
  have b4:Rows.uptoBulk y4.1=1:=by rw [d4];rfl
  refine ⟨⟨k0,k1,k2,k3,k4,k5⟩,?_,?_⟩
  ·exact ⟨_,_,rfl,(by simp [aB,Value.oneCell']),⟨_,_,rfl,(by simp [aB,Value.oneCell']),⟨_,_,rfl,(by simp [aB,Value.oneCell']),⟨_,_,rfl,(by simp [aB,Value.oneCell']),⟨_,_,rfl,(by simp [aB,Value.oneCell']),⟨_,_,rfl,r5,rfl⟩⟩⟩⟩⟩⟩
  simp only [cK.dat,dG,sS];omega
theorem aqk:uQ prog 102 4 [(3,0,1),(3,1,1),(9,2,1),(3,3,1)]:=⟨by kernel_rfl,by kernel_rfl,by kernel_rfl⟩
theorem agC:prog.cellsOf 102=4:=by kernel_rfl
theorem apo {n:Nat} {cs:List aj} {D:DataW H} {Pl:List MemPlace} (h:DataW.trod enc prog W base spare held n 102 cs=some (D,Pl)):∃ r:rY,bH (sJ W) r.dat cs∧dG r.dat+1≤8*Rows.uptoBulk D:=by
 obtain ⟨xs,m,hx,hl,hxl,hf⟩:=wE aqk h
 match cs,hl,xs,hxl with
 | [c0,c1,c2,c3],_,[y0,y1,y2,y3],_ =>
  have h0:=hf 0 _ _ _ rfl;have h1:=hf 1 _ _ _ rfl;have h2:=hf 2 _ _ _ rfl;have h3:=hf 3 _ _ _ rfl
  simp only at hx
  have hD:Rows.uptoBulk D=Rows.uptoBulk y0.1+(Rows.uptoBulk y1.1+(Rows.uptoBulk y2.1+(Rows.uptoBulk y3.1+0)))+1:=by rw [hx];simp only [fJ,wR,Rows.uptoBulk,Rows.uptoBulkAll]
  obtain ⟨k0,e0,d0,-⟩:=DataW.trod_int underlying3 h0;obtain ⟨k1,e1,d1,-⟩:=DataW.trod_int underlying3 h1;obtain ⟨k2,e2,d2,-⟩:=DataW.trod_string underlying9 h2;obtain ⟨k3,e3,d3,-⟩:=DataW.trod_int underlying3 h3
  simp at e0 e1 e2 e3
  subst e0 e1 e2 e3
  have b0:Rows.uptoBulk y0.1=1:=by rw [d0];rfl
  have b1:Rows.uptoBulk y1.1=1:=by rw [d1];rfl
  have b2:Rows.uptoBulk y2.1=k2.size+1:=by rw [d2];show k2.data.toList.length+1=k2.data.size+1;rw [Az]
  have b3:Rows.uptoBulk y3.1=1:=by rw [d3];rfl
  refine ⟨⟨k0,k1,k2,k3⟩,?_,?_⟩
  ·exact ⟨_,_,rfl,(by simp [aB,Value.oneCell']),⟨_,_,rfl,(by simp [aB,Value.oneCell']),⟨_,_,rfl,(by simp [aB,Value.oneCell']),⟨_,_,rfl,(by simp [aB,Value.oneCell']),rfl⟩⟩⟩⟩
  simp only [rY.dat,dG,sS];omega
theorem aqj:uQ prog 105 2 [(3,0,1),(103,1,1)]:=⟨by kernel_rfl,by kernel_rfl,by kernel_rfl⟩
theorem agB:prog.cellsOf 105=2:=by kernel_rfl
theorem apq {n:Nat} {cs:List aj} {D:DataW H} {Pl:List MemPlace} (h:DataW.trod enc prog W base spare held n 105 cs=some (D,Pl)):∃ r:eT,bH (sJ W) r.dat cs∧dG r.dat+1≤8*Rows.uptoBulk D:=by
 obtain ⟨xs,m,hx,hl,hxl,hf⟩:=wE aqj h
 match cs,hl,xs,hxl with
 | [c0,c1],_,[y0,y1],_ =>
  have h0:=hf 0 _ _ _ rfl;have h1:=hf 1 _ _ _ rfl
  simp only at hx
  have hD:Rows.uptoBulk D=Rows.uptoBulk y0.1+(Rows.uptoBulk y1.1+0)+1:=by rw [hx];simp only [fJ,wR,Rows.uptoBulk,Rows.uptoBulkAll]
  obtain ⟨k0,e0,d0,-⟩:=DataW.trod_int underlying3 h0;obtain ⟨k1,q1,e1,r1,d1⟩:=xR (dat:=rY.dat) (sz:=4) (by omega) underlying103 agC h1 (fun n cs' D Pl hh _=>apo hh)
  simp at e0 e1
  subst e0 e1
  have b0:Rows.uptoBulk y0.1=1:=by rw [d0];rfl
  refine ⟨⟨k0,k1⟩,?_,?_⟩
  ·exact ⟨_,_,rfl,(by simp [aB,Value.oneCell']),⟨_,_,rfl,r1,rfl⟩⟩
  simp only [eT.dat,dG,sS];omega
theorem aqe:uQ prog 107 6 [(3,0,1),(3,1,1),(9,2,1),(3,3,1),(9,4,1),(4,5,1)]:=⟨by kernel_rfl,by kernel_rfl,by kernel_rfl⟩
theorem agy:prog.cellsOf 107=6:=by kernel_rfl
theorem apj {n:Nat} {cs:List aj} {D:DataW H} {Pl:List MemPlace} (h:DataW.trod enc prog W base spare held n 107 cs=some (D,Pl)):∃ r:jI,bH (sJ W) r.dat cs∧dG r.dat+1≤8*Rows.uptoBulk D:=by
 obtain ⟨xs,m,hx,hl,hxl,hf⟩:=wE aqe h
 match cs,hl,xs,hxl with
 | [c0,c1,c2,c3,c4,c5],_,[y0,y1,y2,y3,y4,y5],_ =>
  have h0:=hf 0 _ _ _ rfl;have h1:=hf 1 _ _ _ rfl;have h2:=hf 2 _ _ _ rfl;have h3:=hf 3 _ _ _ rfl;have h4:=hf 4 _ _ _ rfl;have h5:=hf 5 _ _ _ rfl
  simp only at hx
  have hD:Rows.uptoBulk D=Rows.uptoBulk y0.1+(Rows.uptoBulk y1.1+(Rows.uptoBulk y2.1+(Rows.uptoBulk y3.1+(Rows.uptoBulk y4.1+(Rows.uptoBulk y5.1+0)))))+1:=by rw [hx];simp only [fJ,wR,Rows.uptoBulk,Rows.uptoBulkAll]
  obtain ⟨k0,e0,d0,-⟩:=DataW.trod_int underlying3 h0;obtain ⟨k1,e1,d1,-⟩:=DataW.trod_int underlying3 h1;obtain ⟨k2,e2,d2,-⟩:=DataW.trod_string underlying9 h2;obtain ⟨k3,e3,d3,-⟩:=DataW.trod_int underlying3 h3;obtain ⟨k4,e4,d4,-⟩:=DataW.trod_string underlying9 h4;obtain ⟨k5,e5,d5⟩:=DataW.trod_bool underlying4 h5
  simp at e0 e1 e2 e3 e4 e5
  subst e0 e1 e2 e3 e4 e5
  have b0:Rows.uptoBulk y0.1=1:=by rw [d0];rfl
  have b1:Rows.uptoBulk y1.1=1:=by rw [d1];rfl
  have b2:Rows.uptoBulk y2.1=k2.size+1:=by rw [d2];show k2.data.toList.length+1=k2.data.size+1;rw [Az]
  have b3:Rows.uptoBulk y3.1=1:=by rw [d3];rfl
  have b4:Rows.uptoBulk y4.1=k4.size+1:=by rw [d4];show k4.data.toList.length+1=k4.data.size+1;rw [Az]
  have b5:Rows.uptoBulk y5.1=1:=by rw [d5];rfl
  refine ⟨⟨k0,k1,k2,k3,k4,k5⟩,?_,?_⟩
  ·exact ⟨_,_,rfl,(by simp [aB,Value.oneCell']),⟨_,_,rfl,(by simp [aB,Value.oneCell']),⟨_,_,rfl,(by simp [aB,Value.oneCell']),⟨_,_,rfl,(by simp [aB,Value.oneCell']),⟨_,_,rfl,(by simp [aB,Value.oneCell']),⟨_,_,rfl,(by simp [aB,Value.oneCell']),rfl⟩⟩⟩⟩⟩⟩
  simp only [jI.dat,dG,sS];omega
theorem aqs:uQ prog 109 2 [(9,0,1),(9,1,1)]:=⟨by kernel_rfl,by kernel_rfl,by kernel_rfl⟩
theorem agH:prog.cellsOf 109=2:=by kernel_rfl
theorem apu {n:Nat} {cs:List aj} {D:DataW H} {Pl:List MemPlace} (h:DataW.trod enc prog W base spare held n 109 cs=some (D,Pl)):∃ r:oL,bH (sJ W) r.dat cs∧dG r.dat+1≤8*Rows.uptoBulk D:=by
 obtain ⟨xs,m,hx,hl,hxl,hf⟩:=wE aqs h
 match cs,hl,xs,hxl with
 | [c0,c1],_,[y0,y1],_ =>
  have h0:=hf 0 _ _ _ rfl;have h1:=hf 1 _ _ _ rfl
  simp only at hx
  have hD:Rows.uptoBulk D=Rows.uptoBulk y0.1+(Rows.uptoBulk y1.1+0)+1:=by rw [hx];simp only [fJ,wR,Rows.uptoBulk,Rows.uptoBulkAll]
  obtain ⟨k0,e0,d0,-⟩:=DataW.trod_string underlying9 h0;obtain ⟨k1,e1,d1,-⟩:=DataW.trod_string underlying9 h1
  simp at e0 e1
  subst e0 e1
  have b0:Rows.uptoBulk y0.1=k0.size+1:=by rw [d0];show k0.data.toList.length+1=k0.data.size+1;rw [Az]
  have b1:Rows.uptoBulk y1.1=k1.size+1:=by rw [d1];show k1.data.toList.length+1=k1.data.size+1;rw [Az]
  refine ⟨⟨k0,k1⟩,?_,?_⟩
  ·exact ⟨_,_,rfl,(by simp [aB,Value.oneCell']),⟨_,_,rfl,(by simp [aB,Value.oneCell']),rfl⟩⟩
  simp only [oL.dat,dG,sS];omega
theorem aqo:uQ prog 65 3 [(3,0,1),(9,1,1),(3,2,1)]:=⟨by kernel_rfl,by kernel_rfl,by kernel_rfl⟩
theorem agE:prog.cellsOf 65=3:=by kernel_rfl
theorem apr {n:Nat} {cs:List aj} {D:DataW H} {Pl:List MemPlace} (h:DataW.trod enc prog W base spare held n 65 cs=some (D,Pl)):∃ r:fF,bH (sJ W) r.dat cs∧dG r.dat+1≤8*Rows.uptoBulk D:=by
 obtain ⟨xs,m,hx,hl,hxl,hf⟩:=wE aqo h
 match cs,hl,xs,hxl with
 | [c0,c1,c2],_,[y0,y1,y2],_ =>
  have h0:=hf 0 _ _ _ rfl;have h1:=hf 1 _ _ _ rfl;have h2:=hf 2 _ _ _ rfl
  simp only at hx
  have hD:Rows.uptoBulk D=Rows.uptoBulk y0.1+(Rows.uptoBulk y1.1+(Rows.uptoBulk y2.1+0))+1:=by rw [hx];simp only [fJ,wR,Rows.uptoBulk,Rows.uptoBulkAll]
  obtain ⟨k0,e0,d0,-⟩:=DataW.trod_int underlying3 h0;obtain ⟨k1,e1,d1,-⟩:=DataW.trod_string underlying9 h1;obtain ⟨k2,e2,d2,-⟩:=DataW.trod_int underlying3 h2
  simp at e0 e1 e2
  subst e0 e1 e2
  have b0:Rows.uptoBulk y0.1=1:=by rw [d0];rfl
  have b1:Rows.uptoBulk y1.1=k1.size+1:=by rw [d1];show k1.data.toList.length+1=k1.data.size+1;rw [Az]
  have b2:Rows.uptoBulk y2.1=1:=by rw [d2];rfl
  refine ⟨⟨k0,k1,k2⟩,?_,?_⟩
  ·exact ⟨_,_,rfl,(by simp [aB,Value.oneCell']),⟨_,_,rfl,(by simp [aB,Value.oneCell']),⟨_,_,rfl,(by simp [aB,Value.oneCell']),rfl⟩⟩⟩
  simp only [fF.dat,dG,sS];omega
theorem aqp:uQ prog 46 4 [(41,0,1),(42,1,1),(43,2,1),(44,3,1)]:=⟨by kernel_rfl,by kernel_rfl,by kernel_rfl⟩
structure S9 (s:wO) (n:Nat):Prop where
 st:fB (s.styles.map cK.dat)≤n
 li:fB (s.lists.map eT.dat)≤n
 cm:fB (s.comments.map jI.dat)≤n
 va:fB (s.vars.map oL.dat)≤n
theorem S9.zn {s:wO} {n:Nat} (h:S9 s n) (hn:n≤4294967296):MK s∧s.styles.length≤4294967296:=by
 obtain ⟨h1,h2,h3,h4⟩:=h;have l1:=nM (s.styles.map cK.dat);have l2:=nM (s.lists.map eT.dat);have l3:=nM (s.comments.map jI.dat);have l4:=nM (s.vars.map oL.dat);rw [bZ] at l1 l2 l3 l4;refine ⟨⟨fun x hx=>?_,by omega,fun x hx y hy=>?_,by omega,fun x hx=>?_,by omega,fun x hx=>?_⟩,by omega⟩
 ·have:=J3 (dat:=cK.dat) hx
  simp only [cK.dat,dG,sS] at this;omega
 ·have:=J3 (dat:=eT.dat) hx
  simp only [eT.dat,dG,sS] at this
  have h5:=J3 (dat:=rY.dat) hy
  simp only [rY.dat,dG,sS] at h5;omega
 ·have:=J3 (dat:=jI.dat) hx
  simp only [jI.dat,dG,sS] at this;omega
 have:=J3 (dat:=oL.dat) hx
 simp only [oL.dat,dG,sS] at this;omega
theorem aps {n:Nat} {cs:List aj} {x:DataW H × List MemPlace} (h:DataW.trod enc prog W base spare held n 46 cs=some x):∃ (s:wO) (a b c d:aj),cs=[a,b,c,d]∧Ef (sJ W) s a b c d∧S9 s (8*Rows.uptoBulk x.1):=by
 obtain ⟨xs,m,hx,hl,hxl,hf⟩:=wE aqp h
 match cs,hl,xs,hxl with
 | [c0,c1,c2,c3],_,[y0,y1,y2,y3],_ =>
  have h0:=hf 0 _ _ _ rfl;have h1:=hf 1 _ _ _ rfl;have h2:=hf 2 _ _ _ rfl;have h3:=hf 3 _ _ _ rfl;obtain ⟨k0,q0,e0,r0,d0⟩:=xR (dat:=cK.dat) (sz:=6) (by omega) underlying41 agF h0 (fun n cs' D Pl hh _=>apt hh);obtain ⟨k1,q1,e1,r1,d1⟩:=xR (dat:=eT.dat) (sz:=2) (by omega) underlying42 agB h1 (fun n cs' D Pl hh _=>apq hh);obtain ⟨k2,q2,e2,r2,d2⟩:=xR (dat:=jI.dat) (sz:=6) (by omega) underlying43 agy h2 (fun n cs' D Pl hh _=>apj hh);obtain ⟨k3,q3,e3,r3,d3⟩:=xR (dat:=oL.dat) (sz:=2) (by omega) underlying44 agH h3 (fun n cs' D Pl hh _=>apu hh)
  simp at e0 e1 e2 e3
  subst e0 e1 e2 e3
  have hD:Rows.uptoBulk x.1=Rows.uptoBulk y0.1+(Rows.uptoBulk y1.1+(Rows.uptoBulk y2.1+(Rows.uptoBulk y3.1+0)))+1:=by rw [hx];simp only [fJ,wR,Rows.uptoBulk,Rows.uptoBulkAll]
  exact ⟨⟨k0,k1,k2,k3⟩,_,_,_,_,rfl,⟨r0,r1,r2,r3⟩,⟨by show fB (k0.map _)≤_;omega,by show fB (k1.map _)≤_;omega,by show fB (k2.map _)≤_;omega,by show fB (k3.map _)≤_;omega⟩⟩
theorem aek:uQ prog 50 11 [(32,0,1),(31,1,5),(48,6,1),(46,7,4)]:=⟨by kernel_rfl,by kernel_rfl,by kernel_rfl⟩
theorem Fb {G:GH} {sz:Nat} {rs:List (List Dat)} {v:aj} (h:aB G (.sl sz rs) v):∃ x,v=dD x:=by
 obtain ⟨a,n,c,rfl⟩:=h.form;exact ⟨(a,n,c),rfl⟩
theorem apl {n:Nat} {cs:List aj} {x:DataW H × List MemPlace} (h:DataW.trod enc prog W base spare held n 50 cs=some x) (hb:Rows.uptoBulk x.1≤1048576):∃ (D:kN) (d:zw),cs=D.cells∧D9 (sJ W) D d∧J9 d:=by
 obtain ⟨xs,m,hx,hl,hxl,hf⟩:=wE aek h
 match cs,hl,xs,hxl with
 | [c0,c1,c2,c3,c4,c5,c6,c7,c8,c9,c10],_,[y0,y1,y2,y3],_ =>
  have h0:=hf 0 _ _ _ rfl;have h1:=hf 1 _ _ _ rfl;have h2:=hf 2 _ _ _ rfl;have h3:=hf 3 _ _ _ rfl;obtain ⟨l,q0,e0,r0,d0⟩:=apm h0;obtain ⟨hd,p,dd,ll,e1,r1,d1⟩:=RH h1;obtain ⟨rv,q2,e2,r2,d2⟩:=xR (dat:=fF.dat) (sz:=3) (by omega) underlying48 agE h2 (fun n cs' D Pl hh _=>apr hh);obtain ⟨s,a,b,c,d,e3,r3,d3⟩:=aps h3
  simp at e0 e1 e2 e3
  obtain ⟨rfl,rfl,rfl,rfl,rfl⟩:=e1;obtain ⟨rfl,rfl,rfl,rfl⟩:=e3;subst e0 e2
  have hD:Rows.uptoBulk x.1=Rows.uptoBulk y0.1+(Rows.uptoBulk y1.1+(Rows.uptoBulk y2.1+(Rows.uptoBulk y3.1+0)))+1:=by rw [hx];simp only [fJ,wR,Rows.uptoBulk,Rows.uptoBulkAll]
  obtain ⟨x0,rfl⟩:=Fb r0;obtain ⟨x1,rfl⟩:=Fb r1.props;obtain ⟨x2,rfl⟩:=Fb r1.bU;obtain ⟨x3,rfl⟩:=Fb r1.layers;obtain ⟨x4,rfl⟩:=Fb r2;obtain ⟨x5,rfl⟩:=Fb r3.st;obtain ⟨x6,rfl⟩:=Fb r3.li;obtain ⟨x7,rfl⟩:=Fb r3.cm;obtain ⟨x8,rfl⟩:=Fb r3.va;obtain ⟨hz1,hz2⟩:=d3.zn (by omega);have l2:=nM (rv.map fF.dat);rw [bZ] at l2;refine ⟨⟨x0,x1,x2,x3,x4,x5,x6,x7,x8,hd.marks.ins,hd.marks.move⟩,⟨l,hd,rv,s⟩,rfl,⟨r0,r1,rfl,rfl,r2,r3⟩,⟨by show bM l≤_;omega,by show pR hd≤_;omega,by show rv.length≤_;omega,fun x hx=>?_,hz2,hz1⟩⟩;have:=J3 (dat:=fF.dat) hx
  simp only [fF.dat,dG,sS] at this
  omega
end
end
end Go.Proofs.YtlnhhlighgaapaaGreat
