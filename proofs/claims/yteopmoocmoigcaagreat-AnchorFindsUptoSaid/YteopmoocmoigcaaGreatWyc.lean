/-
  What the claim stands on, part 3: Lfl Dv Lpc Scn By Lps Lcl Dst Sty Mk Stz Dsc Mi Ro Ri Chn Chk Dsv Mq.
-/
import Derived.Test.YteopmoocmoigcaaGreatWyb
import Derived.Lib.ConvBytes
import Derived.Laws.MakeOwn
namespace Go.Proofs.YteopmoocmoigcaaGreat
open Go.Proofs.Tryz
section
open Go.RowKit
theorem aeI:∀ args w,(callFunc 164 args).run prog w=.ok (.enter 164 args) w:=enters func164 rfl (by kernel_rfl)
theorem JZ:Ty prog 242 1 24 [.slice none 0 0] false:=⟨by kernel_rfl,by kernel_rfl⟩
theorem OU:∀ args w,(callFunc 49 args).run prog w=.ok (.enter 49 args) w:=enters func49 rfl (by kernel_rfl)
theorem Ho:prog.underlying 242=some (.slice 247):=by kernel_rfl
theorem He:Ty prog 247 3 32 [.string ⟨#[]⟩,.int .i64 0,.bool false] true:=⟨by kernel_rfl,by kernel_rfl⟩
theorem aeJ:∀ args w,(callFunc 165 args).run prog w=.ok (.enter 165 args) w:=enters func165 rfl (by kernel_rfl)
theorem IJ:cB prog 259 2 2:=⟨by kernel_rfl⟩
theorem IK:cB prog 259 3 4:=⟨by kernel_rfl⟩
theorem aag:qJ prog 247 [(0,1),(1,1),(2,1)] [.string ⟨#[]⟩,.int .i64 0,.bool false]:=⟨by kernel_rfl,by kernel_rfl⟩
theorem OI:∀ args w,(callFunc 160 args).run prog w=.ok (.enter 160 args) w:=enters func160 rfl (by kernel_rfl)
theorem Lj:cB prog 259 4 5:=⟨by kernel_rfl⟩
structure iY where
 lit:ByteArray
 level:Int
 plain:Bool
def iY.dat (x:iY):List Dat:=[.lf (.string x.lit),li x.level,.lf (.bool x.plain)]
abbrev iY.cells (x:iY):List aj:=[.string x.lit,vi x.level,.bool x.plain]
theorem Yw (G:GH) (x:iY):aY G x.dat x.cells:=by
 simp only [iY.dat,iY.cells,aY]
 exact ⟨_,_,rfl,by simp [ay,Value.oneCell'],_,_,rfl,by simp [ay,Value.oneCell'],_,_,rfl,by simp [ay,Value.oneCell'],rfl⟩
theorem Yv {G:GH} {x:iY} {cs:List aj} (h:aY G x.dat cs):cs=x.cells:=by
 simp only [iY.dat,aY,ay] at h
 obtain ⟨_,_,rfl,⟨rfl,_⟩,_,_,rfl,⟨rfl,_⟩,_,_,rfl,⟨rfl,_⟩,rfl⟩:=h
 rfl
def CU (l:List iY):List aj:=(l.map iY.cells).flatten
theorem Yu (l:List iY) (x:iY):CU (l++[x])=CU l++x.cells:=by simp [CU]
structure zC (b:Nat) (lit:List UInt8) (parts:List iY) (p v q:aj) (Lp Lo:OL):Prop where
 ptr:p=.pointer none∨p=(aI b 2)
 buf:dz 5 1 v lit.length (Lib.byteCells lit) Lo
 prt:dz 247 3 q parts.length (CU parts) Lp
def ug (lit:List UInt8) (parts:List iY):List iY:=if lit=[] then parts else parts++[⟨⟨lit.toArray⟩,0,false⟩]
set_option maxHeartbeats 1000000 in
theorem Pq (G:GH) (Lp Lo:OL) (w0:World) (b:Nat) (s:ByteArray) (i:Int) (p v q:aj) (pl e:Int) (lit:List UInt8) (parts:List iY) (hR:zC b lit parts p v q Lp Lo) (hO:gZ G (gK b s i p v q pl e :: (Lp++Lo)) w0) (hl:lit.length≤4294967296) (hp:parts.length≤4294967296) :
  Calls prog 160 #[(aI b 0)] w0 (gI w0 G (gK b s i p v q pl e :: (Lp++Lo)) fun u G' L'=>∃ p' v' q' ql fG,L'=gK b s i p' v' q' pl e :: (ql++fG)∧zC b [] (ug lit parts) p' v' q' ql fG):=by
 obtain ⟨XD,hbuf,Mh⟩:=hR;have hml:maxLen=9223372036854775807:=rfl;obtain ⟨A,c,rfl,XV,XW⟩:=hbuf.shape;obtain ⟨B,d,rfl,XE,XF⟩:=Mh.shape;obtain ⟨Lt,oJ⟩:∃ x,x=Lp++Lo:=⟨_,rfl⟩;rw [← oJ] at hO ⊢;refine jZ (N:=25) (T:=[(0,_)]) func160 rfl ntmps160 rfl rfl hO ?_;intro a H;refine kP H (SR fun _ K1=>Rm rfl (Rk rfl (Rf IJ rfl ?_)));clear H;intro a H;refine gY aeI (Li:=[]) (L:=gK b s i p (.slice A lit.length c) (.slice B parts.length d) pl e :: Lt) H wn rfl (amc _ _ _ b s i p A lit.length c B parts.length d pl e (Hp.owns (Li:=[]) H.hp)) rfl ?_;clear H;rintro v5 _ L5 a w ⟨rfl,rfl,rfl⟩ Qv H;dsimp only [List.nil_append] at H;refine kH H (Rc rfl (Kz K1 (Cd rfl ?_ ?_))) <;> clear H K1
 ·intro h6 a H
  try have p6:=dT h6
  have hne:lit≠[]:=fun e=>by rw [e] at p6;simp at p6
  subst oJ;refine bK (fun _ K2=>?_)
  have fQ:∀ (dV:Nat) (iw:(Option Addr × Nat) × OL) (bE:Nat) (v:aj) (G G':GH),(∀ k o,G k=some o→G' k=some o)→(fun (dV:Nat) (iw:(Option Addr × Nat) × OL) (bE:Nat) (v:aj) (G:GH)=>match bE with|0=>v=(aI b 0)|1=>v=(aI b 0)|2=>v=(aI b 0)|3=>v=(aI b 4)|4=>v=.slice B parts.length d|5=>v=(aI b 0)|6=>v=(aI b 0)|7=>v=(aI b 2)|8=>v=.string ⟨lit.toArray⟩|9=>v=.agg (iY.cells ⟨⟨lit.toArray⟩,0,false⟩).toArray|10=>v=.slice (some ⟨dV,0,none⟩) 1 1|11=>v=.slice iw.1.1 (parts.length+1) iw.1.2∧dz 247 3 v (parts.length+1) (CU (parts++[⟨⟨lit.toArray⟩,0,false⟩])) iw.2|_=>True) dV iw bE v G→(fun (dV:Nat) (iw:(Option Addr × Nat) × OL) (bE:Nat) (v:aj) (G:GH)=>match bE with|0=>v=(aI b 0)|1=>v=(aI b 0)|2=>v=(aI b 0)|3=>v=(aI b 4)|4=>v=.slice B parts.length d|5=>v=(aI b 0)|6=>v=(aI b 0)|7=>v=(aI b 2)|8=>v=.string ⟨lit.toArray⟩|9=>v=.agg (iY.cells ⟨⟨lit.toArray⟩,0,false⟩).toArray|10=>v=.slice (some ⟨dV,0,none⟩) 1 1|11=>v=.slice iw.1.1 (parts.length+1) iw.1.2∧dz 247 3 v (parts.length+1) (CU (parts++[⟨⟨lit.toArray⟩,0,false⟩])) iw.2|_=>True) dV iw bE v G':=by
   intro dV iw bE v G G' hm h
   match bE,h with
   | 0,h=>exact h
   | 1,h=>exact h
   | 2,h=>exact h
   | 3,h=>exact h
   | 4,h=>exact h
   | 5,h=>exact h
   | 6,h=>exact h
   | 7,h=>exact h
   | 8,h=>exact h
   | 9,h=>exact h
   | 10,h=>exact h
   | 11,h=>exact h
   | 12,h=>exact trivial
   | 13,h=>exact trivial
   | 14,h=>exact trivial
   | _+15,h=>exact trivial
  refine ach (κ:=(Option Addr × Nat) × OL) (((none,0),[])) (hmx) [[],[],[1],[1,2],[1,2,3],[],[5],[5,6],[5,6,7],(ra 5 4),(ra 5 5),(ra 1 10),(ra 0 12),(ra 0 13),(ra 0 14)] [12,13,14] (by kernel_rfl) (by kernel_rfl) 8 10 11 (by decide) (by decide) (by decide) (by decide) (by decide) (by decide) (by decide) (by decide) (by decide) [gK b s i p (.slice A lit.length c) (.slice B parts.length d) pl e] (gK b s i p (.slice A lit.length c) (.slice B parts.length d) pl e :: Lp) (.cells (iY.cells ⟨⟨lit.toArray⟩,0,false⟩).toArray 247 (0,0)) (fun b_ k_=>(b_,.cells (iY.cells ⟨⟨lit.toArray⟩,0,false⟩).toArray 247 (0,0)) :: gK b s i p (.slice A lit.length c) (.slice B parts.length d) pl e :: k_.2) (fun x hx=>by rw [qK.1 hx];exact gP) (fun x hx=>by rw [qK.1 hx];exact gP) (fun _ _ x hx=>by rw [qK.1 hx];exact iZ _ gP) (fun (dV:Nat) (iw:(Option Addr × Nat) × OL) (bE:Nat) (v:aj) (G:GH)=>match bE with|0=>v=(aI b 0)|1=>v=(aI b 0)|2=>v=(aI b 0)|3=>v=(aI b 4)|4=>v=.slice B parts.length d|5=>v=(aI b 0)|6=>v=(aI b 0)|7=>v=(aI b 2)|8=>v=.string ⟨lit.toArray⟩|9=>v=.agg (iY.cells ⟨⟨lit.toArray⟩,0,false⟩).toArray|10=>v=.slice (some ⟨dV,0,none⟩) 1 1|11=>v=.slice iw.1.1 (parts.length+1) iw.1.2∧dz 247 3 v (parts.length+1) (CU (parts++[⟨⟨lit.toArray⟩,0,false⟩])) iw.2|_=>True) (fun b b' k i v G hi hc h=>by match i,hi,hc,h with|0,_,_,h=>exact h|1,_,_,h=>exact h|2,_,_,h=>exact h|3,_,_,h=>exact h|4,_,_,h=>exact h|5,_,_,h=>exact h|6,_,_,h=>exact h|7,_,_,h=>exact h|8,_,_,h=>exact h|9,_,_,h=>exact h|10,hi,_,_=>exact absurd hi (by decide)|11,_,hc,_=>exact absurd hc (by decide)|12,_,hc,_=>exact absurd hc (by decide)|13,_,hc,_=>exact absurd hc (by decide)|14,_,hc,_=>exact absurd hc (by decide)|_+15,_,_,_=>exact trivial) (fun b k k' i v G hi hc h=>by match i,hi,hc,h with|0,_,_,h=>exact h|1,_,_,h=>exact h|2,_,_,h=>exact h|3,_,_,h=>exact h|4,_,_,h=>exact h|5,_,_,h=>exact h|6,_,_,h=>exact h|7,_,_,h=>exact h|8,_,_,h=>exact h|9,_,_,h=>exact h|10,_,_,h=>exact h|11,hi,_,_=>exact absurd hi (by decide)|12,_,hc,_=>exact absurd hc (by decide)|13,_,hc,_=>exact absurd hc (by decide)|14,_,hc,_=>exact absurd hc (by decide)|_+15,_,_,_=>exact trivial) H ?_ ?_ ?_ ?_ ?_ (by kernel_rfl) (by kernel_rfl)
  ·clear H;refine aD ?_ ?_ ?_ ?_ (aD ?_ ?_ ?_ ?_ (aD ?_ ?_ ?_ ?_ (aZ ?_ (aZ ?_ (aZ ?_ cu)))))
   ·intro dV iw mV aV a w G1 mK _ _ _ _ aX hc hG HT hv;have H:=HT;clear aX;have Hb:=H.full;have H:=Hb;clear hc;refine kH H (Rm rfl ?_);clear H;intro a H;refine aG ⟨rfl,?_⟩;exact gG (by kernel_rfl) (fQ dV iw) rfl rfl HT Hb hG hv (fun _ _ h=>h) (rfl) H
   ·intro dV iw mV aV a w G1 mK _ _ _ _ aX hc hG HT hv;have H:=HT;clear aX;have Hb:=H.full;have H:=Hb;clear hc;refine kH H (Rm rfl ?_);clear H;intro a H;refine aG ⟨rfl,?_⟩;exact gG (by kernel_rfl) (fQ dV iw) rfl rfl HT Hb hG hv (fun _ _ h=>h) (rfl) H
   ·intro dV iw mV aV a w G1 mK _ _ _ _ aX hc hG HT hv;have H:=HT;clear aX;have H:=H.aP (hv 1 8 (hc 1 (by decide)) rfl) rfl;have Hb:=H.full;have H:=Hb;clear hc;refine kH H (Rk rfl ?_);clear H;intro a H;refine aG ⟨rfl,?_⟩;exact gG (by kernel_rfl) (fQ dV iw) rfl rfl HT Hb hG hv (fun _ _ h=>h) (rfl) H
   ·intro dV iw mV aV a w G1 mK _ _ _ _ aX hc hG HT hv;have H:=HT;clear aX;have H:=H.aP (hv 2 9 (hc 2 (by decide)) rfl) rfl;have Hb:=H.full;have H:=Hb;clear hc;refine kH H (Rf IK rfl ?_);clear H;intro a H;refine aG ⟨rfl,?_⟩;exact gG (by kernel_rfl) (fQ dV iw) rfl rfl HT Hb hG hv (fun _ _ h=>h) (rfl) H
   ·intro dV iw mV aV a w G1 mK _ _ _ _ aX hc hG HT hv;have H:=HT;clear aX;have H:=H.aP (hv 3 10 (hc 3 (by decide)) rfl) rfl;have Hb:=H.full;have H:=Hb;clear hc;refine pX JZ H wn rfl (H.hp.YD (mK _ gP) rfl) rfl ?_;clear H;intro a H;refine aG ⟨rfl,?_⟩;exact gG (by kernel_rfl) (fQ dV iw) rfl rfl HT Hb hG hv (fun _ _ h=>h) (rfl) H
   ·intro dV iw mV aV a w G1 mK _ _ _ _ aX hc hG HT hv;have H:=HT;clear aX;have Hb:=H.full;have H:=Hb;clear hc;refine kH H (Rm rfl ?_);clear H;intro a H;refine aG ⟨rfl,?_⟩;exact gG (by kernel_rfl) (fQ dV iw) rfl rfl HT Hb hG hv (fun _ _ h=>h) (rfl) H
   ·intro dV iw mV aV a w G1 mK _ _ _ _ aX hc hG HT hv;have H:=HT;clear aX;have H:=H.aP (hv 5 12 (hc 5 (by decide)) rfl) rfl;have Hb:=H.full;have H:=Hb;clear hc;refine kH H (Rk rfl ?_);clear H;intro a H;refine aG ⟨rfl,?_⟩;exact gG (by kernel_rfl) (fQ dV iw) rfl rfl HT Hb hG hv (fun _ _ h=>h) (rfl) H
   ·intro dV iw mV aV a w G1 mK _ _ _ _ aX hc hG HT hv;have H:=HT;clear aX;have H:=H.aP (hv 6 13 (hc 6 (by decide)) rfl) rfl;have Hb:=H.full;have H:=Hb;clear hc;refine kH H (Rf IJ rfl ?_);clear H;intro a H;refine aG ⟨rfl,?_⟩;exact gG (by kernel_rfl) (fQ dV iw) rfl rfl HT Hb hG hv (fun _ _ h=>h) (rfl) H
   ·intro _ _ _ _ _ _ _ _ _ hB;exact absurd hB (by decide)
   ·intro dV iw mV aV a w G1 mK _ _ _ _ aX hc hG HT hv;have H:=HT;clear aX;have H:=H.aP (hv 8 15 (hc 8 (by decide)) rfl) rfl;have Hb:=H.full;have H:=Hb;clear hc;refine jR aag [_,_,_] H wn rfl rfl rfl rfl ?_;clear H;intro a H;refine aG ⟨rfl,?_⟩;exact gG (by kernel_rfl) (fQ dV iw) rfl rfl HT Hb hG hv (fun _ _ h=>h) (rfl) H
   ·intro _ _ _ _ _ _ _ _ _ _ hB;exact absurd hB (by decide)
   ·intro _ _ _ _ _ _ _ _ _ _ _ hB;exact absurd hB (by decide)
   ·intro _ _ _ _ _ _ _ _ hB;exact absurd hB (by decide)
   ·intro _ _ _ _ _ _ _ _ hB;exact absurd hB (by decide)
   intro _ _ _ _ _ _ _ _ hB;exact absurd hB (by decide)
  ·clear H;intro o_ dV iw aV a w G1 vw _ hc hG HT hv;obtain rfl:_=o_:=Option.some.inj vw;clear vw;have H:=HT;have H:=H.aP (hv 7 14 (by decide) (hc 7 (by decide)) rfl) rfl;have Hb:=H.full;have H:=Hb;clear hc;refine gY OU (Li:=[]) (L:=gK b s i p (.slice A lit.length c) (.slice B parts.length d) pl e :: (Lp++Lo)) H wn rfl (amt _ _ _ _ b s i p _ B parts.length d pl e lit (Hp.owns (Li:=[]) H.hp) hbuf hne) rfl ?_;clear H;rintro v15 Dt L15 a w ⟨rfl,rfl⟩ Eh H;dsimp only [List.nil_append] at H;refine aG ⟨rfl,?_⟩;exact adG (by kernel_rfl) (fQ dV iw) rfl HT Hb hG (fun j e h1 h2 h3=>hv j e h1 h2 h3) Eh (rfl) H
  ·clear H;intro o_ iw aV a w G1 vw _ hc hG HT hv;obtain rfl:_=o_:=Option.some.inj vw;clear vw;have H:=HT;have H:=H.aP (hv 0 9 16 (by decide) (hc 9 (by decide)) rfl) rfl;have Hb:=H.full;have H:=Hb;clear hc;refine gX Ho He [_,_,_] [_,_,_] H wn rfl rfl rfl rfl rfl (by intro i q h;match i,h with|0,h=>exact h|n+1,h=>simp at h) rfl rfl ?_;clear H;intro b17 a w Qj H;refine aG ⟨rfl,b17,?_⟩;exact Oy (by kernel_rfl) rfl HT Hb hG (fun j e h1 h2 h3=>hv _ j e h1 h2 h3) (rfl) H
  ·clear H;intro o_ dV aV a w G1 vw _ hc hG HT hv;obtain rfl:_=o_:=Option.some.inj vw;clear vw;have H:=HT;have H:=H.aP (hv (((none,0),[])) 4 11 (by decide) (hc 4 (by decide)) rfl) rfl;have H:=H.aP (hv (((none,0),[])) 10 17 (by decide) (hc 10 (by decide)) rfl) rfl;have Hb:=H.full;have H:=Hb;clear hc;refine oz (Li:=[_,_]) (Lo:=Lp) (news:=iY.cells ⟨⟨lit.toArray⟩,0,false⟩) Ho He rfl rfl H wn rfl rfl Mh rfl (H.hp.dL 0 rfl rfl) rfl (by omega) (by omega) rfl ?_;clear H;intro v18 abm a w CJ H;obtain ⟨A18,c18,rfl,-,-⟩:=CJ.shape;rw [← Yu] at CJ;refine aG ⟨rfl,((A18,c18),abm),?_⟩;exact Oy (by kernel_rfl) rfl HT Hb hG (fun j e h1 h2 h3=>hv _ j e h1 h2 h3) (⟨rfl,CJ⟩) H
  clear H;intro b17 iw a w G mh H hv;have H:=H.aP (hv 0 7 rfl rfl) rfl;obtain ⟨u18,aiw,XA⟩:=hv 11 18 (by decide) rfl;(try dsimp only at XA);obtain ⟨rfl,CJ⟩:=XA;have H:=H.iT aiw;clear hv;refine kH H (Rk rfl (Rf IK rfl ?_));clear H;intro a H;refine bM JZ 1 (vs:=[_]) _ H wn rfl rfl rfl rfl rfl rfl rfl rfl ?_;clear H;intro w H;dsimp only [List.set,setRow] at H;refine aG ⟨rfl,?_⟩;refine K2 _ _ ?_;clear K2;refine kP H (SC (Rm rfl (Rk rfl (Rf IJ rfl ?_))));clear H;intro a H;refine gY aeJ (Li:=[_]) (L:=gK b s i p (.slice A lit.length c) (.slice iw.1.1 (parts.length+1) iw.1.2) pl e :: iw.2) H wn rfl (ams _ _ _ b s i p A lit.length c iw.1.1 (parts.length+1) iw.1.2 pl e (Hp.owns (Li:=[_]) H.hp)) rfl ?_;clear H;rintro v24 _ L24 a w ⟨rfl,rfl⟩ nK H;dsimp only [lca,bG] at H;refine aG ?_;refine (leave0 H results160 ?_).2
  first
   | exact H.hp.iy (L':=gK b s i _ _ _ pl e :: iw.2) (Aw _ _) ⟨_,_,_,iw.2,[],by rw [jA],⟨.inl rfl,dz.nil,by rw [ug,ah hne];simpa using CJ⟩⟩
   | exact H.hp.eX ⟨_,_,_,Lp,Lo,by rw [oJ],by
     have h0:lit=[]:=by
      cases lit with
      | nil=>rfl
      | cons x r=>simp at p6
     subst h0;exact ⟨XD,hbuf,by rw [ug,av rfl];exact Mh⟩⟩
 intro h6 a H
 try have p6:=dF h6
 refine fZ ?_;refine (leave0 H results160 ?_).2
 first
  | exact H.hp.iy (L':=gK b s i _ _ _ pl e :: iw.2) (Aw _ _) ⟨_,_,_,iw.2,[],by rw [jA],⟨.inl rfl,dz.nil,by rw [ug,ah hne];simpa using CJ⟩⟩
  | exact H.hp.eX ⟨_,_,_,Lp,Lo,by rw [oJ],by
    have h0:lit=[]:=by
     cases lit with
     | nil=>rfl
     | cons x r=>simp at p6
    subst h0;exact ⟨XD,hbuf,by rw [ug,av rfl];exact Mh⟩⟩
theorem Zj (G:GH) (Lp Lo:OL) (w0:World) (b:Nat) (s:ByteArray) (i:Int) (p v q:aj) (pl e:Int) (lit:List UInt8) (parts:List iY) (ch:Int) (plain:Bool) (hR:zC b lit parts p v q Lp Lo) (hO:gZ G (gK b s i p v q pl e :: (Lp++Lo)) w0) (hl:lit.length≤4294967296) (hp:parts.length≤4294967290) (hc:49≤ch∧ch≤57) (hpl:0≤pl∧pl≤4294967296) :
  Calls prog 163 #[(aI b 0),.int .u8 ch,.bool plain] w0 (gI w0 G (gK b s i p v q pl e :: (Lp++Lo)) fun u G' L'=>∃ p' v' q' ql fG,L'=gK b s i p' v' q' (pl+1) e :: (ql++fG)∧zC b [] (ug lit parts++[⟨⟨#[]⟩,ch - 48,plain⟩]) p' v' q' ql fG):=by
 have hml:maxLen=9223372036854775807:=rfl
 have hfl:(ug lit parts).length≤parts.length+1:=by unfold ug;split <;> simp
 obtain ⟨A,c,rfl,XV,XW⟩:=hR.buf.shape;obtain ⟨B,d,rfl,XE,XF⟩:=hR.prt.shape;obtain ⟨Lt,oJ⟩:∃ x,x=Lp++Lo:=⟨_,rfl⟩;rw [← oJ] at hO ⊢;refine jZ (N:=29) (T:=[(0,_),(1,_),(2,_)]) func163 rfl ntmps163 rfl rfl hO ?_;intro a H;refine kP H (SR fun _ K1=>Rm rfl ?_);clear H;intro a H;refine gY OI (Li:=[]) (L:=gK b s i p (.slice A lit.length c) (.slice B parts.length d) pl e :: Lt) H wn rfl (by subst oJ;exact Pq _ Lp Lo _ b s i p _ _ pl e lit parts hR (Hp.owns (Li:=[]) H.hp) hl (by omega)) rfl ?_;clear H;rintro v7 G7 L7 a w ⟨p',v',q',ql,fG,rfl,IY⟩ Bo H;dsimp only [List.nil_append] at H;obtain ⟨A7,c7,rfl,-,-⟩:=IY.buf.shape;obtain ⟨B7,d7,rfl,-,-⟩:=IY.prt.shape;refine K1 _ _ ?_;clear K1;refine kP H (SR fun _ K2=>Rm rfl (Rm rfl (Rk rfl (aT IK JZ 0 rfl rfl (Rm rfl ?_)))));clear H;intro a H;refine alF H wn rfl rfl (by omega) (by omega) rfl ?_;clear H;intro a H;refine GR _ nW J3 H wn rfl rfl rfl ?_;clear H;intro a H;rw [JA (by omega) (by omega)] at H;refine kH H (Rm rfl ?_);clear H;intro a H;refine jR aag [_,_,_] H wn rfl rfl rfl rfl ?_;clear H;intro a H;refine gX Ho He [_,_,_] [_,_,_] H wn rfl rfl rfl rfl rfl (by intro i q h;match i,h with|0,h=>exact h|n+1,h=>simp at h) rfl rfl ?_;clear H;intro b18 a w LV H;have H:=(St.cast H (show _=[_,_]++(ql++fG) from rfl)).perm (List.Perm.append_left _ Ay);have H:=St.un H;refine oz (Li:=[_,_]++fG) (Lo:=ql) (news:=iY.cells ⟨⟨#[]⟩,ch - 48,plain⟩) Ho He rfl rfl H wn rfl rfl IY.prt rfl (H.hp.dL 0 rfl rfl) rfl (by omega) (by omega) rfl ?_;clear H;intro v19 Uh a w xE H;obtain ⟨BU,c19,rfl,-,-⟩:=xE.shape;rw [← Yu] at xE;have H:=H.assoc.perm (List.Perm.append_left _ Ay);dsimp only [lca,bG] at H;refine kH H (Rk rfl (Rf IK rfl ?_));clear H;intro a H;refine bM JZ 1 (vs:=[_]) _ H wn rfl rfl rfl rfl rfl rfl rfl rfl ?_;clear H;intro w H;dsimp only [List.set,setRow] at H;refine K2 _ _ ?_;clear K2;refine kP H (SC (Rm rfl (Rk rfl (aT Lj aH 1 rfl rfl (Rd rfl (Rk rfl (Rf Lj rfl ?_)))))));clear H;intro a H;refine bM aH 1 (vs:=[_]) _ H wn rfl rfl rfl rfl rfl rfl rfl rfl ?_;clear H;intro w H;dsimp only [List.set,setRow] at H;refine aG ?_;refine (leave0 H results163 ?_).2;exact H.hp.iy (L':=gK b s i _ _ _ (pl+1) e :: (Uh++fG)) (Aw _ _) ⟨_,_,_,Uh,fG,rfl,IY.ptr,IY.buf,by simpa using xE⟩
end
section
open Go.RowKit
section
variable {N:Nat} {D:List Deferred} {w0:World} {F:Nat→Prop} {G0 G:GH} {L:OL} {T Xs:List (Nat × aj)}
variable {r:Option Nat} {P:Program} {Q:Exit→Act→World→Prop} {l:List Oper} {a a':Act} {w w':World}
abbrev Tm:Type:=Nat × aj × Nat × Bool
def Tn (ent:List Tm) (S:Nat→Bool) (a:Act):Prop:=∀ e∈ent,S e.2.2.1=e.2.2.2→a.tmps[e.1]?=some e.2.1
theorem Tn.at {ent:List Tm} {S:Nat→Bool} {a:Act} (h:Tn ent S a) (k:Nat) {t:Nat} {v:aj} {j:Nat} {b:Bool} (hk:ent[k]?=some (t,v,j,b)) (hS:S j=b):a.tmps[t]?=some v:=h _ (lI hk) hS
theorem alE {ops:Array Oper} {rest:List Oper} {d:Nat} {ty:TypeId} {pos:String} {aM:Array Edge} {g:Option (Nat × Bool)} {t:TypeId} {x y:Operand} {s:ByteArray} {ky:IntKind} {p:Int} (hi:Nat) (ht:P.underlying t=some .string) (H:St N D w0 F G0 G L T a w) (hw:Region.wanted ⟨some d,.slice t x none (some y) none,ty,pos,aM,g⟩ (yielded ops a.tmps)=true) (hx:ev T x=some (.string s)) (hy:ev T y=some (.int ky p)) (hp:p=(hi:Int)) (h1:hi≤s.size) (hd:Nat.blt d N=true)
  (k:∀ a',St N D w0 F G0 G L ((d,.string (s.extract 0 hi)) :: T) a' w→WL r P ops Q rest a' w):WL r P ops Q (⟨some d,.slice t x none (some y) none,ty,pos,aM,g⟩ :: rest) a w:=by
 subst hp
 have hr:=run_slice_string_h (P:=P) w t s ht ky (hi:Int) (by omega) (by omega)
 rw [Int.toNat_natCast] at hr
 refine fq (v:=.string (s.extract 0 hi)) (w':=w) hw rfl ?_ (k _ (H.put hd _ H.hp))
 simp only [execOp,H.ev hx,Option.map_some,Option.map_none,H.ev hy,cZ,run_sliceAt_string w t _ _ _ _ ht,hr,jT,oZ]
end
end
section
open Go.RowKit
theorem aeK:∀ args w,(callFunc 166 args).run prog w=.ok (.enter 166 args) w:=enters func166 rfl (by kernel_rfl)
theorem vW:cB prog 259 0 0:=⟨by kernel_rfl⟩
theorem VA:∀ args w,(callFunc 159 args).run prog w=.ok (.enter 159 args) w:=enters func159 rfl (by kernel_rfl)
theorem VB:∀ args w,(callFunc 162 args).run prog w=.ok (.enter 162 args) w:=enters func162 rfl (by kernel_rfl)
theorem VD:∀ args w,(callFunc 163 args).run prog w=.ok (.enter 163 args) w:=enters func163 rfl (by kernel_rfl)
theorem pF:cB prog 259 1 1:=⟨by kernel_rfl⟩
theorem OJ:∀ args w,(callFunc 161 args).run prog w=.ok (.enter 161 args) w:=enters func161 rfl (by kernel_rfl)
theorem zK:cB prog 259 5 6:=⟨by kernel_rfl⟩
def qQ (s p:ByteArray):Bool:=decide (p.size≤s.size) && ((s.extract 0 p.size).toList == p.toList)
theorem ahe (G:GH) (w0:World) (hG:Hold G w0) (s p:ByteArray) (hs:s.size≤4611686018427387904) (hp:p.size≤4611686018427387904):Calls prog 166 #[.string s,.string p] w0 (bq w0 G fun u G'=>u=.bool (qQ s p)∧G=G'):=by
 refine eN [(0,_),(1,_)] func166 rfl ntmps166 rfl rfl hG ?_;intro a H;refine kP H (SR fun _ K1=>ak K1 rfl (SR fun _ K2=>Rm rfl (Rv fO rfl (Rm rfl (Rv fO rfl (Rc rfl (Rm rfl (Sp 10 rfl ?_ ?_)))))))) <;> clear H K1
 ·intro h10 a H
  try have lV:=dT h10
  refine kH H (YM h10 rfl (YM h10 rfl ?_));clear H;intro a H;refine BJ fO H (wg H rfl rfl h10) rfl rfl ?_;clear H;intro a H;refine alE p.size fO H (wg H rfl rfl h10) rfl rfl rfl (by omega) rfl ?_;clear H;intro a H;refine kH H (YM h10 rfl ?_);clear H;intro a H;refine xI H (wg H rfl rfl h10) rfl rfl rfl ?_;clear H;intro a H;exact kH H (Pt h10 rfl (ak K2 rfl (LR results166 rfl fun H=>H.rt ⟨aF (by unfold qQ;first|(simp_all;done)|(simp_all;omega)),rfl⟩)))
 intro h10 a H
 try have lV:=dF h10
 exact kH H (bC h10 rfl (bC h10 rfl (Pf h10 rfl (ak K2 rfl (LR results166 rfl fun H=>H.rt ⟨aF (by unfold qQ;first|(simp_all;done)|(simp_all;omega)),rfl⟩)))))
theorem Qh (G:GH) (w0:World) (hG:Hold G w0) (s p:ByteArray) (hs:s.size≤4611686018427387904) (hp:p.size≤4611686018427387904):Calls prog 161 #[.string s,.string p] w0 (bq w0 G fun u G'=>u=.bool (qQ s p)∧G=G'):=by
 refine eN [(0,_),(1,_)] func161 rfl ntmps161 rfl rfl hG ?_;intro a H;refine kP H (SR fun _ K1=>ak K1 rfl (SR fun _ K2=>Rm rfl (Rm rfl ?_)));clear H K1;intro a H;refine s_call aeK H wn rfl (ahe _ _ H.ro s p hs hp) rfl ?_;clear H;rintro v7 _ a w ⟨rfl,rfl⟩ - H;exact kH H (ak K2 rfl (LR results161 rfl fun H=>H.rt ⟨rfl,rfl⟩))
def uf (s:ByteArray) (k:Nat):Bool:=decide (k < s.size) && decide (49≤gF s k) && decide (gF s k≤57)
theorem Vm (G:GH) (L:OL) (w0:World) (b:Nat) (s:ByteArray) (i:Int) (p v q:aj) (pl e:Int) (k:Nat) (hs:s.size≤4611686018427387904) (hO:gZ G (gK b s i p v q pl e :: L) w0) :
  Calls prog 162 #[(aI b 0),vi k] w0 (gI w0 G (gK b s i p v q pl e :: L) fun u G' L'=>u=.bool (uf s k)∧L'=gK b s i p v q pl e :: L∧G'=G):=by
 refine jZ (N:=30) (T:=[(0,_),(1,_)]) func162 rfl ntmps162 rfl rfl hO ?_;intro a H;refine kP H (SR fun _ K1=>ak K1 rfl (SR fun _ K2=>Rm rfl (Rm rfl (Rk rfl (aT vW fV 0 rfl rfl (Rv fO rfl (Rc rfl (Rm rfl (Sp 12 rfl ?_ ?_))))))))) <;> clear H K1
 ·intro h12 a H
  try have qE:=dT h12
  refine kH H (YM h12 rfl ?_);clear H;intro a H;refine sW H (wg H rfl rfl h12) rfl rfl ?_;clear H;intro a H;refine kH H (YF vW h12 rfl (YO fV 0 h12 rfl (YM h12 rfl ?_)));clear H;intro a H;refine nO k fO H (wg H rfl rfl h12) rfl rfl rfl (by omega) rfl ?_;clear H;intro a H;rw [← kN] at H;refine kH H (YC h12 rfl (Pt h12 rfl (Rm rfl (Sp 21 rfl ?_ ?_)))) <;> clear H
  ·intro h21 a H
   try have oN:=dT h21
   refine kH H (YM h21 rfl ?_);clear H;intro a H;refine sW H (wg H rfl rfl h21) rfl rfl ?_;clear H;intro a H;refine kH H (YF vW h21 rfl (YO fV 0 h21 rfl (YM h21 rfl ?_)));clear H;intro a H;refine nO k fO H (wg H rfl rfl h21) rfl rfl rfl (by omega) rfl ?_;clear H;intro a H;rw [← kN] at H;exact kH H (YC h21 rfl (Pt h21 rfl (ak K2 rfl (LR results162 rfl fun H=>H.hp.eX ⟨aF (by unfold uf;first|(simp_all;done)|(simp_all;omega)),rfl,rfl⟩))))
  intro h21 a H
  try have oN:=dF h21
  exact kH H (bC h21 rfl (aR h21 rfl (aR h21 rfl (Pf h21 rfl (ak K2 rfl (LR results162 rfl fun H=>H.hp.eX ⟨aF (by unfold uf;first|(simp_all;done)|(simp_all;omega)),rfl,rfl⟩))))))
 intro h12 a H
 try have qE:=dF h12
 exact kH H (bC h12 rfl (aR h12 rfl (aR h12 rfl (Pf h12 rfl (Rm rfl (bC rfl rfl (aR rfl rfl (aR rfl rfl (Pf rfl rfl (ak K2 rfl (LR results162 rfl fun H=>H.hp.eX ⟨aF (by unfold uf;first|(simp_all;done)|(simp_all;omega)),rfl,rfl⟩)))))))))))
structure tN where
 i:Nat
 lit:List UInt8
 parts:List iY
 pl:Nat
 e:Int
def ou (s:ByteArray) (x:tN):tN :=
 if qQ (s.extract x.i s.size) ⟨#[37,37]⟩=true then ⟨x.i+2,x.lit++[37],x.parts,x.pl,x.e⟩
 else if uf s (x.i+1)=true then ⟨x.i+2,[],ug x.lit x.parts++[⟨⟨#[]⟩,gF s (x.i+1) - 48,false⟩],x.pl+1,x.e⟩
 else if qQ (s.extract x.i s.size) ⟨#[37,100]⟩=true∧uf s (x.i+2)=true then ⟨x.i+3,[],ug x.lit x.parts++[⟨⟨#[]⟩,gF s (x.i+2) - 48,true⟩],x.pl+1,x.e⟩
 else ⟨x.i,x.lit,x.parts,x.pl,14⟩
abbrev vG (b:Nat) (s:ByteArray) (x:tN) (p v q:aj):Nat × Obj:=gK b s x.i p v q x.pl x.e
theorem Vl {s:ByteArray} {k:Nat} (h:uf s k=true):k < s.size∧49≤gF s k∧gF s k≤57:=by
 simpa [uf,and_assoc] using h
set_option maxHeartbeats 1000000 in
theorem akF (G:GH) (Lp Lo:OL) (w0:World) (b:Nat) (s:ByteArray) (x:tN) (p v q:aj) (hR:zC b x.lit x.parts p v q Lp Lo) (hO:gZ G (vG b s x p v q :: (Lp++Lo)) w0) (hs:s.size≤4294967290) (hi:x.i < s.size) (hl:x.lit.length≤4294967290) (hp:x.parts.length≤4294967290) (hpl:x.pl≤4294967290) :
    Calls prog 158 #[(aI b 0)] w0 (gI w0 G (vG b s x p v q :: (Lp++Lo)) fun u G' L'=>∃ p' v' q' ql fG,L'=vG b s (ou s x) p' v' q' :: (ql++fG)∧zC b (ou s x).lit (ou s x).parts p' v' q' ql fG):=by
  obtain ⟨i,lit,parts,pl,e⟩:=x;dsimp only [vG] at *
  have hex:(s.extract i s.size).size≤4611686018427387904:=by rw [ByteArray.size_extract];omega
  obtain ⟨A,c,rfl,XV,XW⟩:=hR.buf.shape;obtain ⟨B,d,rfl,XE,XF⟩:=hR.prt.shape;obtain ⟨Lt,oJ⟩:∃ x,x=Lp++Lo:=⟨_,rfl⟩;rw [← oJ] at hO ⊢;refine jZ (N:=93) (T:=[(0,_)]) func158 rfl ntmps158 rfl rfl hO ?_;intro a H;refine xX ?_;refine bK (fun _ K1=>?_);refine dI hmx [[],[0],[0,1],[0,1,2],[],[4],[4,5],[4,5,6],(ra 0 8),(ra 0 9),(ra 0 10)] [] (by kernel_rfl) [_,_,_,.string s,_,_,_,vi i,.string (s.extract i s.size),.bool (qQ (s.extract i s.size) ⟨#[37,37]⟩),_] H (aD (Z0 rfl (Rm rfl)) (Z1 0 6 rfl (Rk rfl)) (Z1 1 7 rfl (Rf vW rfl)) (Z1 2 8 rfl (Ro fV 0 rfl)) (aD (Z0 rfl (Rm rfl)) (Z1 4 10 rfl (Rk rfl)) (Z1 5 11 rfl (Rf pF rfl)) (Z1 6 12 rfl (Ro aH 0 rfl)) (aZ ?_ (aZ ?_ (aZ (Z1 9 15 rfl (Ra rfl)) cu))))) ?_
  · refine bZ 3 9 7 13 rfl rfl fun _ a w G1 hG HT H fin=>?_;refine Sb i fO H wn rfl rfl rfl (by omega) rfl ?_;clear H;intro a H;exact fin H iJ rfl
  · refine dB 8 14 rfl rfl fun _ a w G1 hG HT H fin=>?_;refine s_call OJ H wn rfl (Qh _ _ H.ro _ _ hex (by decide)) rfl ?_;clear H;rintro v15 Dt a w ⟨rfl,rfl⟩ Eh H;exact fin H Eh (rfl)
  clear H;intro a w G mh H hv;have H:=H.aP (hv 10 5 rfl rfl) rfl;clear hv;refine aG ⟨rfl,?_⟩;refine K1 _ _ ?_;clear K1;refine kS H rfl ?_ ?_
  · intro h5
    try have p5:=dT h5
    refine kP H (SR fun _ K2=>Rm rfl (Rk rfl (Rf IJ rfl ?_)));clear H;intro a H;refine gY VA (Li:=[]) (L:=gK b s i p (.slice A lit.length c) (.slice B parts.length d) pl e :: Lt) H wn rfl (by subst oJ;exact aaJ _ Lp Lo _ b s i p _ B parts.length d pl e lit.length _ 37 hR.ptr (Hp.owns (Li:=[]) H.hp) hR.buf (by omega)) rfl ?_;clear H;rintro v19 _ L19 a w ⟨aop,DC,rfl,xE,rfl⟩ om H;dsimp only [List.nil_append] at H;obtain ⟨BU,c19,rfl,-,-⟩:=xE.shape;refine K2 _ _ ?_;clear K2;refine kP H (SC (Rm rfl (Rk rfl (aT pF aH 0 rfl rfl (Rd rfl (Rk rfl (Rf pF rfl ?_)))))));clear H;intro a H;refine bM aH 0 (vs:=[_]) _ H wn rfl rfl rfl rfl rfl rfl rfl rfl ?_;clear H;intro w H;dsimp only [List.set,setRow] at H;refine aG ?_;refine (leave0 H results158 ?_).2;exact H.hp.eX ⟨_,_,_,Lp,DC,by rw [ou,av h5];rfl,by rw [ou,av h5];exact ⟨.inr rfl,by simpa [Lib.byteCells] using xE,hR.prt⟩⟩
  intro h5
  try have p5:=dF h5
  refine kP H (SR fun _ K3=>Rm rfl (Rm rfl (Rk rfl (aT pF aH 0 rfl rfl (Rd rfl ?_)))));clear H;intro a H;rw [show ((i:Int)+1)=((i+1:Nat):Int) from rfl] at H;refine gY VB (Li:=[]) (L:=gK b s i p (.slice A lit.length c) (.slice B parts.length d) pl e :: Lt) H wn rfl (Vm _ Lt _ b s i p _ _ pl e (i+1) (by omega) (Hp.owns (Li:=[]) H.hp)) rfl ?_;clear H;rintro v34 _ L34 a w ⟨rfl,rfl,rfl⟩ Xm H;dsimp only [List.nil_append] at H;refine kH H (ak K3 rfl (Cd rfl ?_ ?_)) <;> clear H K3
  · intro h27 a H
    try have p27:=dT h27
    have hd1:=Vl h27;refine bK (fun _ K4=>?_);refine dI hmx [[],[],[1],[1,2],[1,2,3],[],[5],[5,6],[5,6,7],(ra 5 4),(ra 1 9),(ra 0 11)] [11] (by kernel_rfl) [_,_,_,_,.string s,_,_,_,vi i,_,.int .u8 (gF s (i+1))] H (aD (Z0 rfl (Rm rfl)) (Z0 rfl (Rm rfl)) (Z1 1 36 rfl (Rk rfl)) (Z1 2 37 rfl (Rf vW rfl)) (aD (Z1 3 38 rfl (Ro fV 0 rfl)) (Z0 rfl (Rm rfl)) (Z1 5 40 rfl (Rk rfl)) (Z1 6 41 rfl (Rf pF rfl)) (aD (Z1 7 42 rfl (Ro aH 0 rfl)) (Z1 8 43 rfl (Rd rfl)) ?_ (bN rfl) cu))) ?_
    · refine bZ 4 39 9 44 rfl rfl fun _ a w G1 hG HT H fin=>?_;refine nO (i+1) fO H wn rfl rfl rfl hd1.1 rfl ?_;clear H;intro a H;rw [← kN] at H;exact fin H iJ rfl
    clear H;intro a w G zP H hv;have H:=H.aP (hv 0 35 rfl rfl) rfl;have H:=H.aP (hv 10 45 rfl rfl) rfl;clear hv;refine gY VD (Li:=[]) (L:=gK b s i p (.slice A lit.length c) (.slice B parts.length d) pl e :: Lt) H wn rfl (by subst oJ;exact Zj _ Lp Lo _ b s i p _ _ pl e lit parts (gF s (i+1)) false hR (Hp.owns (Li:=[]) H.hp) (by omega) (by omega) hd1.2 (by omega)) rfl ?_;clear H;rintro v46 G46 L46 a w ⟨p46,amR,q46,H9,DF,rfl,Bf⟩ ahK H;dsimp only [List.nil_append] at H;obtain ⟨A46,c46,rfl,-,-⟩:=Bf.buf.shape;obtain ⟨B46,d46,rfl,-,-⟩:=Bf.prt.shape;refine aG ⟨rfl,?_⟩;refine K4 _ _ ?_;clear K4;refine kP H (SC (Rm rfl (Rk rfl (aT pF aH 0 rfl rfl (Rd rfl (Rk rfl (Rf pF rfl ?_)))))));clear H;intro a H;refine bM aH 0 (vs:=[_]) _ H wn rfl rfl rfl rfl rfl rfl rfl rfl ?_;clear H;intro w H;dsimp only [List.set,setRow] at H;refine aG ?_;refine (leave0 H results158 ?_).2;exact H.hp.eX ⟨_,_,_,H9,DF,by rw [ou,ah (by simp [h5]),av h27];rfl,by rw [ou,ah (by simp [h5]),av h27];exact Bf⟩
  intro h27 a H
  try have p27:=dF h27
  refine bK (fun _ K5=>?_)
  by_cases c1:qQ (s.extract i s.size) ⟨#[37,100]⟩=true
  · skip;refine dI hmx [[],[0],[0,1],[0,1,2],[],[4],[4,5],[4,5,6],(ra 0 8),(ra 0 9),(ra 0 10),(ra 0 11),(ra 0 11),(ra 0 11++[12]),(ra 0 11++[12,13]),(ra 0 11++[12,13,14]),(ra 0 11++ra 12 4),(ra 0 17),(ra 0 18),(ra 0 19)] [] (by kernel_rfl) [_,_,_,.string s,_,_,_,vi i,.string (s.extract i s.size),.bool (qQ (s.extract i s.size) ⟨#[37,100]⟩),.bool (decide (qQ (s.extract i s.size) ⟨#[37,100]⟩=true)),_,_,(aI b 0),_,vi i,vi ((i+2:Nat):Int),.bool (uf s (i+2)),_,_] H (aD (Z0 rfl (Rm rfl)) (Z1 0 55 rfl (Rk rfl)) (Z1 1 56 rfl (Rf vW rfl)) (Z1 2 57 rfl (Ro fV 0 rfl)) (aD (Z0 rfl (Rm rfl)) (Z1 4 59 rfl (Rk rfl)) (Z1 5 60 rfl (Rf pF rfl)) (Z1 6 61 rfl (Ro aH 0 rfl)) (aD ?_ ?_ ?_ (Z1 10 65 rfl (YM (aA c1) rfl)) (aD (Z1 10 65 rfl (YM (aA c1) rfl)) ?_ (Z2 13 68 10 65 rfl (YF pF (aA c1) rfl)) (Z2 14 69 10 65 rfl (YO aH 0 (aA c1) rfl)) (aD ?_ ?_ (Z2 10 65 17 72 rfl (Pt (aA c1) rfl)) (Z1 18 73 rfl (Ra rfl)) cu))))) ?_
    · refine bZ 3 58 7 62 rfl rfl fun _ a w G1 hG HT H fin=>?_;refine Sb i fO H wn rfl rfl rfl (by omega) rfl ?_;clear H;intro a H;exact fin H iJ rfl
    · refine dB 8 63 rfl rfl fun _ a w G1 hG HT H fin=>?_;refine s_call OJ H wn rfl (Qh _ _ H.ro _ _ hex (by decide)) rfl ?_;clear H;rintro v64 Tx a w ⟨rfl,rfl⟩ IW H;exact fin H IW (rfl)
    · refine dB 9 64 rfl rfl fun _ a w G1 hG HT H fin=>?_;refine kH H (Rm rfl ?_);clear H;intro a H;exact fin H iJ (by show _=_;simp)
    · refine bZ 12 67 10 65 rfl rfl fun _ a w G1 hG HT H fin=>?_;refine sW H (wg H rfl rfl (aA c1)) rfl rfl ?_;clear H;intro a H;exact fin H iJ rfl
    · refine bZ 15 70 10 65 rfl rfl fun _ a w G1 hG HT H fin=>?_;refine MV _ H (wg H rfl rfl (aA c1)) rfl rfl rfl (by omega) (by omega) rfl ?_;clear H;intro a H;exact fin H iJ rfl
    · refine nD 11 66 16 71 10 65 rfl rfl fun _ a w G1 hG HT H fin=>?_;refine gY VB (Li:=[]) (L:=gK b s i p (.slice A lit.length c) (.slice B parts.length d) pl e :: Lt) H (wg H rfl rfl (aA c1)) rfl (Vm _ Lt _ b s i p _ _ pl e (i+2) (by omega) (Hp.owns (Li:=[]) H.hp)) rfl ?_;clear H;rintro v72 G72 L72 a w ⟨rfl,rfl,rfl⟩ agO H;dsimp only [List.nil_append] at H;exact fin H agO (rfl)
    clear H;intro a w G vZ H hv;have H:=H.aP (hv 19 54 rfl rfl) rfl;clear hv;refine aG ⟨rfl,?_⟩;refine K5 _ _ ?_;clear K5;refine kS H rfl ?_ ?_
    · intro gW
      try have p54:=dT gW
      have hd2:=Vl gW;refine bK (fun _ K6=>?_);refine dI hmx [[],[],[1],[1,2],[1,2,3],[],[5],[5,6],[5,6,7],(ra 5 4),(ra 1 9),(ra 0 11)] [11] (by kernel_rfl) [_,_,_,_,.string s,_,_,_,vi i,_,.int .u8 (gF s (i+2))] H (aD (Z0 rfl (Rm rfl)) (Z0 rfl (Rm rfl)) (Z1 1 75 rfl (Rk rfl)) (Z1 2 76 rfl (Rf vW rfl)) (aD (Z1 3 77 rfl (Ro fV 0 rfl)) (Z0 rfl (Rm rfl)) (Z1 5 79 rfl (Rk rfl)) (Z1 6 80 rfl (Rf pF rfl)) (aD (Z1 7 81 rfl (Ro aH 0 rfl)) (Z1 8 82 rfl (Rd rfl)) ?_ (bN rfl) cu))) ?_
      · refine bZ 4 78 9 83 rfl rfl fun _ a w G1 hG HT H fin=>?_;refine nO (i+2) fO H wn rfl rfl rfl hd2.1 rfl ?_;clear H;intro a H;rw [← kN] at H;exact fin H iJ rfl
      clear H;intro a w G qP H hv;have H:=H.aP (hv 0 74 rfl rfl) rfl;have H:=H.aP (hv 10 84 rfl rfl) rfl;clear hv;refine gY VD (Li:=[]) (L:=gK b s i p (.slice A lit.length c) (.slice B parts.length d) pl e :: Lt) H wn rfl (by subst oJ;exact Zj _ Lp Lo _ b s i p _ _ pl e lit parts (gF s (i+2)) true hR (Hp.owns (Li:=[]) H.hp) (by omega) (by omega) hd2.2 (by omega)) rfl ?_;clear H;rintro v85 G85 L85 a w ⟨p46,amR,q46,H9,DF,rfl,Bf⟩ anQ H;dsimp only [List.nil_append] at H;obtain ⟨A46,c46,rfl,-,-⟩:=Bf.buf.shape;obtain ⟨B46,d46,rfl,-,-⟩:=Bf.prt.shape;refine aG ⟨rfl,?_⟩;refine K6 _ _ ?_;clear K6;refine kP H (SC (Rm rfl (Rk rfl (aT pF aH 0 rfl rfl (Rd rfl (Rk rfl (Rf pF rfl ?_)))))));clear H;intro a H;refine bM aH 0 (vs:=[_]) _ H wn rfl rfl rfl rfl rfl rfl rfl rfl ?_;clear H;intro w H;dsimp only [List.set,setRow] at H;refine aG ?_;refine (leave0 H results158 ?_).2
      have vv:¬ qQ (s.extract i s.size) ⟨#[37,37]⟩=true:=by simp [h5]
      have vo:¬ uf s (i+1)=true:=by simp [h27]
      first
        | exact H.hp.eX ⟨_,_,_,H9,DF,by rw [ou,ah vv,ah vo,av ⟨c1,gW⟩];rfl,by rw [ou,ah vv,ah vo,av ⟨c1,gW⟩];exact Bf⟩
        | (have CF:¬ (qQ (s.extract i s.size) ⟨#[37,100]⟩=true∧uf s (i+2)=true):=by simp_all
           exact H.hp.eX ⟨_,_,_,Lp,Lo,by rw [ou,ah vv,ah vo,ah CF,oJ],by rw [ou,ah vv,ah vo,ah CF];exact hR⟩)
    intro gW
    try have p54:=dF gW
    refine kP H (SC (Rm rfl (Rk rfl (Rf zK rfl ?_))));clear H;intro a H;refine bM gN 0 (vs:=[_]) _ H wn rfl rfl rfl rfl rfl rfl rfl rfl ?_;clear H;intro w H;dsimp only [List.set,setRow] at H;refine aG ?_;refine (leave0 H results158 ?_).2
    have vv:¬ qQ (s.extract i s.size) ⟨#[37,37]⟩=true:=by simp [h5]
    have vo:¬ uf s (i+1)=true:=by simp [h27]
    first
      | exact H.hp.eX ⟨_,_,_,H9,DF,by rw [ou,ah vv,ah vo,av ⟨c1,gW⟩];rfl,by rw [ou,ah vv,ah vo,av ⟨c1,gW⟩];exact Bf⟩
      | (have CF:¬ (qQ (s.extract i s.size) ⟨#[37,100]⟩=true∧uf s (i+2)=true):=by simp_all
         exact H.hp.eX ⟨_,_,_,Lp,Lo,by rw [ou,ah vv,ah vo,ah CF,oJ],by rw [ou,ah vv,ah vo,ah CF];exact hR⟩)
  skip;refine dI hmx [[],[0],[0,1],[0,1,2],[],[4],[4,5],[4,5,6],(ra 0 8),(ra 0 9),(ra 0 10),(ra 0 11),(ra 0 11),(ra 0 11++[12]),(ra 0 11++[12,13]),(ra 0 11++[12,13,14]),(ra 0 11++ra 12 4),(ra 0 17),(ra 0 18),(ra 0 19)] [] (by kernel_rfl) [_,_,_,.string s,_,_,_,vi i,.string (s.extract i s.size),.bool (qQ (s.extract i s.size) ⟨#[37,100]⟩),.bool (decide (qQ (s.extract i s.size) ⟨#[37,100]⟩=true)),undef,undef,undef,undef,undef,undef,undef,_,_] H (aD (Z0 rfl (Rm rfl)) (Z1 0 55 rfl (Rk rfl)) (Z1 1 56 rfl (Rf vW rfl)) (Z1 2 57 rfl (Ro fV 0 rfl)) (aD (Z0 rfl (Rm rfl)) (Z1 4 59 rfl (Rk rfl)) (Z1 5 60 rfl (Rf pF rfl)) (Z1 6 61 rfl (Ro aH 0 rfl)) (aD ?_ ?_ ?_ (aK (j:=10) (by kernel_rfl) (fun _ _ _ _ _ h=>h) rfl rfl rfl rfl rfl (fun _ _ h=>aL h (aF (aN c1))) rfl (fun _=>rfl)) (aD (aK (j:=10) (by kernel_rfl) (fun _ _ _ _ _ h=>h) rfl rfl rfl rfl rfl (fun _ _ h=>aL h (aF (aN c1))) rfl (fun _=>rfl)) (aK (j:=10) (by kernel_rfl) (fun _ _ _ _ _ h=>h) rfl rfl rfl rfl rfl (fun _ _ h=>aL h (aF (aN c1))) rfl (fun _=>rfl)) (aK (j:=10) (by kernel_rfl) (fun _ _ _ _ _ h=>h) rfl rfl rfl rfl rfl (fun _ _ h=>aL h (aF (aN c1))) rfl (fun _=>rfl)) (aK (j:=10) (by kernel_rfl) (fun _ _ _ _ _ h=>h) rfl rfl rfl rfl rfl (fun _ _ h=>aL h (aF (aN c1))) rfl (fun _=>rfl)) (aD (aK (j:=10) (by kernel_rfl) (fun _ _ _ _ _ h=>h) rfl rfl rfl rfl rfl (fun _ _ h=>aL h (aF (aN c1))) rfl (fun _=>rfl)) (aK (j:=10) (by kernel_rfl) (fun _ _ _ _ _ h=>h) rfl rfl rfl rfl rfl (fun _ _ h=>aL h (aF (aN c1))) rfl (fun _=>rfl)) (Z2 10 65 17 72 rfl (Pf (aN c1) rfl)) (Z1 18 73 rfl (Ra rfl)) cu))))) ?_
  · refine bZ 3 58 7 62 rfl rfl fun _ a w G1 hG HT H fin=>?_;refine Sb i fO H wn rfl rfl rfl (by omega) rfl ?_;clear H;intro a H;exact fin H iJ rfl
  · refine dB 8 63 rfl rfl fun _ a w G1 hG HT H fin=>?_;refine s_call OJ H wn rfl (Qh _ _ H.ro _ _ hex (by decide)) rfl ?_;clear H;rintro v64 Tx a w ⟨rfl,rfl⟩ IW H;exact fin H IW (rfl)
  · refine dB 9 64 rfl rfl fun _ a w G1 hG HT H fin=>?_;refine kH H (Rm rfl ?_);clear H;intro a H;exact fin H iJ (by show _=_;simp)
  clear H;intro a w G vZ H hv;have H:=H.aP (hv 19 54 rfl rfl) rfl;clear hv;refine aG ⟨rfl,?_⟩;refine K5 _ _ ?_;clear K5;refine mX H rfl rfl ?_;refine kP H (SC (Rm rfl (Rk rfl (Rf zK rfl ?_))));clear H;intro a H;refine bM gN 0 (vs:=[_]) _ H wn rfl rfl rfl rfl rfl rfl rfl rfl ?_;clear H;intro w H;dsimp only [List.set,setRow] at H;refine aG ?_;refine (leave0 H results158 ?_).2
  have vv:¬ qQ (s.extract i s.size) ⟨#[37,37]⟩=true:=by simp [h5]
  have vo:¬ uf s (i+1)=true:=by simp [h27]
  first
    | exact H.hp.eX ⟨_,_,_,H9,DF,by rw [ou,ah vv,ah vo,av ⟨c1,gW⟩];rfl,by rw [ou,ah vv,ah vo,av ⟨c1,gW⟩];exact Bf⟩
    | (have CF:¬ (qQ (s.extract i s.size) ⟨#[37,100]⟩=true∧uf s (i+2)=true):=by simp_all
       exact H.hp.eX ⟨_,_,_,Lp,Lo,by rw [ou,ah vv,ah vo,ah CF,oJ],by rw [ou,ah vv,ah vo,ah CF];exact hR⟩)
end
section
open Go.RowKit
theorem aeG:∀ args w,(callFunc 158 args).run prog w=.ok (.enter 158 args) w:=enters func158 rfl (by kernel_rfl)
def KQ (s:ByteArray) (i:Nat):UInt8:=if h:i < s.size then s[i] else 0
theorem abT (s:ByteArray) (i:Nat):gF s i=((KQ s i).toNat:Int):=by
 unfold gF KQ;split <;> rfl
def nQ (s:ByteArray) (x:tN):tN:=if gF s x.i=37 then ou s x else ⟨x.i+1,x.lit++[KQ s x.i],x.parts,x.pl,x.e⟩
def BK (s:ByteArray):Nat→tN→tN
 | 0,x=>x
 | f+1,x=>if x.i < s.size∧x.e=0 then BK s f (nQ s x) else x
def mS (s:ByteArray) (x:tN):Nat:=if x.e=0 then s.size - x.i else 0
theorem ZW {s:ByteArray} {f:Nat} {x:tN} (h:¬ (x.i < s.size∧x.e=0)):BK s f x=x:=by
 cases f with
 | zero=>rfl
 | succ f=>rw [BK,ah h]
theorem agq (lit:List UInt8) (parts:List iY):(ug lit parts).length≤parts.length+1:=by unfold ug;split <;> simp
theorem aam (s:ByteArray) (x:tN) (h:x.i < s.size∧x.e=0) (h1:x.lit.length≤x.i) (h2:x.parts.length≤2*x.i) (h3:x.pl≤x.i) :
  (nQ s x).i≤x.i+3∧(nQ s x).lit.length≤(nQ s x).i∧(nQ s x).parts.length≤2*(nQ s x).i∧(nQ s x).pl≤(nQ s x).i∧mS s (nQ s x) < mS s x∧mS s x≤s.size:=by
 have hf:=agq x.lit x.parts;have hm:mS s x=s.size - x.i:=av h.2
 unfold nQ ou
 split
 ·split
  ·refine ⟨?_,?_,?_,?_,?_,?_⟩ <;> simp only [mS,iM,nZ,List.length_nil] at*<;> simp only [h.2,if_true] at*<;> omega
  split
  ·refine ⟨?_,?_,?_,?_,?_,?_⟩ <;> simp only [mS,iM,nZ,List.length_nil] at*<;> simp only [h.2,if_true] at*<;> omega
  split
  ·refine ⟨?_,?_,?_,?_,?_,?_⟩ <;> simp only [mS,iM,nZ,List.length_nil] at*<;> simp only [h.2,if_true] at*<;> omega
  refine ⟨?_,?_,?_,?_,?_,?_⟩ <;> simp only [mS,iM,nZ,List.length_nil] at*<;> simp only [h.2,if_true] at*<;> (try omega) <;> (simp;omega)
 refine ⟨?_,?_,?_,?_,?_,?_⟩ <;> simp only [mS,iM,nZ,List.length_nil] at*<;> simp only [h.2,if_true] at*<;> omega
def zZ:tN:=⟨0,[],[],0,0⟩
def jW (s:ByteArray):tN:=BK s s.size zZ
def sZ (x:tN):Int:=if x.e=0∧9 < (x.pl:Int) then 9 else x.e
set_option maxHeartbeats 1000000 in
theorem alH (G:GH) (KD KA:OL) (w0:World) (b:Nat) (s:ByteArray) (p0 v0 q0:aj) (hR:zC b [] [] p0 v0 q0 KD KA) (hO:gZ G (vG b s zZ p0 v0 q0 :: (KD++KA)) w0) (hs:s.size≤1073741824) :
  Calls prog 154 #[(aI b 0)] w0 (gI w0 G (vG b s zZ p0 v0 q0 :: (KD++KA)) fun u G' L'=>∃ p' v' q' ql fG,L'=gK b s (jW s).i p' v' q' (jW s).pl (sZ (jW s)) :: (ql++fG)∧zC b [] (ug (jW s).lit (jW s).parts) p' v' q' ql fG):=by
 obtain ⟨A0,c0,rfl,-,-⟩:=hR.buf.shape;obtain ⟨B0,d0,rfl,-,-⟩:=hR.prt.shape;refine jZ (N:=68) (T:=[(0,_)]) func154 rfl ntmps154 rfl rfl hO ?_;intro a H;refine bK (fun _ K1=>?_);refine xX ?_;skip;refine eU (ι:=Nat × tN × aj × Option Addr × Nat × Option Addr × Nat × OL × OL × GH) (Tc:=[(0,_)]) (Lc:=[]) (fun gh=>[]) (fun gh=>[vG b s gh.2.1 gh.2.2.1 (.slice gh.2.2.2.1 gh.2.1.lit.length gh.2.2.2.2.1) (.slice gh.2.2.2.2.2.1 gh.2.1.parts.length gh.2.2.2.2.2.2.1)]++(gh.2.2.2.2.2.2.2.1++gh.2.2.2.2.2.2.2.2.1)) (fun gh=>gh.2.2.2.2.2.2.2.2.2) (fun gh=>zC b gh.2.1.lit gh.2.1.parts gh.2.2.1 (.slice gh.2.2.2.1 gh.2.1.lit.length gh.2.2.2.2.1) (.slice gh.2.2.2.2.2.1 gh.2.1.parts.length gh.2.2.2.2.2.2.1) gh.2.2.2.2.2.2.2.1 gh.2.2.2.2.2.2.2.2.1∧BK s gh.1 gh.2.1=jW s∧mS s gh.2.1≤gh.1∧gh.1≤s.size∧gh.2.1.i≤s.size+3∧gh.2.1.lit.length≤gh.2.1.i∧gh.2.1.parts.length≤2*gh.2.1.i∧gh.2.1.pl≤gh.2.1.i) (fun gh=>gh.1) ((s.size,zZ,p0,A0,c0,B0,d0,KD,KA,G)) (by exact (H).sub ⟨rfl,aB⟩) ?_ ?_
 ·exact ⟨hR,rfl,by simp [mS,zZ],bT _,by simp [zZ],by simp [zZ],by simp [zZ],by simp [zZ]⟩
 clear H;intro gh a w hI H;obtain ⟨k,x,p,vA,vc,qA,qc,Lp,Lo,g⟩:=gh;dsimp only at hI H;obtain ⟨hR,hsc,hmk,hks,hxi,hx1,hx2,hx3⟩:=hI;dsimp only [lca,bG] at H;refine bK (fun _ K2=>?_);refine bK (fun _ K3=>?_)
 by_cases c0:(x.i:Int) < (s.size:Int)
 ·skip
  by_cases c1:x.e=0
  ·skip;refine dI hmx [[],[0],[0,1],[0,1,2],[],[4],[4,5],[4,5,6],(ra 4 4),(ra 0 9),(ra 0 10),(ra 0 11),(ra 0 12),(ra 0 13),(ra 0 14),(ra 0 15),(ra 0 16)] [] (by kernel_rfl) [_,_,_,vi x.i,_,_,_,.string s,_,_,_,_,(aI b 0),_,vi x.e,_,_] H (aD (Z0 rfl (Rm rfl)) (Z1 0 2 rfl (Rk rfl)) (Z1 1 3 rfl (Rf pF rfl)) (Z1 2 4 rfl (Ro aH 0 rfl)) (aD (Z0 rfl (Rm rfl)) (Z1 4 6 rfl (Rk rfl)) (Z1 5 7 rfl (Rf vW rfl)) (Z1 6 8 rfl (Ro fV 0 rfl)) (aD (Z1 7 9 rfl (Rv fO rfl)) (Z2 3 5 8 10 rfl (Rc rfl)) (Z1 9 11 rfl (Rm rfl)) (Z1 10 12 rfl (YM (aA c0) rfl)) (aD ?_ (Z2 12 14 10 12 rfl (YF zK (aA c0) rfl)) (Z2 13 15 10 12 rfl (YO gN 0 (aA c0) rfl)) (Z2 14 16 10 12 rfl (YC (aA c0) rfl)) (aZ (Z2 10 12 15 17 rfl (Pt (aA c0) rfl)) cu))))) ?_
   ·refine bZ 11 13 10 12 rfl rfl fun _ a w G1 hG HT H fin=>?_;refine sW H (wg H rfl rfl (aA c0)) rfl rfl ?_;clear H;intro a H;exact fin H iJ rfl
   clear H;intro a w G WV H hv;have H:=H.aP (hv 16 18 rfl rfl) rfl;clear hv;refine aG ⟨rfl,?_⟩;refine K3 _ _ ?_;clear K3;refine xY H rfl (aA c1) ?_;refine kP H (Kc K2 (SB (SQ fun _ K4=>SQ fun _ K5=>?_)));clear H K2;intro a H;refine dI hmx [[],[0],[0,1],[0,1,2],[],[4],[4,5],[4,5,6],(ra 0 8),(ra 0 9)] [] (by kernel_rfl) [_,_,_,.string s,_,_,_,vi x.i,.int .u8 (gF s x.i),_] H (aD (Z0 rfl (Rm rfl)) (Z1 0 19 rfl (Rk rfl)) (Z1 1 20 rfl (Rf vW rfl)) (Z1 2 21 rfl (Ro fV 0 rfl)) (aD (Z0 rfl (Rm rfl)) (Z1 4 23 rfl (Rk rfl)) (Z1 5 24 rfl (Rf pF rfl)) (Z1 6 25 rfl (Ro aH 0 rfl)) (aZ ?_ (aZ (Z1 8 27 rfl (Rc rfl)) cu)))) ?_
   ·refine bZ 3 22 7 26 rfl rfl fun _ a w G1 hG HT H fin=>?_;refine nO x.i fO H wn rfl rfl rfl (by omega) rfl ?_;clear H;intro a H;rw [← kN] at H;exact fin H iJ rfl
   clear H;intro a w G mh H hv;have H:=H.aP (hv 9 28 rfl rfl) rfl;clear hv;refine aG ⟨rfl,?_⟩;refine K5 _ _ ?_;clear K5;refine kS H rfl ?_ ?_
   ·intro fH
    try have p28:=dT fH
    refine kP H (SR fun _ K6=>Rm rfl ?_);clear H;intro a H;refine gY aeG (Li:=[]) (L:=vG b s x p (.slice vA x.lit.length vc) (.slice qA x.parts.length qc) :: (Lp++Lo)) H wn rfl (akF _ Lp Lo _ b s x p _ _ hR (Hp.owns (Li:=[]) H.hp) (by omega) (by omega) (by omega) (by omega) (by omega)) rfl ?_;clear H;rintro v30 Du L30 a w ⟨p',v',q',ql,fG,rfl,LM⟩ Ep H;dsimp only [List.nil_append] at H;have hst:nQ s x=ou s x:=av p28;have hok:=aam s x ⟨by omega,c1⟩ hx1 hx2 hx3
    have hkk:k=(k - 1)+1:=by omega
    have QG:BK s (k - 1) (nQ s x)=jW s:=by rw [hkk,BK,av ⟨by omega,c1⟩] at hsc;exact hsc
    rw [← hst] at H LM;obtain ⟨A30,c30,rfl,-,-⟩:=LM.buf.shape;obtain ⟨B30,d30,rfl,-,-⟩:=LM.prt.shape;refine K6 _ _ ?_;clear K6;refine dW ?_;refine dh ((k - 1,nQ s x,p',A30,c30,B30,d30,ql,fG,Du)) (by exact (H).sub ⟨rfl,aB⟩) ?_ ?_
    ·(try dsimp only);exact ⟨LM,QG,by omega,by omega,by omega,by omega,by omega,by omega⟩
    first|omega|(dsimp only;omega)
   intro fH
   try have p28:=dF fH
   refine fZ ?_;refine K4 _ _ ?_;clear K4;refine bK (fun _ K7=>?_);refine dI hmx [[],[0],[0,1],[],[3],[3,4],[3,4,5],[],[7],[7,8],[7,8,9],(ra 3 8),(ra 0 12)] [12] (by kernel_rfl) [_,_,_,_,_,_,.string s,_,_,_,vi x.i,.int .u8 (gF s x.i)] H (aD (Z0 rfl (Rm rfl)) (Z1 0 31 rfl (Rk rfl)) (Z1 1 32 rfl (Rf IJ rfl)) (Z0 rfl (Rm rfl)) (aD (Z1 3 34 rfl (Rk rfl)) (Z1 4 35 rfl (Rf vW rfl)) (Z1 5 36 rfl (Ro fV 0 rfl)) (Z0 rfl (Rm rfl)) (aD (Z1 7 38 rfl (Rk rfl)) (Z1 8 39 rfl (Rf pF rfl)) (Z1 9 40 rfl (Ro aH 0 rfl)) ?_ (aZ (bN rfl) cu)))) ?_
   ·refine bZ 6 37 10 41 rfl rfl fun _ a w G1 hG HT H fin=>?_;refine nO x.i fO H wn rfl rfl rfl (by omega) rfl ?_;clear H;intro a H;rw [← kN] at H;exact fin H iJ rfl
   clear H;intro a w G agI H hv;have H:=H.aP (hv 2 33 rfl rfl) rfl;have H:=H.aP (hv 11 42 rfl rfl) rfl;clear hv;refine gY VA (Li:=[]) (L:=vG b s x p (.slice vA x.lit.length vc) (.slice qA x.parts.length qc) :: (Lp++Lo)) H wn rfl (aaJ _ Lp Lo _ b s x.i p _ qA x.parts.length qc x.pl x.e x.lit.length _ (gF s x.i) hR.ptr (Hp.owns (Li:=[]) H.hp) hR.buf (by omega)) rfl ?_;clear H;rintro v43 _ L43 a w ⟨aoq,NG,rfl,XJ,rfl⟩ Cz H;dsimp only [List.nil_append] at H;obtain ⟨Nt,Od,rfl,-,-⟩:=XJ.shape;have hst:nQ s x=⟨x.i+1,x.lit++[KQ s x.i],x.parts,x.pl,x.e⟩:=ah p28;have hok:=aam s x ⟨by omega,c1⟩ hx1 hx2 hx3
   have hkk:k=(k - 1)+1:=by omega
   have QG:BK s (k - 1) (nQ s x)=jW s:=by rw [hkk,BK,av ⟨by omega,c1⟩] at hsc;exact hsc
   have agY:zC b (nQ s x).lit (nQ s x).parts (aI b 2) (.slice Nt (nQ s x).lit.length Od) (.slice qA (nQ s x).parts.length qc) Lp NG:=by
    rw [hst];exact ⟨.inr rfl,by simpa [Lib.byteCells,abT] using XJ,hR.prt⟩
   refine aG ⟨rfl,?_⟩;refine K7 _ _ ?_;clear K7;refine kP H (SC (Rm rfl (Rk rfl (aT pF aH 0 rfl rfl (Rd rfl (Rk rfl (Rf pF rfl ?_)))))));clear H;intro a H;refine bM aH 0 (vs:=[_]) _ H wn rfl rfl rfl rfl rfl rfl rfl rfl ?_;clear H;intro w H;dsimp only [List.set,setRow] at H;replace H:St _ _ _ _ _ _ (vG b s (nQ s x) (aI b 2) (.slice Nt (nQ s x).lit.length Od) (.slice qA (nQ s x).parts.length qc) :: (Lp++NG)) _ _ _:=H.cast (by rw [hst];simp [vG,gK]);refine aG ?_;refine dh ((k - 1,nQ s x,(aI b 2),Nt,Od,qA,qc,Lp,NG,_)) (by exact (H).sub ⟨rfl,aB⟩) ?_ ?_
   ·(try dsimp only);exact ⟨agY,QG,by omega,by omega,by omega,by omega,by omega,by omega⟩
   first|omega|(dsimp only;omega)
  skip;refine dI hmx [[],[0],[0,1],[0,1,2],[],[4],[4,5],[4,5,6],(ra 4 4),(ra 0 9),(ra 0 10),(ra 0 11),(ra 0 12),(ra 0 13),(ra 0 14),(ra 0 15),(ra 0 16)] [] (by kernel_rfl) [_,_,_,vi x.i,_,_,_,.string s,_,_,_,_,(aI b 0),_,vi x.e,_,_] H (aD (Z0 rfl (Rm rfl)) (Z1 0 2 rfl (Rk rfl)) (Z1 1 3 rfl (Rf pF rfl)) (Z1 2 4 rfl (Ro aH 0 rfl)) (aD (Z0 rfl (Rm rfl)) (Z1 4 6 rfl (Rk rfl)) (Z1 5 7 rfl (Rf vW rfl)) (Z1 6 8 rfl (Ro fV 0 rfl)) (aD (Z1 7 9 rfl (Rv fO rfl)) (Z2 3 5 8 10 rfl (Rc rfl)) (Z1 9 11 rfl (Rm rfl)) (Z1 10 12 rfl (YM (aA c0) rfl)) (aD ?_ (Z2 12 14 10 12 rfl (YF zK (aA c0) rfl)) (Z2 13 15 10 12 rfl (YO gN 0 (aA c0) rfl)) (Z2 14 16 10 12 rfl (YC (aA c0) rfl)) (aZ (Z2 10 12 15 17 rfl (Pt (aA c0) rfl)) cu))))) ?_
  ·refine bZ 11 13 10 12 rfl rfl fun _ a w G1 hG HT H fin=>?_;refine sW H (wg H rfl rfl (aA c0)) rfl rfl ?_;clear H;intro a H;exact fin H iJ rfl
  clear H;intro a w G WV H hv;have H:=H.aP (hv 16 18 rfl rfl) rfl;clear hv;refine aG ⟨rfl,?_⟩;refine K3 _ _ ?_;clear K3;refine mX H rfl (aN c1) ?_;refine dW ?_;refine K1 _ _ ?_;clear K1;refine bK (fun _ K8=>?_)
  have QN:x=jW s:=by
   rw [ZW (by first|exact fun h=>c0 (by omega)|exact fun h=>c1 h.2)] at hsc;exact hsc
  subst QN;refine kP H (SC (Rm rfl ?_));clear H;intro a H;refine gY OI (Li:=[]) (L:=vG b s (jW s) p (.slice vA (jW s).lit.length vc) (.slice qA (jW s).parts.length qc) :: (Lp++Lo)) H wn rfl (Pq _ Lp Lo _ b s (jW s).i p _ _ (jW s).pl (jW s).e (jW s).lit (jW s).parts hR (Hp.owns (Li:=[]) H.hp) (by omega) (by omega)) rfl ?_;clear H;rintro v52 G52 L52 a w ⟨p52,amS,q52,abn,abj,rfl,rM⟩ ahL H;dsimp only [List.nil_append] at H;obtain ⟨A52,c52,rfl,-,-⟩:=rM.buf.shape;obtain ⟨B52,d52,rfl,-,-⟩:=rM.prt.shape;refine kH H (Kn K8 (SR fun _ K9=>Rm rfl (Rk rfl (aT zK gN 0 rfl rfl (Rc rfl (Rm rfl (Sp 58 rfl ?_ ?_))))))) <;> clear H K8
  ·intro jU a H
   try have p58:=dT jU
   refine kH H (YM jU rfl ?_);clear H;intro a H;refine sW H (wg H rfl rfl jU) rfl rfl ?_;clear H;intro a H;refine kH H (YF Lj jU rfl (YO aH 0 jU rfl (YC jU rfl (Pt jU rfl (Kz K9 (Cd rfl ?_ ?_)))))) <;> clear H K9
   ·intro h64 a H
    try have p64:=dT h64
    refine kP H (SC (Rm rfl (Rk rfl (Rf zK rfl ?_))));clear H;intro a H;refine bM gN 0 (vs:=[_]) _ H wn rfl rfl rfl rfl rfl rfl rfl rfl ?_;clear H;intro w H;dsimp only [List.set,setRow] at H;refine aG ?_;refine (leave0 H results154 ?_).2
    first
     | exact H.hp.eX ⟨_,_,_,_,_,by rw [sZ,av ⟨by assumption,by assumption⟩],rM⟩
     | exact H.hp.eX ⟨_,_,_,_,_,by rw [sZ,ah (by first|exact fun h=>p58 h.1|exact fun h=>p64 h.2)],rM⟩
   intro h64 a H
   try have p64:=dF h64
   refine fZ ?_;refine (leave0 H results154 ?_).2
   first
    | exact H.hp.eX ⟨_,_,_,_,_,by rw [sZ,av ⟨by assumption,by assumption⟩],rM⟩
    | exact H.hp.eX ⟨_,_,_,_,_,by rw [sZ,ah (by first|exact fun h=>p58 h.1|exact fun h=>p64 h.2)],rM⟩
  intro jU a H
  try have p58:=dF jU
  refine kH H (bC jU rfl (aR jU rfl (Pf jU rfl (Kz K9 (Cf rfl rfl ?_)))));clear H K9;intro a H;refine fZ ?_;refine (leave0 H results154 ?_).2
  first
   | exact H.hp.eX ⟨_,_,_,_,_,by rw [sZ,av ⟨by assumption,by assumption⟩],rM⟩
   | exact H.hp.eX ⟨_,_,_,_,_,by rw [sZ,ah (by first|exact fun h=>p58 h.1|exact fun h=>p64 h.2)],rM⟩
 skip;refine dI hmx [[],[0],[0,1],[0,1,2],[],[4],[4,5],[4,5,6],(ra 4 4),(ra 0 9),(ra 0 10),(ra 0 11),(ra 0 12),(ra 0 13),(ra 0 14),(ra 0 15),(ra 0 16)] [] (by kernel_rfl) [_,_,_,vi x.i,_,_,_,.string s,_,_,_,undef,undef,undef,undef,undef,_] H (aD (Z0 rfl (Rm rfl)) (Z1 0 2 rfl (Rk rfl)) (Z1 1 3 rfl (Rf pF rfl)) (Z1 2 4 rfl (Ro aH 0 rfl)) (aD (Z0 rfl (Rm rfl)) (Z1 4 6 rfl (Rk rfl)) (Z1 5 7 rfl (Rf vW rfl)) (Z1 6 8 rfl (Ro fV 0 rfl)) (aD (Z1 7 9 rfl (Rv fO rfl)) (Z2 3 5 8 10 rfl (Rc rfl)) (Z1 9 11 rfl (Rm rfl)) (aK (j:=10) (by kernel_rfl) (fun _ _ _ _ _ h=>h) rfl rfl rfl rfl rfl (fun _ _ h=>aL h (aF (aN c0))) rfl (fun _=>rfl)) (aD (aK (j:=10) (by kernel_rfl) (fun _ _ _ _ _ h=>h) rfl rfl rfl rfl rfl (fun _ _ h=>aL h (aF (aN c0))) rfl (fun _=>rfl)) (aK (j:=10) (by kernel_rfl) (fun _ _ _ _ _ h=>h) rfl rfl rfl rfl rfl (fun _ _ h=>aL h (aF (aN c0))) rfl (fun _=>rfl)) (aK (j:=10) (by kernel_rfl) (fun _ _ _ _ _ h=>h) rfl rfl rfl rfl rfl (fun _ _ h=>aL h (aF (aN c0))) rfl (fun _=>rfl)) (aK (j:=10) (by kernel_rfl) (fun _ _ _ _ _ h=>h) rfl rfl rfl rfl rfl (fun _ _ h=>aL h (aF (aN c0))) rfl (fun _=>rfl)) (aZ (Z2 10 12 15 17 rfl (Pf (aN c0) rfl)) cu))))) ?_
 clear H;intro a w G WV H hv;have H:=H.aP (hv 16 18 rfl rfl) rfl;clear hv;refine aG ⟨rfl,?_⟩;refine K3 _ _ ?_;clear K3;refine mX H rfl rfl ?_;refine dW ?_;refine K1 _ _ ?_;clear K1;refine bK (fun _ aQ=>?_)
 have QN:x=jW s:=by
  rw [ZW (by first|exact fun h=>c0 (by omega)|exact fun h=>c1 h.2)] at hsc;exact hsc
 subst QN;refine kP H (SC (Rm rfl ?_));clear H;intro a H;refine gY OI (Li:=[]) (L:=vG b s (jW s) p (.slice vA (jW s).lit.length vc) (.slice qA (jW s).parts.length qc) :: (Lp++Lo)) H wn rfl (Pq _ Lp Lo _ b s (jW s).i p _ _ (jW s).pl (jW s).e (jW s).lit (jW s).parts hR (Hp.owns (Li:=[]) H.hp) (by omega) (by omega)) rfl ?_;clear H;rintro v52 G52 L52 a w ⟨p52,amS,q52,abn,abj,rfl,rM⟩ ahL H;dsimp only [List.nil_append] at H;obtain ⟨A52,c52,rfl,-,-⟩:=rM.buf.shape;obtain ⟨B52,d52,rfl,-,-⟩:=rM.prt.shape;refine kH H (Kn aQ (SR fun _ bH=>Rm rfl (Rk rfl (aT zK gN 0 rfl rfl (Rc rfl (Rm rfl (Sp 58 rfl ?_ ?_))))))) <;> clear H aQ
 ·intro jU a H
  try have p58:=dT jU
  refine kH H (YM jU rfl ?_);clear H;intro a H;refine sW H (wg H rfl rfl jU) rfl rfl ?_;clear H;intro a H;refine kH H (YF Lj jU rfl (YO aH 0 jU rfl (YC jU rfl (Pt jU rfl (Kz bH (Cd rfl ?_ ?_)))))) <;> clear H bH
  ·intro h64 a H
   try have p64:=dT h64
   refine kP H (SC (Rm rfl (Rk rfl (Rf zK rfl ?_))));clear H;intro a H;refine bM gN 0 (vs:=[_]) _ H wn rfl rfl rfl rfl rfl rfl rfl rfl ?_;clear H;intro w H;dsimp only [List.set,setRow] at H;refine aG ?_;refine (leave0 H results154 ?_).2
   first
    | exact H.hp.eX ⟨_,_,_,_,_,by rw [sZ,av ⟨by assumption,by assumption⟩],rM⟩
    | exact H.hp.eX ⟨_,_,_,_,_,by rw [sZ,ah (by first|exact fun h=>p58 h.1|exact fun h=>p64 h.2)],rM⟩
  intro h64 a H
  try have p64:=dF h64
  refine fZ ?_;refine (leave0 H results154 ?_).2
  first
   | exact H.hp.eX ⟨_,_,_,_,_,by rw [sZ,av ⟨by assumption,by assumption⟩],rM⟩
   | exact H.hp.eX ⟨_,_,_,_,_,by rw [sZ,ah (by first|exact fun h=>p58 h.1|exact fun h=>p64 h.2)],rM⟩
 intro jU a H
 try have p58:=dF jU
 refine kH H (bC jU rfl (aR jU rfl (Pf jU rfl (Kz bH (Cf rfl rfl ?_)))));clear H bH;intro a H;refine fZ ?_;refine (leave0 H results154 ?_).2
 first
  | exact H.hp.eX ⟨_,_,_,_,_,by rw [sZ,av ⟨by assumption,by assumption⟩],rM⟩
  | exact H.hp.eX ⟨_,_,_,_,_,by rw [sZ,ah (by first|exact fun h=>p58 h.1|exact fun h=>p64 h.2)],rM⟩
end
section
open Go.RowKit
def zo (c:Int):List Dat:=[.lf (.int .u8 c)]
theorem aau {G:GH} {c:Int} {cs:List aj} (h:aY G (zo c) cs):cs=[.int .u8 c]:=by
 simp only [zo,aY,ay] at h
 obtain ⟨_,_,rfl,⟨rfl,_⟩,rfl⟩:=h
 rfl
def FB (s:ByteArray):List Int:=s.data.toList.map fun b=>(b.toNat:Int)
theorem acg (G:GH) (l:List Int):eY G 1 (l.map zo) (l.map fun c=>Value.int .u8 c):=by
 refine ⟨l.map fun c=>[.int .u8 c],by induction l with|nil=>rfl|cons x r ih=>simp [ih],by simp,fun j r cs hr hc=>?_⟩
 rw [qm] at hr hc
 obtain ⟨x,hx,rfl⟩:=lY.1 hr
 rw [hx] at hc
 cases hc
 exact ⟨by simp only [zo,aY];exact ⟨_,_,rfl,by simp [ay,Value.oneCell'],rfl⟩,rfl⟩
theorem akX {G:GH} {sz b o n cap:Nat} {cur:Array aj} {e:TypeId} {fz:Nat × Nat} {rows:List (List Dat)} (hb:G b=some (.cells cur e fz)) (h:ay (fun k=>if k=b then some (.cells cur e (0,0)) else G k) (.sl sz rows) (.slice (some ⟨b,o,none⟩) n cap)) (hr:∀ r∈rows,∃ c,r=zo c):ay G (.sl sz rows) (.slice (some ⟨b,o,none⟩) n cap):=by
 simp only [ay] at h ⊢
 obtain ⟨A,c,h1,h2,h3,h4⟩:=h
 refine ⟨A,c,h1,h2,h3,fun hn=>?_⟩
 obtain ⟨b',o',e',hrr⟩:=h4 hn
 injection h1 with e1
 subst e1
 injection e' with e2
 injection e2 with e3 e4
 subst e3;subst e4
 refine ⟨_,_,rfl,lG.mk fun k r hk=>?_⟩
 obtain ⟨cs,g1,g2,g3⟩:=hrr.get hk
 refine ⟨cs,g1,fun j u hj=>?_,?_⟩
 ·have:=g2 j u hj
  unfold aJ at this ⊢
  simp only [if_true] at this
  rw [hb];exact this
 ·obtain ⟨c,rfl⟩:=hr r (lI hk)
  have:=aau g3
  subst this
  simp only [zo,aY];exact ⟨_,_,rfl,by simp [ay,Value.oneCell'],rfl⟩
section
variable {N:Nat} {D:List Deferred} {w0:World} {F:Nat→Prop} {G0 G:GH} {L:OL} {T:List (Nat × aj)}
variable {r:Option Nat} {P:Program} {ops:Array Oper} {Q:Exit→Act→World→Prop} {rest:List Oper} {a:Act} {w:World}
variable {d:Nat} {ty:TypeId} {pos:String} {aM:Array Edge} {g:Option (Nat × Bool)}
theorem amN {w:World} {b o n:Nat} {c:Array aj} {e:TypeId} {fz:Nat × Nat} (h:w.heap[b]?=some (.cells c e fz)) (hn:n≠0):∃ D9,tO b (.cells c e D9) w (w.freeze ⟨b,o,none⟩ n):=by
 unfold World.freeze
 rw [ah hn]
 refine ⟨if fz.1 == fz.2 then (o,o+n) else (min fz.1 o,max fz.2 (o+n)),rfl,rfl,rfl,by simp,?_,fun k hk=>?_⟩
 ·simp [Array.getElem?_modify,h]
 ·simp [Array.getElem?_modify,Ne.symm hk]
theorem alo {t u e:TypeId} {x:Operand} {s:ByteArray} (ht:P.underlying t=some .string) (hu:P.underlying u=some (.slice e)) (he:P.underlying e=some (.int .u8)) (H:St N D w0 F G0 G L T a w) (hw:Region.wanted ⟨some d,.convert t u x,ty,pos,aM,g⟩ (yielded ops a.tmps)=true) (hx:ev T x=some (.string s)) (hz:s.size≤4294967296) (hd:Nat.blt d N=true)
  (k:∀ v G' a' w',(∀ k o,G k=some o→G' k=some o)→ay G' (.sl 1 ((FB s).map zo)) v→St N D w0 F G0 G' L ((d,v) :: T) a' w'→WL r P ops Q rest a' w'):WL r P ops Q (⟨some d,.convert t u x,ty,pos,aM,g⟩ :: rest) a w:=by
 have hc:=Lib.run_convert_string_bytes (P:=P) w t u e s ht hu he
 have hge:=grownCap_ge w s.size 0 e
 have hml:s.size≤maxLen:=by
  have:maxLen=9223372036854775807:=rfl
  omega
 have hgm:=grownCap_le_maxLen w s.size 0 e hml
 have H1:=H.hp.drew.alloc (.cells (Lib.bytesCells w e s) e)
 have hw1:(w.drew.alloc (.cells (Lib.bytesCells w e s) e)).heap[w.drew.heap.size]?=some (.cells (Lib.bytesCells w e s) e (0,0)):=H1.own _ gP
 obtain ⟨fz,hu2⟩:=amN (o:=(Lib.bytesCells w e s).size) (n:=1) hw1 (by decide)
 have H2:=H1.upd (i:=0) rfl hu2
 have H3:St N D w0 F G0 G ((w.heap.size,.cells (Lib.bytesCells w e s) e fz) :: L) ((d,.slice (some ⟨w.heap.size,0,none⟩) s.size (grownCap w s.size 0 e)) :: T) (a.put (some d) (.slice (some ⟨w.heap.size,0,none⟩) s.size (grownCap w s.size 0 e))) (Lib.bytesWorld w e s):=H.put hd _ H2
 obtain ⟨G',hm,hb,H4⟩:=H3.eu
 have hlen:(FB s).length=s.size:=by rw [FB,bV,sD];rfl
 have hrep:ay G' (.sl 1 ((FB s).map zo)) (.slice (some ⟨w.heap.size,0,none⟩) s.size (grownCap w s.size 0 e)):=by
  refine akX hb ?_ (fun r hr=>by obtain ⟨c,-,rfl⟩:=List.mem_map.1 hr;exact ⟨c,rfl⟩)
  refine ay.eT (cur:=Lib.bytesCells w e s) (e:=e) (n:=s.size) (cap:=grownCap w s.size 0 e) (by simp) (by rw [bV,hlen]) hge hgm ?_ (acg _ _)
  rw [Lib.bytesCells,Array.toList_append,Nat.mul_one,List.take_left' (by rw [Array.toList_map,bV,sD];rfl)]
  simp [FB]
 have k2:=k _ _ _ _ hm hrep H4
 refine fq (v:=.slice (some ⟨w.heap.size,0,none⟩) s.size (grownCap w s.size 0 e)) (w':=Lib.bytesWorld w e s) hw rfl ?_ k2
 simp only [execOp,H.ev hx,cZ,hc,jT,oZ]
theorem als {t yt:TypeId} {x y:Operand} {p q:ByteArray} (H:St N D w0 F G0 G L T a w) (hw:Region.wanted ⟨some d,.binOp .lss t x y yt,ty,pos,aM,g⟩ (yielded ops a.tmps)=true) (hx:ev T x=some (.string p)) (hy:ev T y=some (.string q)) (hd:Nat.blt d N=true)
  (k:∀ a',St N D w0 F G0 G L ((d,.bool (Op.bytesLess p.toList q.toList)) :: T) a' w→WL r P ops Q rest a' w):WL r P ops Q (⟨some d,.binOp .lss t x y yt,ty,pos,aM,g⟩ :: rest) a w:=by
 refine fq (v:=.bool (Op.bytesLess p.toList q.toList)) (w':=w) hw rfl ?_ (k _ (H.put hd _ H.hp))
 simp [execOp,H.ev hx,H.ev hy,cZ,eqGuard,binOp,Op.stringOp]
end
end
section
open Go.RowKit
theorem aeF:∀ args w,(callFunc 157 args).run prog w=.ok (.enter 157 args) w:=enters func157 rfl (by kernel_rfl)
theorem aeD:∀ args w,(callFunc 154 args).run prog w=.ok (.enter 154 args) w:=enters func154 rfl (by kernel_rfl)
theorem aeB:∀ args w,(callFunc 152 args).run prog w=.ok (.enter 152 args) w:=enters func152 rfl (by kernel_rfl)
theorem amo:qJ prog 259 [(0,1),(1,1),(2,2),(4,1),(5,1),(6,1)] [.string ⟨#[]⟩,.int .i64 0,.pointer none,.slice none 0 0,.slice none 0 0,.int .i64 0,.int .i64 0]:=⟨by kernel_rfl,by kernel_rfl⟩
theorem aeE:∀ args w,(callFunc 155 args).run prog w=.ok (.enter 155 args) w:=enters func155 rfl (by kernel_rfl)
theorem afW:cB prog 247 1 1:=⟨by kernel_rfl⟩
theorem aes:∀ args w,(callFunc 144 args).run prog w=.ok (.enter 144 args) w:=enters func144 rfl (by kernel_rfl)
theorem aeu:∀ args w,(callFunc 145 args).run prog w=.ok (.enter 145 args) w:=enters func145 rfl (by kernel_rfl)
theorem aeC:∀ args w,(callFunc 153 args).run prog w=.ok (.enter 153 args) w:=enters func153 rfl (by kernel_rfl)
theorem aev:∀ args w,(callFunc 146 args).run prog w=.ok (.enter 146 args) w:=enters func146 rfl (by kernel_rfl)
def NS (fv:aj) (G:GH) (c:Int) (b:Bool):Prop:=∀ (G1:GH) (w1:World),(∀ b o,G b=some o→G1 b=some o)→Hold G1 w1→uG prog fv [.int .u8 c] w1 (bq w1 G1 fun u G'=>u=.bool b)
theorem aiM (G:GH) (w0:World) (hG:Hold G w0) (l:List Int) (p:Int→Bool) (v fv:aj) (hv:ay G (.sl 1 (l.map zo)) v) (hf:∀ c∈l,NS fv G c (p c)) :
  Calls prog 157 #[v,fv] w0 (bq w0 G fun u G'=>u=vi (oq (l.findIdx? p))):=by
 obtain ⟨A,c,rfl,hc1,hc2,hg⟩:=hv.slice;have hml:maxLen=9223372036854775807:=rfl;rw [bV] at *;refine eN [(0,_),(1,_)] func157 rfl ntmps157 rfl rfl hG ?_;intro a H;refine kP H (SR fun _ K1=>ak K1 rfl (SQ fun _ K2=>SR fun _ K3=>Rm rfl (Rl vH rfl (Rm rfl (Kz K3 (SB ?_))))));clear H K1 K3;intro a H;skip;refine eU (ι:=Nat × GH) (Tc:=[(0,_),(1,_),(7,_)]) (Lc:=[]) (fun gh=>[(8,vi gh.1)]) (fun gh=>[]) (fun gh=>gh.2) (fun gh=>gh.1≤l.length∧(l.take gh.1).findIdx? p=none∧(∀ b o,G b=some o→gh.2 b=some o)) (fun gh=>l.length - gh.1) ((0,G)) (by exact (H).sub ⟨rfl,rfl,rfl,rfl,aB⟩) ?_ ?_
 ·exact ⟨by omega,rfl,fun _ _ h=>h⟩
 clear H;intro gh a w hI H;obtain ⟨k,g⟩:=gh;dsimp only at hI H;obtain ⟨hk,hno,hgm⟩:=hI;dsimp only [lca,bG] at H;refine kP H (SR fun _ K4=>Rc rfl (Kz K4 (SQ fun _ K5=>Cd rfl ?_ ?_))) <;> clear H K4
 ·intro h9 a H
  try have p9:=dT h9
  have hk2:k < l.length:=by omega
  obtain ⟨b,o,cs,rfl,hcl,hrow,hr⟩:=hg k (zo l[k]) (by simp [hk2]);obtain rfl:=aau hr
  have hcell:aJ G b (o+k*1)=some (.int .u8 l[k]):=by simpa using hrow 0 _ rfl
  refine kP H (Kc K5 (SQ fun _ K6=>SB (SR fun _ K7=>Rm rfl (ak K7 rfl (SR fun _ K8=>Rm rfl (Rm rfl (Rm rfl (Ri vH Hg rfl rfl (Rg Hg rfl (aO hgm hcell) ?_)))))))));clear H K5 K7;intro a H;refine qF H wn rfl rfl (hf _ (iF hk2) _ _ hgm H.ro) rfl ?_;clear H;rintro v16 ru a w rfl qR H;refine K8 _ _ ?_;clear K8;refine kS H rfl ?_ ?_
  ·intro h16
   try have p16:=dT h16
   refine kP H (SR fun _ K9=>Rm rfl (ak K9 rfl ?_));clear H K9;intro a H;refine lr H results157 rfl ?_
   first
    | exact H.rt (by rw [vD hk2 hno h16];rfl)
    | exact H.rt (by rw [show l.take k=l from jF (by omega)] at hno;rw [hno];rfl)
  intro h16
  try have p16:=dF h16
  refine kP H (Kc K6 (SC (Rd rfl (Rm rfl ?_))));clear H K6;intro a H;refine aG ?_;refine dh ((k+1,ru)) (by exact (H).sub ⟨rfl,rfl,rfl,rfl,aB⟩) ?_ ?_
  ·(try dsimp only);exact ⟨by omega,Bw hk2 hno h16,fun b o h=>qR b o (hgm b o h)⟩
  first|omega|(dsimp only;omega)
 intro h9 a H
 try have p9:=dF h9
 refine dW ?_;refine K2 _ _ ?_;clear K2;refine kP H (SR fun _ aQ=>ak aQ rfl ?_);clear H aQ;intro a H;refine lr H results157 rfl ?_
 first
  | exact H.rt (by rw [vD hk2 hno h16];rfl)
  | exact H.rt (by rw [show l.take k=l from jF (by omega)] at hno;rw [hno];rfl)
theorem QW (o:Option Nat):decide (0≤oq o)=o.isSome:=by cases o <;> simp [oq]
theorem ads (G:GH) (w0:World) (hG:Hold G w0) (l:List Int) (p:Int→Bool) (v fv:aj) (hv:ay G (.sl 1 (l.map zo)) v) (hf:∀ c∈l,NS fv G c (p c)) :
  Calls prog 152 #[v,fv] w0 (bq w0 G fun u G'=>u=.bool (l.findIdx? p).isSome):=by
 obtain ⟨A,c,rfl,hc1,hc2,-⟩:=hv.slice;rw [bV] at *;refine eN [(0,_),(1,_)] func152 rfl ntmps152 rfl rfl hG ?_;intro a H;refine kP H (SR fun _ K1=>ak K1 rfl (SR fun _ K2=>Rm rfl (Rm rfl ?_)));clear H K1;intro a H;refine s_call aeF H wn rfl (aiM _ _ H.ro l p _ _ hv hf) rfl ?_;clear H;rintro v7 G7 a w rfl Bo H;exact kH H (Rc rfl (ak K2 rfl (LR results152 rfl fun H=>H.rt (aF (QW _)))))
def Iu (c:Int):Bool:=decide (c < 32) || decide (c=127)
theorem ady (G:GH) (c:Int):NS (.func (.func 153) #[] #[]) G c (Iu c):=by
 intro G1 w0 hm hG;refine lN (caps:=[]) aeC ?_;refine eN [(0,_)] func153 rfl ntmps153 rfl rfl hG ?_;intro a H;refine kP H (SR fun _ K1=>ak K1 rfl (SR fun _ K2=>Rm rfl (Rc rfl (Rm rfl (Sp 5 rfl ?_ ?_))))) <;> clear H K1
 ·intro h5 a H
  try have p5:=dT h5
  exact kH H (aR h5 rfl (Pt h5 rfl (ak K2 rfl (LR results153 rfl fun H=>H.rt (aF (by unfold Iu;first|(simp_all;done)|(simp_all;omega)))))))
 intro h5 a H
 try have p5:=dF h5
 exact kH H (YM h5 rfl (YC h5 rfl (Pf h5 rfl (ak K2 rfl (LR results153 rfl fun H=>H.rt (aF (by unfold Iu;first|(simp_all;done)|(simp_all;omega))))))))
def wG (t:ByteArray):Int:=if 64 < t.size then 10 else if oC t=false then 12 else if ((FB t).findIdx? Iu).isSome=true then 5 else sZ (jW t)
def xH (t:ByteArray):List iY:=if wG t=0 then ug (jW t).lit (jW t).parts else []
theorem ajt (G:GH) (l:List iY):eY G 3 (l.map iY.dat) (CU l):=by
 refine ⟨l.map iY.cells,rfl,by simp,fun j r cs hr hc=>?_⟩;rw [qm] at hr hc;obtain ⟨x,hx,rfl⟩:=lY.1 hr;rw [hx] at hc
 cases hc
 exact ⟨Yw G x,rfl⟩
theorem akE (G:GH) (w0:World) (hG:Hold G w0) (t:ByteArray) (ht:t.size < 4611686018427387904) :
  Calls prog 144 #[.string t] w0 (bq w0 G fun u G'=>∃ x,u=.tuple #[x,vi (wG t)]∧ay G' (.sl 3 ((xH t).map iY.dat)) x):=by
 refine eN [(0,_)] func144 rfl ntmps144 rfl rfl hG ?_;intro a H;refine kP H (SR fun _ K1=>Ra rfl (ak K1 rfl (SQ fun _ K2=>SB (SR fun _ K3=>Rm rfl (Rv fO rfl (Rc rfl (ak K3 rfl (Cd rfl ?_ ?_)))))))) <;> clear H K1 K3
 ·intro h5 a H
  try have p5:=dT h5
  refine bK (fun _ K4=>?_)
  have he:wG t=10:=by rw [wG,av (by omega)]
  refine kP H (SC (Ra rfl (aU K4 rfl ?_)));clear H K4;intro a H;refine cK ?_;refine (eG H results144 (.cons (aS H rfl) (.cons (aS H rfl) .nil)) ?_).1
  first
   | exact H.rt ⟨_,by rw [he0],by rw [xH,av he0];exact hrep⟩
   | exact H.rt ⟨_,by rw [he],by rw [xH,ah (by rw [he];first|decide|assumption)];exact ay.jH rfl (by decide)⟩
 intro h5 a H
 try have p5:=dF h5
 refine kP H (SR fun _ K5=>Rm rfl ?_);clear H;intro a H;refine s_call FK H wn rfl (Ht _ _ H.ro t ht) rfl ?_;clear H;rintro v11 _ a w ⟨rfl,rfl⟩ - H;refine kH H (Rn rfl (ak K5 rfl (Cd rfl ?_ ?_))) <;> clear H K5
 ·intro h9 a H
  try have p9:=dT h9
  refine bK (fun _ K6=>?_)
  have he:wG t=12:=by rw [wG,ah (by omega),av (by simpa using h9)]
  refine kP H (SC (Ra rfl (aU K6 rfl ?_)));clear H K6;intro a H;refine cK ?_;refine (eG H results144 (.cons (aS H rfl) (.cons (aS H rfl) .nil)) ?_).1
  first
   | exact H.rt ⟨_,by rw [he0],by rw [xH,av he0];exact hrep⟩
   | exact H.rt ⟨_,by rw [he],by rw [xH,ah (by rw [he];first|decide|assumption)];exact ay.jH rfl (by decide)⟩
 intro h9 a H
 try have p9:=dF h9
 refine kP H (SR fun _ K7=>Rm rfl ?_);clear H;intro a H;refine alo fO vH J3 H wn rfl (by omega) rfl ?_;clear H;intro v15 Dt a w oK XT H;obtain ⟨A15,c15,rfl,-,-,-⟩:=XT.slice;refine s_call aeB H wn rfl (ads _ _ H.ro _ Iu _ _ XT (fun c _=>ady _ c)) rfl ?_;clear H;rintro v16 ru a w rfl qR H;refine kH H (ak K7 rfl (Cd rfl ?_ ?_)) <;> clear H K7
 ·intro gB a H
  try have qV:=dT gB
  refine bK (fun _ K8=>?_)
  have he:wG t=5:=by rw [wG,ah (by omega),ah (by simpa using h9),av gB]
  refine kP H (SC (Ra rfl (aU K8 rfl ?_)));clear H K8;intro a H;refine cK ?_;refine (eG H results144 (.cons (aS H rfl) (.cons (aS H rfl) .nil)) ?_).1
  first
   | exact H.rt ⟨_,by rw [he0],by rw [xH,av he0];exact hrep⟩
   | exact H.rt ⟨_,by rw [he],by rw [xH,ah (by rw [he];first|decide|assumption)];exact ay.jH rfl (by decide)⟩
 intro gB a H
 try have qV:=dF gB
 refine kP H (Kc K2 (SR fun _ K9=>Rm rfl ?_));clear H K2;intro a H;refine jR amo [_,_,_,_,_,_,_] H wn rfl rfl rfl rfl ?_;clear H;intro a H;refine fC (cs:=[_,_,_,_,_,_,_]) H wn rfl rfl rfl ?_;clear H;intro b19 a w anw H;refine kH H (ak K9 rfl (SQ fun _ aQ=>SR fun _ bH=>Rm rfl ?_));clear H K9;intro a H;refine gY aeD (Li:=[]) (L:=[vG b19 t zZ (.pointer none) (.slice none 0 0) (.slice none 0 0)]) H wn rfl (alH _ [] [] _ b19 t _ _ _ ⟨.inl rfl,dz.nil,dz.nil⟩ (Hp.owns (Li:=[]) H.hp) (by omega)) rfl ?_;clear H;rintro v21 Nw L21 a w ⟨p',v',q',ql,fG,rfl,Qg⟩ yJ H;dsimp only [List.nil_append] at H;obtain ⟨A21,c21,rfl,-,-⟩:=Qg.buf.shape;obtain ⟨B21,d21,rfl,-,-⟩:=Qg.prt.shape;refine bH _ _ ?_;clear bH;refine bK (fun _ bL=>?_)
 have he:wG t=sZ (jW t):=by rw [wG,ah (by omega),ah (by simpa using h9),ah (by simp [gB])]
 refine kP H (SC (Rm rfl (Rk rfl (aT zK gN 0 rfl rfl (Rc rfl (Kn bL (Cd rfl ?_ ?_))))))) <;> clear H bL
 ·intro gM a H
  try have p26:=dT gM
  refine bK (fun _ bR=>?_);have H:=H.sub (T':=[(4,_)]) ⟨rfl,aB⟩;refine dI hmx [[],[0],[0,1],[0,1,2],[],(ra 0 5)] [] (by kernel_rfl) [_,_,_,vi (sZ (jW t)),_,_] H (aD (Z0 rfl (Rm rfl)) (Z1 0 27 rfl (Rk rfl)) (Z1 1 28 rfl (Rf zK rfl)) (Z1 2 29 rfl (Ro gN 0 rfl)) (aZ (Z0 rfl (Ra rfl)) (aZ (Z1 3 30 rfl (Ra rfl)) cu))) ?_
  clear H;intro a w G kW H hv;have H:=H.aP (hv 4 2 rfl rfl) rfl;have H:=H.aP (hv 5 3 rfl rfl) rfl;clear hv;refine aG ⟨rfl,?_⟩;refine bR _ _ ?_;clear bR;refine cK ?_;refine (eG H results144 (.cons (aS H rfl) (.cons (aS H rfl) .nil)) ?_).1
  first
   | exact H.rt ⟨_,by rw [he0],by rw [xH,av he0];exact hrep⟩
   | exact H.rt ⟨_,by rw [he],by rw [xH,ah (by rw [he];first|decide|assumption)];exact ay.jH rfl (by decide)⟩
 intro gM a H
 try have p26:=dF gM
 refine fZ ?_;refine aQ _ _ ?_;clear aQ;refine bK (fun _ bQ=>?_)
 have he0:wG t=0:=by rw [he];omega
 have H:=(St.cast H (show _=[_]++(ql++fG) from rfl)).perm (List.Perm.append_left _ Ay);have H:=St.un H;obtain ⟨Gr,hmr,hrep,H⟩:=St.um (Li:=[_]++fG) (Lo:=ql) H Qg.prt (rows:=(ug (jW t).lit (jW t).parts).map iY.dat) (by simp) (ajt _ _);dsimp only [lca,bG] at H;refine kP H (SC (Rm rfl (Rk rfl (aT IK JZ 0 rfl rfl (Ra rfl (aU bQ rfl ?_))))));clear H bQ;intro a H;refine cK ?_;refine (eG H results144 (.cons (aS H rfl) (.cons (aS H rfl) .nil)) ?_).1
 first
  | exact H.rt ⟨_,by rw [he0],by rw [xH,av he0];exact hrep⟩
  | exact H.rt ⟨_,by rw [he],by rw [xH,ah (by rw [he];first|decide|assumption)];exact ay.jH rfl (by decide)⟩
structure oW where
 fmt:Int
 start:Int
 zl:ByteArray
 restart:Int
def oW.dat (x:oW):List Dat:=[li x.fmt,li x.start,.lf (.string x.zl),li x.restart]
abbrev oW.cells (x:oW):List aj:=[vi x.fmt,vi x.start,.string x.zl,vi x.restart]
theorem ajv {G:GH} {x:oW} {cs:List aj} (h:aY G x.dat cs):cs=x.cells:=by
 simp only [oW.dat,aY,ay] at h
 obtain ⟨_,_,rfl,⟨rfl,_⟩,_,_,rfl,⟨rfl,_⟩,_,_,rfl,⟨rfl,_⟩,_,_,rfl,⟨rfl,_⟩,rfl⟩:=h
 rfl
theorem aiK (G:GH) (w0:World) (hG:Hold G w0) (l:List iY) (p:iY→Bool) (v fv:aj) (hv:ay G (.sl 3 (l.map iY.dat)) v) (hf:∀ x∈l,vN fv G x.dat (p x)) :
  Calls prog 155 #[v,fv] w0 (bq w0 G fun u G'=>u=vi (oq (l.findIdx? p))):=by
 obtain ⟨A,c,rfl,hc1,hc2,hg⟩:=hv.slice;have hml:maxLen=9223372036854775807:=rfl;rw [bV] at *;refine eN [(0,_),(1,_)] func155 rfl ntmps155 rfl rfl hG ?_;intro a H;refine kP H (SR fun _ K1=>ak K1 rfl (SQ fun _ K2=>SR fun _ K3=>Rm rfl (Rl Ho rfl (Rm rfl (Kz K3 (SB ?_))))));clear H K1 K3;intro a H;skip;refine eU (ι:=Nat × GH) (Tc:=[(0,_),(1,_),(7,_)]) (Lc:=[]) (fun gh=>[(8,vi gh.1)]) (fun gh=>[]) (fun gh=>gh.2) (fun gh=>gh.1≤l.length∧(l.take gh.1).findIdx? p=none∧(∀ b o,G b=some o→gh.2 b=some o)) (fun gh=>l.length - gh.1) ((0,G)) (by exact (H).sub ⟨rfl,rfl,rfl,rfl,aB⟩) ?_ ?_
 ·exact ⟨by omega,rfl,fun _ _ h=>h⟩
 clear H;intro gh a w hI H;obtain ⟨k,g⟩:=gh;dsimp only at hI H;obtain ⟨hk,hno,hgm⟩:=hI;dsimp only [lca,bG] at H;refine kP H (SR fun _ K4=>Rc rfl (Kz K4 (SQ fun _ K5=>Cd rfl ?_ ?_))) <;> clear H K4
 ·intro h9 a H
  try have p9:=dT h9
  have hk2:k < l.length:=by omega
  obtain ⟨b,o,cs,rfl,hcl,hrow,hr⟩:=hg k l[k].dat (by simp [hk2]);obtain rfl:=Yv hr;refine kP H (Kc K5 (SQ fun _ K6=>SB (SR fun _ K7=>Rm rfl (ak K7 rfl (SR fun _ K8=>Rm rfl (Rm rfl (Rm rfl (Ri Ho He rfl rfl ?_))))))));clear H K5 K7;intro a H;refine bJ He (cs:=l[k].cells) H wn rfl rfl (fun j v hj=>H.hp.aJ (aO hgm (hrow j v hj))) rfl ?_;clear H;intro a H;refine qF H wn rfl rfl (hf _ (iF hk2) _ _ _ hgm H.ro (Yw _ l[k])) rfl ?_;clear H;rintro v16 ru a w rfl qR H;refine K8 _ _ ?_;clear K8;refine kS H rfl ?_ ?_
  ·intro h16
   try have p16:=dT h16
   refine kP H (SR fun _ K9=>Rm rfl (ak K9 rfl ?_));clear H K9;intro a H;refine lr H results155 rfl ?_
   first
    | exact H.rt (by rw [vD hk2 hno h16];rfl)
    | exact H.rt (by rw [show l.take k=l from jF (by omega)] at hno;rw [hno];rfl)
  intro h16
  try have p16:=dF h16
  refine kP H (Kc K6 (SC (Rd rfl (Rm rfl ?_))));clear H K6;intro a H;refine aG ?_;refine dh ((k+1,ru)) (by exact (H).sub ⟨rfl,rfl,rfl,rfl,aB⟩) ?_ ?_
  ·(try dsimp only);exact ⟨by omega,Bw hk2 hno h16,fun b o h=>qR b o (hgm b o h)⟩
  first|omega|(dsimp only;omega)
 intro h9 a H
 try have p9:=dF h9
 refine dW ?_;refine K2 _ _ ?_;clear K2;refine kP H (SR fun _ aQ=>ak aQ rfl ?_);clear H aQ;intro a H;refine lr H results155 rfl ?_
 first
  | exact H.rt (by rw [vD hk2 hno h16];rfl)
  | exact H.rt (by rw [show l.take k=l from jF (by omega)] at hno;rw [hno];rfl)
theorem adr (G:GH) (w0:World) (hG:Hold G w0) (l:List iY) (p:iY→Bool) (v fv:aj) (hv:ay G (.sl 3 (l.map iY.dat)) v) (hf:∀ x∈l,vN fv G x.dat (p x)) :
  Calls prog 145 #[v,fv] w0 (bq w0 G fun u G'=>u=.bool (l.findIdx? p).isSome):=by
 obtain ⟨A,c,rfl,hc1,hc2,-⟩:=hv.slice;rw [bV] at *;refine eN [(0,_),(1,_)] func145 rfl ntmps145 rfl rfl hG ?_;intro a H;refine kP H (SR fun _ K1=>ak K1 rfl (SR fun _ K2=>Rm rfl (Rm rfl ?_)));clear H K1;intro a H;refine s_call aeE H wn rfl (aiK _ _ H.ro l p _ _ hv hf) rfl ?_;clear H;rintro v7 G7 a w rfl Bo H;exact kH H (Rc rfl (ak K2 rfl (LR results145 rfl fun H=>H.rt (aF (QW _)))))
theorem ajw {G:GH} {bl:Nat} {k:Int} (hb:aJ G bl 0=some (vi k)) (x:iY):vN (.func (.func 146) #[] #[(aI bl 0)]) G x.dat (decide (k < x.level)):=by
 intro G1 w0 cs hm hG hr;refine lN (caps:=[(aI bl 0)]) aev ?_;obtain rfl:=Yv hr;replace hb:=aO hm hb;refine eN [(0,_),(1,_)] func146 rfl ntmps146 rfl rfl hG ?_;intro a H;refine dH (fun _ K1=>?_);refine fC (cs:=[_,_,_]) H wn rfl rfl rfl ?_;clear H;intro b2 a w hb2 H;refine kH H (ak K1 rfl (SR fun _ K2=>aT afW aH 0 rfl rfl (Rg aH rfl (by assumption) ?_)));clear H K1;intro a H;exact kH H (Rc rfl (ak K2 rfl (LR results146 rfl fun H=>H.rt rfl)))
def zT (t:ByteArray) (k:Int):Int:=if k < 1∨9 < k then 2 else if wG t=0∧((xH t).findIdx? fun x=>decide (k < x.level)).isSome=true then 6 else wG t
theorem aju (G:GH) (w0:World) (hG:Hold G w0) (t:ByteArray) (k:Int) (ht:t.size < 4611686018427387904) :
  Calls prog 136 #[.string t,vi k] w0 (bq w0 G fun u G'=>u=vi (zT t k)):=by
 refine eN [(0,_),(1,_)] func136 rfl ntmps136 rfl rfl hG ?_;intro a H;refine dH (fun _ K1=>?_);refine fC (cs:=[_]) H wn rfl rfl rfl ?_;clear H;intro b3 a w hb3 H;refine kH H (ak K1 rfl (SQ fun _ K2=>SR fun _ K3=>Ro aH 0 rfl (Rc rfl (Rm rfl (Sp 9 rfl ?_ ?_))))) <;> clear H K1
 ·intro h9 a H
  try have p9:=dT h9
  refine kH H (aR h9 rfl (Pt h9 rfl (Kz K3 (Ct rfl rfl (SR fun _ K4=>ak K4 rfl ?_)))));clear H K3 K4;intro a H;refine lr H results136 rfl ?_
  exact H.rt (aC vi (by unfold zT;(repeat' split) <;> first|rfl|(exfalso;simp_all;done)|(exfalso;simp_all;omega)|(simp_all;done)))
 intro h9 a H
 try have p9:=dF h9
 refine kH H (YO aH 0 h9 rfl (YC h9 rfl (Pf h9 rfl (Kz K3 (Cd rfl ?_ ?_))))) <;> clear H K3
 ·intro h12 a H
  try have qE:=dT h12
  refine kP H (SR fun _ K5=>ak K5 rfl ?_);clear H K5;intro a H;refine lr H results136 rfl ?_
  exact H.rt (aC vi (by unfold zT;(repeat' split) <;> first|rfl|(exfalso;simp_all;done)|(exfalso;simp_all;omega)|(simp_all;done)))
 intro h12 a H
 try have qE:=dF h12
 refine fZ ?_;refine K2 _ _ ?_;clear K2;refine bK (fun _ K6=>?_);obtain ⟨Ga,hma,Bh,H⟩:=H.eu
 have hbk:aJ Ga b3 0=some (vi k):=by unfold aJ;rw [Bh];rfl
 refine kP H (SC (Rm rfl ?_));clear H;intro a H;refine s_call aes H wn rfl (akE _ _ H.ro t ht) rfl ?_;clear H;rintro v15 Dt a w ⟨x15,rfl,XY⟩ oK H;obtain ⟨A15,c15,rfl,-,-,-⟩:=XY.slice;replace hbk:=aO oK hbk;refine kH H (Rm rfl ?_);clear H;intro a H;(iterate 2 refine jc H wn rfl rfl rfl ?_;clear H;intro a H);refine kH H (Ra rfl (aU K6 rfl (SQ fun _ K7=>SR fun _ K8=>Rm rfl (Rc rfl (Rm rfl (Sp 20 rfl ?_ ?_)))))) <;> clear H K6
 ·intro h20 a H
  try have BF:=dT h20
  refine kH H (YM h20 rfl ?_);clear H;intro a H;refine qW H (wg H rfl rfl h20) rfl rfl ?_;clear H;intro a H;refine s_call aeu H (wg H rfl rfl h20) rfl (adr _ _ H.ro _ (fun x=>decide (k < x.level)) _ _ XY (fun x _=>ajw hbk x)) rfl ?_;clear H;rintro v23 Hz a w rfl mq H;refine kH H (Pt h20 rfl (Kz K8 (Cd rfl ?_ ?_))) <;> clear H K8
  ·intro dU a H
   try have kr:=dT dU
   refine kP H (SC (aU K7 rfl (SR fun _ K9=>Rm rfl (ak K9 rfl ?_))));clear H K7 K9;intro a H;refine lr H results136 rfl ?_
   exact H.rt (aC vi (by unfold zT;(repeat' split) <;> first|rfl|(exfalso;simp_all;done)|(exfalso;simp_all;omega)|(simp_all;done)))
  intro dU a H
  try have kr:=dF dU
  refine kP H (Kc K7 (SR fun _ aQ=>Rm rfl (ak aQ rfl ?_)));clear H K7 aQ;intro a H;refine lr H results136 rfl ?_
  exact H.rt (aC vi (by unfold zT;(repeat' split) <;> first|rfl|(exfalso;simp_all;done)|(exfalso;simp_all;omega)|(simp_all;done)))
 intro h20 a H
 try have BF:=dF h20
 refine kH H (bC h20 rfl (Pf h20 rfl (Kz K8 (Cf rfl rfl (Kc K7 (SR fun _ bH=>Rm rfl (ak bH rfl ?_)))))));clear H K8 K7 bH;intro a H;refine lr H results136 rfl ?_
 exact H.rt (aC vi (by unfold zT;(repeat' split) <;> first|rfl|(exfalso;simp_all;done)|(exfalso;simp_all;omega)|(simp_all;done)))
end
section
open Go.RowKit
theorem Ng:Ty prog 230 4 40 [.int .i64 0,.int .i64 0,.string ⟨#[]⟩,.int .i64 0] true:=⟨by kernel_rfl,by kernel_rfl⟩
theorem Nk:prog.underlying 182=some (.slice 230):=by kernel_rfl
theorem Wm:cB prog 230 0 0:=⟨by kernel_rfl⟩
theorem Wn:cB prog 230 1 1:=⟨by kernel_rfl⟩
theorem afR:cB prog 230 2 2:=⟨by kernel_rfl⟩
theorem ael:∀ args w,(callFunc 136 args).run prog w=.ok (.enter 136 args) w:=enters func136 rfl (by kernel_rfl)
theorem Wo:cB prog 230 3 3:=⟨by kernel_rfl⟩
def DV:Nat→List oW→Int
 | _,[]=>0
 | i,x :: r=>if x.fmt < 1∨7 < x.fmt then 3 else if x.start < 0∨32767 < x.start then 2 else if zT x.zl ((i+1:Nat):Int)≠0 then zT x.zl ((i+1:Nat):Int) else if x.restart < 0∨(i:Int) < x.restart then 5 else DV (i+1) r
def dS (l:List oW):Int:=if l.length=0 then 11 else if 9 < l.length then 9 else DV 0 l
theorem iW {l:List oW} {k:Nat} (h:k < l.length):DV k (l.drop k)=if l[k].fmt < 1∨7 < l[k].fmt then 3 else if l[k].start < 0∨32767 < l[k].start then 2 else if zT l[k].zl ((k+1:Nat):Int)≠0 then zT l[k].zl ((k+1:Nat):Int) else if l[k].restart < 0∨(k:Int) < l[k].restart then 5 else DV (k+1) (l.drop (k+1)):=by
 rw [kZ h,DV]
theorem acO (G:GH) (w0:World) (hG:Hold G w0) (l:List oW) (v:aj) (hv:ay G (.sl 4 (l.map oW.dat)) v) (ht:∀ x∈l,x.zl.size < 4611686018427387904) :
  Calls prog 118 #[v] w0 (bq w0 G fun u G'=>u=vi (dS l)):=by
 obtain ⟨A,c,rfl,hc1,hc2,hg⟩:=hv.slice;have hml:maxLen=9223372036854775807:=rfl;rw [bV] at *;refine eN [(0,_)] func118 rfl ntmps118 rfl rfl hG ?_;intro a H;refine kP H (SR fun _ K1=>ak K1 rfl (SQ fun _ K2=>SB (SR fun _ K3=>Rm rfl (Rl Nk rfl (Rc rfl (ak K3 rfl (Cd rfl ?_ ?_))))))) <;> clear H K1 K3
 ·intro h6 a H
  try have p6:=dT h6
  refine kP H (SR fun _ K4=>ak K4 rfl ?_);clear H K4;intro a H;refine lr H results118 rfl ?_
  first
   | exact H.rt (aC vi (by rw [dS,av (by omega)]))
   | exact H.rt (aC vi (by rw [dS,ah (by omega),av (by omega)]))
   | exact H.rt (aC vi (by rw [dS,ah (by omega),ah (by omega),← he,iW hk2,av (by omega)]))
   | exact H.rt (aC vi (by rw [dS,ah (by omega),ah (by omega),← he,iW hk2,ah (by omega),av (by omega)]))
   | exact H.rt (aC vi (by rw [dS,ah (by omega),ah (by omega),← he,iW hk2,ah (by omega),ah (by omega),av p45]))
   | exact H.rt (aC vi (by rw [dS,ah (by omega),ah (by omega),← he,iW hk2,ah (by omega),ah (by omega),ah p45,av (by omega)]))
   | exact H.rt (aC vi (by rw [dS,ah (by omega),ah (by omega),← he,ig (by omega)];rfl))
 intro h6 a H
 try have p6:=dF h6
 refine kP H (SR fun _ K5=>Rm rfl (Rl Nk rfl (Rc rfl (ak K5 rfl (Cd rfl ?_ ?_))))) <;> clear H K5
 ·intro h10 a H
  try have lV:=dT h10
  refine kP H (SR fun _ K6=>ak K6 rfl ?_);clear H K6;intro a H;refine lr H results118 rfl ?_
  first
   | exact H.rt (aC vi (by rw [dS,av (by omega)]))
   | exact H.rt (aC vi (by rw [dS,ah (by omega),av (by omega)]))
   | exact H.rt (aC vi (by rw [dS,ah (by omega),ah (by omega),← he,iW hk2,av (by omega)]))
   | exact H.rt (aC vi (by rw [dS,ah (by omega),ah (by omega),← he,iW hk2,ah (by omega),av (by omega)]))
   | exact H.rt (aC vi (by rw [dS,ah (by omega),ah (by omega),← he,iW hk2,ah (by omega),ah (by omega),av p45]))
   | exact H.rt (aC vi (by rw [dS,ah (by omega),ah (by omega),← he,iW hk2,ah (by omega),ah (by omega),ah p45,av (by omega)]))
   | exact H.rt (aC vi (by rw [dS,ah (by omega),ah (by omega),← he,ig (by omega)];rfl))
 intro h10 a H
 try have lV:=dF h10
 refine kP H (Kc K2 (SQ fun _ K7=>SR fun _ K8=>Rm rfl (Rl Nk rfl (Rm rfl (Kz K8 (SB ?_))))));clear H K2 K8;intro a H;skip;refine eU (ι:=Nat × GH) (Tc:=[(14,_),(15,_)]) (Lc:=[]) (fun gh=>[(16,vi gh.1)]) (fun gh=>[]) (fun gh=>gh.2) (fun gh=>gh.1≤l.length∧DV gh.1 (l.drop gh.1)=DV 0 l∧(∀ b o,G b=some o→gh.2 b=some o)) (fun gh=>l.length - gh.1) ((0,G)) (by exact (H).sub ⟨rfl,rfl,rfl,aB⟩) ?_ ?_
 ·exact ⟨iB _,rfl,fun _ _ h=>h⟩
 clear H;intro gh a w hI H;obtain ⟨k,g⟩:=gh;dsimp only at hI H;obtain ⟨hk,he,hgm⟩:=hI;dsimp only [lca,bG] at H;refine kP H (SR fun _ K9=>Rc rfl (Kz K9 (SQ fun _ aQ=>Cd rfl ?_ ?_))) <;> clear H K9
 ·intro eF a H
  try have mR:=dT eF
  have hk2:k < l.length:=by omega
  obtain ⟨b,o,cs,rfl,hcl,hrow,hr⟩:=hg k l[k].dat (by simp [hk2]);obtain rfl:=ajv hr;refine kP H (Kc aQ (SQ fun _ bH=>SB (SR fun _ bL=>Rm rfl (Ri Nk Ng rfl rfl ?_))));clear H aQ;intro a H;refine bJ Ng (cs:=l[k].cells) H wn rfl rfl (fun j v hj=>H.hp.aJ (aO hgm (hrow j v hj))) rfl ?_;clear H;intro a H;refine eB Ng H wn rfl ?_;clear H;intro b4 a w hb4 H;refine kH H (Ra rfl ?_);clear H;intro a H;refine bM Ng 0 (vs:=[_,_,_,_]) _ H wn rfl rfl rfl rfl rfl rfl rfl rfl ?_;clear H;intro w H;dsimp only [List.set,setRow] at H;refine bL _ _ ?_;clear bL;refine kP H (SQ fun _ bR=>SB (SR fun _ bQ=>aT Wm aH 0 rfl rfl (Rc rfl (Rm rfl (Sp 25 rfl ?_ ?_))))) <;> clear H
  ·intro mg a H
   try have p25:=dT mg
   refine kH H (bC mg rfl (Pt mg rfl (ak bQ rfl (Ct rfl rfl (SR fun _ dJ=>ak dJ rfl ?_)))));clear H bQ dJ;intro a H;refine lr H results118 rfl ?_
   first
    | exact H.rt (aC vi (by rw [dS,av (by omega)]))
    | exact H.rt (aC vi (by rw [dS,ah (by omega),av (by omega)]))
    | exact H.rt (aC vi (by rw [dS,ah (by omega),ah (by omega),← he,iW hk2,av (by omega)]))
    | exact H.rt (aC vi (by rw [dS,ah (by omega),ah (by omega),← he,iW hk2,ah (by omega),av (by omega)]))
    | exact H.rt (aC vi (by rw [dS,ah (by omega),ah (by omega),← he,iW hk2,ah (by omega),ah (by omega),av p45]))
    | exact H.rt (aC vi (by rw [dS,ah (by omega),ah (by omega),← he,iW hk2,ah (by omega),ah (by omega),ah p45,av (by omega)]))
    | exact H.rt (aC vi (by rw [dS,ah (by omega),ah (by omega),← he,ig (by omega)];rfl))
  intro mg a H
  try have p25:=dF mg
  refine kH H (YF Wm mg rfl (YO aH 0 mg rfl (YC mg rfl (Pf mg rfl (ak bQ rfl (Cd rfl ?_ ?_)))))) <;> clear H bQ
  ·intro h21 a H
   try have oN:=dT h21
   refine kP H (SR fun _ dO=>ak dO rfl ?_);clear H dO;intro a H;refine lr H results118 rfl ?_
   first
    | exact H.rt (aC vi (by rw [dS,av (by omega)]))
    | exact H.rt (aC vi (by rw [dS,ah (by omega),av (by omega)]))
    | exact H.rt (aC vi (by rw [dS,ah (by omega),ah (by omega),← he,iW hk2,av (by omega)]))
    | exact H.rt (aC vi (by rw [dS,ah (by omega),ah (by omega),← he,iW hk2,ah (by omega),av (by omega)]))
    | exact H.rt (aC vi (by rw [dS,ah (by omega),ah (by omega),← he,iW hk2,ah (by omega),ah (by omega),av p45]))
    | exact H.rt (aC vi (by rw [dS,ah (by omega),ah (by omega),← he,iW hk2,ah (by omega),ah (by omega),ah p45,av (by omega)]))
    | exact H.rt (aC vi (by rw [dS,ah (by omega),ah (by omega),← he,ig (by omega)];rfl))
  intro h21 a H
  try have oN:=dF h21
  refine kP H (SR fun _ dK=>aT Wn aH 0 rfl rfl (Rc rfl (Rm rfl (Sp 34 rfl ?_ ?_)))) <;> clear H
  ·intro gD a H
   try have p34:=dT gD
   refine kH H (bC gD rfl (Pt gD rfl (ak dK rfl (Ct rfl rfl (SR fun _ eO=>ak eO rfl ?_)))));clear H dK eO;intro a H;refine lr H results118 rfl ?_
   first
    | exact H.rt (aC vi (by rw [dS,av (by omega)]))
    | exact H.rt (aC vi (by rw [dS,ah (by omega),av (by omega)]))
    | exact H.rt (aC vi (by rw [dS,ah (by omega),ah (by omega),← he,iW hk2,av (by omega)]))
    | exact H.rt (aC vi (by rw [dS,ah (by omega),ah (by omega),← he,iW hk2,ah (by omega),av (by omega)]))
    | exact H.rt (aC vi (by rw [dS,ah (by omega),ah (by omega),← he,iW hk2,ah (by omega),ah (by omega),av p45]))
    | exact H.rt (aC vi (by rw [dS,ah (by omega),ah (by omega),← he,iW hk2,ah (by omega),ah (by omega),ah p45,av (by omega)]))
    | exact H.rt (aC vi (by rw [dS,ah (by omega),ah (by omega),← he,ig (by omega)];rfl))
  intro gD a H
  try have p34:=dF gD
  refine kH H (YF Wn gD rfl (YO aH 0 gD rfl (YC gD rfl (Pf gD rfl (ak dK rfl (Cd rfl ?_ ?_)))))) <;> clear H dK
  ·intro rF a H
   try have p30:=dT rF
   refine kP H (SR fun _ gH=>ak gH rfl ?_);clear H gH;intro a H;refine lr H results118 rfl ?_
   first
    | exact H.rt (aC vi (by rw [dS,av (by omega)]))
    | exact H.rt (aC vi (by rw [dS,ah (by omega),av (by omega)]))
    | exact H.rt (aC vi (by rw [dS,ah (by omega),ah (by omega),← he,iW hk2,av (by omega)]))
    | exact H.rt (aC vi (by rw [dS,ah (by omega),ah (by omega),← he,iW hk2,ah (by omega),av (by omega)]))
    | exact H.rt (aC vi (by rw [dS,ah (by omega),ah (by omega),← he,iW hk2,ah (by omega),ah (by omega),av p45]))
    | exact H.rt (aC vi (by rw [dS,ah (by omega),ah (by omega),← he,iW hk2,ah (by omega),ah (by omega),ah p45,av (by omega)]))
    | exact H.rt (aC vi (by rw [dS,ah (by omega),ah (by omega),← he,ig (by omega)];rfl))
  intro rF a H
  try have p30:=dF rF
  refine kP H (Kc bR (SQ fun _ fE=>SR fun _ gL=>aT afR fV 0 rfl rfl (Rm rfl (Rd rfl ?_))));clear H bR;intro a H;rw [show ((k:Int)+1)=((k+1:Nat):Int) from rfl] at H;refine s_call ael H wn rfl (aju _ _ H.ro l[k].zl ((k+1:Nat):Int) (ht _ (iF hk2))) rfl ?_;clear H;rintro v43 Kq a w rfl Cz H;refine kH H (ak gL rfl (SR fun _ jl=>Rm rfl (Rc rfl (Kz jl (Cd rfl ?_ ?_))))) <;> clear H gL jl
  ·intro h45 a H
   try have p45:=dT h45
   refine kP H (SR fun _ kC=>Rm rfl (ak kC rfl ?_));clear H kC;intro a H;refine lr H results118 rfl ?_
   first
    | exact H.rt (aC vi (by rw [dS,av (by omega)]))
    | exact H.rt (aC vi (by rw [dS,ah (by omega),av (by omega)]))
    | exact H.rt (aC vi (by rw [dS,ah (by omega),ah (by omega),← he,iW hk2,av (by omega)]))
    | exact H.rt (aC vi (by rw [dS,ah (by omega),ah (by omega),← he,iW hk2,ah (by omega),av (by omega)]))
    | exact H.rt (aC vi (by rw [dS,ah (by omega),ah (by omega),← he,iW hk2,ah (by omega),ah (by omega),av p45]))
    | exact H.rt (aC vi (by rw [dS,ah (by omega),ah (by omega),← he,iW hk2,ah (by omega),ah (by omega),ah p45,av (by omega)]))
    | exact H.rt (aC vi (by rw [dS,ah (by omega),ah (by omega),← he,ig (by omega)];rfl))
  intro h45 a H
  try have p45:=dF h45
  refine kP H (Kc fE (SR fun _ jY=>aT Wo aH 0 rfl rfl (Rc rfl (Rm rfl (Sp 50 rfl ?_ ?_))))) <;> clear H fE
  ·intro h50 a H
   try have p50:=dT h50
   refine kH H (aR h50 rfl (aR h50 rfl (Pt h50 rfl (Kz jY (Ct rfl rfl (SR fun _ jJ=>ak jJ rfl ?_))))));clear H jY jJ;intro a H;refine lr H results118 rfl ?_
   first
    | exact H.rt (aC vi (by rw [dS,av (by omega)]))
    | exact H.rt (aC vi (by rw [dS,ah (by omega),av (by omega)]))
    | exact H.rt (aC vi (by rw [dS,ah (by omega),ah (by omega),← he,iW hk2,av (by omega)]))
    | exact H.rt (aC vi (by rw [dS,ah (by omega),ah (by omega),← he,iW hk2,ah (by omega),av (by omega)]))
    | exact H.rt (aC vi (by rw [dS,ah (by omega),ah (by omega),← he,iW hk2,ah (by omega),ah (by omega),av p45]))
    | exact H.rt (aC vi (by rw [dS,ah (by omega),ah (by omega),← he,iW hk2,ah (by omega),ah (by omega),ah p45,av (by omega)]))
    | exact H.rt (aC vi (by rw [dS,ah (by omega),ah (by omega),← he,ig (by omega)];rfl))
  intro h50 a H
  try have p50:=dF h50
  refine kH H (YF Wo h50 rfl (YO aH 0 h50 rfl (YM h50 rfl (YC h50 rfl (Pf h50 rfl (Kz jY (Cd rfl ?_ ?_))))))) <;> clear H jY
  ·intro lU a H
   try have p55:=dT lU
   refine kP H (SR fun _ kJ=>ak kJ rfl ?_);clear H kJ;intro a H;refine lr H results118 rfl ?_
   first
    | exact H.rt (aC vi (by rw [dS,av (by omega)]))
    | exact H.rt (aC vi (by rw [dS,ah (by omega),av (by omega)]))
    | exact H.rt (aC vi (by rw [dS,ah (by omega),ah (by omega),← he,iW hk2,av (by omega)]))
    | exact H.rt (aC vi (by rw [dS,ah (by omega),ah (by omega),← he,iW hk2,ah (by omega),av (by omega)]))
    | exact H.rt (aC vi (by rw [dS,ah (by omega),ah (by omega),← he,iW hk2,ah (by omega),ah (by omega),av p45]))
    | exact H.rt (aC vi (by rw [dS,ah (by omega),ah (by omega),← he,iW hk2,ah (by omega),ah (by omega),ah p45,av (by omega)]))
    | exact H.rt (aC vi (by rw [dS,ah (by omega),ah (by omega),← he,ig (by omega)];rfl))
  intro lU a H
  try have p55:=dF lU
  refine kP H (Kc bH (SC (Rd rfl (Rm rfl ?_))));clear H bH;intro a H;refine aG ?_;refine dh ((k+1,Kq)) (by exact (H.dP (Pl:=[_]) (dD:=[]) [] (by decide) rfl).sub ⟨rfl,rfl,rfl,aB⟩) ?_ ?_
  ·(try dsimp only);exact ⟨by omega,by rw [iW hk2,ah (by omega),ah (by omega),ah p45,ah (by omega)] at he;exact he,fun b o h=>Cz b o (hgm b o h)⟩
  first|omega|(dsimp only;omega)
 intro eF a H
 try have mR:=dF eF
 refine dW ?_;refine K7 _ _ ?_;clear K7;refine kP H (SR fun _ lF=>ak lF rfl ?_);clear H lF;intro a H;refine lr H results118 rfl ?_
 first
  | exact H.rt (aC vi (by rw [dS,av (by omega)]))
  | exact H.rt (aC vi (by rw [dS,ah (by omega),av (by omega)]))
  | exact H.rt (aC vi (by rw [dS,ah (by omega),ah (by omega),← he,iW hk2,av (by omega)]))
  | exact H.rt (aC vi (by rw [dS,ah (by omega),ah (by omega),← he,iW hk2,ah (by omega),av (by omega)]))
  | exact H.rt (aC vi (by rw [dS,ah (by omega),ah (by omega),← he,iW hk2,ah (by omega),ah (by omega),av p45]))
  | exact H.rt (aC vi (by rw [dS,ah (by omega),ah (by omega),← he,iW hk2,ah (by omega),ah (by omega),ah p45,av (by omega)]))
  | exact H.rt (aC vi (by rw [dS,ah (by omega),ah (by omega),← he,ig (by omega)];rfl))
end
section
open Go.RowKit
theorem EW:Ty prog 32 1 24 [.slice none 0 0] false:=⟨by kernel_rfl,by kernel_rfl⟩
theorem EZ:prog.underlying 32=some (.slice 184):=by kernel_rfl
theorem GZ:Ty prog 184 2 32 [.int .i64 0,.slice none 0 0] true:=⟨by kernel_rfl,by kernel_rfl⟩
theorem V9:cB prog 184 0 0:=⟨by kernel_rfl⟩
theorem amG:Ty prog 182 1 24 [.slice none 0 0] false:=⟨by kernel_rfl,by kernel_rfl⟩
theorem OY:∀ args w,(callFunc 86 args).run prog w=.ok (.enter 86 args) w:=enters func86 rfl (by kernel_rfl)
theorem afP:cB prog 184 1 1:=⟨by kernel_rfl⟩
theorem adZ:∀ args w,(callFunc 118 args).run prog w=.ok (.enter 118 args) w:=enters func118 rfl (by kernel_rfl)
theorem FL:∀ args w,(callFunc 84 args).run prog w=.ok (.enter 84 args) w:=enters func84 rfl (by kernel_rfl)
theorem adY:∀ args w,(callFunc 117 args).run prog w=.ok (.enter 117 args) w:=enters func117 rfl (by kernel_rfl)
theorem adX:∀ args w,(callFunc 116 args).run prog w=.ok (.enter 116 args) w:=enters func116 rfl (by kernel_rfl)
structure gq where
 id:Int
 levels:List oW
def gq.dat (x:gq):List Dat:=[li x.id,.sl 4 (x.levels.map oW.dat)]
structure iQ where
 id:Int
 parent:Int
 author:ByteArray
 time:Int
 text:ByteArray
 done:Bool
def iQ.dat (x:iQ):List Dat:=[li x.id,li x.parent,.lf (.string x.author),li x.time,.lf (.string x.text),.lf (.bool x.done)]
abbrev iQ.cells (x:iQ):List aj:=[vi x.id,vi x.parent,.string x.author,vi x.time,.string x.text,.bool x.done]
structure mF where
 name:ByteArray
 value:ByteArray
def mF.dat (x:mF):List Dat:=[.lf (.string x.name),.lf (.string x.value)]
abbrev mF.cells (x:mF):List aj:=[.string x.name,.string x.value]
theorem Va {G:GH} {x:iQ} {cs:List aj} (h:aY G x.dat cs):cs=x.cells:=by
 simp only [iQ.dat,aY,ay] at h
 obtain ⟨_,_,rfl,⟨rfl,_⟩,_,_,rfl,⟨rfl,_⟩,_,_,rfl,⟨rfl,_⟩,_,_,rfl,⟨rfl,_⟩,_,_,rfl,⟨rfl,_⟩,_,_,rfl,⟨rfl,_⟩,rfl⟩:=h
 rfl
theorem amV {G:GH} {x:mF} {cs:List aj} (h:aY G x.dat cs):cs=x.cells:=by
 simp only [mF.dat,aY,ay] at h
 obtain ⟨_,_,rfl,⟨rfl,_⟩,_,_,rfl,⟨rfl,_⟩,rfl⟩:=h
 rfl
theorem Q5 {G:GH} {l:List gq} {A:Option Addr} {n c k:Nat} (hv:ay G (.sl 2 (l.map gq.dat)) (.slice A n c)) (hk:k < l.length):∃ b o B d,A=some ⟨b,o,none⟩∧(∀ j u,[vi l[k].id,.slice B l[k].levels.length d][j]?=some u→aJ G b (o+k*2+j)=some u)∧ay G (.sl 4 (l[k].levels.map oW.dat)) (.slice B l[k].levels.length d):=by
 obtain ⟨A',c',he,_,_,hg⟩:=hv.slice
 injection he with e1 e2 e3
 subst e1;obtain ⟨b,o,cs,h1,h2,h3,h4⟩:=hg k l[k].dat (by simp [hk])
 simp only [gq.dat,aY] at h4
 obtain ⟨v1,_,rfl,⟨rfl,-⟩,v2,_,rfl,hl,rfl⟩:∃ v vs,cs=v :: vs∧ay G (li l[k].id) v∧∃ v2 vs2,vs=v2 :: vs2∧ay G (.sl 4 (l[k].levels.map oW.dat)) v2∧vs2=[]:=h4;obtain ⟨B,d,rfl,-,-,-⟩:=hl.slice;rw [bV] at *;exact ⟨b,o,B,d,h1,h3,hl⟩
theorem ajl {G:GH} {bl:Nat} {l:List gq} {A:Option Addr} {n c:Nat} (hb:aJ G bl 0=some (.slice A n c)) (hv:ay G (.sl 2 (l.map gq.dat)) (.slice A n c)):sj (.func (.func 117) #[] #[(aI bl 0)]) G l.length fun k=>(l[k]?.map gq.id).getD 0:=by
 intro k hk G1 w0 hm hG;refine lN (caps:=[(aI bl 0)]) adY ?_;replace hb:=aO hm hb
 obtain rfl:n=l.length:=by have:=hv.len;simpa using this
 obtain ⟨b,o,B,d,rfl,hrow,-⟩:=Q5 (hv.mono hm) hk;have hq:=hrow 0 _ rfl;refine eN [(0,_),(1,_)] func117 rfl ntmps117 rfl rfl hG ?_;intro a H;refine kP H (SR fun _ K1=>ak K1 rfl (SR fun _ K2=>Rg EW rfl (by assumption) ?_));clear H K1;intro a H;refine kH H (Rm rfl (Ri EZ GZ rfl rfl (Rf V9 rfl (Rg aH rfl (by assumption) ?_))));clear H;intro a H;exact kH H (ak K2 rfl (LR results117 rfl fun H=>H.rt (by dsimp only;rw [iA hk];rfl)))
def ED (l:List gq) (i:Nat):Int:=dM [pR (fun k=>(l[k]?.map gq.id).getD 0) i,dS ((l[i]?.map gq.levels).getD [])]
theorem ajo {G:GH} {bl:Nat} {l:List gq} {A:Option Addr} {n c:Nat} (hb:aJ G bl 0=some (.slice A n c)) (hv:ay G (.sl 2 (l.map gq.dat)) (.slice A n c)) (hl:l.length≤4294967296) (ht:∀ x∈l,∀ y∈x.levels,y.zl.size < 4611686018427387904):sj (.func (.func 116) #[] #[(aI bl 0)]) G l.length (ED l):=by
 intro k hk G1 w0 hm hG;refine lN (caps:=[(aI bl 0)]) adX ?_;replace hb:=aO hm hb;replace hv:=hv.mono hm;have hcb:=ajl hb hv
 obtain rfl:n=l.length:=by have:=hv.len;simpa using this
 obtain ⟨b,o,B,d,rfl,hrow,hlv⟩:=Q5 hv hk;have hq:=hrow 1 _ rfl
 have he:ED l k=dM [pR (fun k=>(l[k]?.map gq.id).getD 0) k,dS l[k].levels]:=by unfold ED;rw [iA hk];rfl
 refine eN [(0,_),(1,_)] func116 rfl ntmps116 rfl rfl hG ?_;intro a H;refine kP H (SR fun _ K1=>ak K1 rfl (SQ fun _ K2=>?_));clear H K1;intro a H;have H:=H.sub (T':=[(0,_),(1,_)]) ⟨rfl,rfl,aB⟩;refine dI hmx [[],[],[0,1],[],[],[3,4],[3,4,5],(ra 3 4),(ra 0 8),(ra 0 9),(ra 0 10),(ra 0 11)] [9,10,11] (by kernel_rfl) [_,.func (.func 117) #[] #[(aI bl 0)],vi (pR (fun k=>(l[k]?.map gq.id).getD 0) k),_,_,_,_,_,vi (dS l[k].levels)] H (aD (Z0 rfl (Rm rfl)) ?_ ?_ (X0 rfl fun hG=>Rg EW rfl (aO hG hb)) (aD (Z0 rfl (Rm rfl)) (Z2 3 7 4 8 rfl (Ri EZ GZ rfl rfl)) (Z1 5 9 rfl (Rf afP rfl)) (X1 6 10 rfl fun hG=>Rg amG rfl (aO hG hq)) (aD ?_ (bN rfl) (bN rfl) (bN rfl) cu))) ?_
 ·refine Aq rfl fun _ a w G1 hG HT H fin=>?_;refine qW H wn rfl rfl ?_;clear H;intro a H;exact fin H iJ rfl
 ·refine bZ 0 4 1 5 rfl rfl fun _ a w G1 hG HT H fin=>?_;refine s_call OY H wn rfl (QS _ _ H.ro k _ _ (by omega) (fun i hi=>(hcb.mono hG) i (by omega))) rfl ?_;clear H;rintro v6 G6 a w rfl iq H;exact fin H iq (rfl)
 ·refine dB 7 11 rfl rfl fun _ a w G1 hG HT H fin=>?_;refine s_call adZ H wn rfl (acO _ _ H.ro _ _ (hlv.mono hG) (ht _ (iF hk))) rfl ?_;clear H;rintro v12 BX a w rfl ni H;exact fin H ni (rfl)
 clear H;intro a w G mh H hv;have H:=H.aP (hv 2 6 rfl rfl) rfl;have H:=H.aP (hv 8 12 rfl rfl) rfl;clear hv;refine gX oO gN [_,_] [_,_] H wn rfl rfl rfl rfl rfl (by intro i q h;match i,h with|0,h=>exact h|1,h=>exact h|n+2,h=>simp at h) rfl rfl ?_;clear H;intro b13 a w LQ H;obtain ⟨Dr,Cx,ahf,H⟩:=H.eu;refine s_call qw H wn rfl (qx _ _ H.ro _ _ (xJ ahf)) rfl ?_;clear H;rintro v14 _ a w ⟨rfl,rfl⟩ - H;refine kH H (Ra rfl ?_);clear H;intro a H;refine aG ⟨rfl,?_⟩;refine K2 _ _ ?_;clear K2;refine lr H results116 rfl ?_;exact H.rt (by rw [he])
def Ip (l:List gq):Int:=dM [cO (decide (64 < (l.length:Int))) 9,kM (ED l) (min l.length 64)]
theorem sj.le {fv:aj} {G:GH} {n m:Nat} {E:Nat→Int} (h:sj fv G n E) (hm:m≤n):sj fv G m E:=fun i hi=>h i (by omega)
theorem acP (G:GH) (w0:World) (hG:Hold G w0) (l:List gq) (v:aj) (hv:ay G (.sl 2 (l.map gq.dat)) v) (hl:l.length≤4294967296) (ht:∀ x∈l,∀ y∈x.levels,y.zl.size < 4611686018427387904) :
  Calls prog 81 #[v] w0 (bq w0 G fun u G'=>u=vi (Ip l)):=by
 obtain ⟨A,c,rfl,hc1,hc2,-⟩:=hv.slice;rw [bV] at *;refine eN [(0,_)] func81 rfl ntmps81 rfl rfl hG ?_;intro a H;refine dH (fun _ K1=>?_);refine fC (cs:=[_]) H wn rfl rfl rfl ?_;clear H;intro b1 a w hb1 H;refine kH H (ak K1 rfl (SQ fun _ K2=>?_));clear H K1;intro a H;have H:=H.sub (T':=[(1,_)]) ⟨rfl,aB⟩;obtain ⟨Ga,hma,hb1',H⟩:=H.eu
 have hbl:aJ Ga b1 0=some (.slice A l.length c):=by unfold aJ;rw [hb1'];rfl
 have hcb:=ajo hbl (hv.mono hma) hl ht;refine dI hmx [[],[0],[0,1],[0,1,2],[],[4],[4,5],[],(ra 0 8),(ra 0 9),(ra 0 10),(ra 0 11)] [9,10,11] (by kernel_rfl) [_,_,_,vi (cO (decide (64 < (l.length:Int))) 9),_,_,vi ((min l.length 64:Nat):Int),.func (.func 116) #[] #[(aI b1 0)],vi (kM (ED l) (min l.length 64))] H (aD (X0 rfl fun hG=>Rg EW rfl (aO hG hbl)) (Z1 0 3 rfl (Rl EZ rfl)) (Z1 1 4 rfl (Rc rfl)) ?_ (aD (X0 rfl fun hG=>Rg EW rfl (aO hG hbl)) (Z1 4 7 rfl (Rl EZ rfl)) ?_ ?_ (aD ?_ (bN rfl) (bN rfl) (bN rfl) cu))) ?_
 ·refine dB 2 5 rfl rfl fun _ a w G1 hG HT H fin=>?_;refine s_call jo H wn rfl (jv _ _ H.ro _ 9) rfl ?_;clear H;rintro v6 G6 a w ⟨rfl,-⟩ iq H;exact fin H iq (rfl)
 ·refine dB 5 8 rfl rfl fun _ a w G1 hG HT H fin=>?_;refine JV H wn rfl rfl rfl ?_;clear H;intro a H;exact fin H iJ (aC vi (by omega))
 ·refine Aq rfl fun _ a w G1 hG HT H fin=>?_;refine qW H wn rfl rfl ?_;clear H;intro a H;exact fin H iJ rfl
 ·refine bZ 6 9 7 10 rfl rfl fun _ a w G1 hG HT H fin=>?_;refine s_call FL H wn rfl (Ij _ _ H.ro (min l.length 64) (ED l) _ (by omega) ((hcb.mono hG).le (Nat.min_le_left _ _))) rfl ?_;clear H;rintro v11 xP a w rfl iN H;exact fin H iN (rfl)
 clear H;intro a w G mh H hv;have H:=H.aP (hv 3 6 rfl rfl) rfl;have H:=H.aP (hv 8 11 rfl rfl) rfl;clear hv;refine gX oO gN [_,_] [_,_] H wn rfl rfl rfl rfl rfl (by intro i q h;match i,h with|0,h=>exact h|1,h=>exact h|n+2,h=>simp at h) rfl rfl ?_;clear H;intro b12 a w Bg H;obtain ⟨BX,Eo,El,H⟩:=H.eu;refine s_call qw H wn rfl (qx _ _ H.ro _ _ (xJ El)) rfl ?_;clear H;rintro v13 _ a w ⟨rfl,rfl⟩ - H;refine kH H (Ra rfl ?_);clear H;intro a H;refine aG ⟨rfl,?_⟩;refine K2 _ _ ?_;clear K2;refine lr H results81 rfl ?_;exact H.rt rfl
end
section
open Go.RowKit
theorem nV:prog.underlying 31=some (.slice 181):=by kernel_rfl
theorem kI:Ty prog 181 6 72 [.int .i64 0,.int .i64 0,.string ⟨#[]⟩,.int .i64 0,.int .i64 0,.slice none 0 0] true:=⟨by kernel_rfl,by kernel_rfl⟩
theorem wZ:cB prog 181 1 1:=⟨by kernel_rfl⟩
theorem FN:cB prog 181 2 2:=⟨by kernel_rfl⟩
theorem uR:cB prog 181 0 0:=⟨by kernel_rfl⟩
theorem Vx:∀ args w,(callFunc 141 args).run prog w=.ok (.enter 141 args) w:=enters func141 rfl (by kernel_rfl)
theorem aek:∀ args w,(callFunc 134 args).run prog w=.ok (.enter 134 args) w:=enters func134 rfl (by kernel_rfl)
theorem aep:∀ args w,(callFunc 142 args).run prog w=.ok (.enter 142 args) w:=enters func142 rfl (by kernel_rfl)
theorem aer:∀ args w,(callFunc 143 args).run prog w=.ok (.enter 143 args) w:=enters func143 rfl (by kernel_rfl)
structure bU where
 id:Int
 kind:Int
 name:ByteArray
 base:Int
 next:Int
 props:List iL
def bU.dat (x:bU):List Dat:=[li x.id,li x.kind,.lf (.string x.name),li x.base,li x.next,.sl 2 (x.props.map iL.dat)]
theorem Sm {G:GH} {x:bU} {cs:List aj} (h:aY G x.dat cs):∃ A c,cs=[vi x.id,vi x.kind,.string x.name,vi x.base,vi x.next,.slice A x.props.length c]∧ay G (.sl 2 (x.props.map iL.dat)) (.slice A x.props.length c):=by
 simp only [bU.dat,aY] at h
 obtain ⟨v1,_,rfl,h1,v2,_,rfl,h2,v3,_,rfl,h3,v4,_,rfl,h4,v5,_,rfl,h5,v6,_,rfl,h6,rfl⟩:=h
 simp only [ay] at h1 h2 h3 h4 h5
 obtain ⟨rfl,-⟩:=h1;obtain ⟨rfl,-⟩:=h2;obtain ⟨rfl,-⟩:=h3;obtain ⟨rfl,-⟩:=h4;obtain ⟨rfl,-⟩:=h5;obtain ⟨A,c,rfl,-,-,-⟩:=h6.slice;rw [bV] at *;exact ⟨A,c,rfl,h6⟩
theorem BM {G:GH} {l:List bU} {A:Option Addr} {n c k:Nat} (hv:ay G (.sl 6 (l.map bU.dat)) (.slice A n c)) (hk:k < l.length):∃ b o pA pc,A=some ⟨b,o,none⟩∧(∀ j u,[vi l[k].id,vi l[k].kind,.string l[k].name,vi l[k].base,vi l[k].next,.slice pA l[k].props.length pc][j]?=some u→aJ G b (o+k*6+j)=some u)∧ay G (.sl 2 (l[k].props.map iL.dat)) (.slice pA l[k].props.length pc) ∧
  aY G l[k].dat [vi l[k].id,vi l[k].kind,.string l[k].name,vi l[k].base,vi l[k].next,.slice pA l[k].props.length pc]:=by
 obtain ⟨A',c',he,_,_,hg⟩:=hv.slice
 injection he with e1 e2 e3
 subst e1;obtain ⟨b,o,cs,h1,h2,h3,h4⟩:=hg k l[k].dat (by simp [hk]);obtain ⟨pA,pc,rfl,hp⟩:=Sm h4;exact ⟨b,o,pA,pc,h1,h3,hp,h4⟩
def okB (x:Int):Bool:=decide (32≤x∧x≤126)
def EI (s:ByteArray) (k:Nat):Bool:=(List.range k).all fun i=>okB (gF s i)
def nk (s:ByteArray):Bool:=decide (s.size≠0∧s.size≤40∧gF s 0≠32∧gF s (s.size - 1)≠32) && EI s s.size
theorem ajO (s:ByteArray) (k:Nat):EI s (k+1)=(EI s k && okB (gF s k)):=by simp [EI,List.range_succ]
theorem EJ {s:ByteArray} {k:Nat} (hk:k < s.size) (h:okB (gF s k)=false):EI s s.size=false:=by
 rw [EI,List.all_eq_false];exact ⟨k,by simpa using hk,by simp [h]⟩
theorem Mq (G:GH) (w0:World) (hG:Hold G w0) (s:ByteArray) (hs:s.size≤4611686018427387904):Calls prog 131 #[.string s] w0 (bq w0 G fun u G'=>u=.bool (nk s)):=by
 refine eN [(0,_)] func131 rfl ntmps131 rfl rfl hG ?_;intro a H;refine kP H (SR fun _ K1=>ak K1 rfl (SQ fun _ K2=>SR fun _ K3=>Rm rfl (Rv fO rfl (Rc rfl (Rm rfl (Sp 7 rfl ?_ ?_)))))) <;> clear H K1
 ·intro h7 a H
  try have p7:=dT h7
  refine kH H (bC h7 rfl (Pt h7 rfl (Rm rfl (bC rfl rfl (Pt rfl rfl (Rm rfl (bC rfl rfl (bC rfl rfl (Pt rfl rfl (Kz K3 (Ct rfl rfl (SR fun _ K4=>ak K4 rfl ?_))))))))))));clear H K3 K4;intro a H;refine lr H results131 rfl ?_
  first
   | exact H.rt (aF (by rw [nk,iU (by omega),vO]))
   | exact H.rt (aF (by rw [nk,jy (by omega),show s.size=k by omega,hno];rfl))
   | exact H.rt (aF (by rw [nk,EJ (k:=k) (by omega) (iU (by omega)),Bool.and_false]))
 intro h7 a H
 try have p7:=dF h7
 refine kH H (YM h7 rfl ?_);clear H;intro a H;refine BJ fO H (wg H rfl rfl h7) rfl rfl ?_;clear H;intro a H;refine kH H (YC h7 rfl (Pf h7 rfl (Rm rfl (Sp 12 rfl ?_ ?_)))) <;> clear H
 ·intro h12 a H
  try have qE:=dT h12
  refine kH H (bC h12 rfl (Pt h12 rfl (Rm rfl (bC rfl rfl (bC rfl rfl (Pt rfl rfl (Kz K3 (Ct rfl rfl (SR fun _ K5=>ak K5 rfl ?_)))))))));clear H K3 K5;intro a H;refine lr H results131 rfl ?_
  first
   | exact H.rt (aF (by rw [nk,iU (by omega),vO]))
   | exact H.rt (aF (by rw [nk,jy (by omega),show s.size=k by omega,hno];rfl))
   | exact H.rt (aF (by rw [nk,EJ (k:=k) (by omega) (iU (by omega)),Bool.and_false]))
 intro h12 a H
 try have qE:=dF h12
 refine kH H (YM h12 rfl ?_);clear H;intro a H;refine nO 0 fO H (wg H rfl rfl h12) rfl rfl rfl (by omega) rfl ?_;clear H;intro a H;rw [← kN] at H;refine kH H (YC h12 rfl (Pf h12 rfl (Rm rfl (Sp 17 rfl ?_ ?_)))) <;> clear H
 ·intro eF a H
  try have mR:=dT eF
  refine kH H (bC eF rfl (bC eF rfl (Pt eF rfl (Kz K3 (Ct rfl rfl (SR fun _ K6=>ak K6 rfl ?_))))));clear H K3 K6;intro a H;refine lr H results131 rfl ?_
  first
   | exact H.rt (aF (by rw [nk,iU (by omega),vO]))
   | exact H.rt (aF (by rw [nk,jy (by omega),show s.size=k by omega,hno];rfl))
   | exact H.rt (aF (by rw [nk,EJ (k:=k) (by omega) (iU (by omega)),Bool.and_false]))
 intro eF a H
 try have mR:=dF eF
 refine kH H (YM eF rfl (YM eF rfl ?_));clear H;intro a H;refine BJ fO H (wg H rfl rfl eF) rfl rfl ?_;clear H;intro a H;refine kX _ H (wg H rfl rfl eF) rfl rfl rfl (by omega) (by omega) rfl ?_;clear H;intro a H;refine nO (s.size - 1) fO H (wg H rfl rfl eF) rfl rfl (by omega) (by omega) rfl ?_;clear H;intro a H;rw [← kN] at H;refine kH H (YC eF rfl (Pf eF rfl (Kz K3 (Cd rfl ?_ ?_)))) <;> clear H K3
 ·intro dU a H
  try have kr:=dT dU
  refine kP H (SR fun _ K7=>ak K7 rfl ?_);clear H K7;intro a H;refine lr H results131 rfl ?_
  first
   | exact H.rt (aF (by rw [nk,iU (by omega),vO]))
   | exact H.rt (aF (by rw [nk,jy (by omega),show s.size=k by omega,hno];rfl))
   | exact H.rt (aF (by rw [nk,EJ (k:=k) (by omega) (iU (by omega)),Bool.and_false]))
 intro dU a H
 try have kr:=dF dU
 refine kP H (Kc K2 (SQ fun _ K8=>SR fun _ K9=>Rm rfl (Rv fO rfl (Rm rfl (Kz K9 (SB ?_))))));clear H K2 K9;intro a H;skip;refine eU (ι:=Nat) (Tc:=[(0,_),(26,_)]) (Lc:=[]) (fun gh=>[(27,vi gh)]) (fun gh=>[]) (fun gh=>G) (fun gh=>gh≤s.size∧EI s gh=true) (fun gh=>s.size - gh) (0) (by exact (H).sub ⟨rfl,rfl,rfl,aB⟩) ?_ ?_
 ·exact ⟨iB _,rfl⟩
 clear H;intro gh a w hI H;obtain ⟨k,hgh⟩:∃ x,x=gh:=⟨_,rfl⟩;subst hgh;obtain ⟨hk,hno⟩:=hI;dsimp only [lca,bG] at H;refine kP H (SR fun _ aQ=>Rc rfl (Kz aQ (SQ fun _ bH=>Cd rfl ?_ ?_))) <;> clear H aQ
 ·intro fH a H
  try have p28:=dT fH
  refine kP H (Kc bH (SQ fun _ bL=>SB (SR fun _ bR=>Rm rfl (ak bR rfl (SR fun _ bQ=>Rm rfl (Rm rfl ?_))))));clear H bH bR;intro a H;refine nO k fO H wn rfl rfl rfl (by omega) rfl ?_;clear H;intro a H;rw [← kN] at H;refine kH H (Rc rfl (Rm rfl (Sp 34 rfl ?_ ?_))) <;> clear H
  ·intro gD a H
   try have p34:=dT gD
   refine kH H (aR gD rfl (aR gD rfl (Pt gD rfl (Kz bQ (Ct rfl rfl (SR fun _ dJ=>ak dJ rfl ?_))))));clear H bQ dJ;intro a H;refine lr H results131 rfl ?_
   first
    | exact H.rt (aF (by rw [nk,iU (by omega),vO]))
    | exact H.rt (aF (by rw [nk,jy (by omega),show s.size=k by omega,hno];rfl))
    | exact H.rt (aF (by rw [nk,EJ (k:=k) (by omega) (iU (by omega)),Bool.and_false]))
  intro gD a H
  try have p34:=dF gD
  refine kH H (YM gD rfl (YM gD rfl ?_));clear H;intro a H;refine nO k fO H (wg H rfl rfl gD) rfl rfl rfl (by omega) rfl ?_;clear H;intro a H;rw [← kN] at H;refine kH H (YC gD rfl (Pf gD rfl (Kz bQ (Cd rfl ?_ ?_)))) <;> clear H bQ
  ·intro lg a H
   try have p39:=dT lg
   refine kP H (SR fun _ dO=>ak dO rfl ?_);clear H dO;intro a H;refine lr H results131 rfl ?_
   first
    | exact H.rt (aF (by rw [nk,iU (by omega),vO]))
    | exact H.rt (aF (by rw [nk,jy (by omega),show s.size=k by omega,hno];rfl))
    | exact H.rt (aF (by rw [nk,EJ (k:=k) (by omega) (iU (by omega)),Bool.and_false]))
  intro lg a H
  try have p39:=dF lg
  refine kP H (Kc bL (SC (Rd rfl (Rm rfl ?_))));clear H bL;intro a H;refine aG ?_;refine dh ((k+1)) (by exact (H).sub ⟨rfl,rfl,rfl,aB⟩) ?_ ?_
  ·exact ⟨by omega,by rw [ajO,hno];simp [okB];omega⟩
  first|omega|(dsimp only;omega)
 intro fH a H
 try have p28:=dF fH
 refine dW ?_;refine K8 _ _ ?_;clear K8;refine kP H (SR fun _ dK=>ak dK rfl ?_);clear H dK;intro a H;refine lr H results131 rfl ?_
 first
  | exact H.rt (aF (by rw [nk,iU (by omega),vO]))
  | exact H.rt (aF (by rw [nk,jy (by omega),show s.size=k by omega,hno];rfl))
  | exact H.rt (aF (by rw [nk,EJ (k:=k) (by omega) (iU (by omega)),Bool.and_false]))
theorem Yc (G:GH) (w0:World) (hG:Hold G w0) (l:List bU) (p:bU→Bool) (v fv:aj) (hv:ay G (.sl 6 (l.map bU.dat)) v) (hf:∀ x∈l,vN fv G x.dat (p x)) :
  Calls prog 141 #[v,fv] w0 (bq w0 G fun u G'=>u=vi (oq (l.findIdx? p))):=by
 obtain ⟨A,c,rfl,hc1,hc2,-⟩:=hv.slice;have hml:maxLen=9223372036854775807:=rfl;rw [bV] at *;refine eN [(0,_),(1,_)] func141 rfl ntmps141 rfl rfl hG ?_;intro a H;refine kP H (SR fun _ K1=>ak K1 rfl (SQ fun _ K2=>SR fun _ K3=>Rm rfl (Rl nV rfl (Rm rfl (Kz K3 (SB ?_))))));clear H K1 K3;intro a H;skip;refine eU (ι:=Nat × GH) (Tc:=[(0,_),(1,_),(7,_)]) (Lc:=[]) (fun gh=>[(8,vi gh.1)]) (fun gh=>[]) (fun gh=>gh.2) (fun gh=>gh.1≤l.length∧(l.take gh.1).findIdx? p=none∧(∀ b o,G b=some o→gh.2 b=some o)) (fun gh=>l.length - gh.1) ((0,G)) (by exact (H).sub ⟨rfl,rfl,rfl,rfl,aB⟩) ?_ ?_
 ·exact ⟨by omega,rfl,fun _ _ h=>h⟩
 clear H;intro gh a w hI H;obtain ⟨k,g⟩:=gh;dsimp only at hI H;obtain ⟨hk,hno,hgm⟩:=hI;dsimp only [lca,bG] at H;refine kP H (SR fun _ K4=>Rc rfl (Kz K4 (SQ fun _ K5=>Cd rfl ?_ ?_))) <;> clear H K4
 ·intro h9 a H
  try have p9:=dT h9
  have hk2:k < l.length:=by omega
  obtain ⟨b,o,pA,pc,rfl,hrow,hp,hrep⟩:=BM (hv.mono hgm) hk2;refine kP H (Kc K5 (SQ fun _ K6=>SB (SR fun _ K7=>Rm rfl (ak K7 rfl (SR fun _ K8=>Rm rfl (Rm rfl (Rm rfl (Ri nV kI rfl rfl ?_))))))));clear H K5 K7;intro a H;refine bJ kI (cs:=[_,_,_,_,_,_]) H wn rfl rfl (fun j v hj=>H.hp.aJ (hrow j v hj)) rfl ?_;clear H;intro a H;refine qF H wn rfl rfl (hf _ (iF hk2) _ _ _ hgm H.ro hrep) rfl ?_;clear H;rintro v16 ru a w rfl qR H;refine K8 _ _ ?_;clear K8;refine kS H rfl ?_ ?_
  ·intro h16
   try have p16:=dT h16
   refine kP H (SR fun _ K9=>Rm rfl (ak K9 rfl ?_));clear H K9;intro a H;refine lr H results141 rfl ?_
   first
    | exact H.rt (by rw [vD hk2 hno h16];rfl)
    | exact H.rt (by rw [show l.take k=l from jF (by omega)] at hno;rw [hno];rfl)
  intro h16
  try have p16:=dF h16
  refine kP H (Kc K6 (SC (Rd rfl (Rm rfl ?_))));clear H K6;intro a H;refine aG ?_;refine dh ((k+1,ru)) (by exact (H).sub ⟨rfl,rfl,rfl,rfl,aB⟩) ?_ ?_
  ·(try dsimp only);exact ⟨by omega,Bw hk2 hno h16,fun b o h=>qR b o (hgm b o h)⟩
  first|omega|(dsimp only;omega)
 intro h9 a H
 try have p9:=dF h9
 refine dW ?_;refine K2 _ _ ?_;clear K2;refine kP H (SR fun _ aQ=>ak aQ rfl ?_);clear H aQ;intro a H;refine lr H results141 rfl ?_
 first
  | exact H.rt (by rw [vD hk2 hno h16];rfl)
  | exact H.rt (by rw [show l.take k=l from jF (by omega)] at hno;rw [hno];rfl)
def JL (p q:ByteArray):Bool:=p.toList == q.toList
theorem agb {G:GH} {bk bn:Nat} {kind:Int} {name:ByteArray} (hk:aJ G bk 0=some (vi kind)) (hn:aJ G bn 0=some (.string name)) (x:bU):vN (.func (.func 142) #[] #[(aI bk 0),(aI bn 0)]) G x.dat (decide (x.kind=kind) && JL x.name name):=by
 intro G1 w0 cs hm hG hr;refine lN (caps:=[(aI bk 0),(aI bn 0)]) aep ?_;obtain ⟨pA,pc,rfl,-⟩:=Sm hr;replace hk:=aO hm hk;replace hn:=aO hm hn;refine eN [(0,_),(1,_),(2,_)] func142 rfl ntmps142 rfl rfl hG ?_;intro a H;refine dH (fun _ K1=>?_);refine fC (cs:=[_,_,_,_,_,_]) H wn rfl rfl rfl ?_;clear H;intro b3 a w hb3 H;refine kH H (ak K1 rfl (SR fun _ K2=>aT wZ aH 0 rfl rfl (Rg aH rfl (by assumption) ?_)));clear H K1;intro a H;refine kH H (Rc rfl (Rm rfl (Sp 9 rfl ?_ ?_))) <;> clear H
 ·intro h9 a H
  try have p9:=dT h9
  refine kH H (YF FN h9 rfl (YO fV 0 h9 rfl (YR fV h9 rfl (by assumption) ?_)));clear H;intro a H;refine xI H (wg H rfl rfl h9) rfl rfl rfl ?_;clear H;intro a H;exact kH H (Pt h9 rfl (ak K2 rfl (LR results142 rfl fun H=>H.rt (by unfold JL;simp_all))))
 intro h9 a H
 try have p9:=dF h9
 exact kH H (aR h9 rfl (aR h9 rfl (Pf h9 rfl (ak K2 rfl (LR results142 rfl fun H=>H.rt (by unfold JL;simp_all))))))
theorem aga {G:GH} {bi:Nat} {id:Int} (hb:aJ G bi 0=some (vi id)) (x:bU):vN (.func (.func 143) #[] #[(aI bi 0)]) G x.dat (decide (x.id=id)):=by
 intro G1 w0 cs hm hG hr;refine lN (caps:=[(aI bi 0)]) aer ?_;obtain ⟨pA,pc,rfl,-⟩:=Sm hr;replace hb:=aO hm hb;refine eN [(0,_),(1,_)] func143 rfl ntmps143 rfl rfl hG ?_;intro a H;refine dH (fun _ K1=>?_);refine fC (cs:=[_,_,_,_,_,_]) H wn rfl rfl rfl ?_;clear H;intro b2 a w hb2 H;refine kH H (ak K1 rfl (SR fun _ K2=>aT uR aH 0 rfl rfl (Rg aH rfl (by assumption) ?_)));clear H K1;intro a H;exact kH H (Rc rfl (ak K2 rfl (LR results143 rfl fun H=>H.rt rfl)))
def Cn (l:List bU) (kind:Int) (name:ByteArray):Option Nat:=l.findIdx? fun x=>decide (x.kind=kind) && JL x.name name
def LA (l:List bU) (id:Int):Option Nat:=l.findIdx? fun x=>decide (x.id=id)
theorem Yh (o:Option Nat):decide (0≤oq o)=o.isSome:=by cases o <;> simp [oq]
theorem agc (G:GH) (w0:World) (hG:Hold G w0) (l:List bU) (kind:Int) (name:ByteArray) (v:aj) (hv:ay G (.sl 6 (l.map bU.dat)) v) :
  Calls prog 132 #[v,vi kind,.string name] w0 (bq w0 G fun u G'=>u=.tuple #[vi (max (oq (Cn l kind name)) 0),.bool (Cn l kind name).isSome]):=by
 obtain ⟨A,c,rfl,hc1,hc2,-⟩:=hv.slice;rw [bV] at *;refine eN [(0,_),(1,_),(2,_)] func132 rfl ntmps132 rfl rfl hG ?_;intro a H;refine dH (fun _ K1=>?_);refine fC (cs:=[_]) H wn rfl rfl rfl ?_;clear H;intro b4 a w hb4 H;refine fC (cs:=[_]) H wn rfl rfl rfl ?_;clear H;intro b5 a w hb5 H;refine kH H (Ra rfl (ak K1 rfl (SQ fun _ K2=>?_)));clear H K1;intro a H;obtain ⟨Ga,hma,zQ,H⟩:=H.eu;obtain ⟨Gb,hmb,yG,H⟩:=H.eu
 have q4:aJ Gb b4 0=some (vi kind):=by unfold aJ;rw [yG];rfl
 have q5:aJ Gb b5 0=some (.string name):=by unfold aJ;rw [hmb _ _ zQ];rfl
 refine kP H (SC (Rm rfl ?_));clear H;intro a H;refine qW H wn rfl rfl ?_;clear H;intro a H;refine s_call Vx H wn rfl (Yc _ _ H.ro l (fun x=>decide (x.kind=kind) && JL x.name name) _ _ ((hv.mono hma).mono hmb) (fun x _=>agb q4 q5 x)) rfl ?_;clear H;rintro v11 xP a w rfl L8 H;refine kH H (aU K2 rfl (SR fun _ K3=>Rm rfl ?_));clear H K2;intro a H;refine JU H wn rfl rfl rfl ?_;clear H;intro a H;refine kH H (Rm rfl (Rc rfl (Ra rfl (ak K3 rfl ?_))));clear H K3;intro a H;refine cK ?_;refine (eG H results132 (.cons (aS H rfl) (.cons (aS H rfl) .nil)) ?_).1;exact H.rt (by rw [← Yh];rfl)
theorem agi (G:GH) (w0:World) (hG:Hold G w0) (l:List bU) (id:Int) (v:aj) (hv:ay G (.sl 6 (l.map bU.dat)) v) :
  Calls prog 134 #[v,vi id] w0 (bq w0 G fun u G'=>u=.tuple #[vi (max (oq (LA l id)) 0),.bool (LA l id).isSome]):=by
 obtain ⟨A,c,rfl,hc1,hc2,-⟩:=hv.slice;rw [bV] at *;refine eN [(0,_),(1,_)] func134 rfl ntmps134 rfl rfl hG ?_;intro a H;refine dH (fun _ K1=>?_);refine fC (cs:=[_]) H wn rfl rfl rfl ?_;clear H;intro b3 a w hb3 H;refine kH H (Ra rfl (ak K1 rfl (SQ fun _ K2=>?_)));clear H K1;intro a H;obtain ⟨Ga,hma,Bh,H⟩:=H.eu
 have q3:aJ Ga b3 0=some (vi id):=by unfold aJ;rw [Bh];rfl
 refine kP H (SC (Rm rfl ?_));clear H;intro a H;refine qW H wn rfl rfl ?_;clear H;intro a H;refine s_call Vx H wn rfl (Yc _ _ H.ro l (fun x=>decide (x.id=id)) _ _ (hv.mono hma) (fun x _=>aga q3 x)) rfl ?_;clear H;rintro v9 G9 a w rfl yK H;refine kH H (aU K2 rfl (SR fun _ K3=>Rm rfl ?_));clear H K2;intro a H;refine JU H wn rfl rfl rfl ?_;clear H;intro a H;refine kH H (Rm rfl (Rc rfl (Ra rfl (ak K3 rfl ?_))));clear H K3;intro a H;refine cK ?_;refine (eG H results134 (.cons (aS H rfl) (.cons (aS H rfl) .nil)) ?_).1;exact H.rt (by rw [← Yh];rfl)
def Ez (l:List bU) (kind id:Int):Bool:=match LA l id with|some i=>decide ((l[i]?.map bU.kind)=some kind)|none=>false
theorem QT (G:GH) (w0:World) (hG:Hold G w0) (l:List bU) (kind id:Int) (v:aj) (hv:ay G (.sl 6 (l.map bU.dat)) v) :
  Calls prog 114 #[v,vi kind,vi id] w0 (bq w0 G fun u G'=>u=.bool (Ez l kind id)):=by
 obtain ⟨A,c,rfl,hc1,hc2,-⟩:=hv.slice;rw [bV] at *;refine eN [(0,_),(1,_),(2,_)] func114 rfl ntmps114 rfl rfl hG ?_;intro a H;refine kP H (SR fun _ K1=>ak K1 rfl (SR fun _ K2=>Rm rfl (Rm rfl ?_)));clear H K1;intro a H;refine s_call aek H wn rfl (agi _ _ H.ro l id _ hv) rfl ?_;clear H;rintro v12 BX a w rfl Eo H;obtain ⟨o,ho⟩:∃ o,o=LA l id:=⟨_,rfl⟩;rw [← ho] at H;refine kH H (Rm rfl ?_);clear H;intro a H;(iterate 2 refine jc H wn rfl rfl rfl ?_;clear H;intro a H);refine kH H (Ra rfl (ak K2 rfl (SR fun _ K3=>Rm rfl (Rm rfl (Sp 16 rfl ?_ ?_))))) <;> clear H K2
 ·intro h16 a H
  try have p16:=dT h16
  obtain ⟨i,rfl⟩:=Option.isSome_iff_exists.1 h16
  have hil:i < l.length:=by
   obtain ⟨hi,-⟩:=List.findIdx?_eq_some_iff_getElem.1 ho.symm;exact hi
  rw [show max (oq (some i)) 0=(i:Int) by simp [oq]] at H;obtain ⟨b,o',pA,pc,rfl,hrow,hp,hrep⟩:=BM (hv.mono Eo) hil;have r1:aJ BX b (o'+i*6+1)=some (vi l[i].kind):=hrow 1 _ rfl;refine kH H (YM h16 rfl (YM h16 rfl (YI nV kI h16 rfl rfl (YF wZ h16 rfl (YR aH h16 rfl (by assumption) ?_)))));clear H;intro a H;refine kH H (YM h16 rfl (YC h16 rfl (Pt h16 rfl (ak K3 rfl ?_))));clear H K3;intro a H;refine lr H results114 rfl ?_
  first
   | exact H.rt (aF (by rw [Ez,← ho];dsimp only;rw [iA hil];simp))
   | exact H.rt (aF (by rw [Ez,← ho];cases o <;> simp_all))
 intro h16 a H
 try have p16:=dF h16
 refine kH H (bC h16 rfl (aR h16 rfl (aR h16 rfl (Pf h16 rfl (ak K3 rfl ?_)))));clear H K3;intro a H;refine lr H results114 rfl ?_
 first
  | exact H.rt (aF (by rw [Ez,← ho];dsimp only;rw [iA hil];simp))
  | exact H.rt (aF (by rw [Ez,← ho];cases o <;> simp_all))
end
section
open Go.RowKit
section
variable {N:Nat} {D:List Deferred} {w0:World} {F:Nat→Prop} {G0 G:GH} {L Li Lo:OL} {T:List (Nat × aj)}
variable {r:Option Nat} {P:Program} {ops:Array Oper} {Q:Exit→Act→World→Prop} {rest:List Oper} {a:Act} {w:World}
variable {d:Nat} {ty:TypeId} {pos:String} {aM:Array Edge} {g:Option (Nat × Bool)}
theorem ajA (z:aj) (n:Nat):madeCells #[z] n=(List.replicate n z).toArray:=by
 apply Array.ext
 ·simp [madeCells]
 ·intro i h1 h2
  simp [madeCells,Nat.mod_one]
theorem alu {t e:TypeId} {z:aj} {bytes:Nat} {x y:Operand} {p:Int} (n:Nat) (hs:P.underlying t=some (.slice e)) (ht:Ty P e 1 bytes [z] false) (H:St N D w0 F G0 G L T a w) (hw:Region.wanted ⟨some d,.makeSlice t x y,ty,pos,aM,g⟩ (yielded ops a.tmps)=true)
  (hx:ev T x=some (.int .i64 p)) (hy:ev T y=some (.int .i64 p)) (hp:p=(n:Int)) (hb:bytes*n≤281474976710656) (h63:n≤9223372036854775807) (hd:Nat.blt d N=true)
  (k:∀ b a' w',w0.heap.size≤b→St N D w0 F G0 G ((b,.cells (List.replicate n z).toArray e (0,0)) :: L) ((d,.slice (some ⟨b,0,none⟩) n n) :: T) a' w'→WL r P ops Q rest a' w'):WL r P ops Q (⟨some d,.makeSlice t x y,ty,pos,aM,g⟩ :: rest) a w:=by
 obtain ⟨i,z0,hi,hi1,hi2,hi3,hi4⟩:=ht.parts
 subst hp
 have hz:z0.cells=#[z]:=by rw [hi4]
 have hb':(i.bytes:Int)*(n:Int)≤281474976710656:=by
  rw [hi2,← Int.natCast_mul];omega
 have hr:=run_make (P:=P) w t e i z0 hs hi hi3 .i64 .i64 (n:Int) (n:Int) (by omega) (Int.le_refl _) hb' (by omega)
 rw [hi1,hz,Nat.mul_one,Int.toNat_natCast,ajA] at hr
 refine fq (v:=.slice (some ⟨w.heap.size,0,none⟩) n n) (w':=w.alloc (.cells (List.replicate n z).toArray e (0,0))) hw rfl ?_ (k _ _ _ H.hp.size (H.put hd _ (H.hp.alloc _)))
 simp only [execOp,H.ev hx,H.ev hy,cZ,hr,jT,oZ]
theorem ZU {t e:TypeId} {sz bytes:Nat} {zero:List aj} {agg:Bool} (hs:P.underlying t=some (.slice e)) (ht:Ty P e sz bytes zero agg) {x z:Operand} {A:Option Addr} {n c:Nat} (hi:Nat) {q:Int} (H:St N D w0 F G0 G L T a w)
  (hw:Region.wanted ⟨some d,.slice t x none (some z) none,ty,pos,aM,g⟩ (yielded ops a.tmps)=true) (hx:ev T x=some (.slice A n c)) (hz:ev T z=some (.int .i64 q)) (hq:q=(hi:Int)) (h2:hi≤c) (hd:Nat.blt d N=true)
  (k:∀ a',St N D w0 F G0 G L ((d,.slice A hi c) :: T) a' w→WL r P ops Q rest a' w):WL r P ops Q (⟨some d,.slice t x none (some z) none,ty,pos,aM,g⟩ :: rest) a w:=by
 subst hq
 refine fq (v:=.slice A hi c) (w':=w) hw rfl ?_ (k _ (H.put hd _ H.hp))
 simp [execOp,H.ev hx,H.ev hz,Instr.sliceAt,Instr.slice,Instr.sliceBounds,Instr.sliceBound,cZ,mD hs,ht.BI,asIntOf,h2]
 intro _
 cases A with
 | none=>rfl
 | some p=>simp [Addr.add]
end
end
section
open Go.RowKit
theorem KY:∀ args w,(callFunc 131 args).run prog w=.ok (.enter 131 args) w:=enters func131 rfl (by kernel_rfl)
theorem aei:∀ args w,(callFunc 132 args).run prog w=.ok (.enter 132 args) w:=enters func132 rfl (by kernel_rfl)
theorem V8:cB prog 181 5 5:=⟨by kernel_rfl⟩
theorem aej:∀ args w,(callFunc 133 args).run prog w=.ok (.enter 133 args) w:=enters func133 rfl (by kernel_rfl)
theorem VR:∀ args w,(callFunc 90 args).run prog w=.ok (.enter 90 args) w:=enters func90 rfl (by kernel_rfl)
theorem ay.pre {G:GH} {sz:Nat} {rows:List (List Dat)} {A:Option Addr} {n c:Nat} (h:ay G (.sl sz rows) (.slice A n c)) (k:Nat) (hk:k≤rows.length):ay G (.sl sz (rows.take k)) (.slice A k c):=by
 have h:=h.part 0 k (iB _) hk
 have e:(if c=0 then A else A.map (·.add (0*sz)))=A:=by
  split
  ·rfl
  cases A <;> simp [Addr.add]
 rw [e] at h
 simpa using h
theorem adK (G:GH) (w0:World) (hG:Hold G w0) (kind:Int):Calls prog 133 #[vi kind] w0 (bq w0 G fun u G'=>u=vi (if kind=1 then 2 else 1)):=by
 refine eN [(0,_)] func133 rfl ntmps133 rfl rfl hG ?_;intro a H;refine kP H (SR fun _ K1=>ak K1 rfl (SQ fun _ K2=>SR fun _ K3=>Rm rfl (Rc rfl (Kz K3 (Cd rfl ?_ ?_))))) <;> clear H K1 K3
 ·intro h4 a H
  try have p4:=dT h4
  exact kP H (SR fun _ K4=>ak K4 rfl (LR results133 rfl fun H=>H.rt (by first|(rw [av (by omega)];done)|rw [ah (by omega)])))
 intro h4 a H
 try have p4:=dF h4
 exact kP H (Kc K2 (SR fun _ K5=>ak K5 rfl (LR results133 rfl fun H=>H.rt (by first|(rw [av (by omega)];done)|rw [ah (by omega)]))))
def xG (l:List bU) (k:Nat):Option Int:=if k=0 then none else l[k - 1]?.map bU.id
theorem MQ {l:List bU} {k:Nat} (h:k=0):xG l k=none:=av h
def Fy (k:Int):Bool:=decide (k=20) || decide (k=1)
def lu (q:Option Int) (dup:Bool) (s:bU):Int :=
 if s.id < 1∨1073741824 < s.id then 18 else if q=some s.id then 7 else if Gq q s.id=true then 6 else if s.kind≠1∧s.kind≠2 then 3 else if nk s.name=false then 13 else if dup=true then 7
 else if s.props.any (fun p=>Fy p.key)=true then 4 else gQ (if s.kind=1 then 2 else 1) s.props
def iP (l:List bU) (k:Nat) (s:bU):Int:=lu (xG l k) (Cn (l.take k) s.kind s.name).isSome s
set_option maxHeartbeats 1000000 in
theorem akt (G:GH) (w0:World) (hG:Hold G w0) (l:List bU) (k:Nat) (v:aj) (hv:ay G (.sl 6 (l.map bU.dat)) v) (hk:k < l.length) (hs:l[k].name.size≤4611686018427387904) :
  Calls prog 113 #[v,vi k] w0 (bq w0 G fun u G'=>u=vi (iP l k l[k])):=by
 obtain ⟨A,c,rfl,hc1,hc2,-⟩:=hv.slice;have hml:maxLen=9223372036854775807:=rfl;rw [bV] at *;obtain ⟨b,o,pA,pc,rfl,hrow,hp,hrep⟩:=BM hv hk;obtain ⟨x,hx⟩:∃ x,x=l[k]:=⟨_,rfl⟩;rw [← hx] at hs hrow hp hrep ⊢;have hdp:∀ j v,[vi x.id,vi x.kind,.string x.name,vi x.base,vi x.next,.slice pA x.props.length pc][j]?=some v→aJ G b (o+k*6+j)=some v:=hrow;obtain ⟨_,_,he0,anS,anT,-⟩:=hp.slice
 injection he0 with _ he1 he2
 rw [bV] at *;subst he2
 obtain ⟨pk,hpk⟩:∃ pk,0 < k→aJ G b (o+(k - 1)*6+0)=some (vi pk)∧xG l k=some pk:=by
  by_cases h0:0 < k
  ·obtain ⟨b',o',_,_,he,hr',-,-⟩:=BM hv (show k - 1 < l.length by omega)
   injection he with he
   injection he with e1 e2 e3
   subst e1;subst e2;exact ⟨_,fun _=>⟨hr' 0 _ rfl,by rw [xG,ah (by omega),iA (by omega)];rfl⟩⟩
  exact ⟨0,fun h=>absurd h h0⟩
 refine eN [(0,_),(1,_)] func113 rfl ntmps113 rfl rfl hG ?_;intro a H;refine kP H (SR fun _ K1=>ak K1 rfl (SR fun _ K2=>Rm rfl (Rm rfl (Ri nV kI rfl rfl ?_))));clear H K1;intro a H;refine bJ kI (cs:=[_,_,_,_,_,_]) H wn rfl rfl (fun j v hj=>H.hp.aJ (hrow j v hj)) rfl ?_;clear H;intro a H;refine eB kI H wn rfl ?_;clear H;intro b5 a w hb5 H;refine bM kI 0 (vs:=[_,_,_,_,_,_]) _ H wn rfl rfl rfl rfl rfl rfl rfl rfl ?_;clear H;intro w H;dsimp only [List.set,setRow] at H;refine K2 _ _ ?_;clear K2;refine pE (ι:=GH) (Tc:=[(0,_),(1,_),(5,_)]) (Lc:=[(_,_)]) (fun gh=>[]) (fun gh=>[]) (fun gh=>gh) (fun gh=>¬ (x.id < 1∨1073741824 < x.id)∧¬ xG l k=some x.id∧¬ Gq (xG l k) x.id=true∧¬ (x.kind≠1∧x.kind≠2)∧¬ nk x.name=false∧(∀ b o,G b=some o→gh b=some o)) (by exact (H).sub ⟨rfl,rfl,rfl,aB⟩) ?_ ?_
 ·skip;refine kP H (SB (SR fun _ K3=>aT uR aH 0 rfl rfl (Rc rfl (Rm rfl (Sp 18 rfl ?_ ?_))))) <;> clear H
  ·intro h18 a H
   try have rV:=dT h18
   refine kH H (bC h18 rfl (Pt h18 rfl (ak K3 rfl (Ct rfl rfl (SR fun _ K4=>ak K4 rfl ?_)))));clear H K3 K4;intro a H;refine lr H results113 rfl ?_
   first
    | exact H.rt (aC vi e0.symm)
    | exact H.rt (aC vi e4.symm)
    | exact H.rt (aC vi e7.symm)
    | exact H.rt (aC vi e13.symm)
    | exact H.rt (aC vi e3.symm)
    | exact H.rt (aC vi e6.symm)
    | exact H.rt (aC vi (by rw [iP,lu,av (by omega)]))
  intro h18 a H
  try have rV:=dF h18
  refine kH H (YF uR h18 rfl (YO aH 0 h18 rfl (YC h18 rfl (Pf h18 rfl (ak K3 rfl (Cd rfl ?_ ?_)))))) <;> clear H K3
  ·intro dY a H
   try have lC:=dT dY
   refine kP H (SR fun _ K5=>ak K5 rfl ?_);clear H K5;intro a H;refine lr H results113 rfl ?_
   first
    | exact H.rt (aC vi e0.symm)
    | exact H.rt (aC vi e4.symm)
    | exact H.rt (aC vi e7.symm)
    | exact H.rt (aC vi e13.symm)
    | exact H.rt (aC vi e3.symm)
    | exact H.rt (aC vi e6.symm)
    | exact H.rt (aC vi (by rw [iP,lu,av (by omega)]))
  intro dY a H
  try have lC:=dF dY
  refine bK (fun _ K6=>?_)
  by_cases c0:0 < (k:Int)
  ·skip
   by_cases c1:x.id=pk
   ·skip;refine dI hmx [[],[0],[0,1],[0,1,2],(ra 0 4),[0,1,2],[0,1,2],[0,1,2,6],[0,1,2,5,6,7],[0,1,2,5,6,7,8],[0,1,2,5,6,7,8,9],(ra 0 11),(ra 0 12),(ra 0 13)] [13] (by kernel_rfl) [_,_,_,_,vi x.id,_,_,vi ((k - 1:Nat):Int),_,_,_,_,_] H (aD (Z0 rfl (Rm rfl)) (Z1 0 24 rfl (Rc rfl)) (Z1 1 25 rfl (Rm rfl)) (Z1 2 26 rfl (YF uR (aA c0) rfl)) (aD (Z2 3 27 2 26 rfl (YO aH 0 (aA c0) rfl)) (Z1 2 26 rfl (YM (aA c0) rfl)) (Z1 2 26 rfl (YM (aA c0) rfl)) ?_ (aD (Z3 5 29 7 31 2 26 rfl (YI nV kI (aA c0) rfl rfl)) (Z2 8 32 2 26 rfl (YF uR (aA c0) rfl)) (X2 9 33 2 26 rfl fun hG=>YR aH (aA c0) rfl (aO hG (hpk (by omega)).1)) (Z3 4 28 10 34 2 26 rfl (YC (aA c0) rfl)) (aZ (Z2 2 26 11 35 rfl (Pt (aA c0) rfl)) (aZ (bN rfl) cu))))) ?_
    ·refine bZ 6 30 2 26 rfl rfl fun _ a w G1 hG HT H fin=>?_;refine kX _ H (wg H rfl rfl (aA c0)) rfl rfl rfl (by omega) (by omega) rfl ?_;clear H;intro a H;exact fin H iJ (by show _=_;first|rfl|exact aC vi (by omega))
    clear H;intro a w G Bd H hv;have H:=H.aP (hv 12 36 rfl rfl) rfl;clear hv;refine kH H (Ra rfl ?_);clear H;intro a H;refine aG ⟨rfl,?_⟩;refine K6 _ _ ?_;clear K6;refine xY H rfl (aA c1) ?_;refine bK (fun _ K7=>?_)
    have e7:iP l k x=7:=by rw [iP,lu,ah (by omega),av (by rw [(hpk (by omega)).2,c1])]
    refine kP H (SC (aU K7 rfl ?_));clear H K7;intro a H;refine lr H results113 rfl ?_
    first
     | exact H.rt (aC vi e0.symm)
     | exact H.rt (aC vi e4.symm)
     | exact H.rt (aC vi e7.symm)
     | exact H.rt (aC vi e13.symm)
     | exact H.rt (aC vi e3.symm)
     | exact H.rt (aC vi e6.symm)
     | exact H.rt (aC vi (by rw [iP,lu,av (by omega)]))
   skip;refine dI hmx [[],[0],[0,1],[0,1,2],(ra 0 4),[0,1,2],[0,1,2],[0,1,2,6],[0,1,2,5,6,7],[0,1,2,5,6,7,8],[0,1,2,5,6,7,8,9],(ra 0 11),(ra 0 12),(ra 0 13)] [13] (by kernel_rfl) [_,_,_,_,vi x.id,_,_,vi ((k - 1:Nat):Int),_,_,_,_,_] H (aD (Z0 rfl (Rm rfl)) (Z1 0 24 rfl (Rc rfl)) (Z1 1 25 rfl (Rm rfl)) (Z1 2 26 rfl (YF uR (aA c0) rfl)) (aD (Z2 3 27 2 26 rfl (YO aH 0 (aA c0) rfl)) (Z1 2 26 rfl (YM (aA c0) rfl)) (Z1 2 26 rfl (YM (aA c0) rfl)) ?_ (aD (Z3 5 29 7 31 2 26 rfl (YI nV kI (aA c0) rfl rfl)) (Z2 8 32 2 26 rfl (YF uR (aA c0) rfl)) (X2 9 33 2 26 rfl fun hG=>YR aH (aA c0) rfl (aO hG (hpk (by omega)).1)) (Z3 4 28 10 34 2 26 rfl (YC (aA c0) rfl)) (aZ (Z2 2 26 11 35 rfl (Pt (aA c0) rfl)) (aZ (bN rfl) cu))))) ?_
   ·refine bZ 6 30 2 26 rfl rfl fun _ a w G1 hG HT H fin=>?_;refine kX _ H (wg H rfl rfl (aA c0)) rfl rfl rfl (by omega) (by omega) rfl ?_;clear H;intro a H;exact fin H iJ (by show _=_;first|rfl|exact aC vi (by omega))
   clear H;intro a w G Bd H hv;have H:=H.aP (hv 12 36 rfl rfl) rfl;clear hv;refine kH H (Ra rfl ?_);clear H;intro a H;refine aG ⟨rfl,?_⟩;refine K6 _ _ ?_;clear K6;refine mX H rfl (aN c1) ?_;refine bK (fun _ K8=>?_)
   have q1:¬ (0 < (k:Int)∧x.id=pk):=by first|exact fun h=>c1 h.2|exact fun h=>c0 h.1
   have q1':¬ xG l k=some x.id:=fun h=>q1 (by
    by_cases h0:0 < k
    ·rw [(hpk h0).2] at h
     injection h with h
     exact ⟨by omega,h.symm⟩
    rw [MQ (by omega)] at h
    cases h)
   by_cases c3:x.id < pk
   ·skip;refine dI hmx [[],[0],[0,1],[0,1,2],(ra 0 4),[0,1,2],[0,1,2],[0,1,2,6],[0,1,2,5,6,7],[0,1,2,5,6,7,8],[0,1,2,5,6,7,8,9],(ra 0 11),(ra 0 12),(ra 0 13)] [13] (by kernel_rfl) [_,_,_,_,vi x.id,_,_,vi ((k - 1:Nat):Int),_,_,_,_,_] H (aD (Z0 rfl (Rm rfl)) (Z1 0 38 rfl (Rc rfl)) (Z1 1 39 rfl (Rm rfl)) (Z1 2 40 rfl (YF uR (aA c0) rfl)) (aD (Z2 3 41 2 40 rfl (YO aH 0 (aA c0) rfl)) (Z1 2 40 rfl (YM (aA c0) rfl)) (Z1 2 40 rfl (YM (aA c0) rfl)) ?_ (aD (Z3 5 43 7 45 2 40 rfl (YI nV kI (aA c0) rfl rfl)) (Z2 8 46 2 40 rfl (YF uR (aA c0) rfl)) (X2 9 47 2 40 rfl fun hG=>YR aH (aA c0) rfl (aO hG (aO Bd (hpk (by omega)).1))) (Z3 4 42 10 48 2 40 rfl (YC (aA c0) rfl)) (aZ (Z2 2 40 11 49 rfl (Pt (aA c0) rfl)) (aZ (bN rfl) cu))))) ?_
    ·refine bZ 6 44 2 40 rfl rfl fun _ a w G1 hG HT H fin=>?_;refine kX _ H (wg H rfl rfl (aA c0)) rfl rfl rfl (by omega) (by omega) rfl ?_;clear H;intro a H;exact fin H iJ (by show _=_;first|rfl|exact aC vi (by omega))
    clear H;intro a w G iq H hv;have H:=H.aP (hv 12 50 rfl rfl) rfl;clear hv;refine kH H (Ra rfl ?_);clear H;intro a H;refine aG ⟨rfl,?_⟩;refine K8 _ _ ?_;clear K8;refine xY H rfl (aA c3) ?_;refine bK (fun _ K9=>?_)
    have e6:iP l k x=6:=by rw [iP,lu,ah (by omega),ah q1',av (by rw [(hpk (by omega)).2];exact aA c3)]
    refine kP H (SC (aU K9 rfl ?_));clear H K9;intro a H;refine lr H results113 rfl ?_
    first
     | exact H.rt (aC vi e0.symm)
     | exact H.rt (aC vi e4.symm)
     | exact H.rt (aC vi e7.symm)
     | exact H.rt (aC vi e13.symm)
     | exact H.rt (aC vi e3.symm)
     | exact H.rt (aC vi e6.symm)
     | exact H.rt (aC vi (by rw [iP,lu,av (by omega)]))
   skip;refine dI hmx [[],[0],[0,1],[0,1,2],(ra 0 4),[0,1,2],[0,1,2],[0,1,2,6],[0,1,2,5,6,7],[0,1,2,5,6,7,8],[0,1,2,5,6,7,8,9],(ra 0 11),(ra 0 12),(ra 0 13)] [13] (by kernel_rfl) [_,_,_,_,vi x.id,_,_,vi ((k - 1:Nat):Int),_,_,_,_,_] H (aD (Z0 rfl (Rm rfl)) (Z1 0 38 rfl (Rc rfl)) (Z1 1 39 rfl (Rm rfl)) (Z1 2 40 rfl (YF uR (aA c0) rfl)) (aD (Z2 3 41 2 40 rfl (YO aH 0 (aA c0) rfl)) (Z1 2 40 rfl (YM (aA c0) rfl)) (Z1 2 40 rfl (YM (aA c0) rfl)) ?_ (aD (Z3 5 43 7 45 2 40 rfl (YI nV kI (aA c0) rfl rfl)) (Z2 8 46 2 40 rfl (YF uR (aA c0) rfl)) (X2 9 47 2 40 rfl fun hG=>YR aH (aA c0) rfl (aO hG (aO Bd (hpk (by omega)).1))) (Z3 4 42 10 48 2 40 rfl (YC (aA c0) rfl)) (aZ (Z2 2 40 11 49 rfl (Pt (aA c0) rfl)) (aZ (bN rfl) cu))))) ?_
   ·refine bZ 6 44 2 40 rfl rfl fun _ a w G1 hG HT H fin=>?_;refine kX _ H (wg H rfl rfl (aA c0)) rfl rfl rfl (by omega) (by omega) rfl ?_;clear H;intro a H;exact fin H iJ (by show _=_;first|rfl|exact aC vi (by omega))
   clear H;intro a w G iq H hv;have H:=H.aP (hv 12 50 rfl rfl) rfl;clear hv;refine kH H (Ra rfl ?_);clear H;intro a H;refine aG ⟨rfl,?_⟩;refine K8 _ _ ?_;clear K8;refine mX H rfl (aN c3) ?_;refine bK (fun _ aQ=>?_)
   have q2:¬ (0 < (k:Int)∧x.id < pk):=by first|exact fun h=>c3 h.2|exact fun h=>c0 h.1
   have q2':¬ Gq (xG l k) x.id=true:=fun h=>q2 (by
    by_cases h0:0 < k
    ·rw [(hpk h0).2] at h;exact ⟨by omega,oG h⟩
    rw [MQ (by omega)] at h
    cases h)
   refine kP H (SC (aT wZ aH 0 rfl rfl (Rc rfl (Rm rfl (Sp 55 rfl ?_ ?_))))) <;> clear H
   ·intro lU a H
    try have p55:=dT lU
    refine kH H (YF wZ lU rfl (YO aH 0 lU rfl (YC lU rfl (Pt lU rfl (aU aQ rfl (Cd rfl ?_ ?_)))))) <;> clear H aQ
    ·intro jB a H
     try have p51:=dT jB
     refine bK (fun _ bH=>?_)
     have e3:iP l k x=3:=by rw [iP,lu,ah (by omega),ah q1',ah q2',av (by omega)]
     refine kP H (SC (aU bH rfl ?_));clear H bH;intro a H;refine lr H results113 rfl ?_
     first
      | exact H.rt (aC vi e0.symm)
      | exact H.rt (aC vi e4.symm)
      | exact H.rt (aC vi e7.symm)
      | exact H.rt (aC vi e13.symm)
      | exact H.rt (aC vi e3.symm)
      | exact H.rt (aC vi e6.symm)
      | exact H.rt (aC vi (by rw [iP,lu,av (by omega)]))
    intro jB a H
    try have p51:=dF jB
    refine kP H (SR fun _ bL=>aT FN fV 0 rfl rfl ?_);clear H;intro a H;refine s_call KY H wn rfl (Mq _ _ H.ro x.name hs) rfl ?_;clear H;rintro v63 Dw a w rfl hm63 H;refine kH H (Rn rfl (ak bL rfl (Cd rfl ?_ ?_))) <;> clear H bL
    ·intro jC a H
     try have p60:=dT jC
     refine bK (fun _ bR=>?_)
     have e13:iP l k x=13:=by rw [iP,lu,ah (by omega),ah q1',ah q2',ah (by omega),av (by simpa using jC)]
     refine kP H (SC (aU bR rfl ?_));clear H bR;intro a H;refine lr H results113 rfl ?_
     first
      | exact H.rt (aC vi e0.symm)
      | exact H.rt (aC vi e4.symm)
      | exact H.rt (aC vi e7.symm)
      | exact H.rt (aC vi e13.symm)
      | exact H.rt (aC vi e3.symm)
      | exact H.rt (aC vi e6.symm)
      | exact H.rt (aC vi (by rw [iP,lu,av (by omega)]))
    intro jC a H
    try have p60:=dF jC
    refine fZ ?_;refine ⟨Dw,by exact (H).sub ⟨rfl,rfl,rfl,aB⟩,?_⟩;exact ⟨by omega,q1',q2',by omega,by simpa using jC,fun b o h=>hm63 b o (iq b o (Bd b o h))⟩
   intro lU a H
   try have p55:=dF lU
   refine kH H (bC lU rfl (Pf lU rfl (aU aQ rfl (Cf rfl rfl (SR fun _ bQ=>aT FN fV 0 rfl rfl ?_)))));clear H aQ;intro a H;refine s_call KY H wn rfl (Mq _ _ H.ro x.name hs) rfl ?_;clear H;rintro v63 Dw a w rfl hm63 H;refine kH H (Rn rfl (ak bQ rfl (Cd rfl ?_ ?_))) <;> clear H bQ
   ·intro jC a H
    try have p60:=dT jC
    refine bK (fun _ dJ=>?_)
    have e13:iP l k x=13:=by rw [iP,lu,ah (by omega),ah q1',ah q2',ah (by omega),av (by simpa using jC)]
    refine kP H (SC (aU dJ rfl ?_));clear H dJ;intro a H;refine lr H results113 rfl ?_
    first
     | exact H.rt (aC vi e0.symm)
     | exact H.rt (aC vi e4.symm)
     | exact H.rt (aC vi e7.symm)
     | exact H.rt (aC vi e13.symm)
     | exact H.rt (aC vi e3.symm)
     | exact H.rt (aC vi e6.symm)
     | exact H.rt (aC vi (by rw [iP,lu,av (by omega)]))
   intro jC a H
   try have p60:=dF jC
   refine fZ ?_;refine ⟨Dw,by exact (H).sub ⟨rfl,rfl,rfl,aB⟩,?_⟩;exact ⟨by omega,q1',q2',by omega,by simpa using jC,fun b o h=>hm63 b o (iq b o (Bd b o h))⟩
  skip;refine dI hmx [[],[0],[0,1],[0,1,2],(ra 0 4),[0,1,2],[0,1,2],[0,1,2,6],[0,1,2,5,6,7],[0,1,2,5,6,7,8],[0,1,2,5,6,7,8,9],(ra 0 11),(ra 0 12),(ra 0 13)] [13] (by kernel_rfl) [_,_,_,undef,undef,undef,undef,undef,undef,undef,undef,undef,_] H (aD (Z0 rfl (Rm rfl)) (Z1 0 24 rfl (Rc rfl)) (Z1 1 25 rfl (Rm rfl)) (aK (j:=2) (by kernel_rfl) (fun _ _ _ _ _ h=>h) rfl rfl rfl rfl rfl (fun _ _ h=>aL h (aF (aN c0))) rfl (fun _=>rfl)) (aD (aK (j:=2) (by kernel_rfl) (fun _ _ _ _ _ h=>h) rfl rfl rfl rfl rfl (fun _ _ h=>aL h (aF (aN c0))) rfl (fun _=>rfl)) (aK (j:=2) (by kernel_rfl) (fun _ _ _ _ _ h=>h) rfl rfl rfl rfl rfl (fun _ _ h=>aL h (aF (aN c0))) rfl (fun _=>rfl)) (aK (j:=2) (by kernel_rfl) (fun _ _ _ _ _ h=>h) rfl rfl rfl rfl rfl (fun _ _ h=>aL h (aF (aN c0))) rfl (fun _=>rfl)) (aK (j:=2) (by kernel_rfl) (fun _ _ _ _ _ h=>h) rfl rfl rfl rfl rfl (fun _ _ h=>aL h (aF (aN c0))) rfl (fun _=>rfl)) (aD (aK (j:=2) (by kernel_rfl) (fun _ _ _ _ _ h=>h) rfl rfl rfl rfl rfl (fun _ _ h=>aL h (aF (aN c0))) rfl (fun _=>rfl)) (aK (j:=2) (by kernel_rfl) (fun _ _ _ _ _ h=>h) rfl rfl rfl rfl rfl (fun _ _ h=>aL h (aF (aN c0))) rfl (fun _=>rfl)) (aK (j:=2) (by kernel_rfl) (fun _ _ _ _ _ h=>h) rfl rfl rfl rfl rfl (fun _ _ h=>aL h (aF (aN c0))) rfl (fun _=>rfl)) (aK (j:=2) (by kernel_rfl) (fun _ _ _ _ _ h=>h) rfl rfl rfl rfl rfl (fun _ _ h=>aL h (aF (aN c0))) rfl (fun _=>rfl)) (aZ (Z2 2 26 11 35 rfl (Pf (aN c0) rfl)) (aZ (bN rfl) cu))))) ?_
  clear H;intro a w G Bd H hv;have H:=H.aP (hv 12 36 rfl rfl) rfl;clear hv;refine kH H (Ra rfl ?_);clear H;intro a H;refine aG ⟨rfl,?_⟩;refine K6 _ _ ?_;clear K6;refine mX H rfl rfl ?_;refine bK (fun _ dO=>?_)
  have q1:¬ (0 < (k:Int)∧x.id=pk):=by first|exact fun h=>c1 h.2|exact fun h=>c0 h.1
  have q1':¬ xG l k=some x.id:=fun h=>q1 (by
   by_cases h0:0 < k
   ·rw [(hpk h0).2] at h
    injection h with h
    exact ⟨by omega,h.symm⟩
   rw [MQ (by omega)] at h
   cases h)
  refine dI hmx [[],[0],[0,1],[0,1,2],(ra 0 4),[0,1,2],[0,1,2],[0,1,2,6],[0,1,2,5,6,7],[0,1,2,5,6,7,8],[0,1,2,5,6,7,8,9],(ra 0 11),(ra 0 12),(ra 0 13)] [13] (by kernel_rfl) [_,_,_,undef,undef,undef,undef,undef,undef,undef,undef,undef,_] H (aD (Z0 rfl (Rm rfl)) (Z1 0 38 rfl (Rc rfl)) (Z1 1 39 rfl (Rm rfl)) (aK (j:=2) (by kernel_rfl) (fun _ _ _ _ _ h=>h) rfl rfl rfl rfl rfl (fun _ _ h=>aL h (aF (aN c0))) rfl (fun _=>rfl)) (aD (aK (j:=2) (by kernel_rfl) (fun _ _ _ _ _ h=>h) rfl rfl rfl rfl rfl (fun _ _ h=>aL h (aF (aN c0))) rfl (fun _=>rfl)) (aK (j:=2) (by kernel_rfl) (fun _ _ _ _ _ h=>h) rfl rfl rfl rfl rfl (fun _ _ h=>aL h (aF (aN c0))) rfl (fun _=>rfl)) (aK (j:=2) (by kernel_rfl) (fun _ _ _ _ _ h=>h) rfl rfl rfl rfl rfl (fun _ _ h=>aL h (aF (aN c0))) rfl (fun _=>rfl)) (aK (j:=2) (by kernel_rfl) (fun _ _ _ _ _ h=>h) rfl rfl rfl rfl rfl (fun _ _ h=>aL h (aF (aN c0))) rfl (fun _=>rfl)) (aD (aK (j:=2) (by kernel_rfl) (fun _ _ _ _ _ h=>h) rfl rfl rfl rfl rfl (fun _ _ h=>aL h (aF (aN c0))) rfl (fun _=>rfl)) (aK (j:=2) (by kernel_rfl) (fun _ _ _ _ _ h=>h) rfl rfl rfl rfl rfl (fun _ _ h=>aL h (aF (aN c0))) rfl (fun _=>rfl)) (aK (j:=2) (by kernel_rfl) (fun _ _ _ _ _ h=>h) rfl rfl rfl rfl rfl (fun _ _ h=>aL h (aF (aN c0))) rfl (fun _=>rfl)) (aK (j:=2) (by kernel_rfl) (fun _ _ _ _ _ h=>h) rfl rfl rfl rfl rfl (fun _ _ h=>aL h (aF (aN c0))) rfl (fun _=>rfl)) (aZ (Z2 2 40 11 49 rfl (Pf (aN c0) rfl)) (aZ (bN rfl) cu))))) ?_
  clear H;intro a w G iq H hv;have H:=H.aP (hv 12 50 rfl rfl) rfl;clear hv;refine kH H (Ra rfl ?_);clear H;intro a H;refine aG ⟨rfl,?_⟩;refine dO _ _ ?_;clear dO;refine mX H rfl rfl ?_;refine bK (fun _ dK=>?_)
  have q2:¬ (0 < (k:Int)∧x.id < pk):=by first|exact fun h=>c3 h.2|exact fun h=>c0 h.1
  have q2':¬ Gq (xG l k) x.id=true:=fun h=>q2 (by
   by_cases h0:0 < k
   ·rw [(hpk h0).2] at h;exact ⟨by omega,oG h⟩
   rw [MQ (by omega)] at h
   cases h)
  refine kP H (SC (aT wZ aH 0 rfl rfl (Rc rfl (Rm rfl (Sp 55 rfl ?_ ?_))))) <;> clear H
  ·intro lU a H
   try have p55:=dT lU
   refine kH H (YF wZ lU rfl (YO aH 0 lU rfl (YC lU rfl (Pt lU rfl (aU dK rfl (Cd rfl ?_ ?_)))))) <;> clear H dK
   ·intro jB a H
    try have p51:=dT jB
    refine bK (fun _ eO=>?_)
    have e3:iP l k x=3:=by rw [iP,lu,ah (by omega),ah q1',ah q2',av (by omega)]
    refine kP H (SC (aU eO rfl ?_));clear H eO;intro a H;refine lr H results113 rfl ?_
    first
     | exact H.rt (aC vi e0.symm)
     | exact H.rt (aC vi e4.symm)
     | exact H.rt (aC vi e7.symm)
     | exact H.rt (aC vi e13.symm)
     | exact H.rt (aC vi e3.symm)
     | exact H.rt (aC vi e6.symm)
     | exact H.rt (aC vi (by rw [iP,lu,av (by omega)]))
   intro jB a H
   try have p51:=dF jB
   refine kP H (SR fun _ gH=>aT FN fV 0 rfl rfl ?_);clear H;intro a H;refine s_call KY H wn rfl (Mq _ _ H.ro x.name hs) rfl ?_;clear H;rintro v63 Dw a w rfl hm63 H;refine kH H (Rn rfl (ak gH rfl (Cd rfl ?_ ?_))) <;> clear H gH
   ·intro jC a H
    try have p60:=dT jC
    refine bK (fun _ fE=>?_)
    have e13:iP l k x=13:=by rw [iP,lu,ah (by omega),ah q1',ah q2',ah (by omega),av (by simpa using jC)]
    refine kP H (SC (aU fE rfl ?_));clear H fE;intro a H;refine lr H results113 rfl ?_
    first
     | exact H.rt (aC vi e0.symm)
     | exact H.rt (aC vi e4.symm)
     | exact H.rt (aC vi e7.symm)
     | exact H.rt (aC vi e13.symm)
     | exact H.rt (aC vi e3.symm)
     | exact H.rt (aC vi e6.symm)
     | exact H.rt (aC vi (by rw [iP,lu,av (by omega)]))
   intro jC a H
   try have p60:=dF jC
   refine fZ ?_;refine ⟨Dw,by exact (H).sub ⟨rfl,rfl,rfl,aB⟩,?_⟩;exact ⟨by omega,q1',q2',by omega,by simpa using jC,fun b o h=>hm63 b o (iq b o (Bd b o h))⟩
  intro lU a H
  try have p55:=dF lU
  refine kH H (bC lU rfl (Pf lU rfl (aU dK rfl (Cf rfl rfl (SR fun _ gL=>aT FN fV 0 rfl rfl ?_)))));clear H dK;intro a H;refine s_call KY H wn rfl (Mq _ _ H.ro x.name hs) rfl ?_;clear H;rintro v63 Dw a w rfl hm63 H;refine kH H (Rn rfl (ak gL rfl (Cd rfl ?_ ?_))) <;> clear H gL
  ·intro jC a H
   try have p60:=dT jC
   refine bK (fun _ jl=>?_)
   have e13:iP l k x=13:=by rw [iP,lu,ah (by omega),ah q1',ah q2',ah (by omega),av (by simpa using jC)]
   refine kP H (SC (aU jl rfl ?_));clear H jl;intro a H;refine lr H results113 rfl ?_
   first
    | exact H.rt (aC vi e0.symm)
    | exact H.rt (aC vi e4.symm)
    | exact H.rt (aC vi e7.symm)
    | exact H.rt (aC vi e13.symm)
    | exact H.rt (aC vi e3.symm)
    | exact H.rt (aC vi e6.symm)
    | exact H.rt (aC vi (by rw [iP,lu,av (by omega)]))
  intro jC a H
  try have p60:=dF jC
  refine fZ ?_;refine ⟨Dw,by exact (H).sub ⟨rfl,rfl,rfl,aB⟩,?_⟩;exact ⟨by omega,q1',q2',by omega,by simpa using jC,fun b o h=>hm63 b o (iq b o (Bd b o h))⟩
 clear H;intro gh a w hI H;obtain ⟨g,hgh⟩:∃ x,x=gh:=⟨_,rfl⟩;subst hgh;obtain ⟨q0,q1',q2',q3,q4,hgm⟩:=hI;dsimp only [lca,bG] at H;refine bK (fun _ kC=>?_);refine bK (fun _ jY=>?_);have XR:=(hv.mono hgm).pre k (by rw [bV];omega);rw [← List.map_take] at XR;have aib:=hp.mono hgm;refine dI hmx [[],[],[0,1],[],[3],[],[5],(ra 0 7),(ra 0 8),(ra 0 9),(ra 0 9),(ra 0 10),(ra 0 12)] [12] (by kernel_rfl) [_,_,.slice (some ⟨b,o,none⟩) k c,_,vi x.kind,_,.string x.name,.tuple #[vi (max (oq (Cn (l.take k) x.kind x.name)) 0),.bool (Cn (l.take k) x.kind x.name).isSome],_,vi (max (oq (Cn (l.take k) x.kind x.name)) 0),.bool (Cn (l.take k) x.kind x.name).isSome,_] H (aD (Z0 rfl (Rm rfl)) (Z0 rfl (Rm rfl)) ?_ (Z0 rfl (Rf wZ rfl)) (aD (Z1 3 69 rfl (Ro aH 0 rfl)) (Z0 rfl (Rf FN rfl)) (Z1 5 71 rfl (Ro fV 0 rfl)) ?_ (aD (Z1 7 73 rfl (Rm rfl)) ?_ ?_ (Z1 9 74 rfl (Ra rfl)) (aZ (bN rfl) cu)))) ?_
 ·refine bZ 0 66 1 67 rfl rfl fun _ a w G1 hG HT H fin=>?_;refine ZU nV kI k H wn rfl rfl rfl (by omega) rfl ?_;clear H;intro a H;exact fin H iJ rfl
 ·refine nD 2 68 4 70 6 72 rfl rfl fun _ a w G1 hG HT H fin=>?_;refine s_call aei H wn rfl (agc _ _ H.ro (l.take k) x.kind x.name _ (XR.mono hG)) rfl ?_;clear H;rintro v73 G73 a w rfl agP H;exact fin H agP (rfl)
 ·refine dB 8 65 rfl rfl fun _ a w G1 hG HT H fin=>?_;refine jc H wn rfl rfl rfl ?_;clear H;intro a H;exact fin H iJ rfl
 ·refine dB 8 65 rfl rfl fun _ a w G1 hG HT H fin=>?_;refine jc H wn rfl rfl rfl ?_;clear H;intro a H;exact fin H iJ rfl
 clear H;intro a w G ni H hv;have H:=H.aP (hv 10 75 rfl rfl) rfl;clear hv;refine kH H (Ra rfl ?_);clear H;intro a H;refine aG ⟨rfl,?_⟩;refine jY _ _ ?_;clear jY;refine kP H (SR fun _ jJ=>Rm rfl (Kz jJ (Cd rfl ?_ ?_))) <;> clear H jJ
 ·intro Ba a H
  try have RG:=dT Ba
  refine bK (fun _ kJ=>?_)
  have e7:iP l k x=7:=by rw [iP,lu,ah (by omega),ah q1',ah q2',ah q3,ah q4,av Ba]
  refine kP H (SC (aU kJ rfl ?_));clear H kJ;intro a H;refine lr H results113 rfl ?_
  first
   | exact H.rt (aC vi e0.symm)
   | exact H.rt (aC vi e4.symm)
   | exact H.rt (aC vi e7.symm)
   | exact H.rt (aC vi e13.symm)
   | exact H.rt (aC vi e3.symm)
   | exact H.rt (aC vi e6.symm)
   | exact H.rt (aC vi (by rw [iP,lu,av (by omega)]))
 intro Ba a H
 try have RG:=dF Ba
 refine kP H (Kc kC (SQ fun _ lF=>SQ fun _ jK=>?_));clear H kC;intro a H
 have q5:¬ (Cn (l.take k) x.kind x.name).isSome=true:=by simpa using Ba
 have CG:=aib.mono ni;refine kP H (SC (aT V8 BP 0 rfl rfl (Rl qd rfl (Rm rfl (Kn jK (SB ?_))))));clear H jK;intro a H;skip;refine eU (ι:=Nat) (Tc:=[(5,_),(78,_),(79,_)]) (Lc:=[(_,_)]) (fun gh=>[(80,vi gh)]) (fun gh=>[]) (fun gh=>G) (fun gh=>gh≤x.props.length∧(x.props.take gh).any (fun p=>Fy p.key)=false) (fun gh=>x.props.length - gh) (0) (by exact (H).sub ⟨rfl,rfl,rfl,rfl,aB⟩) ?_ ?_
 ·exact ⟨iB _,rfl⟩
 clear H;intro gh a w hI H;obtain ⟨n,hgh⟩:∃ x,x=gh:=⟨_,rfl⟩;subst hgh;obtain ⟨hn,hno⟩:=hI;dsimp only [lca,bG] at H;refine kP H (SR fun _ oV=>Rc rfl (Kz oV (SQ fun _ qh=>Cd rfl ?_ ?_))) <;> clear H oV
 ·intro PN a H
  try have p81:=dT PN
  have hn2:n < x.props.length:=by omega
  obtain ⟨pb,po,rfl,hrow2⟩:=MR CG hn2;have hrow:=hrow2;refine kP H (Kc qh (SQ fun _ qH=>SB (SR fun _ rC=>Ri qd nT rfl rfl ?_)));clear H qh;intro a H;refine bJ nT (cs:=[_,_]) H wn rfl rfl (fun j v hj=>H.hp.aJ (hrow j v hj)) rfl ?_;clear H;intro a H;refine eB nT H wn rfl ?_;clear H;intro b9 a w yH H;refine bM nT 0 (vs:=[_,_]) _ H wn rfl rfl rfl rfl rfl rfl rfl rfl ?_;clear H;intro w H;dsimp only [List.set,setRow] at H;refine rC _ _ ?_;clear rC;refine kP H (SR fun _ qI=>aT vV aH 0 rfl rfl (Rc rfl (Rm rfl (Sp 87 rfl ?_ ?_)))) <;> clear H
  ·intro h87 a H
   try have RJ:=dT h87
   refine kH H (bC h87 rfl (Pt h87 rfl (Kz qI (Ct rfl rfl (SQ fun _ tL=>?_)))));clear H qI;intro a H
   have e4:iP l k x=4:=by
    rw [iP,lu,ah (by omega),ah q1',ah q2',ah q3,ah q4,ah q5,av];rw [List.any_eq_true];exact ⟨x.props[n],iF hn2,by simp [Fy];omega⟩
   refine kP H (SC (aU tL rfl ?_));clear H tL;intro a H;refine lr H results113 rfl ?_
   first
    | exact H.rt (aC vi e0.symm)
    | exact H.rt (aC vi e4.symm)
    | exact H.rt (aC vi e7.symm)
    | exact H.rt (aC vi e13.symm)
    | exact H.rt (aC vi e3.symm)
    | exact H.rt (aC vi e6.symm)
    | exact H.rt (aC vi (by rw [iP,lu,av (by omega)]))
  intro h87 a H
  try have RJ:=dF h87
  refine kH H (YF vV h87 rfl (YO aH 0 h87 rfl (YC h87 rfl (Pf h87 rfl (Kz qI (Cd rfl ?_ ?_)))))) <;> clear H qI
  ·intro PS a H
   try have p91:=dT PS
   refine bK (fun _ vM=>?_)
   have e4:iP l k x=4:=by
    rw [iP,lu,ah (by omega),ah q1',ah q2',ah q3,ah q4,ah q5,av];rw [List.any_eq_true];exact ⟨x.props[n],iF hn2,by simp [Fy];omega⟩
   refine kP H (SC (aU vM rfl ?_));clear H vM;intro a H;refine lr H results113 rfl ?_
   first
    | exact H.rt (aC vi e0.symm)
    | exact H.rt (aC vi e4.symm)
    | exact H.rt (aC vi e7.symm)
    | exact H.rt (aC vi e13.symm)
    | exact H.rt (aC vi e3.symm)
    | exact H.rt (aC vi e6.symm)
    | exact H.rt (aC vi (by rw [iP,lu,av (by omega)]))
  intro PS a H
  try have p91:=dF PS
  refine kP H (Kc qH (SC (Rd rfl (Rm rfl ?_))));clear H qH;intro a H;refine aG ?_;refine dh ((n+1)) (by exact (H.dP (Pl:=[_,_]) (dD:=[_]) [1] (by decide) rfl).sub ⟨rfl,rfl,rfl,rfl,aB⟩) ?_ ?_
  ·exact ⟨by omega,by rw [jg hn2,List.any_append,hno];simp [Fy];omega⟩
  first|omega|(dsimp only;omega)
 intro PN a H
 try have p81:=dF PN
 refine dW ?_;refine lF _ _ ?_;clear lF;refine bK (fun _ sw=>?_)
 have q6:¬ x.props.any (fun p=>Fy p.key)=true:=by
  rw [show x.props.take n=x.props from jF (by omega)] at hno;rw [hno];decide
 have e0:iP l k x=gQ (if x.kind=1 then 2 else 1) x.props:=by rw [iP,lu,ah (by omega),ah q1',ah q2',ah q3,ah q4,ah q5,ah q6]
 refine dI hmx [[],[0],[0,1],[],[3],(ra 0 5),(ra 0 6)] [5,6] (by kernel_rfl) [_,vi x.kind,vi (if x.kind=1 then 2 else 1),_,.slice pA x.props.length pc] H (aD (Z0 rfl (Rf wZ rfl)) (Z1 0 93 rfl (Ro aH 0 rfl)) ?_ (Z0 rfl (Rf V8 rfl)) (aZ (Z1 3 96 rfl (Ro BP 0 rfl)) (aZ (bN rfl) (aZ (bN rfl) cu)))) ?_
 ·refine dB 1 94 rfl rfl fun _ a w G1 hG HT H fin=>?_;refine s_call aej H wn rfl (adK _ _ H.ro x.kind) rfl ?_;clear H;rintro v95 G95 a w rfl agS H;exact fin H agS (rfl)
 clear H;intro a w G FT H hv;have H:=H.aP (hv 2 95 rfl rfl) rfl;have H:=H.aP (hv 4 97 rfl rfl) rfl;clear hv;refine s_call VR H wn rfl (Zm _ _ H.ro _ x.props _ (CG.mono FT)) rfl ?_;clear H;rintro v98 G98 a w rfl anR H;refine kH H (Ra rfl ?_);clear H;intro a H;refine aG ⟨rfl,?_⟩;refine sw _ _ ?_;clear sw;refine lr H results113 rfl ?_
 first
  | exact H.rt (aC vi e0.symm)
  | exact H.rt (aC vi e4.symm)
  | exact H.rt (aC vi e7.symm)
  | exact H.rt (aC vi e13.symm)
  | exact H.rt (aC vi e3.symm)
  | exact H.rt (aC vi e6.symm)
  | exact H.rt (aC vi (by rw [iP,lu,av (by omega)]))
end
section
open Go.RowKit
theorem EX:Ty prog 33 1 24 [.slice none 0 0] false:=⟨by kernel_rfl,by kernel_rfl⟩
theorem Dh:prog.underlying 33=some (.slice 67):=by kernel_rfl
theorem Dc:Ty prog 67 6 64 [.int .i64 0,.int .i64 0,.string ⟨#[]⟩,.int .i64 0,.string ⟨#[]⟩,.bool false] true:=⟨by kernel_rfl,by kernel_rfl⟩
theorem Wu:cB prog 67 0 0:=⟨by kernel_rfl⟩
theorem Wv:cB prog 67 1 1:=⟨by kernel_rfl⟩
theorem adU:∀ args w,(callFunc 112 args).run prog w=.ok (.enter 112 args) w:=enters func112 rfl (by kernel_rfl)
theorem afg:∀ args w,(callFunc 78 args).run prog w=.ok (.enter 78 args) w:=enters func78 rfl (by kernel_rfl)
theorem afX:cB prog 67 2 2:=⟨by kernel_rfl⟩
theorem VQ:∀ args w,(callFunc 88 args).run prog w=.ok (.enter 88 args) w:=enters func88 rfl (by kernel_rfl)
theorem afY:cB prog 67 3 3:=⟨by kernel_rfl⟩
theorem afZ:cB prog 67 4 4:=⟨by kernel_rfl⟩
theorem OC:∀ args w,(callFunc 122 args).run prog w=.ok (.enter 122 args) w:=enters func122 rfl (by kernel_rfl)
theorem aed:∀ args w,(callFunc 121 args).run prog w=.ok (.enter 121 args) w:=enters func121 rfl (by kernel_rfl)
theorem aec:∀ args w,(callFunc 120 args).run prog w=.ok (.enter 120 args) w:=enters func120 rfl (by kernel_rfl)
theorem aea:∀ args w,(callFunc 119 args).run prog w=.ok (.enter 119 args) w:=enters func119 rfl (by kernel_rfl)
theorem Ey {G:GH} {b:Nat} (l:List Int) (h:G b=some (.cells (l.map vi).toArray 56 (0,0))) (hl:l.length≤maxLen):ay G (.sl 1 (l.map fun k=>[li k])) (.slice (some ⟨b,0,none⟩) l.length l.length) :=
 ay.eT h (by simp) (bT _) hl (jF (by simp)) (fB G l)
theorem Oo {G:GH} {l:List iQ} {A:Option Addr} {n c k:Nat} (hv:ay G (.sl 6 (l.map iQ.dat)) (.slice A n c)) (hk:k < l.length):∃ b o,A=some ⟨b,o,none⟩∧(∀ j u,l[k].cells[j]?=some u→aJ G b (o+k*6+j)=some u)∧aY G l[k].dat l[k].cells:=by
 obtain ⟨A',c',he,_,_,hg⟩:=hv.slice
 injection he with e1 e2 e3
 subst e1;obtain ⟨b,o,cs,h1,h2,h3,h4⟩:=hg k l[k].dat (by simp [hk]);have:=Va h4;subst this;exact ⟨b,o,h1,h3,h4⟩
theorem adj {G:GH} {bl:Nat} {l:List iQ} {A:Option Addr} {n c:Nat} (hb:aJ G bl 0=some (.slice A n c)) (hv:ay G (.sl 6 (l.map iQ.dat)) (.slice A n c)):sj (.func (.func 121) #[] #[(aI bl 0)]) G l.length fun k=>(l[k]?.map iQ.id).getD 0:=by
 intro k hk G1 w0 hm hG;refine lN (caps:=[(aI bl 0)]) aed ?_;replace hb:=aO hm hb
 obtain rfl:n=l.length:=by have:=hv.len;simpa using this
 obtain ⟨b,o,rfl,hrow,-⟩:=Oo (hv.mono hm) hk;have hq:=hrow 0 _ rfl;refine eN [(0,_),(1,_)] func121 rfl ntmps121 rfl rfl hG ?_;intro a H;refine kP H (SR fun _ K1=>ak K1 rfl (SR fun _ K2=>Rg EX rfl (by assumption) ?_));clear H K1;intro a H;refine kH H (Rm rfl (Ri Dh Dc rfl rfl (Rf Wu rfl (Rg aH rfl (by assumption) ?_))));clear H;intro a H;exact kH H (ak K2 rfl (LR results121 rfl fun H=>H.rt (by dsimp only;rw [iA hk];rfl)))
theorem adl {G:GH} {bc:Nat} {x:iQ} (hb:aJ G bc 1=some (vi x.parent)) (y:iQ):vN (.func (.func 120) #[] #[(aI bc 0)]) G y.dat (decide (y.id=x.parent)):=by
 intro G1 w0 cs hm hG hr;refine lN (caps:=[(aI bc 0)]) aec ?_;obtain rfl:=Va hr;replace hb:=aO hm hb;refine eN [(0,_),(1,_)] func120 rfl ntmps120 rfl rfl hG ?_;intro a H;refine dH (fun _ K1=>?_);refine fC (cs:=[_,_,_,_,_,_]) H wn rfl rfl rfl ?_;clear H;intro b2 a w hb2 H;refine kH H (ak K1 rfl (SR fun _ K2=>aT Wu aH 0 rfl rfl (Rf Wv rfl (Rg aH rfl (by assumption) ?_))));clear H K1;intro a H;exact kH H (Rc rfl (ak K2 rfl (LR results120 rfl fun H=>H.rt rfl)))
theorem aiI (G:GH) (w0:World) (hG:Hold G w0) (l:List iQ) (p:iQ→Bool) (v fv:aj) (hv:ay G (.sl 6 (l.map iQ.dat)) v) (hf:∀ x∈l,vN fv G x.dat (p x)) :
  Calls prog 112 #[v,fv] w0 (bq w0 G fun u G'=>u=vi (oq (l.findIdx? p))):=by
 obtain ⟨A,c,rfl,hc1,hc2,hg⟩:=hv.slice;have hml:maxLen=9223372036854775807:=rfl;rw [bV] at *;refine eN [(0,_),(1,_)] func112 rfl ntmps112 rfl rfl hG ?_;intro a H;refine kP H (SR fun _ K1=>ak K1 rfl (SQ fun _ K2=>SR fun _ K3=>Rm rfl (Rl Dh rfl (Rm rfl (Kz K3 (SB ?_))))));clear H K1 K3;intro a H;skip;refine eU (ι:=Nat × GH) (Tc:=[(0,_),(1,_),(7,_)]) (Lc:=[]) (fun gh=>[(8,vi gh.1)]) (fun gh=>[]) (fun gh=>gh.2) (fun gh=>gh.1≤l.length∧(l.take gh.1).findIdx? p=none∧(∀ b o,G b=some o→gh.2 b=some o)) (fun gh=>l.length - gh.1) ((0,G)) (by exact (H).sub ⟨rfl,rfl,rfl,rfl,aB⟩) ?_ ?_
 ·exact ⟨by omega,rfl,fun _ _ h=>h⟩
 clear H;intro gh a w hI H;obtain ⟨k,g⟩:=gh;dsimp only at hI H;obtain ⟨hk,hno,hgm⟩:=hI;dsimp only [lca,bG] at H;refine kP H (SR fun _ K4=>Rc rfl (Kz K4 (SQ fun _ K5=>Cd rfl ?_ ?_))) <;> clear H K4
 ·intro h9 a H
  try have p9:=dT h9
  have hk2:k < l.length:=by omega
  obtain ⟨b,o,rfl,hrow,hrep⟩:=Oo hv hk2;refine kP H (Kc K5 (SQ fun _ K6=>SB (SR fun _ K7=>Rm rfl (ak K7 rfl (SR fun _ K8=>Rm rfl (Rm rfl (Rm rfl (Ri Dh Dc rfl rfl ?_))))))));clear H K5 K7;intro a H;refine bJ Dc (cs:=l[k].cells) H wn rfl rfl (fun j v hj=>H.hp.aJ (aO hgm (hrow j v hj))) rfl ?_;clear H;intro a H;refine qF H wn rfl rfl (hf _ (iF hk2) _ _ _ hgm H.ro (hrep.mono hgm)) rfl ?_;clear H;rintro v16 ru a w rfl qR H;refine K8 _ _ ?_;clear K8;refine kS H rfl ?_ ?_
  ·intro h16
   try have p16:=dT h16
   refine kP H (SR fun _ K9=>Rm rfl (ak K9 rfl ?_));clear H K9;intro a H;refine lr H results112 rfl ?_
   first
    | exact H.rt (by rw [vD hk2 hno h16];rfl)
    | exact H.rt (by rw [show l.take k=l from jF (by omega)] at hno;rw [hno];rfl)
  intro h16
  try have p16:=dF h16
  refine kP H (Kc K6 (SC (Rd rfl (Rm rfl ?_))));clear H K6;intro a H;refine aG ?_;refine dh ((k+1,ru)) (by exact (H).sub ⟨rfl,rfl,rfl,rfl,aB⟩) ?_ ?_
  ·(try dsimp only);exact ⟨by omega,Bw hk2 hno h16,fun b o h=>qR b o (hgm b o h)⟩
  first|omega|(dsimp only;omega)
 intro h9 a H
 try have p9:=dF h9
 refine dW ?_;refine K2 _ _ ?_;clear K2;refine kP H (SR fun _ aQ=>ak aQ rfl ?_);clear H aQ;intro a H;refine lr H results112 rfl ?_
 first
  | exact H.rt (by rw [vD hk2 hno h16];rfl)
  | exact H.rt (by rw [show l.take k=l from jF (by omega)] at hno;rw [hno];rfl)
theorem adp (G:GH) (w0:World) (hG:Hold G w0) (l:List iQ) (p:iQ→Bool) (v fv:aj) (hv:ay G (.sl 6 (l.map iQ.dat)) v) (hf:∀ x∈l,vN fv G x.dat (p x)) :
  Calls prog 78 #[v,fv] w0 (bq w0 G fun u G'=>u=.bool (l.findIdx? p).isSome):=by
 obtain ⟨A,c,rfl,hc1,hc2,-⟩:=hv.slice;rw [bV] at *;refine eN [(0,_),(1,_)] func78 rfl ntmps78 rfl rfl hG ?_;intro a H;refine kP H (SR fun _ K1=>ak K1 rfl (SR fun _ K2=>Rm rfl (Rm rfl ?_)));clear H K1;intro a H;refine s_call adU H wn rfl (aiI _ _ H.ro l p _ _ hv hf) rfl ?_;clear H;rintro v7 G7 a w rfl Bo H;exact kH H (Rc rfl (ak K2 rfl (LR results78 rfl fun H=>H.rt (aF (QW _)))))
def Fz (l:List iQ) (i:Nat) (x:iQ):Bool:=decide (x.parent=0) || ((l.take i).findIdx? fun y=>decide (y.id=x.parent)).isSome
def Om (l:List iQ) (i:Nat) (x:iQ):Int:=dM [pR (fun k=>(l[k]?.map iQ.id).getD 0) i,cO (!Fz l i x) 8,cO (!wT x.author) 39,cO (!decide (0≤x.time∧x.time≤1099511627776)) 40,BN x.text]
def FE (l:List iQ) (i:Nat):Int:=match l[i]? with|some x=>Om l i x|none=>0
theorem adi {G:GH} {bl:Nat} {l:List iQ} {A:Option Addr} {n c:Nat} (hb:aJ G bl 0=some (.slice A n c)) (hv:ay G (.sl 6 (l.map iQ.dat)) (.slice A n c)) (hl:l.length≤4294967296) (ht:∀ x∈l,x.author.size < 4611686018427387904∧x.text.size < 4611686018427387904):sj (.func (.func 119) #[] #[(aI bl 0)]) G l.length (FE l):=by
 intro k hk G1 w0 hm hG;refine lN (caps:=[(aI bl 0)]) aea ?_;replace hb:=aO hm hb;replace hv:=hv.mono hm;have hcb:=adj hb hv;obtain ⟨_,_,hee,hvc,-,-⟩:=hv.slice
 injection hee with _ _ hcc
 subst hcc;rw [bV] at hvc
 obtain rfl:n=l.length:=by have:=hv.len;simpa using this
 obtain ⟨b,o,rfl,hrow,hrep⟩:=Oo hv hk;have hte:=ht _ (iF hk);obtain ⟨x,hx⟩:∃ x,x=l[k]:=⟨_,rfl⟩;rw [← hx] at hrow hte
 have he:FE l k=Om l k x:=by unfold FE;rw [iA hk,hx]
 refine eN [(0,_),(1,_)] func119 rfl ntmps119 rfl rfl hG ?_;intro a H;refine kP H (SR fun _ K1=>ak K1 rfl (SR fun _ K2=>Rg EX rfl (by assumption) ?_));clear H K1;intro a H;refine kH H (Rm rfl (Ri Dh Dc rfl rfl ?_));clear H;intro a H;refine bJ Dc (cs:=x.cells) H wn rfl rfl (fun j v hj=>H.hp.aJ (hrow j v hj)) rfl ?_;clear H;intro a H;refine eB Dc H wn rfl ?_;clear H;intro b4 a w hb4 H;refine bM Dc 0 (vs:=[_,_,_,_,_,_]) _ H wn rfl rfl rfl rfl rfl rfl rfl rfl ?_;clear H;intro w H;dsimp only [List.set,setRow] at H;obtain ⟨Ga,hma,yG,H⟩:=H.eu
 have hcell:∀ (j:Nat) (u:aj),x.cells[j]?=some u→aJ Ga b4 j=some u:=fun j u hj=>by unfold aJ;rw [yG];simpa using hj
 have q1:=hcell 1 _ rfl;have hbA:=aO hma hb;have XU:=(hv.mono hma).pre k (by rw [bV];omega);rw [← List.map_take] at XU;refine K2 _ _ ?_;clear K2;refine pE (ι:=Bool × GH) (Tc:=[(0,_),(1,_),(4,_)]) (Lc:=[]) (fun gh=>[(5,.bool gh.1)]) (fun gh=>[]) (fun gh=>gh.2) (fun gh=>gh.1=Fz l k x∧(∀ b o,Ga b=some o→gh.2 b=some o)) (by exact (H).sub ⟨rfl,rfl,rfl,aB⟩) ?_ ?_
 ·skip;refine kP H (SC (Rf Wv rfl (Rg aH rfl (by assumption) ?_)));clear H;intro a H;refine kH H (Rc rfl (Rm rfl (Sp 13 rfl ?_ ?_))) <;> clear H
  ·intro gB a H
   try have qV:=dT gB
   refine kH H (bC gB rfl (aR gB rfl (Pt gB rfl (Ra rfl ?_))));clear H;intro a H;refine aG ?_;refine ⟨(_,_),by exact (H).sub ⟨rfl,rfl,rfl,rfl,aB⟩,?_⟩;(try dsimp only)
   first
   | exact ⟨by unfold Fz;rw [jy (by assumption)];rfl,fun _ _ h=>h⟩
   | exact ⟨by unfold Fz;rw [iU (by assumption)];rfl,hm18⟩
  intro gB a H
  try have qV:=dF gB
  refine kH H (YR EX gB rfl (by assumption) ?_);clear H;intro a H;refine kH H (YM gB rfl ?_);clear H;intro a H;refine ZU Dh Dc k H (wg H rfl rfl gB) rfl rfl rfl (by omega) rfl ?_;clear H;intro a H;refine qW H (wg H rfl rfl gB) rfl rfl ?_;clear H;intro a H;refine s_call afg H (wg H rfl rfl gB) rfl (adp _ _ H.ro (l.take k) (fun y=>decide (y.id=x.parent)) _ _ XU (fun y _=>adl q1 y)) rfl ?_;clear H;rintro v18 Kj a w rfl hm18 H;refine kH H (Pf gB rfl (Ra rfl ?_));clear H;intro a H;refine aG ?_;refine ⟨(_,_),by exact (H).sub ⟨rfl,rfl,rfl,rfl,aB⟩,?_⟩;(try dsimp only)
  first
  | exact ⟨by unfold Fz;rw [jy (by assumption)];rfl,fun _ _ h=>h⟩
  | exact ⟨by unfold Fz;rw [iU (by assumption)];rfl,hm18⟩
 clear H;intro gh a w hI H;obtain ⟨bf,g⟩:=gh;dsimp only at hI H;obtain ⟨hbf,hgm⟩:=hI;replace hcell:=fun j u hj=>aO hgm (hcell j u hj);replace hcb:=(hcb.mono hma).mono hgm;dsimp only [lca,bG] at H;refine bK (fun _ K3=>?_);have H:=H.sub (T':=[(0,_),(1,_),(4,_),(5,_)]) ⟨rfl,rfl,rfl,rfl,aB⟩;refine dI hmx [[],[],[0,1],[],[3],(ra 0 5),[],[6],(ra 0 8),(ra 0 9),(ra 0 10),[],[11],(ra 0 13),(ra 0 14),(ra 0 15),[],[16],(ra 0 18),(ra 0 19),(ra 0 20),(ra 0 21)] [19,20,21] (by kernel_rfl) [_,.func (.func 121) #[] #[(aI bl 0)],vi (pR (fun k=>(l[k]?.map iQ.id).getD 0) k),_,_,vi (cO (!bf) 8),_,_,.bool (wT x.author),_,vi (cO (!wT x.author) 39),_,_,.bool (decide (0≤x.time∧x.time≤1099511627776)),_,vi (cO (!decide (0≤x.time∧x.time≤1099511627776)) 40),_,_,vi (BN x.text)] H (aD (Z0 rfl (Rm rfl)) ?_ ?_ (Z0 rfl (Rm rfl)) (aD (Z1 3 23 rfl (Rn rfl)) ?_ (Z0 rfl (Rf afX rfl)) (X1 6 26 rfl fun hG=>Rg fV rfl (aO hG (hcell 2 _ rfl))) (aD ?_ (Z1 8 28 rfl (Rn rfl)) ?_ (Z0 rfl (Rf afY rfl)) (aD (X1 11 31 rfl fun hG=>Rg aH rfl (aO hG (hcell 3 _ rfl))) ?_ (Z1 13 33 rfl (Rn rfl)) ?_ (aD (Z0 rfl (Rf afZ rfl)) (X1 16 36 rfl fun hG=>Rg fV rfl (aO hG (hcell 4 _ rfl))) ?_ (bN rfl) (aZ (bN rfl) (aZ (bN rfl) cu))))))) ?_
 ·refine Aq rfl fun _ a w G1 hG HT H fin=>?_;refine qW H wn rfl rfl ?_;clear H;intro a H;exact fin H iJ rfl
 ·refine bZ 0 20 1 21 rfl rfl fun _ a w G1 hG HT H fin=>?_;refine s_call OY H wn rfl (QS _ _ H.ro k _ _ (by omega) (fun i hi=>(hcb.mono hG) i (by omega))) rfl ?_;clear H;rintro v22 G22 a w rfl PX H;exact fin H PX (rfl)
 ·refine dB 4 24 rfl rfl fun _ a w G1 hG HT H fin=>?_;refine s_call jo H wn rfl (jv _ _ H.ro _ 8) rfl ?_;clear H;rintro v25 Kk a w ⟨rfl,-⟩ agG H;exact fin H agG (rfl)
 ·refine dB 7 27 rfl rfl fun _ a w G1 hG HT H fin=>?_;refine s_call VQ H wn rfl (UD _ _ H.ro x.author hte.1) rfl ?_;clear H;rintro v28 Tp a w ⟨rfl,-⟩ agH H;exact fin H agH (rfl)
 ·refine dB 9 29 rfl rfl fun _ a w G1 hG HT H fin=>?_;refine s_call jo H wn rfl (jv _ _ H.ro _ 39) rfl ?_;clear H;rintro v30 Du a w ⟨rfl,-⟩ PZ H;exact fin H PZ (rfl)
 ·refine dB 12 32 rfl rfl fun _ a w G1 hG HT H fin=>?_;refine s_call vU H wn rfl (wu _ _ H.ro x.time 0 1099511627776) rfl ?_;clear H;rintro v33 Tq a w ⟨rfl,-⟩ agJ H;exact fin H agJ (rfl)
 ·refine dB 14 34 rfl rfl fun _ a w G1 hG HT H fin=>?_;refine s_call jo H wn rfl (jv _ _ H.ro _ 40) rfl ?_;clear H;rintro v35 Km a w ⟨rfl,-⟩ P5 H;exact fin H P5 (rfl)
 ·refine dB 17 37 rfl rfl fun _ a w G1 hG HT H fin=>?_;refine s_call OC H wn rfl (SA _ _ H.ro x.text hte.2) rfl ?_;clear H;rintro v38 Ny a w rfl agL H;exact fin H agL (rfl)
 clear H;intro a w G agI H hv;have H:=H.aP (hv 2 22 rfl rfl) rfl;have H:=H.aP (hv 5 25 rfl rfl) rfl;have H:=H.aP (hv 10 30 rfl rfl) rfl;have H:=H.aP (hv 15 35 rfl rfl) rfl;have H:=H.aP (hv 18 38 rfl rfl) rfl;clear hv;refine gX oO gN [_,_,_,_,_] [_,_,_,_,_] H wn rfl rfl rfl rfl rfl (by intro i q h;match i,h with|0,h=>exact h|1,h=>exact h|2,h=>exact h|3,h=>exact h|4,h=>exact h|n+5,h=>simp at h) rfl rfl ?_;clear H;intro b39 a w anB H;obtain ⟨Ko,Xn,ahl,H⟩:=H.eu;refine s_call qw H wn rfl (qx _ _ H.ro _ _ (Ey [pR (fun k=>(l[k]?.map iQ.id).getD 0) k,cO (!bf) 8,cO (!wT x.author) 39,cO (!decide (0≤x.time∧x.time≤1099511627776)) 40,BN x.text] ahl (show 5≤maxLen by decide))) rfl ?_;clear H;rintro v40 _ a w ⟨rfl,rfl⟩ - H;refine kH H (Ra rfl ?_);clear H;intro a H;refine aG ⟨rfl,?_⟩;refine K3 _ _ ?_;clear K3;refine lr H results119 rfl ?_;exact H.rt (by rw [he,Om,← hbf])
def KS (l:List iQ):Int:=dM [cO (decide (1024 < (l.length:Int))) 9,kM (FE l) (min l.length 1024)]
theorem acN (G:GH) (w0:World) (hG:Hold G w0) (l:List iQ) (v:aj) (hv:ay G (.sl 6 (l.map iQ.dat)) v) (hl:l.length≤4294967296) (ht:∀ x∈l,x.author.size < 4611686018427387904∧x.text.size < 4611686018427387904) :
  Calls prog 82 #[v] w0 (bq w0 G fun u G'=>u=vi (KS l)):=by
 obtain ⟨A,c,rfl,hc1,hc2,-⟩:=hv.slice;rw [bV] at *;refine eN [(0,_)] func82 rfl ntmps82 rfl rfl hG ?_;intro a H;refine dH (fun _ K1=>?_);refine fC (cs:=[_]) H wn rfl rfl rfl ?_;clear H;intro b1 a w hb1 H;refine kH H (ak K1 rfl (SQ fun _ K2=>?_));clear H K1;intro a H;have H:=H.sub (T':=[(1,_)]) ⟨rfl,aB⟩;obtain ⟨Ga,hma,hb1',H⟩:=H.eu
 have hbl:aJ Ga b1 0=some (.slice A l.length c):=by unfold aJ;rw [hb1'];rfl
 have hcb:=adi hbl (hv.mono hma) hl ht;refine dI hmx [[],[0],[0,1],[0,1,2],[],[4],[4,5],[],(ra 0 8),(ra 0 9),(ra 0 10),(ra 0 11)] [9,10,11] (by kernel_rfl) [_,_,_,vi (cO (decide (1024 < (l.length:Int))) 9),_,_,vi ((min l.length 1024:Nat):Int),.func (.func 119) #[] #[(aI b1 0)],vi (kM (FE l) (min l.length 1024))] H (aD (X0 rfl fun hG=>Rg EX rfl (aO hG hbl)) (Z1 0 3 rfl (Rl Dh rfl)) (Z1 1 4 rfl (Rc rfl)) ?_ (aD (X0 rfl fun hG=>Rg EX rfl (aO hG hbl)) (Z1 4 7 rfl (Rl Dh rfl)) ?_ ?_ (aD ?_ (bN rfl) (bN rfl) (bN rfl) cu))) ?_
 ·refine dB 2 5 rfl rfl fun _ a w G1 hG HT H fin=>?_;refine s_call jo H wn rfl (jv _ _ H.ro _ 9) rfl ?_;clear H;rintro v6 G6 a w ⟨rfl,-⟩ iq H;exact fin H iq (rfl)
 ·refine dB 5 8 rfl rfl fun _ a w G1 hG HT H fin=>?_;refine JV H wn rfl rfl rfl ?_;clear H;intro a H;exact fin H iJ (aC vi (by omega))
 ·refine Aq rfl fun _ a w G1 hG HT H fin=>?_;refine qW H wn rfl rfl ?_;clear H;intro a H;exact fin H iJ rfl
 ·refine bZ 6 9 7 10 rfl rfl fun _ a w G1 hG HT H fin=>?_;refine s_call FL H wn rfl (Ij _ _ H.ro (min l.length 1024) (FE l) _ (by omega) ((hcb.mono hG).le (Nat.min_le_left _ _))) rfl ?_;clear H;rintro v11 xP a w rfl iN H;exact fin H iN (rfl)
 clear H;intro a w G mh H hv;have H:=H.aP (hv 3 6 rfl rfl) rfl;have H:=H.aP (hv 8 11 rfl rfl) rfl;clear hv;refine gX oO gN [_,_] [_,_] H wn rfl rfl rfl rfl rfl (by intro i q h;match i,h with|0,h=>exact h|1,h=>exact h|n+2,h=>simp at h) rfl rfl ?_;clear H;intro b12 a w Bg H;obtain ⟨BX,Eo,El,H⟩:=H.eu;refine s_call qw H wn rfl (qx _ _ H.ro _ _ (xJ El)) rfl ?_;clear H;rintro v13 _ a w ⟨rfl,rfl⟩ - H;refine kH H (Ra rfl ?_);clear H;intro a H;refine aG ⟨rfl,?_⟩;refine K2 _ _ ?_;clear K2;refine lr H results82 rfl ?_;exact H.rt rfl
end
section
open Go.RowKit
def wD:Nat→List Int→List MapEntry
 | _,[]=>[]
 | i,k :: r=>⟨.int .i64 k,.int .i64 (i:Int),i⟩ :: wD (i+1) r
theorem Yz (x:Int):∀ (i:Nat) (l:List Int),wD i (l++[x])=wD i l++[⟨.int .i64 x,.int .i64 ((i+l.length:Nat):Int),i+l.length⟩]
 | _,[]=>rfl
 | i,k :: r=>by
  rw [mG,wD,Yz x (i+1) r,wD,mG,nZ,show i+1+r.length=i+(r.length+1) by omega]
def uw (x:Int):Nat→List Int→Option Nat
 | _,[]=>none
 | i,k :: r=>if k=x then some i else uw x (i+1) r
theorem X5 {x:Int}:∀ {l:List Int} {i n:Nat},uw x i l=some n→i≤n
 | [],_,_,h=>by cases h
 | k :: r,i,n,h=>by
  rw [uw] at h;split at h
  ·cases h;exact bT _
  ·have:=X5 h;omega
theorem X7 {x:Int}:∀ {l:List Int} {i:Nat},x∉l→uw x i l=none
 | [],_,_=>rfl
 | k :: r,i,h=>by
  rw [uw,ah (fun e=>h (by simp [e])),X7 (fun hm=>h (iZ _ hm))]
theorem Pk (x:Int):∀ (i j:Nat) (l:List Int),Instr.findNow (.int .i64) (.int .i64 x) (wD i l) j=some ((uw x i l).map fun n=>(j+(n - i),.int .i64 (n:Int)))
 | _,_,[]=>rfl
 | i,j,k :: r=>by
  have ih:=Pk x (i+1) (j+1) r
  by_cases e:k=x
  ·subst e
   simp only [wD,Instr.findNow,Instr.sameNow,av,uw,beq_self_eq_true]
   simp
  ·have hb:(x == k)=false:=by simp;exact fun h=>e h.symm
   simp only [wD,Instr.findNow,Instr.sameNow,av,hb,uw,ah e,ih]
   cases h:uw x (i+1) r with
   | none=>rfl
   | some n =>
    have:=X5 h
    simp only [Option.map_some,nY,gU,and_true]
    omega
abbrev abU (b:Nat) (l:List Int):Nat × Obj:=(b,.map (wD 0 l).toArray l.length)
theorem ajB (l:List Int) (x:Int):(wD 0 l).toArray.push ⟨.int .i64 x,.int .i64 (l.length:Int),l.length⟩=(wD 0 (l++[x])).toArray:=by
 rw [Yz,List.push_toArray,jh]
end
section
open Go.RowKit
section
variable {P:Program} {N:Nat} {D:List Deferred} {w0 w w':World} {F:Nat→Prop} {G0 G G':GH} {L L' Li Lo:OL} {T:List (Nat × aj)} {a a':Act} {Q:Exit→Act→World→Prop}
variable {r:Option Nat} {ops:Array Oper} {rest:List Oper}
def ND (P:Program) (Gi:GH) (B:OL) (gv:aj) (xs:List AP):Prop :=
 ∀ (J:Nat→GH→OL→Prop) (Jx:GH→OL→Prop) (fv:aj) (G:GH) (L:OL) (w:World),fv.cells=#[fv]→(∀ b o,Gi b=some o→G b=some o)→Dx J→Fw Jx→J 0 G L→gZ G (B++L) w→Hw P fv G xs J Jx →
  uG P gv [fv] w (gI w G (B++L) fun _ G' L'=>J xs.length G' L'∨Jx G' L')
theorem ND.mono {Gi BZ:GH} {B:OL} {gv:aj} {xs:List AP} (h:ND P Gi B gv xs) (hm:∀ b o,Gi b=some o→BZ b=some o):ND P BZ B gv xs :=
 fun J Jx fv G L w h0 h1=>h J Jx fv G L w h0 fun b o hb=>h1 b o (hm b o hb)
end
end
section
open Go.RowKit
section
variable {P:Program} {N:Nat} {D:List Deferred} {w0 w w':World} {F:Nat→Prop} {G0 G G':GH} {L L' Li Lo:OL} {T:List (Nat × aj)} {a a':Act} {Q:Exit→Act→World→Prop}
variable {r:Option Nat} {ops:Array Oper} {rest:List Oper}
def Fj (P:Program) (Gi:GH) (B:OL) (gv:aj) (xs:List AP) (fin:Bool):Prop :=
 ∀ (J:Nat→GH→OL→Prop) (Jx:GH→OL→Prop) (fv:aj) (G:GH) (L:OL) (w:World),fv.cells=#[fv]→(∀ b o,Gi b=some o→G b=some o)→Dx J→Fw Jx→J 0 G L→gZ G (B++L) w→Hw P fv G xs J Jx→(fin=false→∀ g l,¬ J xs.length g l) →
  uG P gv [fv] w (gI w G (B++L) fun _ G' L'=>J xs.length G' L'∨Jx G' L')
theorem Fj.mono {Gi BZ:GH} {B:OL} {gv:aj} {xs:List AP} {fin:Bool} (h:Fj P Gi B gv xs fin) (hm:∀ b o,Gi b=some o→BZ b=some o):Fj P BZ B gv xs fin :=
 fun J Jx fv G L w h0 h1=>h J Jx fv G L w h0 fun b o hb=>h1 b o (hm b o hb)
theorem acr {fin:Bool} {B:OL} {yx:Operand} {ps:List Nat} {assign body:Code} {gf:FuncId} {caps:List aj} {xs:List AP} {Gi:GH}
  (H:St N D w0 F G0 G (B++L) T a w) (hg:ev T yx=some (.func (.func gf) #[] caps.toArray)) (en:∀ args w,(callFunc gf args).run P w=.ok (.enter gf args) w) (hit:Fj P Gi B (.func (.func gf) #[] caps.toArray) xs fin) (hGi:∀ b o,Gi b=some o→G b=some o)
  (hps:ps.all (Nat.blt · N)=true) (hlen:∀ k args g,vJ xs k args g→args.length=ps.length)
  (J:Nat→GH→OL→Prop) (Jx:Code→GH→OL→Prop) (hno:fin=false→∀ g l,¬ J xs.length g l) (wh:Dx J) (hJx:∀ c,Fw (Jx c)) (h0:J 0 G L) (QE:NM P N ps assign body T G J Jx xs)
  (hdone:∀ Dk G1 L1 a1 w1,(∀ b o,G b=some o→G1 b=some o)→J xs.length G1 L1→St N ({ target:=.collected Dk,args:=#[] } :: D) w0 F G0 G1 ((Dk,.deferred (some [])) :: L1) T a1 w1→Q .normal a1 w1)
  (hstop:∀ Dk c G1 L1 a1 w1,(∀ b o,G b=some o→G1 b=some o)→Jx c G1 L1→St N ({ target:=.collected Dk,args:=#[] } :: D) w0 F G0 G1 ((Dk,.deferred (some [])) :: L1) T a1 w1→WP none P c Q a1 w1) :
  WP none P (.rangeFunc yx ps.toArray assign body) Q a w:=by
 refine wpIn_rangeFunc ?_
 intro fn _
 have hev:=H.ev hg
 let q:Rec:=⟨fn,a.tmps,ps.toArray,assign,body,w.heap.size⟩
 obtain ⟨W1,hW1⟩:∃ W1,W1=(w.alloc (.deferred (some []))).alloc (q.at .ready none):=⟨_,rfl⟩
 have H1:Hp w0 F G0 G (B++((w.heap.size+1,q.at .ready none) :: (w.heap.size,.deferred (some [])) :: L)) W1:=by
  have:=(H.hp.alloc (.deferred (some []))).alloc (q.at .ready none)
  rw [World.size_alloc] at this
  rw [hW1]
  refine this.perm ?_
  have e:=Ay (l₁:=[(w.heap.size+1,q.at .ready none),(w.heap.size,Obj.deferred (some []))]) (l₂:=B)
  have e2:=List.Perm.append_right L e
  rw [nE,nE] at e2
  exact e2
 refine ⟨w.heap.size+1,[{ target:=.collected w.heap.size,args:=#[] }],W1,{ target:=.fn (.func gf) caps.toArray,args:=#[.func (.yield (w.heap.size+1)) #[] #[]] },W1,gf,
  #[.func (.yield (w.heap.size+1)) #[] #[]]++caps.toArray,W1,by rw [hW1];exact run_enterLoop_outer fn a.tmps ps.toArray assign body,?_,fun _ _=>trivial,?_,Ki none,?_⟩
 ·simp only [resolve,rangeCall,hev]
  simp [Deferred.ofValue,Act.eval]
 ·simp [invoke,en]
 ·have hcv:=hit (fun k=>Jr (w.heap.size+1) q [(w.heap.size,.deferred (some []))] (J k)) (Kr (w.heap.size+1) q [(w.heap.size,.deferred (some []))] Jx) (.func (.yield (w.heap.size+1)) #[] #[]) G
   ((w.heap.size+1,q.at .ready none) :: (w.heap.size,.deferred (some [])) :: L) W1 rfl hGi (fun k G G' L hm ⟨Lu,e,h⟩=>⟨Lu,e,wh k G G' Lu hm h⟩) (fun G G' L hm ⟨c,Lu,e,h⟩=>⟨c,Lu,e,hJx c G G' Lu hm h⟩) ⟨L,rfl,h0⟩ (Hp.owns (Li:=[]) H1) (U1 H.lM H.get hps hlen QE) (fun e g l ⟨Lu,_,h⟩=>hno e g Lu h)
  replace hcv:=hcv.go
  have e:(do let d ← Deferred.ofValue (.func (.func gf) #[] caps.toArray) [Value.func (.yield (w.heap.size+1)) #[] #[]].toArray;invoke d.target d.args:Sem Next).run P W1=.ok (.enter gf (#[.func (.yield (w.heap.size+1)) #[] #[]]++caps.toArray)) W1:=by
   simp [Deferred.ofValue,invoke,en]
  rw [e] at hcv
  refine (Og hcv).mono ?_
  rintro e w2 ⟨v,G2,L2,rfl,hch,hJ⟩
  have H2:=Hp.change (Li:=[]) H1 hch
  rcases hJ with ⟨Lu,rfl,hJ⟩|⟨c,Lu,rfl,hJ⟩
  ·have hl:=H2.own _ (gP)
   have H3:=(H2.upd (i:=0) rfl (Di (q.at .exhausted none) hl)).drop (Aw _ _)
   exact ⟨none,_,run_endLoop hl (by simp),hdone _ G2 Lu _ _ hch.gm hJ ⟨H.lM,H.get,by simp [H.qN],H3⟩⟩
  ·have hl:=H2.own _ (gP)
   have H3:=(H2.upd (i:=0) rfl (Di (q.at .exhausted (some c)) hl)).drop (Aw _ _)
   exact ⟨some c,_,run_endLoop hl (by simp),hstop _ c G2 Lu _ _ hch.gm hJ ⟨H.lM,H.get,by simp [H.qN],H3⟩⟩
theorem acs {fin:Bool} {B:OL} {ι κ:Type} {Lc:OL} {yx:Operand} {ps:List Nat} {assign body:Code} {gf:FuncId} {caps:List aj} {xs:List AP} {Gi:GH}
  (Lv:Nat→ι→OL) (Lt:Nat→ι→OL) (inv:Nat→ι→GH→Prop) (cx:κ→Code) (Lx DI:κ→OL) (yQ:κ→GH→Prop) (i0:ι)
  (H:St N D w0 F G0 G (B++(Lc++Lv 0 i0++Lt 0 i0)) T a w) (hg:ev T yx=some (.func (.func gf) #[] caps.toArray)) (en:∀ args w,(callFunc gf args).run P w=.ok (.enter gf args) w) (hit:Fj P Gi B (.func (.func gf) #[] caps.toArray) xs fin) (hGi:∀ b o,Gi b=some o→G b=some o)
  (hno:fin=false→∀ i g,¬ inv xs.length i g) (hps:ps.all (Nat.blt · N)=true) (hlen:∀ k args g,vJ xs k args g→args.length=ps.length) (hinv:∀ k i (G G':GH),(∀ b o,G b=some o→G' b=some o)→inv k i G→inv k i G') (Qr:∀ x (G G':GH),(∀ b o,G b=some o→G' b=some o)→yQ x G→yQ x G') (h0:inv 0 i0 G)
  (round:∀ (l:Nat) (CZ zH:Obj) (bk:OL) (k:Nat) (args:List aj) (i:ι) (G1:GH) (w1:World) (F1:Nat→Prop) (B1:Code→Exit→Act→World→Prop) (a1:Act),vJ xs k args G1→(∀ b o,G b=some o→G1 b=some o)→inv k i G1 →
   (∀ T' G2 L2 a2 w2 c,St N [] w1 F1 G1 G2 ((l,CZ) :: L2) T' a2 w2→(∀ w3,St N [] w1 F1 G1 G2 ((l,zH) :: L2) T' a2 w3→WP (some l) P c (B1 c) a2 w3)→Exit.then (fun a2 w2=>∃ w3,(Instr.beginRound l).run P w2=.ok () w3∧c.wpIn (FW (some l)) 0 P (B1 c) a2 w3) (fun _ _ _=>False) .normal a2 w2) →
   (∀ i' T' G2 a2 w2 c,St N [] w1 F1 G1 G2 ((l,zH) :: (Lc++Lv (k+1) i'++(bk++Lt (k+1) i'))) T' a2 w2→inv (k+1) i' G2→B1 c .normal a2 w2) →
   (∀ x T' G2 a2 w2 c,St N [] w1 F1 G1 G2 ((l,zH) :: (Lc++Lx x++(bk++DI x))) T' a2 w2→yQ x G2→(cx x=.ret→B1 c .ret a2 w2)∧∀ n,cx x=.exit n→B1 c (.exit n) a2 w2) →
   St N [] w1 F1 G1 G1 ((l,CZ) :: (Lc++Lv k i++(bk++Lt k i))) (xW ps args T) a1 w1 →
   WP (some l) P assign (Exit.then (fun a2 w2=>∃ w3,(Instr.beginRound l).run P w2=.ok () w3∧body.wpIn (FW (some l)) 0 P (B1 body) a2 w3) (fun _ _ _=>False)) a1 w1)
  (hdone:∀ Dk i G1 a1 w1,(∀ b o,G b=some o→G1 b=some o)→inv xs.length i G1→St N ({ target:=.collected Dk,args:=#[] } :: D) w0 F G0 G1 ((Dk,.deferred (some [])) :: (Lc++Lv xs.length i++Lt xs.length i)) T a1 w1→Q .normal a1 w1)
  (hstop:∀ Dk x G1 a1 w1,(∀ b o,G b=some o→G1 b=some o)→yQ x G1→St N ({ target:=.collected Dk,args:=#[] } :: D) w0 F G0 G1 ((Dk,.deferred (some [])) :: (Lc++Lx x++DI x)) T a1 w1→WP none P (cx x) Q a1 w1) :
  WP none P (.rangeFunc yx ps.toArray assign body) Q a w:=by
 refine acr (J:=fun k g L=>∃ i,L=Lc++Lv k i++Lt k i∧inv k i g) (Jx:=fun c g L=>∃ x,c=cx x∧L=Lc++Lx x++DI x∧yQ x g) H hg en hit hGi hps hlen (hno:=fun e g l ⟨i,_,h⟩=>hno e i g h) (fun k G G' L hm ⟨i,e,h⟩=>⟨i,e,hinv k i G G' hm h⟩) (fun c G G' L hm ⟨x,e1,e2,h⟩=>⟨x,e1,e2,Qr x G G' hm h⟩) ⟨i0,rfl,h0⟩ ?_ ?_ ?_
 ·rintro l q bk k args G1 L1 w1 a1 hk hm ⟨i,rfl,hi⟩ H1
  have pm:∀ A B:OL,(bk++(A++B)).Perm (A++(bk++B)):=fun A B=>by
   rw [← nE,← nE]
   exact List.Perm.append_right B Ay
  refine round l (q.at .ready none) (q.at .busy none) bk k args i G1 w1 _ (fun _=>roundPost P l _) a1 hk hm hi ?_ ?_ ?_ (H1.perm (List.Perm.cons _ (pm _ _)))
  ·intro T' G2 L2 a2 w2 c H2 h
   exact UW H2 h
  ·intro i' T' G2 a2 w2 c H2 h2
   exact GI none (H2.perm (List.Perm.cons _ (pm _ _).symm)) ⟨_,rfl,i',rfl,h2⟩
  ·intro x T' G2 a2 w2 c H2 h2
   have H3:=H2.perm (List.Perm.cons _ (pm _ _).symm)
   refine ⟨fun e=>?_,fun n e=>?_⟩
   ·exact GI (some .ret) H3 ⟨_,_,rfl,x,e.symm,rfl,h2⟩
   ·exact GI (some (.exit n)) H3 ⟨_,_,rfl,x,e.symm,rfl,h2⟩
 ·rintro Dk G1 L1 a1 w1 hm ⟨i,rfl,hi⟩ H1
  exact hdone Dk i G1 a1 w1 hm hi H1
 ·rintro Dk c G1 L1 a1 w1 hm ⟨x,rfl,rfl,hx⟩ H1
  exact hstop Dk x G1 a1 w1 hm hx H1
end
end
section
open Go.RowKit
theorem EY:prog.underlying 114=some (.map 3 3):=by kernel_rfl
theorem tF:Ty prog 31 1 24 [.slice none 0 0] false:=⟨by kernel_rfl,by kernel_rfl⟩
theorem O8:cB prog 181 3 3:=⟨by kernel_rfl⟩
theorem Vv:∀ args w,(callFunc 135 args).run prog w=.ok (.enter 135 args) w:=enters func135 rfl (by kernel_rfl)
theorem X6 {x:Int}:∀ {l:List Int} {i n:Nat},uw x i l=some n→n < i+l.length
 | [],_,_,h=>by cases h
 | k :: r,i,n,h=>by
  rw [uw] at h;split at h
  ·cases h;simp
  have:=X6 h;simp only [nZ];omega
def wW (l:List bU):Nat→Int→List bU
 | 0,_=>[]
 | f+1,id=>if id=0 then [] else match uw id 0 (l.map bU.id) with|none=>[]|some i=>match l[i]? with|none=>[]|some s=>s :: wW l f s.base
def FD (l:List bU) (id:Int):List bU:=wW l (l.length+1) id
theorem acK {l:List bU} {f:Nat} {id:Int} (h:id=0):wW l f id=[]:=by
 cases f with
 | zero=>rfl
 | succ f=>rw [wW,av h]
theorem acI {l:List bU} {f:Nat} {id:Int} (h0:¬ id=0) (h:uw id 0 (l.map bU.id)=none):wW l f id=[]:=by
 cases f with
 | zero=>rfl
 | succ f=>rw [wW,ah h0,h]
theorem acJ {l:List bU} {f i:Nat} {id:Int} (h0:¬ id=0) (h:uw id 0 (l.map bU.id)=some i) (hi:i < l.length):wW l (f+1) id=l[i] :: wW l f l[i].base:=by
 rw [wW,ah h0,h];dsimp only;rw [iA hi]
def stP (x:bU):AP:=fun args g=>∃ cs,args=[.agg cs.toArray]∧aY g x.dat cs
theorem aal {A:List bU} {k:Nat} {args:List aj} {g:GH} (h:vJ (A.map stP) k args g):∃ (hk:k < A.length) (cs:List aj),args=[.agg cs.toArray]∧aY g A[k].dat cs:=by
 obtain ⟨p,hp,hargs⟩:=h;rw [qm] at hp;obtain ⟨q,hq,rfl⟩:=lY.1 hp;obtain ⟨hk,rfl⟩:=jm.1 hq;obtain ⟨cs,h1,h2⟩:=hargs;exact ⟨hk,cs,h1,h2⟩
abbrev bI (b:Nat) (n:Int):Nat × Obj:=(b,.cells #[vi n] 3 (0,0))
set_option maxHeartbeats 1000000 in
theorem acL {G:GH} {bl bi:Nat} {l:List bU} {id:Int} {v:aj} (hb:aJ G bl 0=some v) (hv:ay G (.sl 6 (l.map bU.dat)) v) (hnd:∀ (k:Nat) (h:k < l.length),l[k].id∉(l.take k).map bU.id) :
  Fj prog G [bI bi id] (.func (.func 135) #[] #[(aI bl 0),(aI bi 0)]) ((FD l id).map stP) (decide ((FD l id).length≤l.length)):=by
 intro J Jx fv G1 L w0 Xe hGi wh hJx hJ hO hcb hfin;refine lN (caps:=[(aI bl 0),(aI bi 0)]) Vv ?_;obtain ⟨A,c,rfl,hc1,hc2,-⟩:=hv.slice;have hml:maxLen=9223372036854775807:=rfl;rw [bV] at *;replace hb:=aO hGi hb;replace hv:=hv.mono hGi;refine jZ (N:=46) (T:=[(0,_),(1,_),(2,_)]) func135 rfl ntmps135 rfl rfl hO ?_;intro a H;refine dH (fun _ K1=>?_);refine EN H wn rfl ?_;clear H;intro bm a w FZ H;refine kH H (ak K1 rfl (SQ fun _ K2=>SR fun _ K3=>Rg tF rfl (by assumption) ?_));clear H K1;intro a H;refine kH H (Rl nV rfl (Rm rfl (Kz K3 (SB ?_))));clear H K3;intro a H;skip;refine eU (ι:=Nat) (Tc:=[(0,_),(1,_),(2,_),(4,_),(10,_),(11,_)]) (Lc:=[(_,_)]) (fun gh=>[(12,vi gh)]) (fun gh=>[abU bm ((l.take gh).map bU.id)]++L) (fun gh=>G1) (fun gh=>gh≤l.length) (fun gh=>l.length - gh) (0) (by exact (H.dP (Pl:=[_,_]) (dD:=[_,_]) [1,0] (by decide) rfl).sub ⟨rfl,rfl,rfl,rfl,rfl,rfl,rfl,aB⟩) ?_ ?_
 ·exact iB _
 clear H;intro gh a w hI H;obtain ⟨k,hgh⟩:∃ x,x=gh:=⟨_,rfl⟩;subst hgh;have hk:=hI;dsimp only [lca,bG] at H;refine kP H (SR fun _ K4=>Rc rfl (Kz K4 (SQ fun _ K5=>Cd rfl ?_ ?_))) <;> clear H K4
 ·intro gB a H
  try have qV:=dT gB
  have hk2:k < l.length:=by omega
  obtain ⟨b,o,pA,pc,rfl,hrow,hp,hrep⟩:=BM hv hk2;have ahV:=hnd k hk2
  have hlk:((l.take k).map bU.id).length=k:=by rw [bV,List.length_take];omega
  have hnx:(l.take k).map bU.id++[l[k].id]=(l.take (k+1)).map bU.id:=by rw [jg hk2,kL];rfl
  refine kP H (Kc K5 (SQ fun _ K6=>SB (SR fun _ K7=>Rm rfl (Ri nV kI rfl rfl ?_))));clear H K5;intro a H;refine bJ kI (cs:=[_,_,_,_,_,_]) H wn rfl rfl (fun j v hj=>H.hp.aJ (hrow j v hj)) rfl ?_;clear H;intro a H;refine eB kI H wn rfl ?_;clear H;intro b6 a w hb6 H;refine kH H (Ra rfl ?_);clear H;intro a H;refine bM kI 0 (vs:=[_,_,_,_,_,_]) _ H wn rfl rfl rfl rfl rfl rfl rfl rfl ?_;clear H;intro w H;dsimp only [List.set,setRow] at H;refine K7 _ _ ?_;clear K7;refine kP H (SC (Rm rfl (aT uR aH 0 rfl rfl (Rm rfl ?_))));clear H;intro a H;refine ZM (i:=2) (ky:=vi l[k].id) (v:=vi k) EY nW H wn rfl rfl rfl rfl (by trivial) (by rw [List.toList_toArray,Pk,X7 ahV];rfl) ?_;clear H;intro w H
  have hpush:((wD 0 ((l.take k).map bU.id)).toArray.push ⟨vi l[k].id,vi k,((l.take k).map bU.id).length⟩)=(wD 0 ((l.take (k+1)).map bU.id)).toArray:=by rw [← hnx,← ajB,hlk]
  rw [hpush,show ((l.take k).map bU.id).length+1=((l.take (k+1)).map bU.id).length by rw [← hnx];simp] at H;refine kH H (Kn K6 (SC (Rd rfl (Rm rfl ?_))));clear H K6;intro a H;refine aG ?_;refine dh ((k+1)) (by exact (H.dP (Pl:=[_,_,_]) (dD:=[_,_]) [1,2] (by decide) rfl).sub ⟨rfl,rfl,rfl,rfl,rfl,rfl,rfl,aB⟩) ?_ ?_
  ·exact by omega
  first|omega|(dsimp only;omega)
 intro gB a H
 try have qV:=dF gB
 obtain rfl:k=l.length:=by omega
 rw [wS] at H;refine dW ?_;refine K2 _ _ ?_;clear K2;refine xX ?_;skip;refine eU (ι:=Int × Nat × Nat × OL × GH) (Tc:=[(0,_),(1,_),(2,_),(4,_)]) (Lc:=[(_,_)]) (fun gh=>[]) (fun gh=>[bI bi gh.1]++gh.2.2.2.1) (fun gh=>gh.2.2.2.2) (fun gh=>(∀ b o,G1 b=some o→gh.2.2.2.2 b=some o)∧Now ((FD l id).map stP) stP J (FD l id).length gh.2.2.1 (wW l gh.2.1 gh.1) gh.2.2.2.2 gh.2.2.2.1∧gh.2.2.1+gh.2.1=l.length+1) (fun gh=>gh.2.1) ((id,l.length+1,0,L,G1)) (by exact (H.dP (Pl:=[_,_]) (dD:=[_,_]) [1,0] (by decide) rfl).sub ⟨rfl,rfl,rfl,rfl,aB⟩) ?_ ?_
 ·exact ⟨fun _ _ h=>h,⟨hJ,fun i a h=>by rw [jh,qm];rw [show wW l (l.length+1) id=FD l id from rfl] at h;rw [h];rfl,jh _⟩,jh _⟩
 clear H;intro gh a w hI H;obtain ⟨i,f,j1,Lt,g⟩:=gh;dsimp only at hI H;obtain ⟨hgm,eP,hjf⟩:=hI;have hbg:=aO hgm hb;dsimp only [lca,bG] at H;refine kP H (SQ fun _ K8=>SR fun _ K9=>Ro aH 1 rfl (Rc rfl (Kz K9 (Cd rfl ?_ ?_)))) <;> clear H K9
 ·intro h23 a H
  try have sU:=dT h23
  have h0:¬ i=0:=by simpa using h23
  obtain ⟨an,han⟩:∃ an,an=uw i 0 (l.map bU.id):=⟨_,rfl⟩;have hfn:=Pk i 0 0 (l.map bU.id);rw [← han] at hfn;refine kP H (Kc K8 (SB (SR fun _ aQ=>Rm rfl (Ro aH 1 rfl ?_))));clear H K8;intro a H;refine alq (i:=0) (zv:=vi 0) _ EY nW (by kernel_rfl) H wn rfl rfl rfl (by trivial) (by simpa using hfn) rfl ?_;clear H;intro a H;refine kH H (Rm rfl ?_);clear H;intro a H;(iterate 2 refine jc H wn rfl rfl rfl ?_;clear H;intro a H);refine kH H (Ra rfl (ak aQ rfl (SQ fun _ bH=>SR fun _ bL=>Rm rfl (Rn rfl (Rm rfl (Sp 32 rfl ?_ ?_)))))) <;> clear H aQ
  ·intro h32 a H
   try have p32:=dT h32
   obtain rfl:an=none:=by
    cases an with
    | none=>rfl
    | some n=>simp [BD] at h32
   rw [acI h0 han.symm] at eP;refine kH H (bC h32 rfl (aR h32 rfl (aR h32 rfl (Pt h32 rfl (Kz bL (Ct rfl rfl ?_))))));clear H bL;intro a H;refine cK ?_;refine (leave0 H results135 ?_).1;refine H.hp.iy (L':=Lt) (by repeat (first|exact iV _|apply List.Sublist.cons)) (.inl ?_);have h:=eP.len
   simp only [List.length_nil,tQ] at h
   rw [← h];exact eP.now
  intro h32 a H
  try have p32:=dF h32
  obtain ⟨n,rfl⟩:∃ n,an=some n:=by
   cases an with
   | none=>simp [BD] at h32
   | some n=>exact ⟨n,rfl⟩
  have hnl:n < l.length:=by have:=X6 han.symm;simpa using this
  obtain ⟨f',rfl⟩:∃ f',f=f'+1:=by
   cases f with
   | succ f'=>exact ⟨f',rfl⟩
   | zero =>
    exfalso
    have hl:=eP.len
    simp only [wW,List.length_nil,tQ] at hl
    refine hfin (iU (by omega)) g Lt ?_;rw [← hl];exact eP.now
  rw [acJ h0 han.symm hnl] at eP;dsimp only [BD,Option.map_some] at H;obtain ⟨b,o,pA,pc,rfl,hrow,hp,hrep⟩:=BM (hv.mono hgm) hnl;refine kH H (YM h32 rfl (YR tF h32 rfl (by assumption) ?_));clear H;intro a H;refine kH H (YM h32 rfl (YI nV kI h32 rfl rfl ?_));clear H;intro a H;refine bJ kI (cs:=[_,_,_,_,_,_]) H (wg H rfl rfl h32) rfl rfl (fun j v hj=>H.hp.aJ (hrow j v hj)) rfl ?_;clear H;intro a H;refine GN (Li:=[_,_]) (L:=Lt) H (wg H rfl rfl h32) rfl rfl (hcb j1 _ _ _ _ ⟨_,eP.head,_,rfl,hrep⟩ hgm eP.now (Hp.owns (Li:=[_,_]) H.hp)) rfl ?_;clear H;rintro v38 Ny Uj a w ⟨b38,rfl,hb1,hb2⟩ F4 H;have hbg:=aO F4 hbg;have r3:=aO F4 (hrow 3 _ rfl);refine kH H (YN h32 rfl (Pf h32 rfl (Kz bL (Cd rfl ?_ ?_)))) <;> clear H bL
  ·intro lS a H
   try have p40:=dT lS
   refine cK ?_;refine (leave0 H results135 ?_).1;exact H.hp.iy (L':=Uj) (by repeat (first|exact iV _|apply List.Sublist.cons)) (.inr (hb2 (by simpa using lS)))
  intro lS a H
  try have p40:=dF lS
  refine kP H (Kc bH (SC (Rg tF rfl (by assumption) ?_)));clear H bH;intro a H;refine kH H (Rm rfl (Ri nV kI rfl rfl (Rf O8 rfl (Rg aH rfl (by assumption) ?_))));clear H;intro a H;refine bM aH 1 (vs:=[_]) _ H wn rfl rfl rfl rfl rfl rfl rfl rfl ?_;clear H;intro w H;dsimp only [List.set,setRow] at H;refine aG ?_;refine dh ((l[n].base,f',j1+1,Uj,Ny)) (by exact (H).sub ⟨rfl,rfl,rfl,rfl,aB⟩) ?_ ?_
  ·(try dsimp only);exact ⟨fun b o h=>F4 b o (hgm b o h),eP.step (hb1 (by simpa using lS)),by omega⟩
  first|omega|(dsimp only;omega)
 intro h23 a H
 try have sU:=dF h23
 refine dW ?_;refine (leave0 H results135 ?_).2;rw [acK (by simpa using h23)] at eP;refine H.hp.iy (L':=Lt) (by repeat (first|exact iV _|apply List.Sublist.cons)) (.inl ?_);have h:=eP.len
 simp only [List.length_nil,tQ] at h
 rw [← h];exact eP.now
end
section
open Go.RowKit
theorem adW:∀ args w,(callFunc 115 args).run prog w=.ok (.enter 115 args) w:=enters func115 rfl (by kernel_rfl)
theorem adV:∀ args w,(callFunc 113 args).run prog w=.ok (.enter 113 args) w:=enters func113 rfl (by kernel_rfl)
theorem OB:∀ args w,(callFunc 114 args).run prog w=.ok (.enter 114 args) w:=enters func114 rfl (by kernel_rfl)
theorem Lg:cB prog 181 4 4:=⟨by kernel_rfl⟩
theorem acM {G:GH} {w0:World} (hO:gZ G [] w0) (l:List bU) (id:Int) (v:aj) (hv:ay G (.sl 6 (l.map bU.dat)) v) :
  Calls prog 115 #[v,vi id] w0 (gI w0 G [] fun u G' L'=>∃ bl bi,u=.func (.func 135) #[] #[(aI bl 0),(aI bi 0)]∧L'=[bI bi id]∧aJ G' bl 0=some v):=by
 obtain ⟨A,c,rfl,hc1,hc2,-⟩:=hv.slice;refine jZ (N:=6) (T:=[(0,_),(1,_)]) func115 rfl ntmps115 rfl rfl hO ?_;intro a H;refine dH (fun _ K1=>?_);refine fC (cs:=[_]) H wn rfl rfl rfl ?_;clear H;intro b2 a w hb2 H;refine fC (cs:=[_]) H wn rfl rfl rfl ?_;clear H;intro b3 a w hb3 H;refine kH H (ak K1 rfl (SR fun _ K2=>?_));clear H K1;intro a H;refine qW H wn rfl rfl ?_;clear H;intro a H;refine kH H (ak K2 rfl ?_);clear H K2;intro a H;refine lr H results115 rfl ?_;have H:=H.dP (Pl:=[_,_]) (dD:=[_,_]) [1,0] (by decide) rfl;obtain ⟨Ga,hma,hb2',H⟩:=H.eu;exact H.hp.eX ⟨b2,b3,rfl,rfl,by unfold aJ;rw [hb2'];rfl⟩
def sI (p:Nat→Int):Nat→Nat→Int
 | _,0=>0
 | k,n+1=>if p k=0 then sI p (k+1) n else p k
theorem afD {p:Nat→Int} {k m:Nat} (h:k < m):sI p k (m - k)=if p k=0 then sI p (k+1) (m - (k+1)) else p k:=by
 obtain ⟨n,hn⟩:∃ n,m - k=n+1:=⟨m - k - 1,by omega⟩;rw [hn,sI,show m - (k+1)=n by omega]
theorem afC {p:Nat→Int} {k m:Nat} (h:m≤k):sI p k (m - k)=0:=by rw [show m - k=0 by omega];rfl
theorem VW {p:Nat→Int}:∀ {n k:Nat},sI p k n=0→∀ j,k≤j→j < k+n→p j=0
 | 0,k,_,j,h1,h2=>by omega
 | n+1,k,h,j,h1,h2=>by
  rw [sI] at h;split at h
  ·rename_i hp
   by_cases e:j=k
   ·rw [e];exact hp
   exact VW h j (by omega) (by omega)
  rename_i hp;exact absurd h hp
def yV (l:List bU) (k:Nat):Int:=match l[k]? with|some s=>iP l k s|none=>0
theorem Zd {l:List bU} {k:Nat} (h:k < l.length):yV l k=iP l k l[k]:=by unfold yV;rw [iA h]
def sG (l:List bU) (s:bU):Bool:=(decide (s.base≠0) && !Ez l s.kind s.base) || (decide (s.next≠0) && (decide (s.kind=2) || !Ez l 1 s.next))
def Ov (l:List bU) (s:bU):Bool:=decide (l.length < (FD l s.id).length)
def gJ (l:List bU):Int:=if 128 < l.length then 9 else if sI (yV l) 0 l.length≠0 then sI (yV l) 0 l.length else if l.any (sG l)=true then 25 else if l.any (Ov l)=true then 16 else 0
theorem aks {l:List bU} (h:sI (yV l) 0 l.length=0) {k:Nat} (hk:k+1 < l.length):l[k].id < l[k+1].id:=by
 have h1:=VW h (k+1) (iB _) (by omega);rw [Zd hk,iP,lu] at h1
 have hp:xG l (k+1)=some l[k].id:=by rw [xG,ah (by omega),Nat.add_sub_cancel,iA (by omega)];rfl
 rw [hp] at h1
 split at h1
 ·cases h1
 split at h1
 ·cases h1
 split at h1
 ·cases h1
 rename_i _ h2 h3
 have h2':¬ l[k].id=l[k+1].id:=fun e=>h2 (by rw [e]);have h3':¬ l[k+1].id < l[k].id:=fun e=>h3 (aA e)
 omega
theorem Ze {l:List bU} (h:sI (yV l) 0 l.length=0):∀ {k j:Nat} (hk:k < l.length) (hj:j < k),l[j].id < l[k].id
 | k+1,j,hk,hj=>by
  have h1:=aks h hk
  by_cases e:j=k
  ·subst e;exact h1
  have:=Ze h (k:=k) (j:=j) (by omega) (by omega)
  omega
theorem Zf {l:List bU} (h:sI (yV l) 0 l.length=0) (k:Nat) (hk:k < l.length):l[k].id∉(l.take k).map bU.id:=by
 intro hm;obtain ⟨x,hx1,hx2⟩:=List.mem_map.1 hm;obtain ⟨j,hj,rfl⟩:=List.getElem_of_mem hx1;rw [List.getElem_take] at hx2;rw [List.length_take] at hj;have:=Ze h hk (j:=j) (by omega)
 omega
theorem Im {α:Type} {p:α→Bool} {l:List α} {k:Nat} (hk:k < l.length) (h:(l.take k).any p=false) (hp:p l[k]=false):(l.take (k+1)).any p=false:=by
 rw [jg hk,List.any_append,h];simp [hp]
theorem uM {α:Type} {p:α→Bool} {l:List α} {k:Nat} (hk:k < l.length) (hp:p l[k]=true):l.any p=true:=List.any_eq_true.2 ⟨_,iF hk,hp⟩
theorem zD {α:Type} {p:α→Bool} {l:List α} {k:Nat} (hk:l.length≤k) (h:(l.take k).any p=false):¬ l.any p=true:=by
 rw [jF hk] at h;rw [h];decide
set_option maxHeartbeats 1000000 in
theorem acU (G:GH) (w0:World) (hG:Hold G w0) (l:List bU) (v:aj) (hv:ay G (.sl 6 (l.map bU.dat)) v) (hN:∀ s∈l,s.name.size≤4611686018427387904) :
  Calls prog 80 #[v] w0 (bq w0 G fun u G'=>u=vi (gJ l)):=by
 obtain ⟨A,c,rfl,hc1,hc2,-⟩:=hv.slice;have hml:maxLen=9223372036854775807:=rfl;rw [bV] at *;refine eN [(0,_)] func80 rfl ntmps80 rfl rfl hG ?_;intro a H;refine dH (fun _ K1=>?_);refine fC (cs:=[_]) H wn rfl rfl rfl ?_;clear H;intro b1 a w hb1 H;refine eB gN H wn rfl ?_;clear H;intro b2 a w hb2 H;refine K1 _ _ ?_;clear K1;refine kP H (SQ fun _ K2=>SR fun _ K3=>Ro tF 1 rfl (Rl nV rfl (Rc rfl (Kz K3 (Cd rfl ?_ ?_))))) <;> clear H K3
 ·intro h12 a H
  try have qE:=dT h12
  refine dH (fun _ K4=>?_);refine bM gN 0 (vs:=[_]) _ H wn rfl rfl rfl rfl rfl rfl rfl rfl ?_;clear H;intro w H;dsimp only [List.set,setRow] at H;refine K4 _ _ ?_;clear K4;refine cK ?_;refine (leave1 H results80 (.cons (uD gN H rfl (H.hp.nM 0 rfl rfl)) .nil) ?_).1
  first
   | exact H.rt (aC vi (by rw [gJ,av (by omega)]))
   | exact H.rt (aC vi (by rw [ah (by simpa using iC)] at heq;rw [gJ,ah (by omega),← heq,av (by simpa using iC)]))
   | exact H.rt (aC vi (by rw [gJ,ah (by omega),ah (by rw [hok];decide),av hbad]))
   | exact H.rt (aC vi (by rw [gJ,ah (by omega),ah (by rw [hok];decide),ah hbad,av (uM hj2 hI)]))
   | exact H.rt (aC vi (by rw [gJ,ah (by omega),ah (by rw [hok];decide),ah hbad,ah (zD (by omega) hnc)]))
 intro h12 a H
 try have qE:=dF h12
 refine kP H (Kc K2 (SQ fun _ K5=>SR fun _ K6=>Ro tF 1 rfl (Rl nV rfl (Rm rfl (Kz K6 (SB ?_))))));clear H K2 K6;intro a H;skip;refine eU (ι:=Nat × GH) (Tc:=[(1,_),(2,_),(14,_)]) (Lc:=[(_,_),(_,_)]) (fun gh=>[(15,vi gh.1)]) (fun gh=>[]) (fun gh=>gh.2) (fun gh=>gh.1≤l.length∧sI (yV l) gh.1 (l.length - gh.1)=sI (yV l) 0 l.length∧(∀ b o,G b=some o→gh.2 b=some o)) (fun gh=>l.length - gh.1) ((0,G)) (by exact (H).sub ⟨rfl,rfl,rfl,rfl,aB⟩) ?_ ?_
 ·exact ⟨iB _,rfl,fun _ _ h=>h⟩
 clear H;intro gh a w hI H;obtain ⟨k,g⟩:=gh;dsimp only at hI H;obtain ⟨hk,heq,hgm⟩:=hI;dsimp only [lca,bG] at H;refine kP H (SR fun _ K7=>Rc rfl (Kz K7 (SQ fun _ K8=>Cd rfl ?_ ?_))) <;> clear H K7
 ·intro h16 a H
  try have p16:=dT h16
  have hk2:k < l.length:=by omega
  rw [afD hk2,Zd hk2] at heq;refine kP H (Kc K8 (SQ fun _ K9=>SB (SR fun _ aQ=>Rm rfl (ak aQ rfl (SR fun _ bH=>Ro tF 1 rfl (Rm rfl ?_))))));clear H K8 aQ;intro a H;refine s_call adV H wn rfl (akt _ _ H.ro l k _ (hv.mono hgm) hk2 (hN _ (iF hk2))) rfl ?_;clear H;rintro v20 Fg a w rfl Cy H;refine kH H (ak bH rfl (SR fun _ bL=>Rm rfl (Rc rfl (Kz bL (Cd rfl ?_ ?_))))) <;> clear H bH bL
  ·intro h22 a H
   try have iC:=dT h22
   refine kP H (SR fun _ bR=>Rm rfl ?_);clear H;intro a H;refine bM gN 0 (vs:=[_]) _ H wn rfl rfl rfl rfl rfl rfl rfl rfl ?_;clear H;intro w H;dsimp only [List.set,setRow] at H;refine bR _ _ ?_;clear bR;refine cK ?_;refine (leave1 H results80 (.cons (uD gN H rfl (H.hp.nM 0 rfl rfl)) .nil) ?_).1
   first
    | exact H.rt (aC vi (by rw [gJ,av (by omega)]))
    | exact H.rt (aC vi (by rw [ah (by simpa using iC)] at heq;rw [gJ,ah (by omega),← heq,av (by simpa using iC)]))
    | exact H.rt (aC vi (by rw [gJ,ah (by omega),ah (by rw [hok];decide),av hbad]))
    | exact H.rt (aC vi (by rw [gJ,ah (by omega),ah (by rw [hok];decide),ah hbad,av (uM hj2 hI)]))
    | exact H.rt (aC vi (by rw [gJ,ah (by omega),ah (by rw [hok];decide),ah hbad,ah (zD (by omega) hnc)]))
  intro h22 a H
  try have iC:=dF h22
  refine kP H (Kc K9 (SC (Rd rfl (Rm rfl ?_))));clear H K9;intro a H;refine aG ?_;refine dh ((k+1,Fg)) (by exact (H).sub ⟨rfl,rfl,rfl,rfl,aB⟩) ?_ ?_
  ·(try dsimp only);exact ⟨by omega,by rw [av (by simpa using iC)] at heq;exact heq,fun b o h=>Cy b o (hgm b o h)⟩
  first|omega|(dsimp only;omega)
 intro h16 a H
 try have p16:=dF h16
 have hok:sI (yV l) 0 l.length=0:=by rw [← heq];exact afC (by omega)
 clear heq;have Ew:=hv.mono hgm;refine dW ?_;refine K5 _ _ ?_;clear K5;refine kP H (SQ fun _ bQ=>SR fun _ dJ=>Ro tF 1 rfl (Rl nV rfl (Rm rfl (Kz dJ (SB ?_)))));clear H dJ;intro a H;skip;refine eU (ι:=Nat × GH) (Tc:=[(1,_),(2,_),(25,_),(26,_)]) (Lc:=[(_,_),(_,_)]) (fun gh=>[(27,vi gh.1)]) (fun gh=>[]) (fun gh=>gh.2) (fun gh=>gh.1≤l.length∧(l.take gh.1).any (sG l)=false∧(∀ b o,g b=some o→gh.2 b=some o)) (fun gh=>l.length - gh.1) ((0,g)) (by exact (H).sub ⟨rfl,rfl,rfl,rfl,rfl,aB⟩) ?_ ?_
 ·exact ⟨iB _,rfl,fun _ _ h=>h⟩
 clear H;intro gh a w hI H;obtain ⟨k,g2⟩:=gh;dsimp only at hI H;obtain ⟨hk3,hno,pO⟩:=hI;have yP:=Ew.mono pO;dsimp only [lca,bG] at H;refine kP H (SR fun _ dO=>Rc rfl (Kz dO (SQ fun _ dK=>Cd rfl ?_ ?_))) <;> clear H dO
 ·intro fH a H
  try have p28:=dT fH
  have hk4:k < l.length:=by omega
  obtain ⟨b,o,pA,pc,rfl,hrow,hp,hrep⟩:=BM yP hk4;refine kP H (Kc dK (SQ fun _ eO=>SB (SR fun _ gH=>Ri nV kI rfl rfl ?_)));clear H dK;intro a H;refine bJ kI (cs:=[_,_,_,_,_,_]) H wn rfl rfl (fun j v hj=>H.hp.aJ (hrow j v hj)) rfl ?_;clear H;intro a H;refine eB kI H wn rfl ?_;clear H;intro b6 a w hb6 H;refine bM kI 0 (vs:=[_,_,_,_,_,_]) _ H wn rfl rfl rfl rfl rfl rfl rfl rfl ?_;clear H;intro w H;dsimp only [List.set,setRow] at H;refine gH _ _ ?_;clear gH;refine kP H (SR fun _ fE=>aT O8 aH 0 rfl rfl (Rc rfl (Rm rfl (Sp 34 rfl ?_ ?_)))) <;> clear H
  ·intro gD a H
   try have p34:=dT gD
   refine kH H (YO tF 2 gD rfl (YF wZ gD rfl (YO aH 0 gD rfl (YF O8 gD rfl (YO aH 0 gD rfl ?_)))));clear H;intro a H;refine s_call OB H (wg H rfl rfl gD) rfl (QT _ _ H.ro l l[k].kind l[k].base _ yP) rfl ?_;clear H;rintro v40 g2 a w rfl Er H;replace pO:=fun b o (h:g b=some o)=>Er b o (pO b o h);replace yP:=yP.mono Er;refine kH H (YN gD rfl (Pt gD rfl (Rm rfl (Sp 43 rfl ?_ ?_)))) <;> clear H
   ·intro h43 a H
    try have p43:=dT h43
    refine kH H (aR h43 rfl (aR h43 rfl (Ku rfl (Ku rfl (Ku rfl (Ku rfl (Ku rfl (Ku rfl (Ku rfl (Ku rfl (Ku rfl (Ku rfl (Ks h43 rfl (Pt h43 rfl (Kz fE (Ct rfl rfl (SQ fun _ gL=>?_)))))))))))))))));clear H fE;intro a H;have hbad:l.any (sG l)=true:=uM hk4 (by unfold sG;simp_all);refine oH ?_;refine bM gN 1 (vs:=[_]) _ H wn rfl rfl rfl rfl rfl rfl rfl rfl ?_;clear H;intro w H;dsimp only [List.set,setRow] at H;refine aG ?_;refine gL _ _ ?_;clear gL;refine cK ?_;refine (leave1 H results80 (.cons (uD gN H rfl (H.hp.nM 1 rfl rfl)) .nil) ?_).1
    first
     | exact H.rt (aC vi (by rw [gJ,av (by omega)]))
     | exact H.rt (aC vi (by rw [ah (by simpa using iC)] at heq;rw [gJ,ah (by omega),← heq,av (by simpa using iC)]))
     | exact H.rt (aC vi (by rw [gJ,ah (by omega),ah (by rw [hok];decide),av hbad]))
     | exact H.rt (aC vi (by rw [gJ,ah (by omega),ah (by rw [hok];decide),ah hbad,av (uM hj2 hI)]))
     | exact H.rt (aC vi (by rw [gJ,ah (by omega),ah (by rw [hok];decide),ah hbad,ah (zD (by omega) hnc)]))
   intro h43 a H
   try have p43:=dF h43
   refine kH H (YF Lg h43 rfl (YO aH 0 h43 rfl (YC h43 rfl (YM h43 rfl (Sp 47 rfl ?_ ?_))))) <;> clear H
   ·intro h47 a H
    try have p47:=dT h47
    refine kH H (YF wZ h47 rfl (YO aH 0 h47 rfl (YC h47 rfl (YM h47 rfl (Sp 51 rfl ?_ ?_))))) <;> clear H
    ·intro jB a H
     try have p51:=dT jB
     refine kH H (bC jB rfl (aR jB rfl (PT h47 jB rfl (PT h43 h47 rfl (Pf h43 rfl (Kz fE (Ct rfl rfl (SQ fun _ jl=>?_))))))));clear H fE;intro a H;have hbad:l.any (sG l)=true:=uM hk4 (by unfold sG;simp_all);refine oH ?_;refine bM gN 1 (vs:=[_]) _ H wn rfl rfl rfl rfl rfl rfl rfl rfl ?_;clear H;intro w H;dsimp only [List.set,setRow] at H;refine aG ?_;refine jl _ _ ?_;clear jl;refine cK ?_;refine (leave1 H results80 (.cons (uD gN H rfl (H.hp.nM 1 rfl rfl)) .nil) ?_).1
     first
      | exact H.rt (aC vi (by rw [gJ,av (by omega)]))
      | exact H.rt (aC vi (by rw [ah (by simpa using iC)] at heq;rw [gJ,ah (by omega),← heq,av (by simpa using iC)]))
      | exact H.rt (aC vi (by rw [gJ,ah (by omega),ah (by rw [hok];decide),av hbad]))
      | exact H.rt (aC vi (by rw [gJ,ah (by omega),ah (by rw [hok];decide),ah hbad,av (uM hj2 hI)]))
      | exact H.rt (aC vi (by rw [gJ,ah (by omega),ah (by rw [hok];decide),ah hbad,ah (zD (by omega) hnc)]))
    intro jB a H
    try have p51:=dF jB
    refine kH H (YO tF 2 jB rfl (YF Lg jB rfl (YO aH 0 jB rfl ?_)));clear H;intro a H;refine s_call OB H (wg H rfl rfl jB) rfl (QT _ _ H.ro l 1 l[k].next _ yP) rfl ?_;clear H;rintro v55 g2 a w rfl uo H;replace pO:=fun b o (h:g b=some o)=>uo b o (pO b o h);replace yP:=yP.mono uo;refine kH H (YN jB rfl (PF h47 jB rfl (PT h43 h47 rfl (Pf h43 rfl (Kz fE (Cd rfl ?_ ?_)))))) <;> clear H fE
    ·intro iI a H
     try have p59:=dT iI
     refine bK (fun _ kC=>?_);have hbad:l.any (sG l)=true:=uM hk4 (by unfold sG;simp_all);refine oH ?_;refine bM gN 1 (vs:=[_]) _ H wn rfl rfl rfl rfl rfl rfl rfl rfl ?_;clear H;intro w H;dsimp only [List.set,setRow] at H;refine aG ?_;refine kC _ _ ?_;clear kC;refine cK ?_;refine (leave1 H results80 (.cons (uD gN H rfl (H.hp.nM 1 rfl rfl)) .nil) ?_).1
     first
      | exact H.rt (aC vi (by rw [gJ,av (by omega)]))
      | exact H.rt (aC vi (by rw [ah (by simpa using iC)] at heq;rw [gJ,ah (by omega),← heq,av (by simpa using iC)]))
      | exact H.rt (aC vi (by rw [gJ,ah (by omega),ah (by rw [hok];decide),av hbad]))
      | exact H.rt (aC vi (by rw [gJ,ah (by omega),ah (by rw [hok];decide),ah hbad,av (uM hj2 hI)]))
      | exact H.rt (aC vi (by rw [gJ,ah (by omega),ah (by rw [hok];decide),ah hbad,ah (zD (by omega) hnc)]))
    intro iI a H
    try have p59:=dF iI
    refine kP H (Kc eO (SC (Rd rfl (Rm rfl ?_))));clear H eO;intro a H;refine aG ?_;refine dh ((k+1,g2)) (by exact (H.dP (Pl:=[_,_,_]) (dD:=[_,_]) [1,2] (by decide) rfl).sub ⟨rfl,rfl,rfl,rfl,rfl,aB⟩) ?_ ?_
    ·(try dsimp only);exact ⟨by omega,Im hk4 hno (by unfold sG;simp_all),pO⟩
    first|omega|(dsimp only;omega)
   intro h47 a H
   try have p47:=dF h47
   refine kH H (aR h47 rfl (aR h47 rfl (Ku rfl (Ku rfl (Ku rfl (Ku rfl (Ku rfl (Ks h47 rfl (PF h43 h47 rfl (Pf h43 rfl (Kz fE (Cf rfl rfl (Kc eO (SC (Rd rfl (Rm rfl ?_))))))))))))))));clear H fE eO;intro a H;refine aG ?_;refine dh ((k+1,g2)) (by exact (H.dP (Pl:=[_,_,_]) (dD:=[_,_]) [1,2] (by decide) rfl).sub ⟨rfl,rfl,rfl,rfl,rfl,aB⟩) ?_ ?_
   ·(try dsimp only);exact ⟨by omega,Im hk4 hno (by unfold sG;simp_all),pO⟩
   first|omega|(dsimp only;omega)
  intro gD a H
  try have p34:=dF gD
  refine kH H (bC gD rfl (aR gD rfl (aR gD rfl (Pf gD rfl (Rm rfl ?_)))));clear H;intro a H;refine zY Lg H (wg H rfl rfl rfl) rfl rfl ?_;clear H;intro a H;refine pX aH H (wg H rfl rfl rfl) rfl (H.hp.nM 0 rfl rfl) rfl ?_;clear H;intro a H;refine GQ H (wg H rfl rfl rfl) rfl rfl rfl rfl ?_;clear H;intro a H;refine uE H (wg H rfl rfl rfl) rfl rfl ?_;clear H;intro a H;refine M0 H 47 rfl ?_ ?_
  ·intro h47
   try have p47:=dT h47
   refine kH H (YF wZ h47 rfl (YO aH 0 h47 rfl (YC h47 rfl (YM h47 rfl (Sp 51 rfl ?_ ?_))))) <;> clear H
   ·intro jB a H
    try have p51:=dT jB
    refine kH H (bC jB rfl (aR jB rfl (PT h47 jB rfl ?_)));clear H;intro a H;refine GU H (wg H rfl rfl rfl) rfl h47 rfl rfl ?_;clear H;intro a H;refine kH H (Pf rfl rfl (Kz fE (Ct rfl rfl (SQ fun _ jY=>?_))));clear H fE;intro a H;have hbad:l.any (sG l)=true:=uM hk4 (by unfold sG;simp_all);refine oH ?_;refine bM gN 1 (vs:=[_]) _ H wn rfl rfl rfl rfl rfl rfl rfl rfl ?_;clear H;intro w H;dsimp only [List.set,setRow] at H;refine aG ?_;refine jY _ _ ?_;clear jY;refine cK ?_;refine (leave1 H results80 (.cons (uD gN H rfl (H.hp.nM 1 rfl rfl)) .nil) ?_).1
    first
     | exact H.rt (aC vi (by rw [gJ,av (by omega)]))
     | exact H.rt (aC vi (by rw [ah (by simpa using iC)] at heq;rw [gJ,ah (by omega),← heq,av (by simpa using iC)]))
     | exact H.rt (aC vi (by rw [gJ,ah (by omega),ah (by rw [hok];decide),av hbad]))
     | exact H.rt (aC vi (by rw [gJ,ah (by omega),ah (by rw [hok];decide),ah hbad,av (uM hj2 hI)]))
     | exact H.rt (aC vi (by rw [gJ,ah (by omega),ah (by rw [hok];decide),ah hbad,ah (zD (by omega) hnc)]))
   intro jB a H
   try have p51:=dF jB
   refine kH H (YO tF 2 jB rfl (YF Lg jB rfl (YO aH 0 jB rfl ?_)));clear H;intro a H;refine s_call OB H (wg H rfl rfl jB) rfl (QT _ _ H.ro l 1 l[k].next _ yP) rfl ?_;clear H;rintro v55 g2 a w rfl uo H;replace pO:=fun b o (h:g b=some o)=>uo b o (pO b o h);replace yP:=yP.mono uo;refine kH H (YN jB rfl (PF h47 jB rfl ?_));clear H;intro a H;refine GU H (wg H rfl rfl rfl) rfl h47 rfl rfl ?_;clear H;intro a H;refine kH H (Pf rfl rfl (Kz fE (Cd rfl ?_ ?_))) <;> clear H fE
   ·intro iI a H
    try have p59:=dT iI
    refine bK (fun _ jJ=>?_);have hbad:l.any (sG l)=true:=uM hk4 (by unfold sG;simp_all);refine oH ?_;refine bM gN 1 (vs:=[_]) _ H wn rfl rfl rfl rfl rfl rfl rfl rfl ?_;clear H;intro w H;dsimp only [List.set,setRow] at H;refine aG ?_;refine jJ _ _ ?_;clear jJ;refine cK ?_;refine (leave1 H results80 (.cons (uD gN H rfl (H.hp.nM 1 rfl rfl)) .nil) ?_).1
    first
     | exact H.rt (aC vi (by rw [gJ,av (by omega)]))
     | exact H.rt (aC vi (by rw [ah (by simpa using iC)] at heq;rw [gJ,ah (by omega),← heq,av (by simpa using iC)]))
     | exact H.rt (aC vi (by rw [gJ,ah (by omega),ah (by rw [hok];decide),av hbad]))
     | exact H.rt (aC vi (by rw [gJ,ah (by omega),ah (by rw [hok];decide),ah hbad,av (uM hj2 hI)]))
     | exact H.rt (aC vi (by rw [gJ,ah (by omega),ah (by rw [hok];decide),ah hbad,ah (zD (by omega) hnc)]))
   intro iI a H
   try have p59:=dF iI
   refine kP H (Kc eO (SC (Rd rfl (Rm rfl ?_))));clear H eO;intro a H;refine aG ?_;refine dh ((k+1,g2)) (by exact (H.dP (Pl:=[_,_,_]) (dD:=[_,_]) [1,2] (by decide) rfl).sub ⟨rfl,rfl,rfl,rfl,rfl,aB⟩) ?_ ?_
   ·(try dsimp only);exact ⟨by omega,Im hk4 hno (by unfold sG;simp_all),pO⟩
   first|omega|(dsimp only;omega)
  intro h47
  try have p47:=dF h47
  refine kH H (aR h47 rfl (aR h47 rfl (Ku rfl (Ku rfl (Ku rfl (Ku rfl (Ku rfl (Ks h47 rfl ?_))))))));clear H;intro a H;refine JW H (wg H rfl rfl rfl) rfl h47 rfl rfl ?_;clear H;intro a H;refine kH H (Pf rfl rfl (Kz fE (Cf rfl rfl (Kc eO (SC (Rd rfl (Rm rfl ?_)))))));clear H fE eO;intro a H;refine aG ?_;refine dh ((k+1,g2)) (by exact (H.dP (Pl:=[_,_,_]) (dD:=[_,_]) [1,2] (by decide) rfl).sub ⟨rfl,rfl,rfl,rfl,rfl,aB⟩) ?_ ?_
  ·(try dsimp only);exact ⟨by omega,Im hk4 hno (by unfold sG;simp_all),pO⟩
  first|omega|(dsimp only;omega)
 intro fH a H
 try have p28:=dF fH
 have hbad:=zD (by omega) hno;refine dW ?_;refine bQ _ _ ?_;clear bQ;refine kP H (SQ fun _ kJ=>SR fun _ lF=>Ro tF 1 rfl (Rl nV rfl (Rm rfl (Kz lF (SB ?_)))));clear H lF;intro a H;skip;refine aco (ι:=Nat × GH × List Nat) (Tc:=[(1,_),(2,_),(61,_),(62,_)]) (Lc:=[(_,_),(_,_)]) (fun gh=>Rb gh.2.2) (fun gh=>[(63,vi gh.1)]) (fun gh=>[]++(EH gh.2.2++[])) (fun gh=>gh.2.1) (fun gh=>gh.1≤l.length∧(l.take gh.1).any (Ov l)=false∧(∀ b o,g2 b=some o→gh.2.1 b=some o)) (fun gh=>l.length - gh.1) ((0,g2,[])) (by exact (H).sub ⟨rfl,rfl,rfl,rfl,rfl,aB⟩) ?_ ?_
 ·exact ⟨iB _,rfl,fun _ _ h=>h⟩
 clear H;intro gh a w hI H;obtain ⟨j,g3,ds⟩:=gh;dsimp only at hI H;obtain ⟨hj,hnc,Bl⟩:=hI;have QL:=yP.mono Bl;dsimp only [lca,bG] at H;refine kP H (SR fun _ jK=>Rc rfl (Kz jK (SQ fun _ oV=>Cd rfl ?_ ?_))) <;> clear H jK
 ·intro h64 a H
  try have p64:=dT h64
  have hj2:j < l.length:=by omega
  obtain ⟨b,o,pA,pc,rfl,hrow,hp,hrep⟩:=BM QL hj2;refine kP H (Kc oV (SQ fun _ qh=>SB (SR fun _ qH=>Ri nV kI rfl rfl ?_)));clear H oV;intro a H;refine bJ kI (cs:=[_,_,_,_,_,_]) H wn rfl rfl (fun j v hj=>H.hp.aJ (hrow j v hj)) rfl ?_;clear H;intro a H;refine eB kI H wn rfl ?_;clear H;intro b8 a w I4 H;refine bM kI 0 (vs:=[_,_,_,_,_,_]) _ H wn rfl rfl rfl rfl rfl rfl rfl rfl ?_;clear H;intro w H;dsimp only [List.set,setRow] at H;refine qH _ _ ?_;clear qH;refine dH (fun _ rC=>?_);refine eB aH H wn rfl ?_;clear H;intro b9 a w yH H;refine bM aH 0 (vs:=[_]) _ H wn rfl rfl rfl rfl rfl rfl rfl rfl ?_;clear H;intro w H;dsimp only [List.set,setRow] at H;refine rC _ _ ?_;clear rC;refine kP H (SR fun _ qI=>Ro tF 3 rfl (aT uR aH 1 rfl rfl ?_));clear H;intro a H;refine gY adW (Li:=[_,_,_,_]++EH ds) (L:=[]) (St.un (A:=[_,_,_,_]) H) wn rfl (acM (Hp.owns (Li:=[_,_,_,_]++EH ds) (St.un (A:=[_,_,_,_]) H).hp) l l[j].id _ QL) rfl ?_;clear H;rintro v70 g4 L70 a w ⟨bl,bi,rfl,rfl,hbl⟩ Xp H;have H:=(St.Y4 (A:=[_,_,_,_,_]) (B:=EH ds) (H.perm Ay));dsimp only [lca,bG] at H;have hit:=acL (l:=l) (id:=l[j].id) (bi:=bi) hbl (QL.mono Xp) (Zf hok);refine qI _ _ ?_;clear qI;refine xX ?_;skip;refine acs (B:=[(_,_)]) (ι:=Unit) (κ:=Int) (Lc:=[(_,_),(_,_)]) (fun (k:Nat) (gh:Unit)=>[(b9,.cells #[vi k] 3 (0,0)),(b2,.cells #[vi 0] 56 (0,0))]) (fun (k:Nat) (gh:Unit)=>(EH ds++[])) (fun (k:Nat) (gh:Unit) (g:GH)=>k≤l.length) (fun (gx:Int)=>Code.ret) (fun (gx:Int)=>[(b9,.cells #[vi gx] 3 (0,0)),(b2,.cells #[vi 16] 56 (0,0))]) (fun (gx:Int)=>(EH ds++[])) (fun (gx:Int) (g:GH)=>Ov l l[j]=true) (()) (by exact H.dP (Pl:=[_,_,_,_,_]) (dD:=[_,_,_,_,_]) [0,2,4,1,3] (by decide) rfl) rfl Vv (hit) (fun _ _ h=>h) (fun e i g h=>absurd (of_decide_eq_false e) (by rw [bV] at h;omega)) rfl (fun k args g h=>by obtain ⟨_,_,rfl,_⟩:=aal h;rfl) (fun _ _ _ _ _ h=>h) (fun _ _ _ _ h=>h) (iB _) ?_ ?_ ?_
  ·clear H;intro l21 CZ zH bk k args gh Nw w21 F21 B21 a Xl yJ hI ahq ahU ais H;obtain ⟨Xl,anp,rfl,anU⟩:=aal Xl;dsimp only [xW,List.cons_append,List.nil_append] at H;refine fZ ?_;refine ahq _ _ _ _ _ _ (by exact H) ?_;clear H;intro w H;refine kP H (SB (SR fun _ tL=>Ro aH 3 rfl (Rd rfl ?_)));clear H;intro a H;refine bM aH 3 (vs:=[_]) _ H wn rfl rfl rfl rfl rfl rfl rfl rfl ?_;clear H;intro w H;dsimp only [List.set,setRow] at H;refine tL _ _ ?_;clear tL;refine kP H (SR fun _ vM=>Ro aH 3 rfl (Ro tF 2 rfl (Rl nV rfl (Rc rfl (Kz vM (Cd rfl ?_ ?_)))))) <;> clear H vM
   ·intro Ed a H
    try have Gy:=dT Ed
    refine dH (fun _ sw=>?_);refine bM gN 4 (vs:=[_]) _ H wn rfl rfl rfl rfl rfl rfl rfl rfl ?_;clear H;intro w H;dsimp only [List.set,setRow] at H;refine sw _ _ ?_;clear sw;refine cK ?_;refine (ais ((k:Int)+1) _ _ _ _ _ (by exact H) ?_).1 rfl;exact jy (by omega)
   intro Ed a H
   try have Gy:=dF Ed
   refine fZ ?_;refine ahU (()) _ _ _ _ _ (by exact H) ?_
   omega
  ·clear H;intro Tk gh TB a w yJ hI H;dsimp only [lca,bG] at H;refine qh _ _ ?_;clear qh;refine kP H (SC (Rd rfl (Rm rfl ?_)));clear H;intro a H;refine aG ?_;refine ajs ((j+1,TB,Tk :: ds)) (by exact (H.dP (Pl:=[_,_,_,_,_]) (dD:=[_,_,_]) [4,2,0] (by decide) rfl).sub ⟨rfl,rfl,rfl,rfl,rfl,aB⟩) ?_ ?_
   ·(try dsimp only);exact ⟨by omega,Im hj2 hnc (iU (by rw [bV] at hI;omega)),fun b o h=>yJ b o (Xp b o (Bl b o h))⟩
   first|omega|(dsimp only;omega)
  clear H;intro Tk gx TB a w yJ hI H;obtain ⟨x,hgh⟩:∃ x,x=gx:=⟨_,rfl⟩;subst hgh;dsimp only [lca,bG] at H;refine cK ?_;refine (JF H 0 rfl ?_).1;clear H;intro a w H;dsimp only [List.eraseIdx_cons_succ,List.eraseIdx_cons_zero] at H;refine (Q0 (Lh:=[_,_,_,_]) _ H ?_).1;clear H;intro a w H;dsimp only [lca,bG] at H;refine (leave1 H results80 (.cons (uD gN H rfl (H.hp.nM 3 rfl rfl)) .nil) ?_).1
  first
   | exact H.rt (aC vi (by rw [gJ,av (by omega)]))
   | exact H.rt (aC vi (by rw [ah (by simpa using iC)] at heq;rw [gJ,ah (by omega),← heq,av (by simpa using iC)]))
   | exact H.rt (aC vi (by rw [gJ,ah (by omega),ah (by rw [hok];decide),av hbad]))
   | exact H.rt (aC vi (by rw [gJ,ah (by omega),ah (by rw [hok];decide),ah hbad,av (uM hj2 hI)]))
   | exact H.rt (aC vi (by rw [gJ,ah (by omega),ah (by rw [hok];decide),ah hbad,ah (zD (by omega) hnc)]))
 intro h64 a H
 try have p64:=dF h64
 refine dW ?_;refine kJ _ _ ?_;clear kJ;refine dH (fun _ xQ=>?_);refine bM gN 0 (vs:=[_]) _ H wn rfl rfl rfl rfl rfl rfl rfl rfl ?_;clear H;intro w H;dsimp only [List.set,setRow] at H;refine xQ _ _ ?_;clear xQ;refine cK ?_;refine (Q0 (Lh:=[_,_]) _ H ?_).1;clear H;intro a w H;dsimp only [lca,bG] at H;refine (leave1 H results80 (.cons (uD gN H rfl (H.hp.nM 0 rfl rfl)) .nil) ?_).1
 first
  | exact H.rt (aC vi (by rw [gJ,av (by omega)]))
  | exact H.rt (aC vi (by rw [ah (by simpa using iC)] at heq;rw [gJ,ah (by omega),← heq,av (by simpa using iC)]))
  | exact H.rt (aC vi (by rw [gJ,ah (by omega),ah (by rw [hok];decide),av hbad]))
  | exact H.rt (aC vi (by rw [gJ,ah (by omega),ah (by rw [hok];decide),ah hbad,av (uM hj2 hI)]))
  | exact H.rt (aC vi (by rw [gJ,ah (by omega),ah (by rw [hok];decide),ah hbad,ah (zD (by omega) hnc)]))
end
section
open Go.RowKit
theorem xM:Ty prog 34 1 24 [.slice none 0 0] false:=⟨by kernel_rfl,by kernel_rfl⟩
theorem zq:prog.underlying 34=some (.slice 219):=by kernel_rfl
theorem Da:Ty prog 219 2 32 [.string ⟨#[]⟩,.string ⟨#[]⟩] true:=⟨by kernel_rfl,by kernel_rfl⟩
theorem FQ:cB prog 219 0 0:=⟨by kernel_rfl⟩
theorem OD:∀ args w,(callFunc 124 args).run prog w=.ok (.enter 124 args) w:=enters func124 rfl (by kernel_rfl)
theorem Wj:cB prog 219 1 1:=⟨by kernel_rfl⟩
theorem O9:cB prog 36 0 0:=⟨by kernel_rfl⟩
theorem afh:∀ args w,(callFunc 80 args).run prog w=.ok (.enter 80 args) w:=enters func80 rfl (by kernel_rfl)
theorem Pb:cB prog 36 1 1:=⟨by kernel_rfl⟩
theorem afi:∀ args w,(callFunc 81 args).run prog w=.ok (.enter 81 args) w:=enters func81 rfl (by kernel_rfl)
theorem Wp:cB prog 36 2 2:=⟨by kernel_rfl⟩
theorem afj:∀ args w,(callFunc 82 args).run prog w=.ok (.enter 82 args) w:=enters func82 rfl (by kernel_rfl)
theorem Wq:cB prog 36 3 3:=⟨by kernel_rfl⟩
theorem afk:∀ args w,(callFunc 83 args).run prog w=.ok (.enter 83 args) w:=enters func83 rfl (by kernel_rfl)
theorem aee:∀ args w,(callFunc 123 args).run prog w=.ok (.enter 123 args) w:=enters func123 rfl (by kernel_rfl)
theorem aaE {G:GH} {l:List mF} {A:Option Addr} {n c k:Nat} (hv:ay G (.sl 2 (l.map mF.dat)) (.slice A n c)) (hk:k < l.length):∃ b o,A=some ⟨b,o,none⟩∧(∀ j u,l[k].cells[j]?=some u→aJ G b (o+k*2+j)=some u):=by
 obtain ⟨A',c',he,_,_,hg⟩:=hv.slice
 injection he with e1 e2 e3
 subst e1;obtain ⟨b,o,cs,h1,h2,h3,h4⟩:=hg k l[k].dat (by simp [hk]);have:=amV h4;subst this;exact ⟨b,o,h1,h3⟩
def aaD (k:Nat) (x:mF) (pn:ByteArray):Int:=dM [cO (!qp x.name) 13,cO (decide (0 < (k:Int)) && (x.name.toList == pn.toList)) 7,cO (decide (0 < (k:Int)) && Op.bytesLess x.name.toList pn.toList) 6,BN x.value]
def Hr (l:List mF) (k:Nat):Int:=match l[k]? with|some x=>aaD k x ((l[k - 1]?.map mF.name).getD ⟨#[]⟩)|none=>0
set_option maxHeartbeats 2000000 in
theorem amU {G:GH} {bl:Nat} {l:List mF} {A:Option Addr} {n c:Nat} (hb:aJ G bl 0=some (.slice A n c)) (hv:ay G (.sl 2 (l.map mF.dat)) (.slice A n c)) (hl:l.length≤4294967296) (ht:∀ x∈l,x.name.size < 4611686018427387904∧x.value.size < 4611686018427387904):sj (.func (.func 123) #[] #[(aI bl 0)]) G l.length (Hr l):=by
 intro k hk G1 w0 hm hG;refine lN (caps:=[(aI bl 0)]) aee ?_;replace hb:=aO hm hb;replace hv:=hv.mono hm
 obtain rfl:n=l.length:=by have:=hv.len;simpa using this
 obtain ⟨b,o,rfl,hrow⟩:=aaE hv hk
 have hk1:k - 1 < l.length:=by omega
 obtain ⟨b',o',he',hrow'⟩:=aaE hv hk1
 injection he' with he'
 injection he' with e1 e2
 subst e1;subst e2;have hte:=ht _ (iF hk)
 have he:Hr l k=aaD k l[k] l[k - 1].name:=by unfold Hr;rw [iA hk,iA hk1];rfl
 obtain ⟨x,hx⟩:∃ x,x=l[k]:=⟨_,rfl⟩;obtain ⟨y,hy⟩:∃ y,y=l[k - 1]:=⟨_,rfl⟩;rw [← hx] at hrow hte he;rw [← hy] at hrow' he;refine eN [(0,_),(1,_)] func123 rfl ntmps123 rfl rfl hG ?_;intro a H;refine kP H (SR fun _ K1=>ak K1 rfl (SQ fun _ K2=>?_));clear H K1;intro a H;have H:=H.sub (T':=[(0,_),(1,_)]) ⟨rfl,rfl,aB⟩
 by_cases c0:0 < (k:Int)
 ·skip;refine dI hmx [[],[],[0,1],[0,1,2],(ra 0 4),(ra 0 5),(ra 0 6),(ra 0 7),[],[8],(ra 0 10),(ra 0 11),(ra 0 11),(ra 0 13),(ra 0 14),(ra 0 15),(ra 0 11),(ra 0 11),(ra 0 11++[17]),(ra 0 11++[17,18]),(ra 0 11++ra 16 4),(ra 0 11++ra 16 5),(ra 0 11++ra 16 6),(ra 0 23),(ra 0 24),(ra 0 25),[],[26],(ra 0 28),(ra 0 29),(ra 0 29),(ra 0 31),(ra 0 32),(ra 0 33),(ra 0 29),(ra 0 29),(ra 0 29++[35]),(ra 0 29++[35,36]),(ra 0 29++ra 34 4),(ra 0 29++ra 34 5),(ra 0 29++ra 34 6),(ra 0 41),(ra 0 42),(ra 0 43),[],[],[44,45],[44,45,46],(ra 44 4),(ra 0 49),(ra 0 50),(ra 0 51),(ra 0 52)] [50,51,52] (by kernel_rfl) [_,_,_,_,_,.bool (qp x.name),_,vi (cO (!qp x.name) 13),_,_,_,_,_,_,_,_,_,_,vi ((max k 1:Nat):Int),vi ((k - 1:Nat):Int),_,_,_,.bool (x.name.toList == y.name.toList),.bool (decide (0 < (k:Int)) && (x.name.toList == y.name.toList)),vi (cO (decide (0 < (k:Int)) && (x.name.toList == y.name.toList)) 7),_,_,_,_,_,_,_,_,_,_,vi ((max k 1:Nat):Int),vi ((k - 1:Nat):Int),_,_,_,.bool (Op.bytesLess x.name.toList y.name.toList),.bool (decide (0 < (k:Int)) && Op.bytesLess x.name.toList y.name.toList),vi (cO (decide (0 < (k:Int)) && Op.bytesLess x.name.toList y.name.toList) 6),_,_,_,_,_,vi (BN x.value)] H (aD (X0 rfl fun hG=>Rg xM rfl (aO hG hb)) (Z0 rfl (Rm rfl)) (Z2 0 4 1 5 rfl (Ri zq Da rfl rfl)) (Z1 2 6 rfl (Rf FQ rfl)) (aD (X1 3 7 rfl fun hG=>Rg fV rfl (aO hG (hrow 0 _ rfl))) ?_ (Z1 5 9 rfl (Rn rfl)) ?_ (aD (Z0 rfl (Rm rfl)) (Z1 8 12 rfl (Rc rfl)) (Z1 9 13 rfl (Rm rfl)) (X1 10 14 rfl fun hG=>YR xM (aA c0) rfl (aO hG hb)) (aD (Z1 10 14 rfl (YM (aA c0) rfl)) (Z3 11 15 12 16 10 14 rfl (YI zq Da (aA c0) rfl rfl)) (Z2 13 17 10 14 rfl (YF FQ (aA c0) rfl)) (X2 14 18 10 14 rfl fun hG=>YR fV (aA c0) rfl (aO hG (hrow 0 _ rfl))) (aD (X1 10 14 rfl fun hG=>YR xM (aA c0) rfl (aO hG hb)) (Z1 10 14 rfl (YM (aA c0) rfl)) ?_ ?_ (aD (Z3 16 20 19 23 10 14 rfl (YI zq Da (aA c0) rfl rfl)) (Z2 20 24 10 14 rfl (YF FQ (aA c0) rfl)) (X2 21 25 10 14 rfl fun hG=>YR fV (aA c0) rfl (aO hG (hrow' 0 _ rfl))) ?_ (aD ?_ ?_ (Z0 rfl (Rm rfl)) (Z1 26 30 rfl (Rc rfl)) (aD (Z1 27 31 rfl (Rm rfl)) (X1 28 32 rfl fun hG=>YR xM (aA c0) rfl (aO hG hb)) (Z1 28 32 rfl (YM (aA c0) rfl)) (Z3 29 33 30 34 28 32 rfl (YI zq Da (aA c0) rfl rfl)) (aD (Z2 31 35 28 32 rfl (YF FQ (aA c0) rfl)) (X2 32 36 28 32 rfl fun hG=>YR fV (aA c0) rfl (aO hG (hrow 0 _ rfl))) (X1 28 32 rfl fun hG=>YR xM (aA c0) rfl (aO hG hb)) (Z1 28 32 rfl (YM (aA c0) rfl)) (aD ?_ ?_ (Z3 34 38 37 41 28 32 rfl (YI zq Da (aA c0) rfl rfl)) (Z2 38 42 28 32 rfl (YF FQ (aA c0) rfl)) (aD (X2 39 43 28 32 rfl fun hG=>YR fV (aA c0) rfl (aO hG (hrow' 0 _ rfl))) ?_ ?_ ?_ (aD (X0 rfl fun hG=>Rg xM rfl (aO hG hb)) (Z0 rfl (Rm rfl)) (Z2 44 48 45 49 rfl (Ri zq Da rfl rfl)) (Z1 46 50 rfl (Rf Wj rfl)) (aD (X1 47 51 rfl fun hG=>Rg fV rfl (aO hG (hrow 1 _ rfl))) ?_ (bN rfl) (bN rfl) (aZ (bN rfl) cu)))))))))))))) ?_
  ·refine dB 4 8 rfl rfl fun _ a w G1 hG HT H fin=>?_;refine s_call OD H wn rfl (Ou _ _ H.ro x.name hte.1) rfl ?_;clear H;rintro v9 G9 a w ⟨rfl,-⟩ Qa H;exact fin H Qa (rfl)
  ·refine dB 6 10 rfl rfl fun _ a w G1 hG HT H fin=>?_;refine s_call jo H wn rfl (jv _ _ H.ro _ 13) rfl ?_;clear H;rintro v11 xP a w ⟨rfl,-⟩ iN H;exact fin H iN (rfl)
  ·refine bZ 17 21 10 14 rfl rfl fun _ a w G1 hG HT H fin=>?_;refine JU H (wg H rfl rfl (aA c0)) rfl rfl rfl ?_;clear H;intro a H;exact fin H iJ (by show _=_;first|rfl|exact aC vi (by omega))
  ·refine bZ 18 22 10 14 rfl rfl fun _ a w G1 hG HT H fin=>?_;refine kX _ H (wg H rfl rfl (aA c0)) rfl rfl rfl (by omega) (by omega) rfl ?_;clear H;intro a H;exact fin H iJ (by show _=_;first|rfl|exact aC vi (by omega))
  ·refine nD 15 19 22 26 10 14 rfl rfl fun _ a w G1 hG HT H fin=>?_;refine xI H (wg H rfl rfl (aA c0)) rfl rfl rfl ?_;clear H;intro a H;exact fin H iJ rfl
  ·refine bZ 10 14 23 27 rfl rfl fun _ a w G1 hG HT H fin=>?_;refine kH H (Pt (aA c0) rfl ?_);clear H;intro a H;exact fin H iJ (aF (by first|(rw [jy c0,Ce];done)|(rw [iU c0,vO];done)))
  ·refine dB 24 28 rfl rfl fun _ a w G1 hG HT H fin=>?_;refine s_call jo H wn rfl (jv _ _ H.ro _ 7) rfl ?_;clear H;rintro v29 Kl a w ⟨rfl,-⟩ PY H;exact fin H PY (rfl)
  ·refine bZ 35 39 28 32 rfl rfl fun _ a w G1 hG HT H fin=>?_;refine JU H (wg H rfl rfl (aA c0)) rfl rfl rfl ?_;clear H;intro a H;exact fin H iJ (by show _=_;first|rfl|exact aC vi (by omega))
  ·refine bZ 36 40 28 32 rfl rfl fun _ a w G1 hG HT H fin=>?_;refine kX _ H (wg H rfl rfl (aA c0)) rfl rfl rfl (by omega) (by omega) rfl ?_;clear H;intro a H;exact fin H iJ (by show _=_;first|rfl|exact aC vi (by omega))
  ·refine nD 33 37 40 44 28 32 rfl rfl fun _ a w G1 hG HT H fin=>?_;refine als H (wg H rfl rfl (aA c0)) rfl rfl rfl ?_;clear H;intro a H;exact fin H iJ rfl
  ·refine bZ 28 32 41 45 rfl rfl fun _ a w G1 hG HT H fin=>?_;refine kH H (Pt (aA c0) rfl ?_);clear H;intro a H;exact fin H iJ (aF (by first|(rw [jy c0,Ce];done)|(rw [iU c0,vO];done)))
  ·refine dB 42 46 rfl rfl fun _ a w G1 hG HT H fin=>?_;refine s_call jo H wn rfl (jv _ _ H.ro _ 6) rfl ?_;clear H;rintro v47 G47 a w ⟨rfl,-⟩ P6 H;exact fin H P6 (rfl)
  ·refine dB 48 52 rfl rfl fun _ a w G1 hG HT H fin=>?_;refine s_call OC H wn rfl (SA _ _ H.ro x.value hte.2) rfl ?_;clear H;rintro v53 G53 a w rfl P7 H;exact fin H P7 (rfl)
  clear H;intro a w G mh H hv;have H:=H.aP (hv 7 11 rfl rfl) rfl;have H:=H.aP (hv 25 29 rfl rfl) rfl;have H:=H.aP (hv 43 47 rfl rfl) rfl;have H:=H.aP (hv 49 53 rfl rfl) rfl;clear hv;refine gX oO gN [_,_,_,_] [_,_,_,_] H wn rfl rfl rfl rfl rfl (by intro i q h;match i,h with|0,h=>exact h|1,h=>exact h|2,h=>exact h|3,h=>exact h|n+4,h=>simp at h) rfl rfl ?_;clear H;intro b54 a w ahn H;obtain ⟨Tw,Jb,Qk,H⟩:=H.eu;refine s_call qw H wn rfl (qx _ _ H.ro _ _ (Ey [cO (!qp x.name) 13,cO (decide (0 < (k:Int)) && (x.name.toList == y.name.toList)) 7,cO (decide (0 < (k:Int)) && Op.bytesLess x.name.toList y.name.toList) 6,BN x.value] Qk (show 4≤maxLen by decide))) rfl ?_;clear H;rintro v55 _ a w ⟨rfl,rfl⟩ - H;refine kH H (Ra rfl ?_);clear H;intro a H;refine aG ⟨rfl,?_⟩;refine K2 _ _ ?_;clear K2;refine lr H results123 rfl ?_;exact H.rt (by rw [he];rfl)
 skip;refine dI hmx [[],[],[0,1],[0,1,2],(ra 0 4),(ra 0 5),(ra 0 6),(ra 0 7),[],[8],(ra 0 10),(ra 0 11),(ra 0 11),(ra 0 13),(ra 0 14),(ra 0 15),(ra 0 11),(ra 0 11),(ra 0 11++[17]),(ra 0 11++[17,18]),(ra 0 11++ra 16 4),(ra 0 11++ra 16 5),(ra 0 11++ra 16 6),(ra 0 23),(ra 0 24),(ra 0 25),[],[26],(ra 0 28),(ra 0 29),(ra 0 29),(ra 0 31),(ra 0 32),(ra 0 33),(ra 0 29),(ra 0 29),(ra 0 29++[35]),(ra 0 29++[35,36]),(ra 0 29++ra 34 4),(ra 0 29++ra 34 5),(ra 0 29++ra 34 6),(ra 0 41),(ra 0 42),(ra 0 43),[],[],[44,45],[44,45,46],(ra 44 4),(ra 0 49),(ra 0 50),(ra 0 51),(ra 0 52)] [50,51,52] (by kernel_rfl) [_,_,_,_,_,.bool (qp x.name),_,vi (cO (!qp x.name) 13),_,_,_,undef,undef,undef,undef,undef,undef,undef,undef,undef,undef,undef,undef,undef,.bool (decide (0 < (k:Int)) && (x.name.toList == y.name.toList)),vi (cO (decide (0 < (k:Int)) && (x.name.toList == y.name.toList)) 7),_,_,_,undef,undef,undef,undef,undef,undef,undef,undef,undef,undef,undef,undef,undef,.bool (decide (0 < (k:Int)) && Op.bytesLess x.name.toList y.name.toList),vi (cO (decide (0 < (k:Int)) && Op.bytesLess x.name.toList y.name.toList) 6),_,_,_,_,_,vi (BN x.value)] H (aD (X0 rfl fun hG=>Rg xM rfl (aO hG hb)) (Z0 rfl (Rm rfl)) (Z2 0 4 1 5 rfl (Ri zq Da rfl rfl)) (Z1 2 6 rfl (Rf FQ rfl)) (aD (X1 3 7 rfl fun hG=>Rg fV rfl (aO hG (hrow 0 _ rfl))) ?_ (Z1 5 9 rfl (Rn rfl)) ?_ (aD (Z0 rfl (Rm rfl)) (Z1 8 12 rfl (Rc rfl)) (Z1 9 13 rfl (Rm rfl)) (aK (j:=10) (by kernel_rfl) (fun _ _ _ _ _ h=>h) rfl rfl rfl rfl rfl (fun _ _ h=>aL h (aF (aN c0))) rfl (fun _=>rfl)) (aD (aK (j:=10) (by kernel_rfl) (fun _ _ _ _ _ h=>h) rfl rfl rfl rfl rfl (fun _ _ h=>aL h (aF (aN c0))) rfl (fun _=>rfl)) (aK (j:=10) (by kernel_rfl) (fun _ _ _ _ _ h=>h) rfl rfl rfl rfl rfl (fun _ _ h=>aL h (aF (aN c0))) rfl (fun _=>rfl)) (aK (j:=10) (by kernel_rfl) (fun _ _ _ _ _ h=>h) rfl rfl rfl rfl rfl (fun _ _ h=>aL h (aF (aN c0))) rfl (fun _=>rfl)) (aK (j:=10) (by kernel_rfl) (fun _ _ _ _ _ h=>h) rfl rfl rfl rfl rfl (fun _ _ h=>aL h (aF (aN c0))) rfl (fun _=>rfl)) (aD (aK (j:=10) (by kernel_rfl) (fun _ _ _ _ _ h=>h) rfl rfl rfl rfl rfl (fun _ _ h=>aL h (aF (aN c0))) rfl (fun _=>rfl)) (aK (j:=10) (by kernel_rfl) (fun _ _ _ _ _ h=>h) rfl rfl rfl rfl rfl (fun _ _ h=>aL h (aF (aN c0))) rfl (fun _=>rfl)) (aK (j:=10) (by kernel_rfl) (fun _ _ _ _ _ h=>h) rfl rfl rfl rfl rfl (fun _ _ h=>aL h (aF (aN c0))) rfl (fun _=>rfl)) (aK (j:=10) (by kernel_rfl) (fun _ _ _ _ _ h=>h) rfl rfl rfl rfl rfl (fun _ _ h=>aL h (aF (aN c0))) rfl (fun _=>rfl)) (aD (aK (j:=10) (by kernel_rfl) (fun _ _ _ _ _ h=>h) rfl rfl rfl rfl rfl (fun _ _ h=>aL h (aF (aN c0))) rfl (fun _=>rfl)) (aK (j:=10) (by kernel_rfl) (fun _ _ _ _ _ h=>h) rfl rfl rfl rfl rfl (fun _ _ h=>aL h (aF (aN c0))) rfl (fun _=>rfl)) (aK (j:=10) (by kernel_rfl) (fun _ _ _ _ _ h=>h) rfl rfl rfl rfl rfl (fun _ _ h=>aL h (aF (aN c0))) rfl (fun _=>rfl)) (aK (j:=10) (by kernel_rfl) (fun _ _ _ _ _ h=>h) rfl rfl rfl rfl rfl (fun _ _ h=>aL h (aF (aN c0))) rfl (fun _=>rfl)) (aD ?_ ?_ (Z0 rfl (Rm rfl)) (Z1 26 30 rfl (Rc rfl)) (aD (Z1 27 31 rfl (Rm rfl)) (aK (j:=28) (by kernel_rfl) (fun _ _ _ _ _ h=>h) rfl rfl rfl rfl rfl (fun _ _ h=>aL h (aF (aN c0))) rfl (fun _=>rfl)) (aK (j:=28) (by kernel_rfl) (fun _ _ _ _ _ h=>h) rfl rfl rfl rfl rfl (fun _ _ h=>aL h (aF (aN c0))) rfl (fun _=>rfl)) (aK (j:=28) (by kernel_rfl) (fun _ _ _ _ _ h=>h) rfl rfl rfl rfl rfl (fun _ _ h=>aL h (aF (aN c0))) rfl (fun _=>rfl)) (aD (aK (j:=28) (by kernel_rfl) (fun _ _ _ _ _ h=>h) rfl rfl rfl rfl rfl (fun _ _ h=>aL h (aF (aN c0))) rfl (fun _=>rfl)) (aK (j:=28) (by kernel_rfl) (fun _ _ _ _ _ h=>h) rfl rfl rfl rfl rfl (fun _ _ h=>aL h (aF (aN c0))) rfl (fun _=>rfl)) (aK (j:=28) (by kernel_rfl) (fun _ _ _ _ _ h=>h) rfl rfl rfl rfl rfl (fun _ _ h=>aL h (aF (aN c0))) rfl (fun _=>rfl)) (aK (j:=28) (by kernel_rfl) (fun _ _ _ _ _ h=>h) rfl rfl rfl rfl rfl (fun _ _ h=>aL h (aF (aN c0))) rfl (fun _=>rfl)) (aD (aK (j:=28) (by kernel_rfl) (fun _ _ _ _ _ h=>h) rfl rfl rfl rfl rfl (fun _ _ h=>aL h (aF (aN c0))) rfl (fun _=>rfl)) (aK (j:=28) (by kernel_rfl) (fun _ _ _ _ _ h=>h) rfl rfl rfl rfl rfl (fun _ _ h=>aL h (aF (aN c0))) rfl (fun _=>rfl)) (aK (j:=28) (by kernel_rfl) (fun _ _ _ _ _ h=>h) rfl rfl rfl rfl rfl (fun _ _ h=>aL h (aF (aN c0))) rfl (fun _=>rfl)) (aK (j:=28) (by kernel_rfl) (fun _ _ _ _ _ h=>h) rfl rfl rfl rfl rfl (fun _ _ h=>aL h (aF (aN c0))) rfl (fun _=>rfl)) (aD (aK (j:=28) (by kernel_rfl) (fun _ _ _ _ _ h=>h) rfl rfl rfl rfl rfl (fun _ _ h=>aL h (aF (aN c0))) rfl (fun _=>rfl)) (aK (j:=28) (by kernel_rfl) (fun _ _ _ _ _ h=>h) rfl rfl rfl rfl rfl (fun _ _ h=>aL h (aF (aN c0))) rfl (fun _=>rfl)) ?_ ?_ (aD (X0 rfl fun hG=>Rg xM rfl (aO hG hb)) (Z0 rfl (Rm rfl)) (Z2 44 48 45 49 rfl (Ri zq Da rfl rfl)) (Z1 46 50 rfl (Rf Wj rfl)) (aD (X1 47 51 rfl fun hG=>Rg fV rfl (aO hG (hrow 1 _ rfl))) ?_ (bN rfl) (bN rfl) (aZ (bN rfl) cu)))))))))))))) ?_
 ·refine dB 4 8 rfl rfl fun _ a w G1 hG HT H fin=>?_;refine s_call OD H wn rfl (Ou _ _ H.ro x.name hte.1) rfl ?_;clear H;rintro v9 G9 a w ⟨rfl,-⟩ Qa H;exact fin H Qa (rfl)
 ·refine dB 6 10 rfl rfl fun _ a w G1 hG HT H fin=>?_;refine s_call jo H wn rfl (jv _ _ H.ro _ 13) rfl ?_;clear H;rintro v11 xP a w ⟨rfl,-⟩ iN H;exact fin H iN (rfl)
 ·refine bZ 10 14 23 27 rfl rfl fun _ a w G1 hG HT H fin=>?_;refine kH H (Pf (aN c0) rfl ?_);clear H;intro a H;exact fin H iJ (aF (by first|(rw [jy c0,Ce];done)|(rw [iU c0,vO];done)))
 ·refine dB 24 28 rfl rfl fun _ a w G1 hG HT H fin=>?_;refine s_call jo H wn rfl (jv _ _ H.ro _ 7) rfl ?_;clear H;rintro v29 Kl a w ⟨rfl,-⟩ PY H;exact fin H PY (rfl)
 ·refine bZ 28 32 41 45 rfl rfl fun _ a w G1 hG HT H fin=>?_;refine kH H (Pf (aN c0) rfl ?_);clear H;intro a H;exact fin H iJ (aF (by first|(rw [jy c0,Ce];done)|(rw [iU c0,vO];done)))
 ·refine dB 42 46 rfl rfl fun _ a w G1 hG HT H fin=>?_;refine s_call jo H wn rfl (jv _ _ H.ro _ 6) rfl ?_;clear H;rintro v47 G47 a w ⟨rfl,-⟩ P6 H;exact fin H P6 (rfl)
 ·refine dB 48 52 rfl rfl fun _ a w G1 hG HT H fin=>?_;refine s_call OC H wn rfl (SA _ _ H.ro x.value hte.2) rfl ?_;clear H;rintro v53 G53 a w rfl P7 H;exact fin H P7 (rfl)
 clear H;intro a w G mh H hv;have H:=H.aP (hv 7 11 rfl rfl) rfl;have H:=H.aP (hv 25 29 rfl rfl) rfl;have H:=H.aP (hv 43 47 rfl rfl) rfl;have H:=H.aP (hv 49 53 rfl rfl) rfl;clear hv;refine gX oO gN [_,_,_,_] [_,_,_,_] H wn rfl rfl rfl rfl rfl (by intro i q h;match i,h with|0,h=>exact h|1,h=>exact h|2,h=>exact h|3,h=>exact h|n+4,h=>simp at h) rfl rfl ?_;clear H;intro b54 a w ahn H;obtain ⟨Tw,Jb,Qk,H⟩:=H.eu;refine s_call qw H wn rfl (qx _ _ H.ro _ _ (Ey [cO (!qp x.name) 13,cO (decide (0 < (k:Int)) && (x.name.toList == y.name.toList)) 7,cO (decide (0 < (k:Int)) && Op.bytesLess x.name.toList y.name.toList) 6,BN x.value] Qk (show 4≤maxLen by decide))) rfl ?_;clear H;rintro v55 _ a w ⟨rfl,rfl⟩ - H;refine kH H (Ra rfl ?_);clear H;intro a H;refine aG ⟨rfl,?_⟩;refine K2 _ _ ?_;clear K2;refine lr H results123 rfl ?_;exact H.rt (by rw [he];rfl)
def KU (l:List mF):Int:=dM [cO (decide (128 < (l.length:Int))) 9,kM (Hr l) (min l.length 128)]
theorem acS (G:GH) (w0:World) (hG:Hold G w0) (l:List mF) (v:aj) (hv:ay G (.sl 2 (l.map mF.dat)) v) (hl:l.length≤4294967296) (ht:∀ x∈l,x.name.size < 4611686018427387904∧x.value.size < 4611686018427387904) :
  Calls prog 83 #[v] w0 (bq w0 G fun u G'=>u=vi (KU l)):=by
 obtain ⟨A,c,rfl,hc1,hc2,-⟩:=hv.slice;rw [bV] at *;refine eN [(0,_)] func83 rfl ntmps83 rfl rfl hG ?_;intro a H;refine dH (fun _ K1=>?_);refine fC (cs:=[_]) H wn rfl rfl rfl ?_;clear H;intro b1 a w hb1 H;refine kH H (ak K1 rfl (SQ fun _ K2=>?_));clear H K1;intro a H;have H:=H.sub (T':=[(1,_)]) ⟨rfl,aB⟩;obtain ⟨Ga,hma,hb1',H⟩:=H.eu
 have hbl:aJ Ga b1 0=some (.slice A l.length c):=by unfold aJ;rw [hb1'];rfl
 have hcb:=amU hbl (hv.mono hma) hl ht;refine dI hmx [[],[0],[0,1],[0,1,2],[],[4],[4,5],[],(ra 0 8),(ra 0 9),(ra 0 10),(ra 0 11)] [9,10,11] (by kernel_rfl) [_,_,_,vi (cO (decide (128 < (l.length:Int))) 9),_,_,vi ((min l.length 128:Nat):Int),.func (.func 123) #[] #[(aI b1 0)],vi (kM (Hr l) (min l.length 128))] H (aD (X0 rfl fun hG=>Rg xM rfl (aO hG hbl)) (Z1 0 3 rfl (Rl zq rfl)) (Z1 1 4 rfl (Rc rfl)) ?_ (aD (X0 rfl fun hG=>Rg xM rfl (aO hG hbl)) (Z1 4 7 rfl (Rl zq rfl)) ?_ ?_ (aD ?_ (bN rfl) (bN rfl) (bN rfl) cu))) ?_
 ·refine dB 2 5 rfl rfl fun _ a w G1 hG HT H fin=>?_;refine s_call jo H wn rfl (jv _ _ H.ro _ 9) rfl ?_;clear H;rintro v6 G6 a w ⟨rfl,-⟩ iq H;exact fin H iq (rfl)
 ·refine dB 5 8 rfl rfl fun _ a w G1 hG HT H fin=>?_;refine JV H wn rfl rfl rfl ?_;clear H;intro a H;exact fin H iJ (aC vi (by omega))
 ·refine Aq rfl fun _ a w G1 hG HT H fin=>?_;refine qW H wn rfl rfl ?_;clear H;intro a H;exact fin H iJ rfl
 ·refine bZ 6 9 7 10 rfl rfl fun _ a w G1 hG HT H fin=>?_;refine s_call FL H wn rfl (Ij _ _ H.ro (min l.length 128) (Hr l) _ (by omega) ((hcb.mono hG).le (Nat.min_le_left _ _))) rfl ?_;clear H;rintro v11 xP a w rfl iN H;exact fin H iN (rfl)
 clear H;intro a w G mh H hv;have H:=H.aP (hv 3 6 rfl rfl) rfl;have H:=H.aP (hv 8 11 rfl rfl) rfl;clear hv;refine gX oO gN [_,_] [_,_] H wn rfl rfl rfl rfl rfl (by intro i q h;match i,h with|0,h=>exact h|1,h=>exact h|n+2,h=>simp at h) rfl rfl ?_;clear H;intro b12 a w Bg H;obtain ⟨BX,Eo,El,H⟩:=H.eu;refine s_call qw H wn rfl (qx _ _ H.ro _ _ (xJ El)) rfl ?_;clear H;rintro v13 _ a w ⟨rfl,rfl⟩ - H;refine kH H (Ra rfl ?_);clear H;intro a H;refine aG ⟨rfl,?_⟩;refine K2 _ _ ?_;clear K2;refine lr H results83 rfl ?_;exact H.rt rfl
structure Ar where
 styles:List bU
 lists:List gq
 comments:List iQ
 vars:List mF
structure Fu (G:GH) (s:Ar) (a b c d:aj):Prop where
 st:ay G (.sl 6 (s.styles.map bU.dat)) a
 li:ay G (.sl 2 (s.lists.map gq.dat)) b
 cm:ay G (.sl 6 (s.comments.map iQ.dat)) c
 va:ay G (.sl 2 (s.vars.map mF.dat)) d
structure NR (s:Ar):Prop where
 sn:∀ x∈s.styles,x.name.size≤4611686018427387904
 ln:s.lists.length≤4294967296
 lt:∀ x∈s.lists,∀ y∈x.levels,y.zl.size < 4611686018427387904
 cn:s.comments.length≤4294967296
 ct:∀ x∈s.comments,x.author.size < 4611686018427387904∧x.text.size < 4611686018427387904
 vn:s.vars.length≤4294967296
 vt:∀ x∈s.vars,x.name.size < 4611686018427387904∧x.value.size < 4611686018427387904
def KT (s:Ar):Int:=dM [gJ s.styles,Ip s.lists,KS s.comments,KU s.vars]
theorem acR (G:GH) (w0:World) (hG:Hold G w0) (s:Ar) (a b c d:aj) (hR:Fu G s a b c d) (hz:NR s) :
  Calls prog 55 #[.agg #[a,b,c,d]] w0 (bq w0 G fun u G'=>u=vi (KT s)):=by
 obtain ⟨sA,sn,sc,rfl⟩:=hR.st.form;obtain ⟨lA,ln,lc,rfl⟩:=hR.li.form;obtain ⟨cA,cn,cc,rfl⟩:=hR.cm.form;obtain ⟨vA,vn,vc,rfl⟩:=hR.va.form;refine eN [(0,_)] func55 rfl ntmps55 rfl rfl hG ?_;intro a H;refine dH (fun _ K1=>?_);refine fC (cs:=[_,_,_,_]) H wn rfl rfl rfl ?_;clear H;intro b1 a w hb1 H;refine kH H (ak K1 rfl (SQ fun _ K2=>?_));clear H K1;intro a H;have H:=H.sub (T':=[(1,_)]) ⟨rfl,aB⟩;obtain ⟨Ga,hma,hb1',H⟩:=H.eu
 have hc0:aJ Ga b1 0=some (.slice sA sn sc):=by unfold aJ;rw [hb1'];rfl
 have hc1:aJ Ga b1 1=some (.slice lA ln lc):=by unfold aJ;rw [hb1'];rfl
 have hc2:aJ Ga b1 2=some (.slice cA cn cc):=by unfold aJ;rw [hb1'];rfl
 have hc3:aJ Ga b1 3=some (.slice vA vn vc):=by unfold aJ;rw [hb1'];rfl
 refine dI hmx [[],[0],[0,1],[],[3],(ra 0 5),[],[6],(ra 0 8),[],[9],(ra 0 11),(ra 0 12),(ra 0 13),(ra 0 14)] [12,13,14] (by kernel_rfl) [_,_,vi (gJ s.styles),_,_,vi (Ip s.lists),_,_,vi (KS s.comments),_,_,vi (KU s.vars)] H (aD (Z0 rfl (Rf O9 rfl)) (X1 0 3 rfl fun hG=>Rg tF rfl (aO hG hc0)) ?_ (Z0 rfl (Rf Pb rfl)) (aD (X1 3 6 rfl fun hG=>Rg EW rfl (aO hG hc1)) ?_ (Z0 rfl (Rf Wp rfl)) (X1 6 9 rfl fun hG=>Rg EX rfl (aO hG hc2)) (aD ?_ (Z0 rfl (Rf Wq rfl)) (X1 9 12 rfl fun hG=>Rg xM rfl (aO hG hc3)) ?_ (aZ (bN rfl) (aZ (bN rfl) (aZ (bN rfl) cu)))))) ?_
 ·refine dB 1 4 rfl rfl fun _ a w G1 hG HT H fin=>?_;refine s_call afh H wn rfl (acU _ _ H.ro s.styles _ ((hR.st.mono hma).mono hG) hz.sn) rfl ?_;clear H;rintro v5 G5 a w rfl zP H;exact fin H zP (rfl)
 ·refine dB 4 7 rfl rfl fun _ a w G1 hG HT H fin=>?_;refine s_call afi H wn rfl (acP _ _ H.ro s.lists _ ((hR.li.mono hma).mono hG) hz.ln hz.lt) rfl ?_;clear H;rintro v8 G8 a w rfl qP H;exact fin H qP (rfl)
 ·refine dB 7 10 rfl rfl fun _ a w G1 hG HT H fin=>?_;refine s_call afj H wn rfl (acN _ _ H.ro s.comments _ ((hR.cm.mono hma).mono hG) hz.cn hz.ct) rfl ?_;clear H;rintro v11 xP a w rfl iN H;exact fin H iN (rfl)
 ·refine dB 10 13 rfl rfl fun _ a w G1 hG HT H fin=>?_;refine s_call afk H wn rfl (acS _ _ H.ro s.vars _ ((hR.va.mono hma).mono hG) hz.vn hz.vt) rfl ?_;clear H;rintro v14 Hy a w rfl IQ H;exact fin H IQ (rfl)
 clear H;intro a w G mh H hv;have H:=H.aP (hv 2 5 rfl rfl) rfl;have H:=H.aP (hv 5 8 rfl rfl) rfl;have H:=H.aP (hv 8 11 rfl rfl) rfl;have H:=H.aP (hv 11 14 rfl rfl) rfl;clear hv;refine gX oO gN [_,_,_,_] [_,_,_,_] H wn rfl rfl rfl rfl rfl (by intro i q h;match i,h with|0,h=>exact h|1,h=>exact h|2,h=>exact h|3,h=>exact h|n+4,h=>simp at h) rfl rfl ?_;clear H;intro b15 a w ahh H;obtain ⟨Dt,oK,ahi,H⟩:=H.eu;refine s_call qw H wn rfl (qx _ _ H.ro _ _ (Ey [gJ s.styles,Ip s.lists,KS s.comments,KU s.vars] ahi (show 4≤maxLen by decide))) rfl ?_;clear H;rintro v16 _ a w ⟨rfl,rfl⟩ - H;refine kH H (Ra rfl ?_);clear H;intro a H;refine aG ⟨rfl,?_⟩;refine K2 _ _ ?_;clear K2;refine lr H results55 rfl ?_;exact H.rt rfl
end
section
open Go.RowKit
def vE:Nat→List (Int × aj)→List MapEntry
 | _,[]=>[]
 | i,(k,v) :: r=>⟨.int .i64 k,v,i⟩ :: vE (i+1) r
theorem YA (x:Int × aj):∀ (i:Nat) (l:List (Int × aj)),vE i (l++[x])=vE i l++[⟨.int .i64 x.1,x.2,i+l.length⟩]
 | _,[]=>rfl
 | i,k :: r=>by
  rw [mG,vE,YA x (i+1) r,vE,mG,nZ,show i+1+r.length=i+(r.length+1) by omega]
def rT (x:Int):List (Int × aj)→Option aj
 | []=>none
 | (k,v) :: r=>if k=x then some v else rT x r
theorem Mv {x:Int}:∀ {l:List (Int × aj)},x∉l.map (·.1)→rT x l=none
 | [],_=>rfl
 | (k,v) :: r,h=>by
  rw [rT,ah (fun e=>h (by simp [e])),Mv (fun hm=>h (iZ _ hm))]
theorem Pm (x:Int):∀ (i j:Nat) (l:List (Int × aj)),∃ an,Instr.findNow (.int .i64) (.int .i64 x) (vE i l) j=some an∧an.map (·.2)=rT x l
 | _,_,[]=>⟨none,rfl,rfl⟩
 | i,j,(k,v) :: r=>by
  obtain ⟨an,h1,h2⟩:=Pm x (i+1) (j+1) r
  by_cases e:k=x
  ·subst e
   exact ⟨some (j,v),by simp only [vE,Instr.findNow,Instr.sameNow,av,beq_self_eq_true],by rw [rT,av rfl];rfl⟩
  ·have hb:(x == k)=false:=by simp;exact fun h=>e h.symm
   exact ⟨an,by simpa only [vE,Instr.findNow,Instr.sameNow,av,hb] using h1,by rw [rT,ah e];exact h2⟩
abbrev fJ (l:List (Int × aj)):Obj:=.map (vE 0 l).toArray l.length
section
variable {N:Nat} {D:List Deferred} {w0:World} {F:Nat→Prop} {G0 G:GH} {L:OL} {T:List (Nat × aj)}
variable {r:Option Nat} {P:Program} {ops:Array Oper} {Q:Exit→Act→World→Prop} {rest:List Oper} {a:Act} {w:World}
variable {d:Nat} {ty:TypeId} {pos:String} {aM:Array Edge} {g:Option (Nat × Bool)}
theorem zi {t kt et:TypeId} {x y:Operand} {b:Nat} {l:List (Int × aj)} {ky:Int} {zv:aj} (hm:P.underlying t=some (.map kt et)) (hk:P.underlying kt=some (.int .i64)) (hz:(P.info? et).map (fun i=>i.zero)=some (some zv)) (H:St N D w0 F G0 G L T a w)
  (hw:Region.wanted ⟨some d,.lookup t x y false,ty,pos,aM,g⟩ (yielded ops a.tmps)=true) (hx:ev T x=some (.map (some b))) (hy:ev T y=some (.int .i64 ky)) (hb:w.heap[b]?=some (fJ l)) (hd:Nat.blt d N=true)
  (k:∀ a',St N D w0 F G0 G L ((d,(rT ky l).getD zv) :: T) a' w→WL r P ops Q rest a' w):WL r P ops Q (⟨some d,.lookup t x y false,ty,pos,aM,g⟩ :: rest) a w:=by
 obtain ⟨an,hf,han⟩:=Pm ky 0 0 l
 obtain ⟨inf,hi1,hi2⟩:=lY.1 hz
 refine fq (v:=(rT ky l).getD zv) (w':=w) hw rfl ?_ (k _ (H.put hd _ H.hp))
 have hkey:MapKept.IsKey (.int .i64) (.int .i64 ky):=by trivial
 have hf2:Instr.findNow (.int .i64) (.int .i64 ky) (vE 0 l).toArray.toList 0=some an:=by simpa using hf
 replace hb:w.heap[b]?=some (.map (vE 0 l).toArray l.length):=hb
 generalize (vE 0 l).toArray=es at hb hf2
 have h1:=MapKept.run_checkKey (P:=P) (w:=w) hk hkey es.isEmpty 9999
 have h2:=MapKept.run_findKey (P:=P) (w:=w) hk hf2
 rw [← han]
 cases an with
 | none=>simp [execOp,Instr.lookup,H.ev hx,H.ev hy,cZ,mD hm,MapKept.run_getObj_map hb,h1,h2,Result.andThen,zeroValue,BH hi1,hi2]
 | some q=>simp [execOp,Instr.lookup,H.ev hx,H.ev hy,cZ,mD hm,MapKept.run_getObj_map hb,h1,h2,Result.andThen]
theorem MZ {t kt et:TypeId} {x y z:Operand} {b i:Nat} {l:List (Int × aj)} {ky:Int} {v:aj} (hm:P.underlying t=some (.map kt et)) (hk:P.underlying kt=some (.int .i64)) (H:St N D w0 F G0 G L T a w)
  (hw:Region.wanted ⟨none,.mapUpdate t x y z,ty,pos,aM,g⟩ (yielded ops a.tmps)=true) (hx:ev T x=some (.map (some b))) (hy:ev T y=some (.int .i64 ky)) (hzv:ev T z=some v) (hi:L[i]?=some (b,fJ l)) (hn:rT ky l=none)
  (k:∀ w',St N D w0 F G0 G (L.set i (b,fJ (l++[(ky,v)]))) T a w'→WL r P ops Q rest a w'):WL r P ops Q (⟨none,.mapUpdate t x y z,ty,pos,aM,g⟩ :: rest) a w:=by
 obtain ⟨an,hf,han⟩:=Pm ky 0 0 l
 have hnone:an=none:=by
  rw [hn] at han
  cases an with
  | none=>rfl
  | some q=>cases han
 subst hnone
 refine ZM (i:=i) hm hk H hw hx hy hzv hi (by trivial) (by simpa using hf) ?_
 intro w' H'
 have e:(vE 0 l).toArray.push ⟨.int .i64 ky,v,l.length⟩=(vE 0 (l++[(ky,v)])).toArray:=by
  rw [YA,List.push_toArray,jh]
 refine k w' ?_
 rw [e] at H'
 rw [fJ,iM]
 exact H'
end
end
end Go.Proofs.YteopmoocmoigcaaGreat
