/-
  What the claim stands on, part 3: Lfl Dv Lpc Scn By Lps Lcl Dst Sty Mk Stz Dsc Mi Ro Ri Chn Chk Dsv Mq.
-/
import Derived.Test.YteopmoocmoigcaaGreatWxb
import Derived.Lib.ConvBytes
import Derived.Laws.MakeOwn
namespace Go.Proofs.YteopmoocmoigcaaGreat
open Go.Proofs.Tryz
section
open Go.RowKit
theorem abk:∀ args w,(callFunc 164 args).run prog w=.ok (.enter 164 args) w:=enters func164 rfl (by kernel_rfl)
theorem GR:Ty prog 242 1 24 [.slice none 0 0] false:=⟨by kernel_rfl,by kernel_rfl⟩
theorem Sg:∀ args w,(callFunc 49 args).run prog w=.ok (.enter 49 args) w:=enters func49 rfl (by kernel_rfl)
theorem EM:prog.underlying 242=some (.slice 247):=by kernel_rfl
theorem EJ:Ty prog 247 3 32 [.string ⟨#[]⟩,.int .i64 0,.bool false] true:=⟨by kernel_rfl,by kernel_rfl⟩
theorem abl:∀ args w,(callFunc 165 args).run prog w=.ok (.enter 165 args) w:=enters func165 rfl (by kernel_rfl)
theorem FL:bM prog 259 2 2:=⟨by kernel_rfl⟩
theorem FM:bM prog 259 3 4:=⟨by kernel_rfl⟩
theorem WG:ou prog 247 [(0,1),(1,1),(2,1)] [.string ⟨#[]⟩,.int .i64 0,.bool false]:=⟨by kernel_rfl,by kernel_rfl⟩
theorem LD:∀ args w,(callFunc 160 args).run prog w=.ok (.enter 160 args) w:=enters func160 rfl (by kernel_rfl)
theorem IG:bM prog 259 4 5:=⟨by kernel_rfl⟩
structure iE where
 lit:ByteArray
 level:Int
 plain:Bool
def iE.dat (x:iE):List Dat:=[.lf (.string x.lit),li x.level,.lf (.bool x.plain)]
abbrev iE.cells (x:iE):List aj:=[.string x.lit,vi x.level,.bool x.plain]
theorem Vd (G:GH) (x:iE):aX G x.dat x.cells:=by
 simp only [iE.dat,iE.cells,aX]
 exact ⟨_,_,rfl,by simp [av,Value.oneCell'],_,_,rfl,by simp [av,Value.oneCell'],_,_,rfl,by simp [av,Value.oneCell'],rfl⟩
theorem Vb {G:GH} {x:iE} {cs:List aj} (h:aX G x.dat cs):cs=x.cells:=by
 simp only [iE.dat,aX,av] at h
 obtain ⟨_,_,rfl,⟨rfl,_⟩,_,_,rfl,⟨rfl,_⟩,_,_,rfl,⟨rfl,_⟩,rfl⟩:=h
 rfl
def Bd (l:List iE):List aj:=(l.map iE.cells).flatten
theorem Va (l:List iE) (x:iE):Bd (l++[x])=Bd l++x.cells:=by simp [Bd]
structure xC (b:Nat) (lit:List UInt8) (parts:List iE) (p v q:aj) (Lp Lo:OL):Prop where
 ptr:p=.pointer none∨p=(aJ b 2)
 buf:cK 5 1 v lit.length (Lib.byteCells lit) Lo
 prt:cK 247 3 q parts.length (Bd parts) Lp
def rJ (lit:List UInt8) (parts:List iE):List iE:=if lit=[] then parts else parts++[⟨⟨lit.toArray⟩,0,false⟩]
set_option maxHeartbeats 1000000 in
theorem Mi (G:GH) (Lp Lo:OL) (w0:World) (b:Nat) (s:ByteArray) (i:Int) (p v q:aj) (pl e:Int) (lit:List UInt8) (parts:List iE) (hR:xC b lit parts p v q Lp Lo) (hO:gL G (fT b s i p v q pl e :: (Lp++Lo)) w0) (hl:lit.length≤4294967296) (hp:parts.length≤4294967296) :
  Calls prog 160 #[(aJ b 0)] w0 (fZ w0 G (fT b s i p v q pl e :: (Lp++Lo)) fun u G' L'=>∃ p' v' q' oq fJ,L'=fT b s i p' v' q' pl e :: (oq++fJ)∧xC b [] (rJ lit parts) p' v' q' oq fJ):=by
 obtain ⟨Ug,hbuf,Jp⟩:=hR;have hml:maxLen=9223372036854775807:=rfl;obtain ⟨A,c,rfl,Uy,Uz⟩:=hbuf.shape;obtain ⟨B,d,rfl,Uh,Ui⟩:=Jp.shape;obtain ⟨Lt,nG⟩:∃ x,x=Lp++Lo:=⟨_,rfl⟩;rw [← nG] at hO ⊢;refine jI (N:=25) (T:=[(0,_)]) func160 rfl ntmps160 rfl rfl hO ?_;intro a H;refine kP H (SR fun _ K1=>Rm rfl (Rk rfl (Rf FL rfl ?_)));clear H;intro a H;refine gK abk (Li:=[]) (L:=fT b s i p (.slice A lit.length c) (.slice B parts.length d) pl e :: Lt) H wn rfl (ahV _ _ _ b s i p A lit.length c B parts.length d pl e (Hp.owns (Li:=[]) H.hp)) rfl ?_;clear H;rintro v5 _ L5 a w ⟨rfl,rfl,rfl⟩ Nn H;dsimp only [List.nil_append] at H;refine kH H (Rc rfl (Kz K1 (Cd rfl ?_ ?_))) <;> clear H K1
 ·intro h6 a H
  try have p6:=dT h6
  have hne:lit≠[]:=fun e=>by rw [e] at p6;simp at p6
  subst nG;refine bg (fun _ K2=>?_)
  have iG:∀ (eZ:Nat) (bO:(Option Addr × Nat) × OL) (dB:Nat) (v:aj) (G G':GH),(∀ k o,G k=some o→G' k=some o)→(fun (eZ:Nat) (bO:(Option Addr × Nat) × OL) (dB:Nat) (v:aj) (G:GH)=>match dB with|0=>v=(aJ b 0)|1=>v=(aJ b 0)|2=>v=(aJ b 0)|3=>v=(aJ b 4)|4=>v=.slice B parts.length d|5=>v=(aJ b 0)|6=>v=(aJ b 0)|7=>v=(aJ b 2)|8=>v=.string ⟨lit.toArray⟩|9=>v=.agg (iE.cells ⟨⟨lit.toArray⟩,0,false⟩).toArray|10=>v=.slice (some ⟨eZ,0,none⟩) 1 1|11=>v=.slice bO.1.1 (parts.length+1) bO.1.2∧cK 247 3 v (parts.length+1) (Bd (parts++[⟨⟨lit.toArray⟩,0,false⟩])) bO.2|_=>True) eZ bO dB v G→(fun (eZ:Nat) (bO:(Option Addr × Nat) × OL) (dB:Nat) (v:aj) (G:GH)=>match dB with|0=>v=(aJ b 0)|1=>v=(aJ b 0)|2=>v=(aJ b 0)|3=>v=(aJ b 4)|4=>v=.slice B parts.length d|5=>v=(aJ b 0)|6=>v=(aJ b 0)|7=>v=(aJ b 2)|8=>v=.string ⟨lit.toArray⟩|9=>v=.agg (iE.cells ⟨⟨lit.toArray⟩,0,false⟩).toArray|10=>v=.slice (some ⟨eZ,0,none⟩) 1 1|11=>v=.slice bO.1.1 (parts.length+1) bO.1.2∧cK 247 3 v (parts.length+1) (Bd (parts++[⟨⟨lit.toArray⟩,0,false⟩])) bO.2|_=>True) eZ bO dB v G':=by
   intro eZ bO dB v G G' hm h
   match dB,h with
   | 0,h=>exact h
   | 1,h=>exact h
   | 2,h=>exact h
   | 3,h=>exact h
   | 4,h=>exact h
   | 5,h=>exact h
   | 6,h=>exact h
   | 7,h=>exact h
   | 8,h=>exact h
   | 9,h=>exact h
   | 10,h=>exact h
   | 11,h=>exact h
   | 12,h=>exact trivial
   | 13,h=>exact trivial
   | 14,h=>exact trivial
   | _+15,h=>exact trivial
  refine Q7 (κ:=(Option Addr × Nat) × OL) (((none,0),[])) (hmx) [[],[],[1],[1,2],[1,2,3],[],[5],[5,6],[5,6,7],(ra 5 4),(ra 5 5),(ra 1 10),(ra 0 12),(ra 0 13),(ra 0 14)] [12,13,14] (by kernel_rfl) (by kernel_rfl) 8 10 11 (by decide) (by decide) (by decide) (by decide) (by decide) (by decide) (by decide) (by decide) (by decide) [fT b s i p (.slice A lit.length c) (.slice B parts.length d) pl e] (fT b s i p (.slice A lit.length c) (.slice B parts.length d) pl e :: Lp) (.cells (iE.cells ⟨⟨lit.toArray⟩,0,false⟩).toArray 247 (0,0)) (fun b_ k_=>(b_,.cells (iE.cells ⟨⟨lit.toArray⟩,0,false⟩).toArray 247 (0,0)) :: fT b s i p (.slice A lit.length c) (.slice B parts.length d) pl e :: k_.2) (fun x hx=>by rw [oC.1 hx];exact gV) (fun x hx=>by rw [oC.1 hx];exact gV) (fun _ _ x hx=>by rw [oC.1 hx];exact kr _ gV) (fun (eZ:Nat) (bO:(Option Addr × Nat) × OL) (dB:Nat) (v:aj) (G:GH)=>match dB with|0=>v=(aJ b 0)|1=>v=(aJ b 0)|2=>v=(aJ b 0)|3=>v=(aJ b 4)|4=>v=.slice B parts.length d|5=>v=(aJ b 0)|6=>v=(aJ b 0)|7=>v=(aJ b 2)|8=>v=.string ⟨lit.toArray⟩|9=>v=.agg (iE.cells ⟨⟨lit.toArray⟩,0,false⟩).toArray|10=>v=.slice (some ⟨eZ,0,none⟩) 1 1|11=>v=.slice bO.1.1 (parts.length+1) bO.1.2∧cK 247 3 v (parts.length+1) (Bd (parts++[⟨⟨lit.toArray⟩,0,false⟩])) bO.2|_=>True) (fun b b' k i v G hi hc h=>by match i,hi,hc,h with|0,_,_,h=>exact h|1,_,_,h=>exact h|2,_,_,h=>exact h|3,_,_,h=>exact h|4,_,_,h=>exact h|5,_,_,h=>exact h|6,_,_,h=>exact h|7,_,_,h=>exact h|8,_,_,h=>exact h|9,_,_,h=>exact h|10,hi,_,_=>exact absurd hi (by decide)|11,_,hc,_=>exact absurd hc (by decide)|12,_,hc,_=>exact absurd hc (by decide)|13,_,hc,_=>exact absurd hc (by decide)|14,_,hc,_=>exact absurd hc (by decide)|_+15,_,_,_=>exact trivial) (fun b k k' i v G hi hc h=>by match i,hi,hc,h with|0,_,_,h=>exact h|1,_,_,h=>exact h|2,_,_,h=>exact h|3,_,_,h=>exact h|4,_,_,h=>exact h|5,_,_,h=>exact h|6,_,_,h=>exact h|7,_,_,h=>exact h|8,_,_,h=>exact h|9,_,_,h=>exact h|10,_,_,h=>exact h|11,hi,_,_=>exact absurd hi (by decide)|12,_,hc,_=>exact absurd hc (by decide)|13,_,hc,_=>exact absurd hc (by decide)|14,_,hc,_=>exact absurd hc (by decide)|_+15,_,_,_=>exact trivial) H ?_ ?_ ?_ ?_ ?_ (by kernel_rfl) (by kernel_rfl)
  ·clear H;refine aB ?_ ?_ ?_ ?_ (aB ?_ ?_ ?_ ?_ (aB ?_ ?_ ?_ ?_ (aW ?_ (aW ?_ (aW ?_ bW)))))
   ·intro eZ bO qE dQ a w G1 pG _ _ _ _ bY hc hG HT hv;have H:=HT;clear bY;have Hb:=H.full;have H:=Hb;clear hc;refine kH H (Rm rfl ?_);clear H;intro a H;refine aH ⟨rfl,?_⟩;exact lH (by kernel_rfl) (iG eZ bO) rfl rfl HT Hb hG hv (fun _ _ h=>h) (rfl) H
   ·intro eZ bO qE dQ a w G1 pG _ _ _ _ bY hc hG HT hv;have H:=HT;clear bY;have Hb:=H.full;have H:=Hb;clear hc;refine kH H (Rm rfl ?_);clear H;intro a H;refine aH ⟨rfl,?_⟩;exact lH (by kernel_rfl) (iG eZ bO) rfl rfl HT Hb hG hv (fun _ _ h=>h) (rfl) H
   ·intro eZ bO qE dQ a w G1 pG _ _ _ _ bY hc hG HT hv;have H:=HT;clear bY;have H:=H.aS (hv 1 8 (hc 1 (by decide)) rfl) rfl;have Hb:=H.full;have H:=Hb;clear hc;refine kH H (Rk rfl ?_);clear H;intro a H;refine aH ⟨rfl,?_⟩;exact lH (by kernel_rfl) (iG eZ bO) rfl rfl HT Hb hG hv (fun _ _ h=>h) (rfl) H
   ·intro eZ bO qE dQ a w G1 pG _ _ _ _ bY hc hG HT hv;have H:=HT;clear bY;have H:=H.aS (hv 2 9 (hc 2 (by decide)) rfl) rfl;have Hb:=H.full;have H:=Hb;clear hc;refine kH H (Rf FM rfl ?_);clear H;intro a H;refine aH ⟨rfl,?_⟩;exact lH (by kernel_rfl) (iG eZ bO) rfl rfl HT Hb hG hv (fun _ _ h=>h) (rfl) H
   ·intro eZ bO qE dQ a w G1 pG _ _ _ _ bY hc hG HT hv;have H:=HT;clear bY;have H:=H.aS (hv 3 10 (hc 3 (by decide)) rfl) rfl;have Hb:=H.full;have H:=Hb;clear hc;refine nX GR H wn rfl (H.hp.NZ (pG _ gV) rfl) rfl ?_;clear H;intro a H;refine aH ⟨rfl,?_⟩;exact lH (by kernel_rfl) (iG eZ bO) rfl rfl HT Hb hG hv (fun _ _ h=>h) (rfl) H
   ·intro eZ bO qE dQ a w G1 pG _ _ _ _ bY hc hG HT hv;have H:=HT;clear bY;have Hb:=H.full;have H:=Hb;clear hc;refine kH H (Rm rfl ?_);clear H;intro a H;refine aH ⟨rfl,?_⟩;exact lH (by kernel_rfl) (iG eZ bO) rfl rfl HT Hb hG hv (fun _ _ h=>h) (rfl) H
   ·intro eZ bO qE dQ a w G1 pG _ _ _ _ bY hc hG HT hv;have H:=HT;clear bY;have H:=H.aS (hv 5 12 (hc 5 (by decide)) rfl) rfl;have Hb:=H.full;have H:=Hb;clear hc;refine kH H (Rk rfl ?_);clear H;intro a H;refine aH ⟨rfl,?_⟩;exact lH (by kernel_rfl) (iG eZ bO) rfl rfl HT Hb hG hv (fun _ _ h=>h) (rfl) H
   ·intro eZ bO qE dQ a w G1 pG _ _ _ _ bY hc hG HT hv;have H:=HT;clear bY;have H:=H.aS (hv 6 13 (hc 6 (by decide)) rfl) rfl;have Hb:=H.full;have H:=Hb;clear hc;refine kH H (Rf FL rfl ?_);clear H;intro a H;refine aH ⟨rfl,?_⟩;exact lH (by kernel_rfl) (iG eZ bO) rfl rfl HT Hb hG hv (fun _ _ h=>h) (rfl) H
   ·intro _ _ _ _ _ _ _ _ _ hB;exact absurd hB (by decide)
   ·intro eZ bO qE dQ a w G1 pG _ _ _ _ bY hc hG HT hv;have H:=HT;clear bY;have H:=H.aS (hv 8 15 (hc 8 (by decide)) rfl) rfl;have Hb:=H.full;have H:=Hb;clear hc;refine jZ WG [_,_,_] H wn rfl rfl rfl rfl ?_;clear H;intro a H;refine aH ⟨rfl,?_⟩;exact lH (by kernel_rfl) (iG eZ bO) rfl rfl HT Hb hG hv (fun _ _ h=>h) (rfl) H
   ·intro _ _ _ _ _ _ _ _ _ _ hB;exact absurd hB (by decide)
   ·intro _ _ _ _ _ _ _ _ _ _ _ hB;exact absurd hB (by decide)
   ·intro _ _ _ _ _ _ _ _ hB;exact absurd hB (by decide)
   ·intro _ _ _ _ _ _ _ _ hB;exact absurd hB (by decide)
   intro _ _ _ _ _ _ _ _ hB;exact absurd hB (by decide)
  ·clear H;intro o_ eZ bO dQ a w G1 qo _ hc hG HT hv;obtain rfl:_=o_:=Option.some.inj qo;clear qo;have H:=HT;have H:=H.aS (hv 7 14 (by decide) (hc 7 (by decide)) rfl) rfl;have Hb:=H.full;have H:=Hb;clear hc;refine gK Sg (Li:=[]) (L:=fT b s i p (.slice A lit.length c) (.slice B parts.length d) pl e :: (Lp++Lo)) H wn rfl (ais _ _ _ _ b s i p _ B parts.length d pl e lit (Hp.owns (Li:=[]) H.hp) hbuf hne) rfl ?_;clear H;rintro v15 Dw L15 a w ⟨rfl,rfl⟩ Cq H;dsimp only [List.nil_append] at H;refine aH ⟨rfl,?_⟩;exact RQ (by kernel_rfl) (iG eZ bO) rfl HT Hb hG (fun j e h1 h2 h3=>hv j e h1 h2 h3) Cq (rfl) H
  ·clear H;intro o_ bO dQ a w G1 qo _ hc hG HT hv;obtain rfl:_=o_:=Option.some.inj qo;clear qo;have H:=HT;have H:=H.aS (hv 0 9 16 (by decide) (hc 9 (by decide)) rfl) rfl;have Hb:=H.full;have H:=Hb;clear hc;refine gP EM EJ [_,_,_] [_,_,_] H wn rfl rfl rfl rfl rfl (by intro i q h;match i,h with|0,h=>exact h|n+1,h=>simp at h) rfl rfl ?_;clear H;intro b17 a w ajD H;refine aH ⟨rfl,b17,?_⟩;exact Iu (by kernel_rfl) rfl HT Hb hG (fun j e h1 h2 h3=>hv _ j e h1 h2 h3) (rfl) H
  ·clear H;intro o_ eZ dQ a w G1 qo _ hc hG HT hv;obtain rfl:_=o_:=Option.some.inj qo;clear qo;have H:=HT;have H:=H.aS (hv (((none,0),[])) 4 11 (by decide) (hc 4 (by decide)) rfl) rfl;have H:=H.aS (hv (((none,0),[])) 10 17 (by decide) (hc 10 (by decide)) rfl) rfl;have Hb:=H.full;have H:=Hb;clear hc;refine pR (Li:=[_,_]) (Lo:=Lp) (news:=iE.cells ⟨⟨lit.toArray⟩,0,false⟩) EM EJ rfl rfl H wn rfl rfl Jp rfl (H.hp.dZ 0 rfl rfl) rfl (by omega) (by omega) rfl ?_;clear H;intro v18 Yk a w Eo H;obtain ⟨XE,c18,rfl,-,-⟩:=Eo.shape;rw [← Va] at Eo;refine aH ⟨rfl,((XE,c18),Yk),?_⟩;exact Iu (by kernel_rfl) rfl HT Hb hG (fun j e h1 h2 h3=>hv _ j e h1 h2 h3) (⟨rfl,Eo⟩) H
  clear H;intro b17 bO a w G mH H hv;have H:=H.aS (hv 0 7 rfl rfl) rfl;obtain ⟨u18,aeZ,Ub⟩:=hv 11 18 (by decide) rfl;(try dsimp only at Ub);obtain ⟨rfl,Eo⟩:=Ub;have H:=H.kG aeZ;clear hv;refine kH H (Rk rfl (Rf FM rfl ?_));clear H;intro a H;refine bE GR 1 (vs:=[_]) _ H wn rfl rfl rfl rfl rfl rfl rfl rfl ?_;clear H;intro w H;dsimp only [List.set,setRow] at H;refine aH ⟨rfl,?_⟩;refine K2 _ _ ?_;clear K2;refine kP H (SC (Rm rfl (Rk rfl (Rf FL rfl ?_))));clear H;intro a H;refine gK abl (Li:=[_]) (L:=fT b s i p (.slice A lit.length c) (.slice bO.1.1 (parts.length+1) bO.1.2) pl e :: bO.2) H wn rfl (air _ _ _ b s i p A lit.length c bO.1.1 (parts.length+1) bO.1.2 pl e (Hp.owns (Li:=[_]) H.hp)) rfl ?_;clear H;rintro v24 _ L24 a w ⟨rfl,rfl⟩ qM H;dsimp only [lca,bq] at H;refine aH ?_;refine (leave0 H results160 ?_).2
  first
   | exact H.hp.gJ (L':=fT b s i _ _ _ pl e :: bO.2) (yP _ _) ⟨_,_,_,bO.2,[],by rw [nO],⟨.inl rfl,cK.nil,by rw [rJ,ah hne];simpa using Eo⟩⟩
   | exact H.hp.dW ⟨_,_,_,Lp,Lo,by rw [nG],by
     have h0:lit=[]:=by
      cases lit with
      | nil=>rfl
      | cons x r=>simp at p6
     subst h0;exact ⟨Ug,hbuf,by rw [rJ,au rfl];exact Jp⟩⟩
 intro h6 a H
 try have p6:=dF h6
 refine gI ?_;refine (leave0 H results160 ?_).2
 first
  | exact H.hp.gJ (L':=fT b s i _ _ _ pl e :: bO.2) (yP _ _) ⟨_,_,_,bO.2,[],by rw [nO],⟨.inl rfl,cK.nil,by rw [rJ,ah hne];simpa using Eo⟩⟩
  | exact H.hp.dW ⟨_,_,_,Lp,Lo,by rw [nG],by
    have h0:lit=[]:=by
     cases lit with
     | nil=>rfl
     | cons x r=>simp at p6
    subst h0;exact ⟨Ug,hbuf,by rw [rJ,au rfl];exact Jp⟩⟩
theorem VG (G:GH) (Lp Lo:OL) (w0:World) (b:Nat) (s:ByteArray) (i:Int) (p v q:aj) (pl e:Int) (lit:List UInt8) (parts:List iE) (ch:Int) (plain:Bool) (hR:xC b lit parts p v q Lp Lo) (hO:gL G (fT b s i p v q pl e :: (Lp++Lo)) w0) (hl:lit.length≤4294967296) (hp:parts.length≤4294967290) (hc:49≤ch∧ch≤57) (hpl:0≤pl∧pl≤4294967296) :
  Calls prog 163 #[(aJ b 0),.int .u8 ch,.bool plain] w0 (fZ w0 G (fT b s i p v q pl e :: (Lp++Lo)) fun u G' L'=>∃ p' v' q' oq fJ,L'=fT b s i p' v' q' (pl+1) e :: (oq++fJ)∧xC b [] (rJ lit parts++[⟨⟨#[]⟩,ch - 48,plain⟩]) p' v' q' oq fJ):=by
 have hml:maxLen=9223372036854775807:=rfl
 have hfl:(rJ lit parts).length≤parts.length+1:=by unfold rJ;split <;> simp
 obtain ⟨A,c,rfl,Uy,Uz⟩:=hR.buf.shape;obtain ⟨B,d,rfl,Uh,Ui⟩:=hR.prt.shape;obtain ⟨Lt,nG⟩:∃ x,x=Lp++Lo:=⟨_,rfl⟩;rw [← nG] at hO ⊢;refine jI (N:=29) (T:=[(0,_),(1,_),(2,_)]) func163 rfl ntmps163 rfl rfl hO ?_;intro a H;refine kP H (SR fun _ K1=>Rm rfl ?_);clear H;intro a H;refine gK LD (Li:=[]) (L:=fT b s i p (.slice A lit.length c) (.slice B parts.length d) pl e :: Lt) H wn rfl (by subst nG;exact Mi _ Lp Lo _ b s i p _ _ pl e lit parts hR (Hp.owns (Li:=[]) H.hp) hl (by omega)) rfl ?_;clear H;rintro v7 G7 L7 a w ⟨p',v',q',oq,fJ,rfl,FX⟩ zI H;dsimp only [List.nil_append] at H;obtain ⟨A7,c7,rfl,-,-⟩:=FX.buf.shape;obtain ⟨B7,d7,rfl,-,-⟩:=FX.prt.shape;refine K1 _ _ ?_;clear K1;refine kP H (SR fun _ K2=>Rm rfl (Rm rfl (Rk rfl (aV FM GR 0 rfl rfl (Rm rfl ?_)))));clear H;intro a H;refine ahA H wn rfl rfl (by omega) (by omega) rfl ?_;clear H;intro a H;refine EC _ lu GX H wn rfl rfl rfl ?_;clear H;intro a H;rw [Gn (by omega) (by omega)] at H;refine kH H (Rm rfl ?_);clear H;intro a H;refine jZ WG [_,_,_] H wn rfl rfl rfl rfl ?_;clear H;intro a H;refine gP EM EJ [_,_,_] [_,_,_] H wn rfl rfl rfl rfl rfl (by intro i q h;match i,h with|0,h=>exact h|n+1,h=>simp at h) rfl rfl ?_;clear H;intro b18 a w I8 H;have H:=(St.cast H (show _=[_,_]++(oq++fJ) from rfl)).perm (List.Perm.append_left _ xD);have H:=St.un H;refine pR (Li:=[_,_]++fJ) (Lo:=oq) (news:=iE.cells ⟨⟨#[]⟩,ch - 48,plain⟩) EM EJ rfl rfl H wn rfl rfl FX.prt rfl (H.hp.dZ 0 rfl rfl) rfl (by omega) (by omega) rfl ?_;clear H;intro v19 Qz a w vG H;obtain ⟨Hf,c19,rfl,-,-⟩:=vG.shape;rw [← Va] at vG;have H:=H.assoc.perm (List.Perm.append_left _ xD);dsimp only [lca,bq] at H;refine kH H (Rk rfl (Rf FM rfl ?_));clear H;intro a H;refine bE GR 1 (vs:=[_]) _ H wn rfl rfl rfl rfl rfl rfl rfl rfl ?_;clear H;intro w H;dsimp only [List.set,setRow] at H;refine K2 _ _ ?_;clear K2;refine kP H (SC (Rm rfl (Rk rfl (aV IG aD 1 rfl rfl (Rd rfl (Rk rfl (Rf IG rfl ?_)))))));clear H;intro a H;refine bE aD 1 (vs:=[_]) _ H wn rfl rfl rfl rfl rfl rfl rfl rfl ?_;clear H;intro w H;dsimp only [List.set,setRow] at H;refine aH ?_;refine (leave0 H results163 ?_).2;exact H.hp.gJ (L':=fT b s i _ _ _ (pl+1) e :: (Qz++fJ)) (yP _ _) ⟨_,_,_,Qz,fJ,rfl,FX.ptr,FX.buf,by simpa using vG⟩
end
section
open Go.RowKit
section
variable {N:Nat} {D:List Deferred} {w0:World} {F:Nat→Prop} {G0 G:GH} {L:OL} {T Xs:List (Nat × aj)}
variable {r:Option Nat} {P:Program} {Q:Exit→Act→World→Prop} {l:List Oper} {a a':Act} {w w':World}
abbrev PU:Type:=Nat × aj × Nat × Bool
def PV (ent:List PU) (S:Nat→Bool) (a:Act):Prop:=∀ e∈ent,S e.2.2.1=e.2.2.2→a.tmps[e.1]?=some e.2.1
theorem PV.at {ent:List PU} {S:Nat→Bool} {a:Act} (h:PV ent S a) (k:Nat) {t:Nat} {v:aj} {j:Nat} {b:Bool} (hk:ent[k]?=some (t,v,j,b)) (hS:S j=b):a.tmps[t]?=some v:=h _ (kI hk) hS
theorem ahz {ops:Array Oper} {rest:List Oper} {d:Nat} {ty:TypeId} {pos:String} {aL:Array Edge} {g:Option (Nat × Bool)} {t:TypeId} {x y:Operand} {s:ByteArray} {ky:IntKind} {p:Int} (hi:Nat) (ht:P.underlying t=some .string) (H:St N D w0 F G0 G L T a w) (hw:Region.wanted ⟨some d,.slice t x none (some y) none,ty,pos,aL,g⟩ (yielded ops a.tmps)=true) (hx:ev T x=some (.string s)) (hy:ev T y=some (.int ky p)) (hp:p=(hi:Int)) (h1:hi≤s.size) (hd:Nat.blt d N=true)
  (k:∀ a',St N D w0 F G0 G L ((d,.string (s.extract 0 hi)) :: T) a' w→WL r P ops Q rest a' w):WL r P ops Q (⟨some d,.slice t x none (some y) none,ty,pos,aL,g⟩ :: rest) a w:=by
 subst hp
 have hr:=run_slice_string_h (P:=P) w t s ht ky (hi:Int) (by omega) (by omega)
 rw [Int.toNat_natCast] at hr
 refine fE (v:=.string (s.extract 0 hi)) (w':=w) hw rfl ?_ (k _ (H.put hd _ H.hp))
 simp only [execOp,H.ev hx,Option.map_some,Option.map_none,H.ev hy,bV,run_sliceAt_string w t _ _ _ _ ht,hr,jG,pq]
end
end
section
open Go.RowKit
theorem abm:∀ args w,(callFunc 166 args).run prog w=.ok (.enter 166 args) w:=enters func166 rfl (by kernel_rfl)
theorem uq:bM prog 259 0 0:=⟨by kernel_rfl⟩
theorem R6:∀ args w,(callFunc 159 args).run prog w=.ok (.enter 159 args) w:=enters func159 rfl (by kernel_rfl)
theorem R7:∀ args w,(callFunc 162 args).run prog w=.ok (.enter 162 args) w:=enters func162 rfl (by kernel_rfl)
theorem R8:∀ args w,(callFunc 163 args).run prog w=.ok (.enter 163 args) w:=enters func163 rfl (by kernel_rfl)
theorem nQ:bM prog 259 1 1:=⟨by kernel_rfl⟩
theorem LG:∀ args w,(callFunc 161 args).run prog w=.ok (.enter 161 args) w:=enters func161 rfl (by kernel_rfl)
theorem xM:bM prog 259 5 6:=⟨by kernel_rfl⟩
def pI (s p:ByteArray):Bool:=decide (p.size≤s.size) && ((s.extract 0 p.size).toList == p.toList)
theorem adM (G:GH) (w0:World) (hG:Hold G w0) (s p:ByteArray) (hs:s.size≤4611686018427387904) (hp:p.size≤4611686018427387904):Calls prog 166 #[.string s,.string p] w0 (bD w0 G fun u G'=>u=.bool (pI s p)∧G=G'):=by
 refine eN [(0,_),(1,_)] func166 rfl ntmps166 rfl rfl hG ?_;intro a H;refine kP H (SR fun _ K1=>ak K1 rfl (SR fun _ K2=>Rm rfl (Rv fP rfl (Rm rfl (Rv fP rfl (Rc rfl (Rm rfl (Sp 10 rfl ?_ ?_)))))))) <;> clear H K1
 ·intro h10 a H
  try have lM:=dT h10
  refine kH H (YM h10 rfl (YM h10 rfl ?_));clear H;intro a H;refine Bn fP H (wg H rfl rfl h10) rfl rfl ?_;clear H;intro a H;refine ahz p.size fP H (wg H rfl rfl h10) rfl rfl rfl (by omega) rfl ?_;clear H;intro a H;refine kH H (YM h10 rfl ?_);clear H;intro a H;refine Bl H (wg H rfl rfl h10) rfl rfl rfl ?_;clear H;intro a H;exact kH H (Pt h10 rfl (ak K2 rfl (LR results166 rfl fun H=>H.rt ⟨aG (by unfold pI;first|(simp_all;done)|(simp_all;omega)),rfl⟩)))
 intro h10 a H
 try have lM:=dF h10
 exact kH H (aY h10 rfl (aY h10 rfl (Pf h10 rfl (ak K2 rfl (LR results166 rfl fun H=>H.rt ⟨aG (by unfold pI;first|(simp_all;done)|(simp_all;omega)),rfl⟩)))))
theorem M5 (G:GH) (w0:World) (hG:Hold G w0) (s p:ByteArray) (hs:s.size≤4611686018427387904) (hp:p.size≤4611686018427387904):Calls prog 161 #[.string s,.string p] w0 (bD w0 G fun u G'=>u=.bool (pI s p)∧G=G'):=by
 refine eN [(0,_),(1,_)] func161 rfl ntmps161 rfl rfl hG ?_;intro a H;refine kP H (SR fun _ K1=>ak K1 rfl (SR fun _ K2=>Rm rfl (Rm rfl ?_)));clear H K1;intro a H;refine s_call abm H wn rfl (adM _ _ H.ro s p hs hp) rfl ?_;clear H;rintro v7 _ a w ⟨rfl,rfl⟩ - H;exact kH H (ak K2 rfl (LR results161 rfl fun H=>H.rt ⟨rfl,rfl⟩))
def rG (s:ByteArray) (k:Nat):Bool:=decide (k < s.size) && decide (49≤gF s k) && decide (gF s k≤57)
theorem RN (G:GH) (L:OL) (w0:World) (b:Nat) (s:ByteArray) (i:Int) (p v q:aj) (pl e:Int) (k:Nat) (hs:s.size≤4611686018427387904) (hO:gL G (fT b s i p v q pl e :: L) w0) :
  Calls prog 162 #[(aJ b 0),vi k] w0 (fZ w0 G (fT b s i p v q pl e :: L) fun u G' L'=>u=.bool (rG s k)∧L'=fT b s i p v q pl e :: L∧G'=G):=by
 refine jI (N:=30) (T:=[(0,_),(1,_)]) func162 rfl ntmps162 rfl rfl hO ?_;intro a H;refine kP H (SR fun _ K1=>ak K1 rfl (SR fun _ K2=>Rm rfl (Rm rfl (Rk rfl (aV uq gG 0 rfl rfl (Rv fP rfl (Rc rfl (Rm rfl (Sp 12 rfl ?_ ?_))))))))) <;> clear H K1
 ·intro h12 a H
  try have qO:=dT h12
  refine kH H (YM h12 rfl ?_);clear H;intro a H;refine qQ H (wg H rfl rfl h12) rfl rfl ?_;clear H;intro a H;refine kH H (YF uq h12 rfl (YO gG 0 h12 rfl (YM h12 rfl ?_)));clear H;intro a H;refine nu k fP H (wg H rfl rfl h12) rfl rfl rfl (by omega) rfl ?_;clear H;intro a H;rw [← kV] at H;refine kH H (YC h12 rfl (Pt h12 rfl (Rm rfl (Sp 21 rfl ?_ ?_)))) <;> clear H
  ·intro h21 a H
   try have qw:=dT h21
   refine kH H (YM h21 rfl ?_);clear H;intro a H;refine qQ H (wg H rfl rfl h21) rfl rfl ?_;clear H;intro a H;refine kH H (YF uq h21 rfl (YO gG 0 h21 rfl (YM h21 rfl ?_)));clear H;intro a H;refine nu k fP H (wg H rfl rfl h21) rfl rfl rfl (by omega) rfl ?_;clear H;intro a H;rw [← kV] at H;exact kH H (YC h21 rfl (Pt h21 rfl (ak K2 rfl (LR results162 rfl fun H=>H.hp.dW ⟨aG (by unfold rG;first|(simp_all;done)|(simp_all;omega)),rfl,rfl⟩))))
  intro h21 a H
  try have qw:=dF h21
  exact kH H (aY h21 rfl (aP h21 rfl (aP h21 rfl (Pf h21 rfl (ak K2 rfl (LR results162 rfl fun H=>H.hp.dW ⟨aG (by unfold rG;first|(simp_all;done)|(simp_all;omega)),rfl,rfl⟩))))))
 intro h12 a H
 try have qO:=dF h12
 exact kH H (aY h12 rfl (aP h12 rfl (aP h12 rfl (Pf h12 rfl (Rm rfl (aY rfl rfl (aP rfl rfl (aP rfl rfl (Pf rfl rfl (ak K2 rfl (LR results162 rfl fun H=>H.hp.dW ⟨aG (by unfold rG;first|(simp_all;done)|(simp_all;omega)),rfl,rfl⟩)))))))))))
structure rC where
 i:Nat
 lit:List UInt8
 parts:List iE
 pl:Nat
 e:Int
def ni (s:ByteArray) (x:rC):rC :=
 if pI (s.extract x.i s.size) ⟨#[37,37]⟩=true then ⟨x.i+2,x.lit++[37],x.parts,x.pl,x.e⟩
 else if rG s (x.i+1)=true then ⟨x.i+2,[],rJ x.lit x.parts++[⟨⟨#[]⟩,gF s (x.i+1) - 48,false⟩],x.pl+1,x.e⟩
 else if pI (s.extract x.i s.size) ⟨#[37,100]⟩=true∧rG s (x.i+2)=true then ⟨x.i+3,[],rJ x.lit x.parts++[⟨⟨#[]⟩,gF s (x.i+2) - 48,true⟩],x.pl+1,x.e⟩
 else ⟨x.i,x.lit,x.parts,x.pl,14⟩
abbrev tN (b:Nat) (s:ByteArray) (x:rC) (p v q:aj):Nat × Obj:=fT b s x.i p v q x.pl x.e
theorem RL {s:ByteArray} {k:Nat} (h:rG s k=true):k < s.size∧49≤gF s k∧gF s k≤57:=by
 simpa [rG,and_assoc] using h
set_option maxHeartbeats 1000000 in
theorem agF (G:GH) (Lp Lo:OL) (w0:World) (b:Nat) (s:ByteArray) (x:rC) (p v q:aj) (hR:xC b x.lit x.parts p v q Lp Lo) (hO:gL G (tN b s x p v q :: (Lp++Lo)) w0) (hs:s.size≤4294967290) (hi:x.i < s.size) (hl:x.lit.length≤4294967290) (hp:x.parts.length≤4294967290) (hpl:x.pl≤4294967290) :
    Calls prog 158 #[(aJ b 0)] w0 (fZ w0 G (tN b s x p v q :: (Lp++Lo)) fun u G' L'=>∃ p' v' q' oq fJ,L'=tN b s (ni s x) p' v' q' :: (oq++fJ)∧xC b (ni s x).lit (ni s x).parts p' v' q' oq fJ):=by
  obtain ⟨i,lit,parts,pl,e⟩:=x;dsimp only [tN] at *
  have hex:(s.extract i s.size).size≤4611686018427387904:=by rw [ByteArray.size_extract];omega
  obtain ⟨A,c,rfl,Uy,Uz⟩:=hR.buf.shape;obtain ⟨B,d,rfl,Uh,Ui⟩:=hR.prt.shape;obtain ⟨Lt,nG⟩:∃ x,x=Lp++Lo:=⟨_,rfl⟩;rw [← nG] at hO ⊢;refine jI (N:=93) (T:=[(0,_)]) func158 rfl ntmps158 rfl rfl hO ?_;intro a H;refine xI ?_;refine bg (fun _ K1=>?_);refine dI hmx [[],[0],[0,1],[0,1,2],[],[4],[4,5],[4,5,6],(ra 0 8),(ra 0 9),(ra 0 10)] [] (by kernel_rfl) [_,_,_,.string s,_,_,_,vi i,.string (s.extract i s.size),.bool (pI (s.extract i s.size) ⟨#[37,37]⟩),_] H (aB (Z0 rfl (Rm rfl)) (Z1 0 6 rfl (Rk rfl)) (Z1 1 7 rfl (Rf uq rfl)) (Z1 2 8 rfl (Ro gG 0 rfl)) (aB (Z0 rfl (Rm rfl)) (Z1 4 10 rfl (Rk rfl)) (Z1 5 11 rfl (Rf nQ rfl)) (Z1 6 12 rfl (Ro aD 0 rfl)) (aW ?_ (aW ?_ (aW (Z1 9 15 rfl (Ra rfl)) bW))))) ?_
  · refine cB 3 9 7 13 rfl rfl fun _ a w G1 hG HT H fin=>?_;refine OU i fP H wn rfl rfl rfl (by omega) rfl ?_;clear H;intro a H;exact fin H iJ rfl
  · refine dw 8 14 rfl rfl fun _ a w G1 hG HT H fin=>?_;refine s_call LG H wn rfl (M5 _ _ H.ro _ _ hex (by decide)) rfl ?_;clear H;rintro v15 Dw a w ⟨rfl,rfl⟩ Cq H;exact fin H Cq (rfl)
  clear H;intro a w G mH H hv;have H:=H.aS (hv 10 5 rfl rfl) rfl;clear hv;refine aH ⟨rfl,?_⟩;refine K1 _ _ ?_;clear K1;refine kW H rfl ?_ ?_
  · intro h5
    try have p5:=dT h5
    refine kP H (SR fun _ K2=>Rm rfl (Rk rfl (Rf FL rfl ?_)));clear H;intro a H;refine gK R6 (Li:=[]) (L:=fT b s i p (.slice A lit.length c) (.slice B parts.length d) pl e :: Lt) H wn rfl (by subst nG;exact Xm _ Lp Lo _ b s i p _ B parts.length d pl e lit.length _ 37 hR.ptr (Hp.owns (Li:=[]) H.hp) hR.buf (by omega)) rfl ?_;clear H;rintro v19 _ L19 a w ⟨akA,BK,rfl,vG,rfl⟩ pK H;dsimp only [List.nil_append] at H;obtain ⟨Hf,c19,rfl,-,-⟩:=vG.shape;refine K2 _ _ ?_;clear K2;refine kP H (SC (Rm rfl (Rk rfl (aV nQ aD 0 rfl rfl (Rd rfl (Rk rfl (Rf nQ rfl ?_)))))));clear H;intro a H;refine bE aD 0 (vs:=[_]) _ H wn rfl rfl rfl rfl rfl rfl rfl rfl ?_;clear H;intro w H;dsimp only [List.set,setRow] at H;refine aH ?_;refine (leave0 H results158 ?_).2;exact H.hp.dW ⟨_,_,_,Lp,BK,by rw [ni,au h5];rfl,by rw [ni,au h5];exact ⟨.inr rfl,by simpa [Lib.byteCells] using vG,hR.prt⟩⟩
  intro h5
  try have p5:=dF h5
  refine kP H (SR fun _ K3=>Rm rfl (Rm rfl (Rk rfl (aV nQ aD 0 rfl rfl (Rd rfl ?_)))));clear H;intro a H;rw [show ((i:Int)+1)=((i+1:Nat):Int) from rfl] at H;refine gK R7 (Li:=[]) (L:=fT b s i p (.slice A lit.length c) (.slice B parts.length d) pl e :: Lt) H wn rfl (RN _ Lt _ b s i p _ _ pl e (i+1) (by omega) (Hp.owns (Li:=[]) H.hp)) rfl ?_;clear H;rintro v34 _ L34 a w ⟨rfl,rfl,rfl⟩ TP H;dsimp only [List.nil_append] at H;refine kH H (ak K3 rfl (Cd rfl ?_ ?_)) <;> clear H K3
  · intro h27 a H
    try have p27:=dT h27
    have hd1:=RL h27;refine bg (fun _ K4=>?_);refine dI hmx [[],[],[1],[1,2],[1,2,3],[],[5],[5,6],[5,6,7],(ra 5 4),(ra 1 9),(ra 0 11)] [11] (by kernel_rfl) [_,_,_,_,.string s,_,_,_,vi i,_,.int .u8 (gF s (i+1))] H (aB (Z0 rfl (Rm rfl)) (Z0 rfl (Rm rfl)) (Z1 1 36 rfl (Rk rfl)) (Z1 2 37 rfl (Rf uq rfl)) (aB (Z1 3 38 rfl (Ro gG 0 rfl)) (Z0 rfl (Rm rfl)) (Z1 5 40 rfl (Rk rfl)) (Z1 6 41 rfl (Rf nQ rfl)) (aB (Z1 7 42 rfl (Ro aD 0 rfl)) (Z1 8 43 rfl (Rd rfl)) ?_ (bH rfl) bW))) ?_
    · refine cB 4 39 9 44 rfl rfl fun _ a w G1 hG HT H fin=>?_;refine nu (i+1) fP H wn rfl rfl rfl hd1.1 rfl ?_;clear H;intro a H;rw [← kV] at H;exact fin H iJ rfl
    clear H;intro a w G AQ H hv;have H:=H.aS (hv 0 35 rfl rfl) rfl;have H:=H.aS (hv 10 45 rfl rfl) rfl;clear hv;refine gK R8 (Li:=[]) (L:=fT b s i p (.slice A lit.length c) (.slice B parts.length d) pl e :: Lt) H wn rfl (by subst nG;exact VG _ Lp Lo _ b s i p _ _ pl e lit parts (gF s (i+1)) false hR (Hp.owns (Li:=[]) H.hp) (by omega) (by omega) hd1.2 (by omega)) rfl ?_;clear H;rintro v46 XW L46 a w ⟨p46,aiU,q46,E5,EZ,rfl,zC⟩ aep H;dsimp only [List.nil_append] at H;obtain ⟨XG,c46,rfl,-,-⟩:=zC.buf.shape;obtain ⟨XK,d46,rfl,-,-⟩:=zC.prt.shape;refine aH ⟨rfl,?_⟩;refine K4 _ _ ?_;clear K4;refine kP H (SC (Rm rfl (Rk rfl (aV nQ aD 0 rfl rfl (Rd rfl (Rk rfl (Rf nQ rfl ?_)))))));clear H;intro a H;refine bE aD 0 (vs:=[_]) _ H wn rfl rfl rfl rfl rfl rfl rfl rfl ?_;clear H;intro w H;dsimp only [List.set,setRow] at H;refine aH ?_;refine (leave0 H results158 ?_).2;exact H.hp.dW ⟨_,_,_,E5,EZ,by rw [ni,ah (by simp [h5]),au h27];rfl,by rw [ni,ah (by simp [h5]),au h27];exact zC⟩
  intro h27 a H
  try have p27:=dF h27
  refine bg (fun _ K5=>?_)
  by_cases c1:pI (s.extract i s.size) ⟨#[37,100]⟩=true
  · skip;refine dI hmx [[],[0],[0,1],[0,1,2],[],[4],[4,5],[4,5,6],(ra 0 8),(ra 0 9),(ra 0 10),(ra 0 11),(ra 0 11),(ra 0 11++[12]),(ra 0 11++[12,13]),(ra 0 11++[12,13,14]),(ra 0 11++ra 12 4),(ra 0 17),(ra 0 18),(ra 0 19)] [] (by kernel_rfl) [_,_,_,.string s,_,_,_,vi i,.string (s.extract i s.size),.bool (pI (s.extract i s.size) ⟨#[37,100]⟩),.bool (decide (pI (s.extract i s.size) ⟨#[37,100]⟩=true)),_,_,(aJ b 0),_,vi i,vi ((i+2:Nat):Int),.bool (rG s (i+2)),_,_] H (aB (Z0 rfl (Rm rfl)) (Z1 0 55 rfl (Rk rfl)) (Z1 1 56 rfl (Rf uq rfl)) (Z1 2 57 rfl (Ro gG 0 rfl)) (aB (Z0 rfl (Rm rfl)) (Z1 4 59 rfl (Rk rfl)) (Z1 5 60 rfl (Rf nQ rfl)) (Z1 6 61 rfl (Ro aD 0 rfl)) (aB ?_ ?_ ?_ (Z1 10 65 rfl (YM (aC c1) rfl)) (aB (Z1 10 65 rfl (YM (aC c1) rfl)) ?_ (Z2 13 68 10 65 rfl (YF nQ (aC c1) rfl)) (Z2 14 69 10 65 rfl (YO aD 0 (aC c1) rfl)) (aB ?_ ?_ (Z2 10 65 17 72 rfl (Pt (aC c1) rfl)) (Z1 18 73 rfl (Ra rfl)) bW))))) ?_
    · refine cB 3 58 7 62 rfl rfl fun _ a w G1 hG HT H fin=>?_;refine OU i fP H wn rfl rfl rfl (by omega) rfl ?_;clear H;intro a H;exact fin H iJ rfl
    · refine dw 8 63 rfl rfl fun _ a w G1 hG HT H fin=>?_;refine s_call LG H wn rfl (M5 _ _ H.ro _ _ hex (by decide)) rfl ?_;clear H;rintro v64 X9 a w ⟨rfl,rfl⟩ MR H;exact fin H MR (rfl)
    · refine dw 9 64 rfl rfl fun _ a w G1 hG HT H fin=>?_;refine kH H (Rm rfl ?_);clear H;intro a H;exact fin H iJ (by show _=_;simp)
    · refine cB 12 67 10 65 rfl rfl fun _ a w G1 hG HT H fin=>?_;refine qQ H (wg H rfl rfl (aC c1)) rfl rfl ?_;clear H;intro a H;exact fin H iJ rfl
    · refine cB 15 70 10 65 rfl rfl fun _ a w G1 hG HT H fin=>?_;refine JO _ H (wg H rfl rfl (aC c1)) rfl rfl rfl (by omega) (by omega) rfl ?_;clear H;intro a H;exact fin H iJ rfl
    · refine mR 11 66 16 71 10 65 rfl rfl fun _ a w G1 hG HT H fin=>?_;refine gK R7 (Li:=[]) (L:=fT b s i p (.slice A lit.length c) (.slice B parts.length d) pl e :: Lt) H (wg H rfl rfl (aC c1)) rfl (RN _ Lt _ b s i p _ _ pl e (i+2) (by omega) (Hp.owns (Li:=[]) H.hp)) rfl ?_;clear H;rintro v72 G72 L72 a w ⟨rfl,rfl,rfl⟩ adx H;dsimp only [List.nil_append] at H;exact fin H adx (rfl)
    clear H;intro a w G zB H hv;have H:=H.aS (hv 19 54 rfl rfl) rfl;clear hv;refine aH ⟨rfl,?_⟩;refine K5 _ _ ?_;clear K5;refine kW H rfl ?_ ?_
    · intro gT
      try have p54:=dT gT
      have hd2:=RL gT;refine bg (fun _ K6=>?_);refine dI hmx [[],[],[1],[1,2],[1,2,3],[],[5],[5,6],[5,6,7],(ra 5 4),(ra 1 9),(ra 0 11)] [11] (by kernel_rfl) [_,_,_,_,.string s,_,_,_,vi i,_,.int .u8 (gF s (i+2))] H (aB (Z0 rfl (Rm rfl)) (Z0 rfl (Rm rfl)) (Z1 1 75 rfl (Rk rfl)) (Z1 2 76 rfl (Rf uq rfl)) (aB (Z1 3 77 rfl (Ro gG 0 rfl)) (Z0 rfl (Rm rfl)) (Z1 5 79 rfl (Rk rfl)) (Z1 6 80 rfl (Rf nQ rfl)) (aB (Z1 7 81 rfl (Ro aD 0 rfl)) (Z1 8 82 rfl (Rd rfl)) ?_ (bH rfl) bW))) ?_
      · refine cB 4 78 9 83 rfl rfl fun _ a w G1 hG HT H fin=>?_;refine nu (i+2) fP H wn rfl rfl rfl hd2.1 rfl ?_;clear H;intro a H;rw [← kV] at H;exact fin H iJ rfl
      clear H;intro a w G qJ H hv;have H:=H.aS (hv 0 74 rfl rfl) rfl;have H:=H.aS (hv 10 84 rfl rfl) rfl;clear hv;refine gK R8 (Li:=[]) (L:=fT b s i p (.slice A lit.length c) (.slice B parts.length d) pl e :: Lt) H wn rfl (by subst nG;exact VG _ Lp Lo _ b s i p _ _ pl e lit parts (gF s (i+2)) true hR (Hp.owns (Li:=[]) H.hp) (by omega) (by omega) hd2.2 (by omega)) rfl ?_;clear H;rintro v85 G85 L85 a w ⟨p46,aiU,q46,E5,EZ,rfl,zC⟩ akc H;dsimp only [List.nil_append] at H;obtain ⟨XG,c46,rfl,-,-⟩:=zC.buf.shape;obtain ⟨XK,d46,rfl,-,-⟩:=zC.prt.shape;refine aH ⟨rfl,?_⟩;refine K6 _ _ ?_;clear K6;refine kP H (SC (Rm rfl (Rk rfl (aV nQ aD 0 rfl rfl (Rd rfl (Rk rfl (Rf nQ rfl ?_)))))));clear H;intro a H;refine bE aD 0 (vs:=[_]) _ H wn rfl rfl rfl rfl rfl rfl rfl rfl ?_;clear H;intro w H;dsimp only [List.set,setRow] at H;refine aH ?_;refine (leave0 H results158 ?_).2
      have tH:¬ pI (s.extract i s.size) ⟨#[37,37]⟩=true:=by simp [h5]
      have tF:¬ rG s (i+1)=true:=by simp [h27]
      first
        | exact H.hp.dW ⟨_,_,_,E5,EZ,by rw [ni,ah tH,ah tF,au ⟨c1,gT⟩];rfl,by rw [ni,ah tH,ah tF,au ⟨c1,gT⟩];exact zC⟩
        | (have wK:¬ (pI (s.extract i s.size) ⟨#[37,100]⟩=true∧rG s (i+2)=true):=by simp_all
           exact H.hp.dW ⟨_,_,_,Lp,Lo,by rw [ni,ah tH,ah tF,ah wK,nG],by rw [ni,ah tH,ah tF,ah wK];exact hR⟩)
    intro gT
    try have p54:=dF gT
    refine kP H (SC (Rm rfl (Rk rfl (Rf xM rfl ?_))));clear H;intro a H;refine bE fV 0 (vs:=[_]) _ H wn rfl rfl rfl rfl rfl rfl rfl rfl ?_;clear H;intro w H;dsimp only [List.set,setRow] at H;refine aH ?_;refine (leave0 H results158 ?_).2
    have tH:¬ pI (s.extract i s.size) ⟨#[37,37]⟩=true:=by simp [h5]
    have tF:¬ rG s (i+1)=true:=by simp [h27]
    first
      | exact H.hp.dW ⟨_,_,_,E5,EZ,by rw [ni,ah tH,ah tF,au ⟨c1,gT⟩];rfl,by rw [ni,ah tH,ah tF,au ⟨c1,gT⟩];exact zC⟩
      | (have wK:¬ (pI (s.extract i s.size) ⟨#[37,100]⟩=true∧rG s (i+2)=true):=by simp_all
         exact H.hp.dW ⟨_,_,_,Lp,Lo,by rw [ni,ah tH,ah tF,ah wK,nG],by rw [ni,ah tH,ah tF,ah wK];exact hR⟩)
  skip;refine dI hmx [[],[0],[0,1],[0,1,2],[],[4],[4,5],[4,5,6],(ra 0 8),(ra 0 9),(ra 0 10),(ra 0 11),(ra 0 11),(ra 0 11++[12]),(ra 0 11++[12,13]),(ra 0 11++[12,13,14]),(ra 0 11++ra 12 4),(ra 0 17),(ra 0 18),(ra 0 19)] [] (by kernel_rfl) [_,_,_,.string s,_,_,_,vi i,.string (s.extract i s.size),.bool (pI (s.extract i s.size) ⟨#[37,100]⟩),.bool (decide (pI (s.extract i s.size) ⟨#[37,100]⟩=true)),undef,undef,undef,undef,undef,undef,undef,_,_] H (aB (Z0 rfl (Rm rfl)) (Z1 0 55 rfl (Rk rfl)) (Z1 1 56 rfl (Rf uq rfl)) (Z1 2 57 rfl (Ro gG 0 rfl)) (aB (Z0 rfl (Rm rfl)) (Z1 4 59 rfl (Rk rfl)) (Z1 5 60 rfl (Rf nQ rfl)) (Z1 6 61 rfl (Ro aD 0 rfl)) (aB ?_ ?_ ?_ (aN (j:=10) (by kernel_rfl) (fun _ _ _ _ _ h=>h) rfl rfl rfl rfl rfl (fun _ _ h=>aO h (aG (aM c1))) rfl (fun _=>rfl)) (aB (aN (j:=10) (by kernel_rfl) (fun _ _ _ _ _ h=>h) rfl rfl rfl rfl rfl (fun _ _ h=>aO h (aG (aM c1))) rfl (fun _=>rfl)) (aN (j:=10) (by kernel_rfl) (fun _ _ _ _ _ h=>h) rfl rfl rfl rfl rfl (fun _ _ h=>aO h (aG (aM c1))) rfl (fun _=>rfl)) (aN (j:=10) (by kernel_rfl) (fun _ _ _ _ _ h=>h) rfl rfl rfl rfl rfl (fun _ _ h=>aO h (aG (aM c1))) rfl (fun _=>rfl)) (aN (j:=10) (by kernel_rfl) (fun _ _ _ _ _ h=>h) rfl rfl rfl rfl rfl (fun _ _ h=>aO h (aG (aM c1))) rfl (fun _=>rfl)) (aB (aN (j:=10) (by kernel_rfl) (fun _ _ _ _ _ h=>h) rfl rfl rfl rfl rfl (fun _ _ h=>aO h (aG (aM c1))) rfl (fun _=>rfl)) (aN (j:=10) (by kernel_rfl) (fun _ _ _ _ _ h=>h) rfl rfl rfl rfl rfl (fun _ _ h=>aO h (aG (aM c1))) rfl (fun _=>rfl)) (Z2 10 65 17 72 rfl (Pf (aM c1) rfl)) (Z1 18 73 rfl (Ra rfl)) bW))))) ?_
  · refine cB 3 58 7 62 rfl rfl fun _ a w G1 hG HT H fin=>?_;refine OU i fP H wn rfl rfl rfl (by omega) rfl ?_;clear H;intro a H;exact fin H iJ rfl
  · refine dw 8 63 rfl rfl fun _ a w G1 hG HT H fin=>?_;refine s_call LG H wn rfl (M5 _ _ H.ro _ _ hex (by decide)) rfl ?_;clear H;rintro v64 X9 a w ⟨rfl,rfl⟩ MR H;exact fin H MR (rfl)
  · refine dw 9 64 rfl rfl fun _ a w G1 hG HT H fin=>?_;refine kH H (Rm rfl ?_);clear H;intro a H;exact fin H iJ (by show _=_;simp)
  clear H;intro a w G zB H hv;have H:=H.aS (hv 19 54 rfl rfl) rfl;clear hv;refine aH ⟨rfl,?_⟩;refine K5 _ _ ?_;clear K5;refine lF H rfl rfl ?_;refine kP H (SC (Rm rfl (Rk rfl (Rf xM rfl ?_))));clear H;intro a H;refine bE fV 0 (vs:=[_]) _ H wn rfl rfl rfl rfl rfl rfl rfl rfl ?_;clear H;intro w H;dsimp only [List.set,setRow] at H;refine aH ?_;refine (leave0 H results158 ?_).2
  have tH:¬ pI (s.extract i s.size) ⟨#[37,37]⟩=true:=by simp [h5]
  have tF:¬ rG s (i+1)=true:=by simp [h27]
  first
    | exact H.hp.dW ⟨_,_,_,E5,EZ,by rw [ni,ah tH,ah tF,au ⟨c1,gT⟩];rfl,by rw [ni,ah tH,ah tF,au ⟨c1,gT⟩];exact zC⟩
    | (have wK:¬ (pI (s.extract i s.size) ⟨#[37,100]⟩=true∧rG s (i+2)=true):=by simp_all
       exact H.hp.dW ⟨_,_,_,Lp,Lo,by rw [ni,ah tH,ah tF,ah wK,nG],by rw [ni,ah tH,ah tF,ah wK];exact hR⟩)
end
section
open Go.RowKit
theorem abj:∀ args w,(callFunc 158 args).run prog w=.ok (.enter 158 args) w:=enters func158 rfl (by kernel_rfl)
def Ii (s:ByteArray) (i:Nat):UInt8:=if h:i < s.size then s[i] else 0
theorem YX (s:ByteArray) (i:Nat):gF s i=((Ii s i).toNat:Int):=by
 unfold gF Ii;split <;> rfl
def mI (s:ByteArray) (x:rC):rC:=if gF s x.i=37 then ni s x else ⟨x.i+1,x.lit++[Ii s x.i],x.parts,x.pl,x.e⟩
def zU (s:ByteArray):Nat→rC→rC
 | 0,x=>x
 | f+1,x=>if x.i < s.size∧x.e=0 then zU s f (mI s x) else x
def mS (s:ByteArray) (x:rC):Nat:=if x.e=0 then s.size - x.i else 0
theorem Ws {s:ByteArray} {f:Nat} {x:rC} (h:¬ (x.i < s.size∧x.e=0)):zU s f x=x:=by
 cases f with
 | zero=>rfl
 | succ f=>rw [zU,ah h]
theorem ade (lit:List UInt8) (parts:List iE):(rJ lit parts).length≤parts.length+1:=by unfold rJ;split <;> simp
theorem WK (s:ByteArray) (x:rC) (h:x.i < s.size∧x.e=0) (h1:x.lit.length≤x.i) (h2:x.parts.length≤2*x.i) (h3:x.pl≤x.i) :
  (mI s x).i≤x.i+3∧(mI s x).lit.length≤(mI s x).i∧(mI s x).parts.length≤2*(mI s x).i∧(mI s x).pl≤(mI s x).i∧mS s (mI s x) < mS s x∧mS s x≤s.size:=by
 have hf:=ade x.lit x.parts;have hm:mS s x=s.size - x.i:=au h.2
 unfold mI ni
 split
 ·split
  ·refine ⟨?_,?_,?_,?_,?_,?_⟩ <;> simp only [mS,kU,nM,List.length_nil] at*<;> simp only [h.2,if_true] at*<;> omega
  split
  ·refine ⟨?_,?_,?_,?_,?_,?_⟩ <;> simp only [mS,kU,nM,List.length_nil] at*<;> simp only [h.2,if_true] at*<;> omega
  split
  ·refine ⟨?_,?_,?_,?_,?_,?_⟩ <;> simp only [mS,kU,nM,List.length_nil] at*<;> simp only [h.2,if_true] at*<;> omega
  refine ⟨?_,?_,?_,?_,?_,?_⟩ <;> simp only [mS,kU,nM,List.length_nil] at*<;> simp only [h.2,if_true] at*<;> (try omega) <;> (simp;omega)
 refine ⟨?_,?_,?_,?_,?_,?_⟩ <;> simp only [mS,kU,nM,List.length_nil] at*<;> simp only [h.2,if_true] at*<;> omega
def yw:rC:=⟨0,[],[],0,0⟩
def jA (s:ByteArray):rC:=zU s s.size yw
def qR (x:rC):Int:=if x.e=0∧9 < (x.pl:Int) then 9 else x.e
set_option maxHeartbeats 1000000 in
theorem ahB (G:GH) (H8 H7:OL) (w0:World) (b:Nat) (s:ByteArray) (p0 v0 q0:aj) (hR:xC b [] [] p0 v0 q0 H8 H7) (hO:gL G (tN b s yw p0 v0 q0 :: (H8++H7)) w0) (hs:s.size≤1073741824) :
  Calls prog 154 #[(aJ b 0)] w0 (fZ w0 G (tN b s yw p0 v0 q0 :: (H8++H7)) fun u G' L'=>∃ p' v' q' oq fJ,L'=fT b s (jA s).i p' v' q' (jA s).pl (qR (jA s)) :: (oq++fJ)∧xC b [] (rJ (jA s).lit (jA s).parts) p' v' q' oq fJ):=by
 obtain ⟨A0,c0,rfl,-,-⟩:=hR.buf.shape;obtain ⟨B0,d0,rfl,-,-⟩:=hR.prt.shape;refine jI (N:=68) (T:=[(0,_)]) func154 rfl ntmps154 rfl rfl hO ?_;intro a H;refine bg (fun _ K1=>?_);refine xI ?_;skip;refine fH (ι:=Nat × rC × aj × Option Addr × Nat × Option Addr × Nat × OL × OL × GH) (Tc:=[(0,_)]) (Lc:=[]) (fun gh=>[]) (fun gh=>[tN b s gh.2.1 gh.2.2.1 (.slice gh.2.2.2.1 gh.2.1.lit.length gh.2.2.2.2.1) (.slice gh.2.2.2.2.2.1 gh.2.1.parts.length gh.2.2.2.2.2.2.1)]++(gh.2.2.2.2.2.2.2.1++gh.2.2.2.2.2.2.2.2.1)) (fun gh=>gh.2.2.2.2.2.2.2.2.2) (fun gh=>xC b gh.2.1.lit gh.2.1.parts gh.2.2.1 (.slice gh.2.2.2.1 gh.2.1.lit.length gh.2.2.2.2.1) (.slice gh.2.2.2.2.2.1 gh.2.1.parts.length gh.2.2.2.2.2.2.1) gh.2.2.2.2.2.2.2.1 gh.2.2.2.2.2.2.2.2.1∧zU s gh.1 gh.2.1=jA s∧mS s gh.2.1≤gh.1∧gh.1≤s.size∧gh.2.1.i≤s.size+3∧gh.2.1.lit.length≤gh.2.1.i∧gh.2.1.parts.length≤2*gh.2.1.i∧gh.2.1.pl≤gh.2.1.i) (fun gh=>gh.1) ((s.size,yw,p0,A0,c0,B0,d0,H8,H7,G)) (by exact (H).sub ⟨rfl,aF⟩) ?_ ?_
 ·exact ⟨hR,rfl,by simp [mS,yw],bK _,by simp [yw],by simp [yw],by simp [yw],by simp [yw]⟩
 clear H;intro gh a w hI H;obtain ⟨k,x,p,vA,vc,qA,qc,Lp,Lo,g⟩:=gh;dsimp only at hI H;obtain ⟨hR,hsc,hmk,hks,hxi,hx1,hx2,hx3⟩:=hI;dsimp only [lca,bq] at H;refine bg (fun _ K2=>?_);refine bg (fun _ K3=>?_)
 by_cases c0:(x.i:Int) < (s.size:Int)
 ·skip
  by_cases c1:x.e=0
  ·skip;refine dI hmx [[],[0],[0,1],[0,1,2],[],[4],[4,5],[4,5,6],(ra 4 4),(ra 0 9),(ra 0 10),(ra 0 11),(ra 0 12),(ra 0 13),(ra 0 14),(ra 0 15),(ra 0 16)] [] (by kernel_rfl) [_,_,_,vi x.i,_,_,_,.string s,_,_,_,_,(aJ b 0),_,vi x.e,_,_] H (aB (Z0 rfl (Rm rfl)) (Z1 0 2 rfl (Rk rfl)) (Z1 1 3 rfl (Rf nQ rfl)) (Z1 2 4 rfl (Ro aD 0 rfl)) (aB (Z0 rfl (Rm rfl)) (Z1 4 6 rfl (Rk rfl)) (Z1 5 7 rfl (Rf uq rfl)) (Z1 6 8 rfl (Ro gG 0 rfl)) (aB (Z1 7 9 rfl (Rv fP rfl)) (Z2 3 5 8 10 rfl (Rc rfl)) (Z1 9 11 rfl (Rm rfl)) (Z1 10 12 rfl (YM (aC c0) rfl)) (aB ?_ (Z2 12 14 10 12 rfl (YF xM (aC c0) rfl)) (Z2 13 15 10 12 rfl (YO fV 0 (aC c0) rfl)) (Z2 14 16 10 12 rfl (YC (aC c0) rfl)) (aW (Z2 10 12 15 17 rfl (Pt (aC c0) rfl)) bW))))) ?_
   ·refine cB 11 13 10 12 rfl rfl fun _ a w G1 hG HT H fin=>?_;refine qQ H (wg H rfl rfl (aC c0)) rfl rfl ?_;clear H;intro a H;exact fin H iJ rfl
   clear H;intro a w G Tt H hv;have H:=H.aS (hv 16 18 rfl rfl) rfl;clear hv;refine aH ⟨rfl,?_⟩;refine K3 _ _ ?_;clear K3;refine uf H rfl (aC c1) ?_;refine kP H (Kc K2 (SB (SQ fun _ K4=>SQ fun _ K5=>?_)));clear H K2;intro a H;refine dI hmx [[],[0],[0,1],[0,1,2],[],[4],[4,5],[4,5,6],(ra 0 8),(ra 0 9)] [] (by kernel_rfl) [_,_,_,.string s,_,_,_,vi x.i,.int .u8 (gF s x.i),_] H (aB (Z0 rfl (Rm rfl)) (Z1 0 19 rfl (Rk rfl)) (Z1 1 20 rfl (Rf uq rfl)) (Z1 2 21 rfl (Ro gG 0 rfl)) (aB (Z0 rfl (Rm rfl)) (Z1 4 23 rfl (Rk rfl)) (Z1 5 24 rfl (Rf nQ rfl)) (Z1 6 25 rfl (Ro aD 0 rfl)) (aW ?_ (aW (Z1 8 27 rfl (Rc rfl)) bW)))) ?_
   ·refine cB 3 22 7 26 rfl rfl fun _ a w G1 hG HT H fin=>?_;refine nu x.i fP H wn rfl rfl rfl (by omega) rfl ?_;clear H;intro a H;rw [← kV] at H;exact fin H iJ rfl
   clear H;intro a w G mH H hv;have H:=H.aS (hv 9 28 rfl rfl) rfl;clear hv;refine aH ⟨rfl,?_⟩;refine K5 _ _ ?_;clear K5;refine kW H rfl ?_ ?_
   ·intro eP
    try have p28:=dT eP
    refine kP H (SR fun _ K6=>Rm rfl ?_);clear H;intro a H;refine gK abj (Li:=[]) (L:=tN b s x p (.slice vA x.lit.length vc) (.slice qA x.parts.length qc) :: (Lp++Lo)) H wn rfl (agF _ Lp Lo _ b s x p _ _ hR (Hp.owns (Li:=[]) H.hp) (by omega) (by omega) (by omega) (by omega) (by omega)) rfl ?_;clear H;rintro v30 BG L30 a w ⟨p',v',q',oq,fJ,rfl,I6⟩ Cv H;dsimp only [List.nil_append] at H;have hst:mI s x=ni s x:=au p28;have hok:=WK s x ⟨by omega,c1⟩ hx1 hx2 hx3
    have hkk:k=(k - 1)+1:=by omega
    have Nz:zU s (k - 1) (mI s x)=jA s:=by rw [hkk,zU,au ⟨by omega,c1⟩] at hsc;exact hsc
    rw [← hst] at H I6;obtain ⟨XF,Y4,rfl,-,-⟩:=I6.buf.shape;obtain ⟨XJ,d30,rfl,-,-⟩:=I6.prt.shape;refine K6 _ _ ?_;clear K6;refine dV ?_;refine dD ((k - 1,mI s x,p',XF,Y4,XJ,d30,oq,fJ,BG)) (by exact (H).sub ⟨rfl,aF⟩) ?_ ?_
    ·(try dsimp only);exact ⟨I6,Nz,by omega,by omega,by omega,by omega,by omega,by omega⟩
    first|omega|(dsimp only;omega)
   intro eP
   try have p28:=dF eP
   refine gI ?_;refine K4 _ _ ?_;clear K4;refine bg (fun _ K7=>?_);refine dI hmx [[],[0],[0,1],[],[3],[3,4],[3,4,5],[],[7],[7,8],[7,8,9],(ra 3 8),(ra 0 12)] [12] (by kernel_rfl) [_,_,_,_,_,_,.string s,_,_,_,vi x.i,.int .u8 (gF s x.i)] H (aB (Z0 rfl (Rm rfl)) (Z1 0 31 rfl (Rk rfl)) (Z1 1 32 rfl (Rf FL rfl)) (Z0 rfl (Rm rfl)) (aB (Z1 3 34 rfl (Rk rfl)) (Z1 4 35 rfl (Rf uq rfl)) (Z1 5 36 rfl (Ro gG 0 rfl)) (Z0 rfl (Rm rfl)) (aB (Z1 7 38 rfl (Rk rfl)) (Z1 8 39 rfl (Rf nQ rfl)) (Z1 9 40 rfl (Ro aD 0 rfl)) ?_ (aW (bH rfl) bW)))) ?_
   ·refine cB 6 37 10 41 rfl rfl fun _ a w G1 hG HT H fin=>?_;refine nu x.i fP H wn rfl rfl rfl (by omega) rfl ?_;clear H;intro a H;rw [← kV] at H;exact fin H iJ rfl
   clear H;intro a w G adt H hv;have H:=H.aS (hv 2 33 rfl rfl) rfl;have H:=H.aS (hv 11 42 rfl rfl) rfl;clear hv;refine gK R6 (Li:=[]) (L:=tN b s x p (.slice vA x.lit.length vc) (.slice qA x.parts.length qc) :: (Lp++Lo)) H wn rfl (Xm _ Lp Lo _ b s x.i p _ qA x.parts.length qc x.pl x.e x.lit.length _ (gF s x.i) hR.ptr (Hp.owns (Li:=[]) H.hp) hR.buf (by omega)) rfl ?_;clear H;rintro v43 _ L43 a w ⟨akB,KF,rfl,Um,rfl⟩ Ba H;dsimp only [List.nil_append] at H;obtain ⟨Kq,KT,rfl,-,-⟩:=Um.shape;have hst:mI s x=⟨x.i+1,x.lit++[Ii s x.i],x.parts,x.pl,x.e⟩:=ah p28;have hok:=WK s x ⟨by omega,c1⟩ hx1 hx2 hx3
   have hkk:k=(k - 1)+1:=by omega
   have Nz:zU s (k - 1) (mI s x)=jA s:=by rw [hkk,zU,au ⟨by omega,c1⟩] at hsc;exact hsc
   have adH:xC b (mI s x).lit (mI s x).parts (aJ b 2) (.slice Kq (mI s x).lit.length KT) (.slice qA (mI s x).parts.length qc) Lp KF:=by
    rw [hst];exact ⟨.inr rfl,by simpa [Lib.byteCells,YX] using Um,hR.prt⟩
   refine aH ⟨rfl,?_⟩;refine K7 _ _ ?_;clear K7;refine kP H (SC (Rm rfl (Rk rfl (aV nQ aD 0 rfl rfl (Rd rfl (Rk rfl (Rf nQ rfl ?_)))))));clear H;intro a H;refine bE aD 0 (vs:=[_]) _ H wn rfl rfl rfl rfl rfl rfl rfl rfl ?_;clear H;intro w H;dsimp only [List.set,setRow] at H;replace H:St _ _ _ _ _ _ (tN b s (mI s x) (aJ b 2) (.slice Kq (mI s x).lit.length KT) (.slice qA (mI s x).parts.length qc) :: (Lp++KF)) _ _ _:=H.cast (by rw [hst];simp [tN,fT]);refine aH ?_;refine dD ((k - 1,mI s x,(aJ b 2),Kq,KT,qA,qc,Lp,KF,_)) (by exact (H).sub ⟨rfl,aF⟩) ?_ ?_
   ·(try dsimp only);exact ⟨adH,Nz,by omega,by omega,by omega,by omega,by omega,by omega⟩
   first|omega|(dsimp only;omega)
  skip;refine dI hmx [[],[0],[0,1],[0,1,2],[],[4],[4,5],[4,5,6],(ra 4 4),(ra 0 9),(ra 0 10),(ra 0 11),(ra 0 12),(ra 0 13),(ra 0 14),(ra 0 15),(ra 0 16)] [] (by kernel_rfl) [_,_,_,vi x.i,_,_,_,.string s,_,_,_,_,(aJ b 0),_,vi x.e,_,_] H (aB (Z0 rfl (Rm rfl)) (Z1 0 2 rfl (Rk rfl)) (Z1 1 3 rfl (Rf nQ rfl)) (Z1 2 4 rfl (Ro aD 0 rfl)) (aB (Z0 rfl (Rm rfl)) (Z1 4 6 rfl (Rk rfl)) (Z1 5 7 rfl (Rf uq rfl)) (Z1 6 8 rfl (Ro gG 0 rfl)) (aB (Z1 7 9 rfl (Rv fP rfl)) (Z2 3 5 8 10 rfl (Rc rfl)) (Z1 9 11 rfl (Rm rfl)) (Z1 10 12 rfl (YM (aC c0) rfl)) (aB ?_ (Z2 12 14 10 12 rfl (YF xM (aC c0) rfl)) (Z2 13 15 10 12 rfl (YO fV 0 (aC c0) rfl)) (Z2 14 16 10 12 rfl (YC (aC c0) rfl)) (aW (Z2 10 12 15 17 rfl (Pt (aC c0) rfl)) bW))))) ?_
  ·refine cB 11 13 10 12 rfl rfl fun _ a w G1 hG HT H fin=>?_;refine qQ H (wg H rfl rfl (aC c0)) rfl rfl ?_;clear H;intro a H;exact fin H iJ rfl
  clear H;intro a w G Tt H hv;have H:=H.aS (hv 16 18 rfl rfl) rfl;clear hv;refine aH ⟨rfl,?_⟩;refine K3 _ _ ?_;clear K3;refine lF H rfl (aM c1) ?_;refine dV ?_;refine K1 _ _ ?_;clear K1;refine bg (fun _ K8=>?_)
  have NI:x=jA s:=by
   rw [Ws (by first|exact fun h=>c0 (by omega)|exact fun h=>c1 h.2)] at hsc;exact hsc
  subst NI;refine kP H (SC (Rm rfl ?_));clear H;intro a H;refine gK LD (Li:=[]) (L:=tN b s (jA s) p (.slice vA (jA s).lit.length vc) (.slice qA (jA s).parts.length qc) :: (Lp++Lo)) H wn rfl (Mi _ Lp Lo _ b s (jA s).i p _ _ (jA s).pl (jA s).e (jA s).lit (jA s).parts hR (Hp.owns (Li:=[]) H.hp) (by omega) (by omega)) rfl ?_;clear H;rintro v52 XZ Ye a w ⟨p52,aiV,q52,Yl,Yh,rfl,qm⟩ aer H;dsimp only [List.nil_append] at H;obtain ⟨XH,Y5,rfl,-,-⟩:=qm.buf.shape;obtain ⟨XL,d52,rfl,-,-⟩:=qm.prt.shape;refine kH H (Kn K8 (SR fun _ K9=>Rm rfl (Rk rfl (aV xM fV 0 rfl rfl (Rc rfl (Rm rfl (Sp 58 rfl ?_ ?_))))))) <;> clear H K8
  ·intro jr a H
   try have p58:=dT jr
   refine kH H (YM jr rfl ?_);clear H;intro a H;refine qQ H (wg H rfl rfl jr) rfl rfl ?_;clear H;intro a H;refine kH H (YF IG jr rfl (YO aD 0 jr rfl (YC jr rfl (Pt jr rfl (Kz K9 (Cd rfl ?_ ?_)))))) <;> clear H K9
   ·intro h64 a H
    try have p64:=dT h64
    refine kP H (SC (Rm rfl (Rk rfl (Rf xM rfl ?_))));clear H;intro a H;refine bE fV 0 (vs:=[_]) _ H wn rfl rfl rfl rfl rfl rfl rfl rfl ?_;clear H;intro w H;dsimp only [List.set,setRow] at H;refine aH ?_;refine (leave0 H results154 ?_).2
    first
     | exact H.hp.dW ⟨_,_,_,_,_,by rw [qR,au ⟨by assumption,by assumption⟩],qm⟩
     | exact H.hp.dW ⟨_,_,_,_,_,by rw [qR,ah (by first|exact fun h=>p58 h.1|exact fun h=>p64 h.2)],qm⟩
   intro h64 a H
   try have p64:=dF h64
   refine gI ?_;refine (leave0 H results154 ?_).2
   first
    | exact H.hp.dW ⟨_,_,_,_,_,by rw [qR,au ⟨by assumption,by assumption⟩],qm⟩
    | exact H.hp.dW ⟨_,_,_,_,_,by rw [qR,ah (by first|exact fun h=>p58 h.1|exact fun h=>p64 h.2)],qm⟩
  intro jr a H
  try have p58:=dF jr
  refine kH H (aY jr rfl (aP jr rfl (Pf jr rfl (Kz K9 (Cf rfl rfl ?_)))));clear H K9;intro a H;refine gI ?_;refine (leave0 H results154 ?_).2
  first
   | exact H.hp.dW ⟨_,_,_,_,_,by rw [qR,au ⟨by assumption,by assumption⟩],qm⟩
   | exact H.hp.dW ⟨_,_,_,_,_,by rw [qR,ah (by first|exact fun h=>p58 h.1|exact fun h=>p64 h.2)],qm⟩
 skip;refine dI hmx [[],[0],[0,1],[0,1,2],[],[4],[4,5],[4,5,6],(ra 4 4),(ra 0 9),(ra 0 10),(ra 0 11),(ra 0 12),(ra 0 13),(ra 0 14),(ra 0 15),(ra 0 16)] [] (by kernel_rfl) [_,_,_,vi x.i,_,_,_,.string s,_,_,_,undef,undef,undef,undef,undef,_] H (aB (Z0 rfl (Rm rfl)) (Z1 0 2 rfl (Rk rfl)) (Z1 1 3 rfl (Rf nQ rfl)) (Z1 2 4 rfl (Ro aD 0 rfl)) (aB (Z0 rfl (Rm rfl)) (Z1 4 6 rfl (Rk rfl)) (Z1 5 7 rfl (Rf uq rfl)) (Z1 6 8 rfl (Ro gG 0 rfl)) (aB (Z1 7 9 rfl (Rv fP rfl)) (Z2 3 5 8 10 rfl (Rc rfl)) (Z1 9 11 rfl (Rm rfl)) (aN (j:=10) (by kernel_rfl) (fun _ _ _ _ _ h=>h) rfl rfl rfl rfl rfl (fun _ _ h=>aO h (aG (aM c0))) rfl (fun _=>rfl)) (aB (aN (j:=10) (by kernel_rfl) (fun _ _ _ _ _ h=>h) rfl rfl rfl rfl rfl (fun _ _ h=>aO h (aG (aM c0))) rfl (fun _=>rfl)) (aN (j:=10) (by kernel_rfl) (fun _ _ _ _ _ h=>h) rfl rfl rfl rfl rfl (fun _ _ h=>aO h (aG (aM c0))) rfl (fun _=>rfl)) (aN (j:=10) (by kernel_rfl) (fun _ _ _ _ _ h=>h) rfl rfl rfl rfl rfl (fun _ _ h=>aO h (aG (aM c0))) rfl (fun _=>rfl)) (aN (j:=10) (by kernel_rfl) (fun _ _ _ _ _ h=>h) rfl rfl rfl rfl rfl (fun _ _ h=>aO h (aG (aM c0))) rfl (fun _=>rfl)) (aW (Z2 10 12 15 17 rfl (Pf (aM c0) rfl)) bW))))) ?_
 clear H;intro a w G Tt H hv;have H:=H.aS (hv 16 18 rfl rfl) rfl;clear hv;refine aH ⟨rfl,?_⟩;refine K3 _ _ ?_;clear K3;refine lF H rfl rfl ?_;refine dV ?_;refine K1 _ _ ?_;clear K1;refine bg (fun _ aT=>?_)
 have NI:x=jA s:=by
  rw [Ws (by first|exact fun h=>c0 (by omega)|exact fun h=>c1 h.2)] at hsc;exact hsc
 subst NI;refine kP H (SC (Rm rfl ?_));clear H;intro a H;refine gK LD (Li:=[]) (L:=tN b s (jA s) p (.slice vA (jA s).lit.length vc) (.slice qA (jA s).parts.length qc) :: (Lp++Lo)) H wn rfl (Mi _ Lp Lo _ b s (jA s).i p _ _ (jA s).pl (jA s).e (jA s).lit (jA s).parts hR (Hp.owns (Li:=[]) H.hp) (by omega) (by omega)) rfl ?_;clear H;rintro v52 XZ Ye a w ⟨p52,aiV,q52,Yl,Yh,rfl,qm⟩ aer H;dsimp only [List.nil_append] at H;obtain ⟨XH,Y5,rfl,-,-⟩:=qm.buf.shape;obtain ⟨XL,d52,rfl,-,-⟩:=qm.prt.shape;refine kH H (Kn aT (SR fun _ bC=>Rm rfl (Rk rfl (aV xM fV 0 rfl rfl (Rc rfl (Rm rfl (Sp 58 rfl ?_ ?_))))))) <;> clear H aT
 ·intro jr a H
  try have p58:=dT jr
  refine kH H (YM jr rfl ?_);clear H;intro a H;refine qQ H (wg H rfl rfl jr) rfl rfl ?_;clear H;intro a H;refine kH H (YF IG jr rfl (YO aD 0 jr rfl (YC jr rfl (Pt jr rfl (Kz bC (Cd rfl ?_ ?_)))))) <;> clear H bC
  ·intro h64 a H
   try have p64:=dT h64
   refine kP H (SC (Rm rfl (Rk rfl (Rf xM rfl ?_))));clear H;intro a H;refine bE fV 0 (vs:=[_]) _ H wn rfl rfl rfl rfl rfl rfl rfl rfl ?_;clear H;intro w H;dsimp only [List.set,setRow] at H;refine aH ?_;refine (leave0 H results154 ?_).2
   first
    | exact H.hp.dW ⟨_,_,_,_,_,by rw [qR,au ⟨by assumption,by assumption⟩],qm⟩
    | exact H.hp.dW ⟨_,_,_,_,_,by rw [qR,ah (by first|exact fun h=>p58 h.1|exact fun h=>p64 h.2)],qm⟩
  intro h64 a H
  try have p64:=dF h64
  refine gI ?_;refine (leave0 H results154 ?_).2
  first
   | exact H.hp.dW ⟨_,_,_,_,_,by rw [qR,au ⟨by assumption,by assumption⟩],qm⟩
   | exact H.hp.dW ⟨_,_,_,_,_,by rw [qR,ah (by first|exact fun h=>p58 h.1|exact fun h=>p64 h.2)],qm⟩
 intro jr a H
 try have p58:=dF jr
 refine kH H (aY jr rfl (aP jr rfl (Pf jr rfl (Kz bC (Cf rfl rfl ?_)))));clear H bC;intro a H;refine gI ?_;refine (leave0 H results154 ?_).2
 first
  | exact H.hp.dW ⟨_,_,_,_,_,by rw [qR,au ⟨by assumption,by assumption⟩],qm⟩
  | exact H.hp.dW ⟨_,_,_,_,_,by rw [qR,ah (by first|exact fun h=>p58 h.1|exact fun h=>p64 h.2)],qm⟩
end
section
open Go.RowKit
def wZ (c:Int):List Dat:=[.lf (.int .u8 c)]
theorem WY {G:GH} {c:Int} {cs:List aj} (h:aX G (wZ c) cs):cs=[.int .u8 c]:=by
 simp only [wZ,aX,av] at h
 obtain ⟨_,_,rfl,⟨rfl,_⟩,rfl⟩:=h
 rfl
def DR (s:ByteArray):List Int:=s.data.toList.map fun b=>(b.toNat:Int)
theorem Y3 (G:GH) (l:List Int):fF G 1 (l.map wZ) (l.map fun c=>Value.int .u8 c):=by
 refine ⟨l.map fun c=>[.int .u8 c],by induction l with|nil=>rfl|cons x r ih=>simp [ih],by simp,fun j r cs hr hc=>?_⟩
 rw [qd] at hr hc
 obtain ⟨x,hx,rfl⟩:=lD.1 hr
 rw [hx] at hc
 cases hc
 exact ⟨by simp only [wZ,aX];exact ⟨_,_,rfl,by simp [av,Value.oneCell'],rfl⟩,rfl⟩
theorem agV {G:GH} {sz b o n cap:Nat} {cur:Array aj} {e:TypeId} {fz:Nat × Nat} {rows:List (List Dat)} (hb:G b=some (.cells cur e fz)) (h:av (fun k=>if k=b then some (.cells cur e (0,0)) else G k) (.sl sz rows) (.slice (some ⟨b,o,none⟩) n cap)) (hr:∀ r∈rows,∃ c,r=wZ c):av G (.sl sz rows) (.slice (some ⟨b,o,none⟩) n cap):=by
 simp only [av] at h ⊢
 obtain ⟨A,c,h1,h2,h3,h4⟩:=h
 refine ⟨A,c,h1,h2,h3,fun hn=>?_⟩
 obtain ⟨b',o',e',hrr⟩:=h4 hn
 injection h1 with e1
 subst e1
 injection e' with e2
 injection e2 with e3 e4
 subst e3;subst e4
 refine ⟨_,_,rfl,kF.mk fun k r hk=>?_⟩
 obtain ⟨cs,g1,g2,g3⟩:=hrr.get hk
 refine ⟨cs,g1,fun j u hj=>?_,?_⟩
 ·have:=g2 j u hj
  unfold aI at this ⊢
  simp only [if_true] at this
  rw [hb];exact this
 ·obtain ⟨c,rfl⟩:=hr r (kI hk)
  have:=WY g3
  subst this
  simp only [wZ,aX];exact ⟨_,_,rfl,by simp [av,Value.oneCell'],rfl⟩
section
variable {N:Nat} {D:List Deferred} {w0:World} {F:Nat→Prop} {G0 G:GH} {L:OL} {T:List (Nat × aj)}
variable {r:Option Nat} {P:Program} {ops:Array Oper} {Q:Exit→Act→World→Prop} {rest:List Oper} {a:Act} {w:World}
variable {d:Nat} {ty:TypeId} {pos:String} {aL:Array Edge} {g:Option (Nat × Bool)}
theorem aiS {w:World} {b o n:Nat} {c:Array aj} {e:TypeId} {fz:Nat × Nat} (h:w.heap[b]?=some (.cells c e fz)) (hn:n≠0):∃ Cj,sG b (.cells c e Cj) w (w.freeze ⟨b,o,none⟩ n):=by
 unfold World.freeze
 rw [ah hn]
 refine ⟨if fz.1 == fz.2 then (o,o+n) else (min fz.1 o,max fz.2 (o+n)),rfl,rfl,rfl,by simp,?_,fun k hk=>?_⟩
 ·simp [Array.getElem?_modify,h]
 ·simp [Array.getElem?_modify,Ne.symm hk]
theorem aho {t u e:TypeId} {x:Operand} {s:ByteArray} (ht:P.underlying t=some .string) (hu:P.underlying u=some (.slice e)) (he:P.underlying e=some (.int .u8)) (H:St N D w0 F G0 G L T a w) (hw:Region.wanted ⟨some d,.convert t u x,ty,pos,aL,g⟩ (yielded ops a.tmps)=true) (hx:ev T x=some (.string s)) (hz:s.size≤4294967296) (hd:Nat.blt d N=true)
  (k:∀ v G' a' w',(∀ k o,G k=some o→G' k=some o)→av G' (.sl 1 ((DR s).map wZ)) v→St N D w0 F G0 G' L ((d,v) :: T) a' w'→WL r P ops Q rest a' w'):WL r P ops Q (⟨some d,.convert t u x,ty,pos,aL,g⟩ :: rest) a w:=by
 have hc:=Lib.run_convert_string_bytes (P:=P) w t u e s ht hu he
 have hge:=grownCap_ge w s.size 0 e
 have hml:s.size≤maxLen:=by
  have:maxLen=9223372036854775807:=rfl
  omega
 have hgm:=grownCap_le_maxLen w s.size 0 e hml
 have H1:=H.hp.drew.alloc (.cells (Lib.bytesCells w e s) e)
 have hw1:(w.drew.alloc (.cells (Lib.bytesCells w e s) e)).heap[w.drew.heap.size]?=some (.cells (Lib.bytesCells w e s) e (0,0)):=H1.own _ gV
 obtain ⟨fz,hu2⟩:=aiS (o:=(Lib.bytesCells w e s).size) (n:=1) hw1 (by decide)
 have H2:=H1.upd (i:=0) rfl hu2
 have H3:St N D w0 F G0 G ((w.heap.size,.cells (Lib.bytesCells w e s) e fz) :: L) ((d,.slice (some ⟨w.heap.size,0,none⟩) s.size (grownCap w s.size 0 e)) :: T) (a.put (some d) (.slice (some ⟨w.heap.size,0,none⟩) s.size (grownCap w s.size 0 e))) (Lib.bytesWorld w e s):=H.put hd _ H2
 obtain ⟨G',hm,hb,H4⟩:=H3.dM
 have hlen:(DR s).length=s.size:=by rw [DR,bT,sJ];rfl
 have hrep:av G' (.sl 1 ((DR s).map wZ)) (.slice (some ⟨w.heap.size,0,none⟩) s.size (grownCap w s.size 0 e)):=by
  refine agV hb ?_ (fun r hr=>by obtain ⟨c,-,rfl⟩:=List.mem_map.1 hr;exact ⟨c,rfl⟩)
  refine av.dS (cur:=Lib.bytesCells w e s) (e:=e) (n:=s.size) (cap:=grownCap w s.size 0 e) (by simp) (by rw [bT,hlen]) hge hgm ?_ (Y3 _ _)
  rw [Lib.bytesCells,Array.toList_append,Nat.mul_one,List.take_left' (by rw [Array.toList_map,bT,sJ];rfl)]
  simp [DR]
 have k2:=k _ _ _ _ hm hrep H4
 refine fE (v:=.slice (some ⟨w.heap.size,0,none⟩) s.size (grownCap w s.size 0 e)) (w':=Lib.bytesWorld w e s) hw rfl ?_ k2
 simp only [execOp,H.ev hx,bV,hc,jG,pq]
theorem ahs {t yt:TypeId} {x y:Operand} {p q:ByteArray} (H:St N D w0 F G0 G L T a w) (hw:Region.wanted ⟨some d,.binOp .lss t x y yt,ty,pos,aL,g⟩ (yielded ops a.tmps)=true) (hx:ev T x=some (.string p)) (hy:ev T y=some (.string q)) (hd:Nat.blt d N=true)
  (k:∀ a',St N D w0 F G0 G L ((d,.bool (Op.bytesLess p.toList q.toList)) :: T) a' w→WL r P ops Q rest a' w):WL r P ops Q (⟨some d,.binOp .lss t x y yt,ty,pos,aL,g⟩ :: rest) a w:=by
 refine fE (v:=.bool (Op.bytesLess p.toList q.toList)) (w':=w) hw rfl ?_ (k _ (H.put hd _ H.hp))
 simp [execOp,H.ev hx,H.ev hy,bV,eqGuard,binOp,Op.stringOp]
end
end
section
open Go.RowKit
theorem abh:∀ args w,(callFunc 157 args).run prog w=.ok (.enter 157 args) w:=enters func157 rfl (by kernel_rfl)
theorem abf:∀ args w,(callFunc 154 args).run prog w=.ok (.enter 154 args) w:=enters func154 rfl (by kernel_rfl)
theorem abd:∀ args w,(callFunc 152 args).run prog w=.ok (.enter 152 args) w:=enters func152 rfl (by kernel_rfl)
theorem aij:ou prog 259 [(0,1),(1,1),(2,2),(4,1),(5,1),(6,1)] [.string ⟨#[]⟩,.int .i64 0,.pointer none,.slice none 0 0,.slice none 0 0,.int .i64 0,.int .i64 0]:=⟨by kernel_rfl,by kernel_rfl⟩
theorem abg:∀ args w,(callFunc 155 args).run prog w=.ok (.enter 155 args) w:=enters func155 rfl (by kernel_rfl)
theorem acK:bM prog 247 1 1:=⟨by kernel_rfl⟩
theorem aaT:∀ args w,(callFunc 144 args).run prog w=.ok (.enter 144 args) w:=enters func144 rfl (by kernel_rfl)
theorem aaU:∀ args w,(callFunc 145 args).run prog w=.ok (.enter 145 args) w:=enters func145 rfl (by kernel_rfl)
theorem abe:∀ args w,(callFunc 153 args).run prog w=.ok (.enter 153 args) w:=enters func153 rfl (by kernel_rfl)
theorem aaV:∀ args w,(callFunc 146 args).run prog w=.ok (.enter 146 args) w:=enters func146 rfl (by kernel_rfl)
def KM (fv:aj) (G:GH) (c:Int) (b:Bool):Prop:=∀ (G1:GH) (w1:World),(∀ b o,G b=some o→G1 b=some o)→Hold G1 w1→sw prog fv [.int .u8 c] w1 (bD w1 G1 fun u G'=>u=.bool b)
theorem afo (G:GH) (w0:World) (hG:Hold G w0) (l:List Int) (p:Int→Bool) (v fv:aj) (hv:av G (.sl 1 (l.map wZ)) v) (hf:∀ c∈l,KM fv G c (p c)) :
  Calls prog 157 #[v,fv] w0 (bD w0 G fun u G'=>u=vi (mZ (l.findIdx? p))):=by
 obtain ⟨A,c,rfl,hc1,hc2,hg⟩:=hv.slice;have hml:maxLen=9223372036854775807:=rfl;rw [bT] at *;refine eN [(0,_),(1,_)] func157 rfl ntmps157 rfl rfl hG ?_;intro a H;refine kP H (SR fun _ K1=>ak K1 rfl (SQ fun _ K2=>SR fun _ K3=>Rm rfl (Rl Ae rfl (Rm rfl (Kz K3 (SB ?_))))));clear H K1 K3;intro a H;skip;refine fH (ι:=Nat × GH) (Tc:=[(0,_),(1,_),(7,_)]) (Lc:=[]) (fun gh=>[(8,vi gh.1)]) (fun gh=>[]) (fun gh=>gh.2) (fun gh=>gh.1≤l.length∧(l.take gh.1).findIdx? p=none∧(∀ b o,G b=some o→gh.2 b=some o)) (fun gh=>l.length - gh.1) ((0,G)) (by exact (H).sub ⟨rfl,rfl,rfl,rfl,aF⟩) ?_ ?_
 ·exact ⟨by omega,rfl,fun _ _ h=>h⟩
 clear H;intro gh a w hI H;obtain ⟨k,g⟩:=gh;dsimp only at hI H;obtain ⟨hk,hno,hgm⟩:=hI;dsimp only [lca,bq] at H;refine kP H (SR fun _ K4=>Rc rfl (Kz K4 (SQ fun _ K5=>Cd rfl ?_ ?_))) <;> clear H K4
 ·intro h9 a H
  try have p9:=dT h9
  have hk2:k < l.length:=by omega
  obtain ⟨b,o,cs,rfl,hcl,hrow,hr⟩:=hg k (wZ l[k]) (by simp [hk2]);obtain rfl:=WY hr
  have hcell:aI G b (o+k*1)=some (.int .u8 l[k]):=by simpa using hrow 0 _ rfl
  refine kP H (Kc K5 (SQ fun _ K6=>SB (SR fun _ K7=>Rm rfl (ak K7 rfl (SR fun _ K8=>Rm rfl (Rm rfl (Rm rfl (Ri Ae J9 rfl rfl (Rg J9 rfl (aK hgm hcell) ?_)))))))));clear H K5 K7;intro a H;refine oO H wn rfl rfl (hf _ (jo hk2) _ _ hgm H.ro) rfl ?_;clear H;rintro v16 qB a w rfl qL H;refine K8 _ _ ?_;clear K8;refine kW H rfl ?_ ?_
  ·intro h16
   try have p16:=dT h16
   refine kP H (SR fun _ K9=>Rm rfl (ak K9 rfl ?_));clear H K9;intro a H;refine lr H results157 rfl ?_
   first
    | exact H.rt (by rw [uH hk2 hno h16];rfl)
    | exact H.rt (by rw [show l.take k=l from jH (by omega)] at hno;rw [hno];rfl)
  intro h16
  try have p16:=dF h16
  refine kP H (Kc K6 (SC (Rd rfl (Rm rfl ?_))));clear H K6;intro a H;refine aH ?_;refine dD ((k+1,qB)) (by exact (H).sub ⟨rfl,rfl,rfl,rfl,aF⟩) ?_ ?_
  ·(try dsimp only);exact ⟨by omega,CF hk2 hno h16,fun b o h=>qL b o (hgm b o h)⟩
  first|omega|(dsimp only;omega)
 intro h9 a H
 try have p9:=dF h9
 refine dV ?_;refine K2 _ _ ?_;clear K2;refine kP H (SR fun _ aT=>ak aT rfl ?_);clear H aT;intro a H;refine lr H results157 rfl ?_
 first
  | exact H.rt (by rw [uH hk2 hno h16];rfl)
  | exact H.rt (by rw [show l.take k=l from jH (by omega)] at hno;rw [hno];rfl)
theorem NR (o:Option Nat):decide (0≤mZ o)=o.isSome:=by cases o <;> simp [mZ]
theorem Z6 (G:GH) (w0:World) (hG:Hold G w0) (l:List Int) (p:Int→Bool) (v fv:aj) (hv:av G (.sl 1 (l.map wZ)) v) (hf:∀ c∈l,KM fv G c (p c)) :
  Calls prog 152 #[v,fv] w0 (bD w0 G fun u G'=>u=.bool (l.findIdx? p).isSome):=by
 obtain ⟨A,c,rfl,hc1,hc2,-⟩:=hv.slice;rw [bT] at *;refine eN [(0,_),(1,_)] func152 rfl ntmps152 rfl rfl hG ?_;intro a H;refine kP H (SR fun _ K1=>ak K1 rfl (SR fun _ K2=>Rm rfl (Rm rfl ?_)));clear H K1;intro a H;refine s_call abh H wn rfl (afo _ _ H.ro l p _ _ hv hf) rfl ?_;clear H;rintro v7 G7 a w rfl zI H;exact kH H (Rc rfl (ak K2 rfl (LR results152 rfl fun H=>H.rt (aG (NR _)))))
def Fz (c:Int):Bool:=decide (c < 32) || decide (c=127)
theorem aaf (G:GH) (c:Int):KM (.func (.func 153) #[] #[]) G c (Fz c):=by
 intro G1 w0 hm hG;refine lV (caps:=[]) abe ?_;refine eN [(0,_)] func153 rfl ntmps153 rfl rfl hG ?_;intro a H;refine kP H (SR fun _ K1=>ak K1 rfl (SR fun _ K2=>Rm rfl (Rc rfl (Rm rfl (Sp 5 rfl ?_ ?_))))) <;> clear H K1
 ·intro h5 a H
  try have p5:=dT h5
  exact kH H (aP h5 rfl (Pt h5 rfl (ak K2 rfl (LR results153 rfl fun H=>H.rt (aG (by unfold Fz;first|(simp_all;done)|(simp_all;omega)))))))
 intro h5 a H
 try have p5:=dF h5
 exact kH H (YM h5 rfl (YC h5 rfl (Pf h5 rfl (ak K2 rfl (LR results153 rfl fun H=>H.rt (aG (by unfold Fz;first|(simp_all;done)|(simp_all;omega))))))))
def uM (t:ByteArray):Int:=if 64 < t.size then 10 else if oP t=false then 12 else if ((DR t).findIdx? Fz).isSome=true then 5 else qR (jA t)
def vJ (t:ByteArray):List iE:=if uM t=0 then rJ (jA t).lit (jA t).parts else []
theorem afT (G:GH) (l:List iE):fF G 3 (l.map iE.dat) (Bd l):=by
 refine ⟨l.map iE.cells,rfl,by simp,fun j r cs hr hc=>?_⟩;rw [qd] at hr hc;obtain ⟨x,hx,rfl⟩:=lD.1 hr;rw [hx] at hc
 cases hc
 exact ⟨Vd G x,rfl⟩
theorem agE (G:GH) (w0:World) (hG:Hold G w0) (t:ByteArray) (ht:t.size < 4611686018427387904) :
  Calls prog 144 #[.string t] w0 (bD w0 G fun u G'=>∃ x,u=.tuple #[x,vi (uM t)]∧av G' (.sl 3 ((vJ t).map iE.dat)) x):=by
 refine eN [(0,_)] func144 rfl ntmps144 rfl rfl hG ?_;intro a H;refine kP H (SR fun _ K1=>Ra rfl (ak K1 rfl (SQ fun _ K2=>SB (SR fun _ K3=>Rm rfl (Rv fP rfl (Rc rfl (ak K3 rfl (Cd rfl ?_ ?_)))))))) <;> clear H K1 K3
 ·intro h5 a H
  try have p5:=dT h5
  refine bg (fun _ K4=>?_)
  have he:uM t=10:=by rw [uM,au (by omega)]
  refine kP H (SC (Ra rfl (aU K4 rfl ?_)));clear H K4;intro a H;refine bZ ?_;refine (eT H results144 (.cons (aR H rfl) (.cons (aR H rfl) .nil)) ?_).1
  first
   | exact H.rt ⟨_,by rw [he0],by rw [vJ,au he0];exact hrep⟩
   | exact H.rt ⟨_,by rw [he],by rw [vJ,ah (by rw [he];first|decide|assumption)];exact av.jf rfl (by decide)⟩
 intro h5 a H
 try have p5:=dF h5
 refine kP H (SR fun _ K5=>Rm rfl ?_);clear H;intro a H;refine s_call FE H wn rfl (GY _ _ H.ro t ht) rfl ?_;clear H;rintro v11 _ a w ⟨rfl,rfl⟩ - H;refine kH H (Rn rfl (ak K5 rfl (Cd rfl ?_ ?_))) <;> clear H K5
 ·intro h9 a H
  try have p9:=dT h9
  refine bg (fun _ K6=>?_)
  have he:uM t=12:=by rw [uM,ah (by omega),au (by simpa using h9)]
  refine kP H (SC (Ra rfl (aU K6 rfl ?_)));clear H K6;intro a H;refine bZ ?_;refine (eT H results144 (.cons (aR H rfl) (.cons (aR H rfl) .nil)) ?_).1
  first
   | exact H.rt ⟨_,by rw [he0],by rw [vJ,au he0];exact hrep⟩
   | exact H.rt ⟨_,by rw [he],by rw [vJ,ah (by rw [he];first|decide|assumption)];exact av.jf rfl (by decide)⟩
 intro h9 a H
 try have p9:=dF h9
 refine kP H (SR fun _ K7=>Rm rfl ?_);clear H;intro a H;refine aho fP Ae GX H wn rfl (by omega) rfl ?_;clear H;intro v15 Dw a w qK Uw H;obtain ⟨XC,c15,rfl,-,-,-⟩:=Uw.slice;refine s_call abd H wn rfl (Z6 _ _ H.ro _ Fz _ _ Uw (fun c _=>aaf _ c)) rfl ?_;clear H;rintro v16 qB a w rfl qL H;refine kH H (ak K7 rfl (Cd rfl ?_ ?_)) <;> clear H K7
 ·intro fM a H
  try have pQ:=dT fM
  refine bg (fun _ K8=>?_)
  have he:uM t=5:=by rw [uM,ah (by omega),ah (by simpa using h9),au fM]
  refine kP H (SC (Ra rfl (aU K8 rfl ?_)));clear H K8;intro a H;refine bZ ?_;refine (eT H results144 (.cons (aR H rfl) (.cons (aR H rfl) .nil)) ?_).1
  first
   | exact H.rt ⟨_,by rw [he0],by rw [vJ,au he0];exact hrep⟩
   | exact H.rt ⟨_,by rw [he],by rw [vJ,ah (by rw [he];first|decide|assumption)];exact av.jf rfl (by decide)⟩
 intro fM a H
 try have pQ:=dF fM
 refine kP H (Kc K2 (SR fun _ K9=>Rm rfl ?_));clear H K2;intro a H;refine jZ aij [_,_,_,_,_,_,_] H wn rfl rfl rfl rfl ?_;clear H;intro a H;refine fC (cs:=[_,_,_,_,_,_,_]) H wn rfl rfl rfl ?_;clear H;intro b19 a w ajE H;refine kH H (ak K9 rfl (SQ fun _ aT=>SR fun _ bC=>Rm rfl ?_));clear H K9;intro a H;refine gK abf (Li:=[]) (L:=[tN b19 t yw (.pointer none) (.slice none 0 0) (.slice none 0 0)]) H wn rfl (ahB _ [] [] _ b19 t _ _ _ ⟨.inl rfl,cK.nil,cK.nil⟩ (Hp.owns (Li:=[]) H.hp) (by omega)) rfl ?_;clear H;rintro v21 Kv L21 a w ⟨p',v',q',oq,fJ,rfl,M4⟩ wI H;dsimp only [List.nil_append] at H;obtain ⟨A21,c21,rfl,-,-⟩:=M4.buf.shape;obtain ⟨XI,d21,rfl,-,-⟩:=M4.prt.shape;refine bC _ _ ?_;clear bC;refine bg (fun _ bF=>?_)
 have he:uM t=qR (jA t):=by rw [uM,ah (by omega),ah (by simpa using h9),ah (by simp [fM])]
 refine kP H (SC (Rm rfl (Rk rfl (aV xM fV 0 rfl rfl (Rc rfl (Kn bF (Cd rfl ?_ ?_))))))) <;> clear H bF
 ·intro fU a H
  try have p26:=dT fU
  refine bg (fun _ bN=>?_);have H:=H.sub (T':=[(4,_)]) ⟨rfl,aF⟩;refine dI hmx [[],[0],[0,1],[0,1,2],[],(ra 0 5)] [] (by kernel_rfl) [_,_,_,vi (qR (jA t)),_,_] H (aB (Z0 rfl (Rm rfl)) (Z1 0 27 rfl (Rk rfl)) (Z1 1 28 rfl (Rf xM rfl)) (Z1 2 29 rfl (Ro fV 0 rfl)) (aW (Z0 rfl (Ra rfl)) (aW (Z1 3 30 rfl (Ra rfl)) bW))) ?_
  clear H;intro a w G lZ H hv;have H:=H.aS (hv 4 2 rfl rfl) rfl;have H:=H.aS (hv 5 3 rfl rfl) rfl;clear hv;refine aH ⟨rfl,?_⟩;refine bN _ _ ?_;clear bN;refine bZ ?_;refine (eT H results144 (.cons (aR H rfl) (.cons (aR H rfl) .nil)) ?_).1
  first
   | exact H.rt ⟨_,by rw [he0],by rw [vJ,au he0];exact hrep⟩
   | exact H.rt ⟨_,by rw [he],by rw [vJ,ah (by rw [he];first|decide|assumption)];exact av.jf rfl (by decide)⟩
 intro fU a H
 try have p26:=dF fU
 refine gI ?_;refine aT _ _ ?_;clear aT;refine bg (fun _ bQ=>?_)
 have he0:uM t=0:=by rw [he];omega
 have H:=(St.cast H (show _=[_]++(oq++fJ) from rfl)).perm (List.Perm.append_left _ xD);have H:=St.un H;obtain ⟨Gr,hmr,hrep,H⟩:=St.uy (Li:=[_]++fJ) (Lo:=oq) H M4.prt (rows:=(rJ (jA t).lit (jA t).parts).map iE.dat) (by simp) (afT _ _);dsimp only [lca,bq] at H;refine kP H (SC (Rm rfl (Rk rfl (aV FM GR 0 rfl rfl (Ra rfl (aU bQ rfl ?_))))));clear H bQ;intro a H;refine bZ ?_;refine (eT H results144 (.cons (aR H rfl) (.cons (aR H rfl) .nil)) ?_).1
 first
  | exact H.rt ⟨_,by rw [he0],by rw [vJ,au he0];exact hrep⟩
  | exact H.rt ⟨_,by rw [he],by rw [vJ,ah (by rw [he];first|decide|assumption)];exact av.jf rfl (by decide)⟩
structure nL where
 fmt:Int
 start:Int
 wX:ByteArray
 restart:Int
def nL.dat (x:nL):List Dat:=[li x.fmt,li x.start,.lf (.string x.wX),li x.restart]
abbrev nL.cells (x:nL):List aj:=[vi x.fmt,vi x.start,.string x.wX,vi x.restart]
theorem afV {G:GH} {x:nL} {cs:List aj} (h:aX G x.dat cs):cs=x.cells:=by
 simp only [nL.dat,aX,av] at h
 obtain ⟨_,_,rfl,⟨rfl,_⟩,_,_,rfl,⟨rfl,_⟩,_,_,rfl,⟨rfl,_⟩,_,_,rfl,⟨rfl,_⟩,rfl⟩:=h
 rfl
theorem afm (G:GH) (w0:World) (hG:Hold G w0) (l:List iE) (p:iE→Bool) (v fv:aj) (hv:av G (.sl 3 (l.map iE.dat)) v) (hf:∀ x∈l,uT fv G x.dat (p x)) :
  Calls prog 155 #[v,fv] w0 (bD w0 G fun u G'=>u=vi (mZ (l.findIdx? p))):=by
 obtain ⟨A,c,rfl,hc1,hc2,hg⟩:=hv.slice;have hml:maxLen=9223372036854775807:=rfl;rw [bT] at *;refine eN [(0,_),(1,_)] func155 rfl ntmps155 rfl rfl hG ?_;intro a H;refine kP H (SR fun _ K1=>ak K1 rfl (SQ fun _ K2=>SR fun _ K3=>Rm rfl (Rl EM rfl (Rm rfl (Kz K3 (SB ?_))))));clear H K1 K3;intro a H;skip;refine fH (ι:=Nat × GH) (Tc:=[(0,_),(1,_),(7,_)]) (Lc:=[]) (fun gh=>[(8,vi gh.1)]) (fun gh=>[]) (fun gh=>gh.2) (fun gh=>gh.1≤l.length∧(l.take gh.1).findIdx? p=none∧(∀ b o,G b=some o→gh.2 b=some o)) (fun gh=>l.length - gh.1) ((0,G)) (by exact (H).sub ⟨rfl,rfl,rfl,rfl,aF⟩) ?_ ?_
 ·exact ⟨by omega,rfl,fun _ _ h=>h⟩
 clear H;intro gh a w hI H;obtain ⟨k,g⟩:=gh;dsimp only at hI H;obtain ⟨hk,hno,hgm⟩:=hI;dsimp only [lca,bq] at H;refine kP H (SR fun _ K4=>Rc rfl (Kz K4 (SQ fun _ K5=>Cd rfl ?_ ?_))) <;> clear H K4
 ·intro h9 a H
  try have p9:=dT h9
  have hk2:k < l.length:=by omega
  obtain ⟨b,o,cs,rfl,hcl,hrow,hr⟩:=hg k l[k].dat (by simp [hk2]);obtain rfl:=Vb hr;refine kP H (Kc K5 (SQ fun _ K6=>SB (SR fun _ K7=>Rm rfl (ak K7 rfl (SR fun _ K8=>Rm rfl (Rm rfl (Rm rfl (Ri EM EJ rfl rfl ?_))))))));clear H K5 K7;intro a H;refine bJ EJ (cs:=l[k].cells) H wn rfl rfl (fun j v hj=>H.hp.aI (aK hgm (hrow j v hj))) rfl ?_;clear H;intro a H;refine oO H wn rfl rfl (hf _ (jo hk2) _ _ _ hgm H.ro (Vd _ l[k])) rfl ?_;clear H;rintro v16 qB a w rfl qL H;refine K8 _ _ ?_;clear K8;refine kW H rfl ?_ ?_
  ·intro h16
   try have p16:=dT h16
   refine kP H (SR fun _ K9=>Rm rfl (ak K9 rfl ?_));clear H K9;intro a H;refine lr H results155 rfl ?_
   first
    | exact H.rt (by rw [uH hk2 hno h16];rfl)
    | exact H.rt (by rw [show l.take k=l from jH (by omega)] at hno;rw [hno];rfl)
  intro h16
  try have p16:=dF h16
  refine kP H (Kc K6 (SC (Rd rfl (Rm rfl ?_))));clear H K6;intro a H;refine aH ?_;refine dD ((k+1,qB)) (by exact (H).sub ⟨rfl,rfl,rfl,rfl,aF⟩) ?_ ?_
  ·(try dsimp only);exact ⟨by omega,CF hk2 hno h16,fun b o h=>qL b o (hgm b o h)⟩
  first|omega|(dsimp only;omega)
 intro h9 a H
 try have p9:=dF h9
 refine dV ?_;refine K2 _ _ ?_;clear K2;refine kP H (SR fun _ aT=>ak aT rfl ?_);clear H aT;intro a H;refine lr H results155 rfl ?_
 first
  | exact H.rt (by rw [uH hk2 hno h16];rfl)
  | exact H.rt (by rw [show l.take k=l from jH (by omega)] at hno;rw [hno];rfl)
theorem Z5 (G:GH) (w0:World) (hG:Hold G w0) (l:List iE) (p:iE→Bool) (v fv:aj) (hv:av G (.sl 3 (l.map iE.dat)) v) (hf:∀ x∈l,uT fv G x.dat (p x)) :
  Calls prog 145 #[v,fv] w0 (bD w0 G fun u G'=>u=.bool (l.findIdx? p).isSome):=by
 obtain ⟨A,c,rfl,hc1,hc2,-⟩:=hv.slice;rw [bT] at *;refine eN [(0,_),(1,_)] func145 rfl ntmps145 rfl rfl hG ?_;intro a H;refine kP H (SR fun _ K1=>ak K1 rfl (SR fun _ K2=>Rm rfl (Rm rfl ?_)));clear H K1;intro a H;refine s_call abg H wn rfl (afm _ _ H.ro l p _ _ hv hf) rfl ?_;clear H;rintro v7 G7 a w rfl zI H;exact kH H (Rc rfl (ak K2 rfl (LR results145 rfl fun H=>H.rt (aG (NR _)))))
theorem afW {G:GH} {bl:Nat} {k:Int} (hb:aI G bl 0=some (vi k)) (x:iE):uT (.func (.func 146) #[] #[(aJ bl 0)]) G x.dat (decide (k < x.level)):=by
 intro G1 w0 cs hm hG hr;refine lV (caps:=[(aJ bl 0)]) aaV ?_;obtain rfl:=Vb hr;replace hb:=aK hm hb;refine eN [(0,_),(1,_)] func146 rfl ntmps146 rfl rfl hG ?_;intro a H;refine dz (fun _ K1=>?_);refine fC (cs:=[_,_,_]) H wn rfl rfl rfl ?_;clear H;intro b2 a w hb2 H;refine kH H (ak K1 rfl (SR fun _ K2=>aV acK aD 0 rfl rfl (Rg aD rfl (by assumption) ?_)));clear H K1;intro a H;exact kH H (Rc rfl (ak K2 rfl (LR results146 rfl fun H=>H.rt rfl)))
def xY (t:ByteArray) (k:Int):Int:=if k < 1∨9 < k then 2 else if uM t=0∧((vJ t).findIdx? fun x=>decide (k < x.level)).isSome=true then 6 else uM t
theorem afU (G:GH) (w0:World) (hG:Hold G w0) (t:ByteArray) (k:Int) (ht:t.size < 4611686018427387904) :
  Calls prog 136 #[.string t,vi k] w0 (bD w0 G fun u G'=>u=vi (xY t k)):=by
 refine eN [(0,_),(1,_)] func136 rfl ntmps136 rfl rfl hG ?_;intro a H;refine dz (fun _ K1=>?_);refine fC (cs:=[_]) H wn rfl rfl rfl ?_;clear H;intro b3 a w hb3 H;refine kH H (ak K1 rfl (SQ fun _ K2=>SR fun _ K3=>Ro aD 0 rfl (Rc rfl (Rm rfl (Sp 9 rfl ?_ ?_))))) <;> clear H K1
 ·intro h9 a H
  try have p9:=dT h9
  refine kH H (aP h9 rfl (Pt h9 rfl (Kz K3 (Ct rfl rfl (SR fun _ K4=>ak K4 rfl ?_)))));clear H K3 K4;intro a H;refine lr H results136 rfl ?_
  exact H.rt (ay vi (by unfold xY;(repeat' split) <;> first|rfl|(exfalso;simp_all;done)|(exfalso;simp_all;omega)|(simp_all;done)))
 intro h9 a H
 try have p9:=dF h9
 refine kH H (YO aD 0 h9 rfl (YC h9 rfl (Pf h9 rfl (Kz K3 (Cd rfl ?_ ?_))))) <;> clear H K3
 ·intro h12 a H
  try have qO:=dT h12
  refine kP H (SR fun _ K5=>ak K5 rfl ?_);clear H K5;intro a H;refine lr H results136 rfl ?_
  exact H.rt (ay vi (by unfold xY;(repeat' split) <;> first|rfl|(exfalso;simp_all;done)|(exfalso;simp_all;omega)|(simp_all;done)))
 intro h12 a H
 try have qO:=dF h12
 refine gI ?_;refine K2 _ _ ?_;clear K2;refine bg (fun _ K6=>?_);obtain ⟨Ga,hma,zD,H⟩:=H.dM
 have hbk:aI Ga b3 0=some (vi k):=by unfold aI;rw [zD];rfl
 refine kP H (SC (Rm rfl ?_));clear H;intro a H;refine s_call aaT H wn rfl (agE _ _ H.ro t ht) rfl ?_;clear H;rintro v15 Dw a w ⟨x15,rfl,UC⟩ qK H;obtain ⟨XC,c15,rfl,-,-,-⟩:=UC.slice;replace hbk:=aK qK hbk;refine kH H (Rm rfl ?_);clear H;intro a H;(iterate 2 refine lQ H wn rfl rfl rfl ?_;clear H;intro a H);refine kH H (Ra rfl (aU K6 rfl (SQ fun _ K7=>SR fun _ K8=>Rm rfl (Rc rfl (Rm rfl (Sp 20 rfl ?_ ?_)))))) <;> clear H K6
 ·intro h20 a H
  try have C8:=dT h20
  refine kH H (YM h20 rfl ?_);clear H;intro a H;refine pU H (wg H rfl rfl h20) rfl rfl ?_;clear H;intro a H;refine s_call aaU H (wg H rfl rfl h20) rfl (Z5 _ _ H.ro _ (fun x=>decide (k < x.level)) _ _ UC (fun x _=>afW hbk x)) rfl ?_;clear H;rintro v23 Kw a w rfl pO H;refine kH H (Pt h20 rfl (Kz K8 (Cd rfl ?_ ?_))) <;> clear H K8
  ·intro dN a H
   try have jS:=dT dN
   refine kP H (SC (aU K7 rfl (SR fun _ K9=>Rm rfl (ak K9 rfl ?_))));clear H K7 K9;intro a H;refine lr H results136 rfl ?_
   exact H.rt (ay vi (by unfold xY;(repeat' split) <;> first|rfl|(exfalso;simp_all;done)|(exfalso;simp_all;omega)|(simp_all;done)))
  intro dN a H
  try have jS:=dF dN
  refine kP H (Kc K7 (SR fun _ aT=>Rm rfl (ak aT rfl ?_)));clear H K7 aT;intro a H;refine lr H results136 rfl ?_
  exact H.rt (ay vi (by unfold xY;(repeat' split) <;> first|rfl|(exfalso;simp_all;done)|(exfalso;simp_all;omega)|(simp_all;done)))
 intro h20 a H
 try have C8:=dF h20
 refine kH H (aY h20 rfl (Pf h20 rfl (Kz K8 (Cf rfl rfl (Kc K7 (SR fun _ bC=>Rm rfl (ak bC rfl ?_)))))));clear H K8 K7 bC;intro a H;refine lr H results136 rfl ?_
 exact H.rt (ay vi (by unfold xY;(repeat' split) <;> first|rfl|(exfalso;simp_all;done)|(exfalso;simp_all;omega)|(simp_all;done)))
end
section
open Go.RowKit
theorem J5:Ty prog 230 4 40 [.int .i64 0,.int .i64 0,.string ⟨#[]⟩,.int .i64 0] true:=⟨by kernel_rfl,by kernel_rfl⟩
theorem Ke:prog.underlying 182=some (.slice 230):=by kernel_rfl
theorem SN:bM prog 230 0 0:=⟨by kernel_rfl⟩
theorem SS:bM prog 230 1 1:=⟨by kernel_rfl⟩
theorem acF:bM prog 230 2 2:=⟨by kernel_rfl⟩
theorem aaN:∀ args w,(callFunc 136 args).run prog w=.ok (.enter 136 args) w:=enters func136 rfl (by kernel_rfl)
theorem SV:bM prog 230 3 3:=⟨by kernel_rfl⟩
def BZ:Nat→List nL→Int
 | _,[]=>0
 | i,x :: r=>if x.fmt < 1∨7 < x.fmt then 3 else if x.start < 0∨32767 < x.start then 2 else if xY x.wX ((i+1:Nat):Int)≠0 then xY x.wX ((i+1:Nat):Int) else if x.restart < 0∨(i:Int) < x.restart then 5 else BZ (i+1) r
def dH (l:List nL):Int:=if l.length=0 then 11 else if 9 < l.length then 9 else BZ 0 l
theorem iB {l:List nL} {k:Nat} (h:k < l.length):BZ k (l.drop k)=if l[k].fmt < 1∨7 < l[k].fmt then 3 else if l[k].start < 0∨32767 < l[k].start then 2 else if xY l[k].wX ((k+1:Nat):Int)≠0 then xY l[k].wX ((k+1:Nat):Int) else if l[k].restart < 0∨(k:Int) < l[k].restart then 5 else BZ (k+1) (l.drop (k+1)):=by
 rw [mV h,BZ]
theorem Zw (G:GH) (w0:World) (hG:Hold G w0) (l:List nL) (v:aj) (hv:av G (.sl 4 (l.map nL.dat)) v) (ht:∀ x∈l,x.wX.size < 4611686018427387904) :
  Calls prog 118 #[v] w0 (bD w0 G fun u G'=>u=vi (dH l)):=by
 obtain ⟨A,c,rfl,hc1,hc2,hg⟩:=hv.slice;have hml:maxLen=9223372036854775807:=rfl;rw [bT] at *;refine eN [(0,_)] func118 rfl ntmps118 rfl rfl hG ?_;intro a H;refine kP H (SR fun _ K1=>ak K1 rfl (SQ fun _ K2=>SB (SR fun _ K3=>Rm rfl (Rl Ke rfl (Rc rfl (ak K3 rfl (Cd rfl ?_ ?_))))))) <;> clear H K1 K3
 ·intro h6 a H
  try have p6:=dT h6
  refine kP H (SR fun _ K4=>ak K4 rfl ?_);clear H K4;intro a H;refine lr H results118 rfl ?_
  first
   | exact H.rt (ay vi (by rw [dH,au (by omega)]))
   | exact H.rt (ay vi (by rw [dH,ah (by omega),au (by omega)]))
   | exact H.rt (ay vi (by rw [dH,ah (by omega),ah (by omega),← he,iB hk2,au (by omega)]))
   | exact H.rt (ay vi (by rw [dH,ah (by omega),ah (by omega),← he,iB hk2,ah (by omega),au (by omega)]))
   | exact H.rt (ay vi (by rw [dH,ah (by omega),ah (by omega),← he,iB hk2,ah (by omega),ah (by omega),au p45]))
   | exact H.rt (ay vi (by rw [dH,ah (by omega),ah (by omega),← he,iB hk2,ah (by omega),ah (by omega),ah p45,au (by omega)]))
   | exact H.rt (ay vi (by rw [dH,ah (by omega),ah (by omega),← he,iO (by omega)];rfl))
 intro h6 a H
 try have p6:=dF h6
 refine kP H (SR fun _ K5=>Rm rfl (Rl Ke rfl (Rc rfl (ak K5 rfl (Cd rfl ?_ ?_))))) <;> clear H K5
 ·intro h10 a H
  try have lM:=dT h10
  refine kP H (SR fun _ K6=>ak K6 rfl ?_);clear H K6;intro a H;refine lr H results118 rfl ?_
  first
   | exact H.rt (ay vi (by rw [dH,au (by omega)]))
   | exact H.rt (ay vi (by rw [dH,ah (by omega),au (by omega)]))
   | exact H.rt (ay vi (by rw [dH,ah (by omega),ah (by omega),← he,iB hk2,au (by omega)]))
   | exact H.rt (ay vi (by rw [dH,ah (by omega),ah (by omega),← he,iB hk2,ah (by omega),au (by omega)]))
   | exact H.rt (ay vi (by rw [dH,ah (by omega),ah (by omega),← he,iB hk2,ah (by omega),ah (by omega),au p45]))
   | exact H.rt (ay vi (by rw [dH,ah (by omega),ah (by omega),← he,iB hk2,ah (by omega),ah (by omega),ah p45,au (by omega)]))
   | exact H.rt (ay vi (by rw [dH,ah (by omega),ah (by omega),← he,iO (by omega)];rfl))
 intro h10 a H
 try have lM:=dF h10
 refine kP H (Kc K2 (SQ fun _ K7=>SR fun _ K8=>Rm rfl (Rl Ke rfl (Rm rfl (Kz K8 (SB ?_))))));clear H K2 K8;intro a H;skip;refine fH (ι:=Nat × GH) (Tc:=[(14,_),(15,_)]) (Lc:=[]) (fun gh=>[(16,vi gh.1)]) (fun gh=>[]) (fun gh=>gh.2) (fun gh=>gh.1≤l.length∧BZ gh.1 (l.drop gh.1)=BZ 0 l∧(∀ b o,G b=some o→gh.2 b=some o)) (fun gh=>l.length - gh.1) ((0,G)) (by exact (H).sub ⟨rfl,rfl,rfl,aF⟩) ?_ ?_
 ·exact ⟨iY _,rfl,fun _ _ h=>h⟩
 clear H;intro gh a w hI H;obtain ⟨k,g⟩:=gh;dsimp only at hI H;obtain ⟨hk,he,hgm⟩:=hI;dsimp only [lca,bq] at H;refine kP H (SR fun _ K9=>Rc rfl (Kz K9 (SQ fun _ aT=>Cd rfl ?_ ?_))) <;> clear H K9
 ·intro dO a H
  try have lN:=dT dO
  have hk2:k < l.length:=by omega
  obtain ⟨b,o,cs,rfl,hcl,hrow,hr⟩:=hg k l[k].dat (by simp [hk2]);obtain rfl:=afV hr;refine kP H (Kc aT (SQ fun _ bC=>SB (SR fun _ bF=>Rm rfl (Ri Ke J5 rfl rfl ?_))));clear H aT;intro a H;refine bJ J5 (cs:=l[k].cells) H wn rfl rfl (fun j v hj=>H.hp.aI (aK hgm (hrow j v hj))) rfl ?_;clear H;intro a H;refine eX J5 H wn rfl ?_;clear H;intro b4 a w hb4 H;refine kH H (Ra rfl ?_);clear H;intro a H;refine bE J5 0 (vs:=[_,_,_,_]) _ H wn rfl rfl rfl rfl rfl rfl rfl rfl ?_;clear H;intro w H;dsimp only [List.set,setRow] at H;refine bF _ _ ?_;clear bF;refine kP H (SQ fun _ bN=>SB (SR fun _ bQ=>aV SN aD 0 rfl rfl (Rc rfl (Rm rfl (Sp 25 rfl ?_ ?_))))) <;> clear H
  ·intro kY a H
   try have p25:=dT kY
   refine kH H (aY kY rfl (Pt kY rfl (ak bQ rfl (Ct rfl rfl (SR fun _ dJ=>ak dJ rfl ?_)))));clear H bQ dJ;intro a H;refine lr H results118 rfl ?_
   first
    | exact H.rt (ay vi (by rw [dH,au (by omega)]))
    | exact H.rt (ay vi (by rw [dH,ah (by omega),au (by omega)]))
    | exact H.rt (ay vi (by rw [dH,ah (by omega),ah (by omega),← he,iB hk2,au (by omega)]))
    | exact H.rt (ay vi (by rw [dH,ah (by omega),ah (by omega),← he,iB hk2,ah (by omega),au (by omega)]))
    | exact H.rt (ay vi (by rw [dH,ah (by omega),ah (by omega),← he,iB hk2,ah (by omega),ah (by omega),au p45]))
    | exact H.rt (ay vi (by rw [dH,ah (by omega),ah (by omega),← he,iB hk2,ah (by omega),ah (by omega),ah p45,au (by omega)]))
    | exact H.rt (ay vi (by rw [dH,ah (by omega),ah (by omega),← he,iO (by omega)];rfl))
  intro kY a H
  try have p25:=dF kY
  refine kH H (YF SN kY rfl (YO aD 0 kY rfl (YC kY rfl (Pf kY rfl (ak bQ rfl (Cd rfl ?_ ?_)))))) <;> clear H bQ
  ·intro h21 a H
   try have qw:=dT h21
   refine kP H (SR fun _ dG=>ak dG rfl ?_);clear H dG;intro a H;refine lr H results118 rfl ?_
   first
    | exact H.rt (ay vi (by rw [dH,au (by omega)]))
    | exact H.rt (ay vi (by rw [dH,ah (by omega),au (by omega)]))
    | exact H.rt (ay vi (by rw [dH,ah (by omega),ah (by omega),← he,iB hk2,au (by omega)]))
    | exact H.rt (ay vi (by rw [dH,ah (by omega),ah (by omega),← he,iB hk2,ah (by omega),au (by omega)]))
    | exact H.rt (ay vi (by rw [dH,ah (by omega),ah (by omega),← he,iB hk2,ah (by omega),ah (by omega),au p45]))
    | exact H.rt (ay vi (by rw [dH,ah (by omega),ah (by omega),← he,iB hk2,ah (by omega),ah (by omega),ah p45,au (by omega)]))
    | exact H.rt (ay vi (by rw [dH,ah (by omega),ah (by omega),← he,iO (by omega)];rfl))
  intro h21 a H
  try have qw:=dF h21
  refine kP H (SR fun _ dh=>aV SS aD 0 rfl rfl (Rc rfl (Rm rfl (Sp 34 rfl ?_ ?_)))) <;> clear H
  ·intro fI a H
   try have p34:=dT fI
   refine kH H (aY fI rfl (Pt fI rfl (ak dh rfl (Ct rfl rfl (SR fun _ dX=>ak dX rfl ?_)))));clear H dh dX;intro a H;refine lr H results118 rfl ?_
   first
    | exact H.rt (ay vi (by rw [dH,au (by omega)]))
    | exact H.rt (ay vi (by rw [dH,ah (by omega),au (by omega)]))
    | exact H.rt (ay vi (by rw [dH,ah (by omega),ah (by omega),← he,iB hk2,au (by omega)]))
    | exact H.rt (ay vi (by rw [dH,ah (by omega),ah (by omega),← he,iB hk2,ah (by omega),au (by omega)]))
    | exact H.rt (ay vi (by rw [dH,ah (by omega),ah (by omega),← he,iB hk2,ah (by omega),ah (by omega),au p45]))
    | exact H.rt (ay vi (by rw [dH,ah (by omega),ah (by omega),← he,iB hk2,ah (by omega),ah (by omega),ah p45,au (by omega)]))
    | exact H.rt (ay vi (by rw [dH,ah (by omega),ah (by omega),← he,iO (by omega)];rfl))
  intro fI a H
  try have p34:=dF fI
  refine kH H (YF SS fI rfl (YO aD 0 fI rfl (YC fI rfl (Pf fI rfl (ak dh rfl (Cd rfl ?_ ?_)))))) <;> clear H dh
  ·intro qh a H
   try have p30:=dT qh
   refine kP H (SR fun _ gy=>ak gy rfl ?_);clear H gy;intro a H;refine lr H results118 rfl ?_
   first
    | exact H.rt (ay vi (by rw [dH,au (by omega)]))
    | exact H.rt (ay vi (by rw [dH,ah (by omega),au (by omega)]))
    | exact H.rt (ay vi (by rw [dH,ah (by omega),ah (by omega),← he,iB hk2,au (by omega)]))
    | exact H.rt (ay vi (by rw [dH,ah (by omega),ah (by omega),← he,iB hk2,ah (by omega),au (by omega)]))
    | exact H.rt (ay vi (by rw [dH,ah (by omega),ah (by omega),← he,iB hk2,ah (by omega),ah (by omega),au p45]))
    | exact H.rt (ay vi (by rw [dH,ah (by omega),ah (by omega),← he,iB hk2,ah (by omega),ah (by omega),ah p45,au (by omega)]))
    | exact H.rt (ay vi (by rw [dH,ah (by omega),ah (by omega),← he,iO (by omega)];rfl))
  intro qh a H
  try have p30:=dF qh
  refine kP H (Kc bN (SQ fun _ eY=>SR fun _ gD=>aV acF gG 0 rfl rfl (Rm rfl (Rd rfl ?_))));clear H bN;intro a H;rw [show ((k:Int)+1)=((k+1:Nat):Int) from rfl] at H;refine s_call aaN H wn rfl (afU _ _ H.ro l[k].wX ((k+1:Nat):Int) (ht _ (jo hk2))) rfl ?_;clear H;rintro v43 Hw a w rfl Ba H;refine kH H (ak gD rfl (SR fun _ ig=>Rm rfl (Rc rfl (Kz ig (Cd rfl ?_ ?_))))) <;> clear H gD ig
  ·intro h45 a H
   try have p45:=dT h45
   refine kP H (SR fun _ jF=>Rm rfl (ak jF rfl ?_));clear H jF;intro a H;refine lr H results118 rfl ?_
   first
    | exact H.rt (ay vi (by rw [dH,au (by omega)]))
    | exact H.rt (ay vi (by rw [dH,ah (by omega),au (by omega)]))
    | exact H.rt (ay vi (by rw [dH,ah (by omega),ah (by omega),← he,iB hk2,au (by omega)]))
    | exact H.rt (ay vi (by rw [dH,ah (by omega),ah (by omega),← he,iB hk2,ah (by omega),au (by omega)]))
    | exact H.rt (ay vi (by rw [dH,ah (by omega),ah (by omega),← he,iB hk2,ah (by omega),ah (by omega),au p45]))
    | exact H.rt (ay vi (by rw [dH,ah (by omega),ah (by omega),← he,iB hk2,ah (by omega),ah (by omega),ah p45,au (by omega)]))
    | exact H.rt (ay vi (by rw [dH,ah (by omega),ah (by omega),← he,iO (by omega)];rfl))
  intro h45 a H
  try have p45:=dF h45
  refine kP H (Kc eY (SR fun _ iW=>aV SV aD 0 rfl rfl (Rc rfl (Rm rfl (Sp 50 rfl ?_ ?_))))) <;> clear H eY
  ·intro h50 a H
   try have p50:=dT h50
   refine kH H (aP h50 rfl (aP h50 rfl (Pt h50 rfl (Kz iW (Ct rfl rfl (SR fun _ jd=>ak jd rfl ?_))))));clear H iW jd;intro a H;refine lr H results118 rfl ?_
   first
    | exact H.rt (ay vi (by rw [dH,au (by omega)]))
    | exact H.rt (ay vi (by rw [dH,ah (by omega),au (by omega)]))
    | exact H.rt (ay vi (by rw [dH,ah (by omega),ah (by omega),← he,iB hk2,au (by omega)]))
    | exact H.rt (ay vi (by rw [dH,ah (by omega),ah (by omega),← he,iB hk2,ah (by omega),au (by omega)]))
    | exact H.rt (ay vi (by rw [dH,ah (by omega),ah (by omega),← he,iB hk2,ah (by omega),ah (by omega),au p45]))
    | exact H.rt (ay vi (by rw [dH,ah (by omega),ah (by omega),← he,iB hk2,ah (by omega),ah (by omega),ah p45,au (by omega)]))
    | exact H.rt (ay vi (by rw [dH,ah (by omega),ah (by omega),← he,iO (by omega)];rfl))
  intro h50 a H
  try have p50:=dF h50
  refine kH H (YF SV h50 rfl (YO aD 0 h50 rfl (YM h50 rfl (YC h50 rfl (Pf h50 rfl (Kz iW (Cd rfl ?_ ?_))))))) <;> clear H iW
  ·intro jL a H
   try have p55:=dT jL
   refine kP H (SR fun _ jP=>ak jP rfl ?_);clear H jP;intro a H;refine lr H results118 rfl ?_
   first
    | exact H.rt (ay vi (by rw [dH,au (by omega)]))
    | exact H.rt (ay vi (by rw [dH,ah (by omega),au (by omega)]))
    | exact H.rt (ay vi (by rw [dH,ah (by omega),ah (by omega),← he,iB hk2,au (by omega)]))
    | exact H.rt (ay vi (by rw [dH,ah (by omega),ah (by omega),← he,iB hk2,ah (by omega),au (by omega)]))
    | exact H.rt (ay vi (by rw [dH,ah (by omega),ah (by omega),← he,iB hk2,ah (by omega),ah (by omega),au p45]))
    | exact H.rt (ay vi (by rw [dH,ah (by omega),ah (by omega),← he,iB hk2,ah (by omega),ah (by omega),ah p45,au (by omega)]))
    | exact H.rt (ay vi (by rw [dH,ah (by omega),ah (by omega),← he,iO (by omega)];rfl))
  intro jL a H
  try have p55:=dF jL
  refine kP H (Kc bC (SC (Rd rfl (Rm rfl ?_))));clear H bC;intro a H;refine aH ?_;refine dD ((k+1,Hw)) (by exact (H.dU (Pl:=[_]) (dx:=[]) [] (by decide) rfl).sub ⟨rfl,rfl,rfl,aF⟩) ?_ ?_
  ·(try dsimp only);exact ⟨by omega,by rw [iB hk2,ah (by omega),ah (by omega),ah p45,ah (by omega)] at he;exact he,fun b o h=>Ba b o (hgm b o h)⟩
  first|omega|(dsimp only;omega)
 intro dO a H
 try have lN:=dF dO
 refine dV ?_;refine K7 _ _ ?_;clear K7;refine kP H (SR fun _ jQ=>ak jQ rfl ?_);clear H jQ;intro a H;refine lr H results118 rfl ?_
 first
  | exact H.rt (ay vi (by rw [dH,au (by omega)]))
  | exact H.rt (ay vi (by rw [dH,ah (by omega),au (by omega)]))
  | exact H.rt (ay vi (by rw [dH,ah (by omega),ah (by omega),← he,iB hk2,au (by omega)]))
  | exact H.rt (ay vi (by rw [dH,ah (by omega),ah (by omega),← he,iB hk2,ah (by omega),au (by omega)]))
  | exact H.rt (ay vi (by rw [dH,ah (by omega),ah (by omega),← he,iB hk2,ah (by omega),ah (by omega),au p45]))
  | exact H.rt (ay vi (by rw [dH,ah (by omega),ah (by omega),← he,iB hk2,ah (by omega),ah (by omega),ah p45,au (by omega)]))
  | exact H.rt (ay vi (by rw [dH,ah (by omega),ah (by omega),← he,iO (by omega)];rfl))
end
section
open Go.RowKit
theorem Dj:Ty prog 32 1 24 [.slice none 0 0] false:=⟨by kernel_rfl,by kernel_rfl⟩
theorem Dl:prog.underlying 32=some (.slice 184):=by kernel_rfl
theorem EI:Ty prog 184 2 32 [.int .i64 0,.slice none 0 0] true:=⟨by kernel_rfl,by kernel_rfl⟩
theorem SG:bM prog 184 0 0:=⟨by kernel_rfl⟩
theorem aiL:Ty prog 182 1 24 [.slice none 0 0] false:=⟨by kernel_rfl,by kernel_rfl⟩
theorem LQ:∀ args w,(callFunc 86 args).run prog w=.ok (.enter 86 args) w:=enters func86 rfl (by kernel_rfl)
theorem acD:bM prog 184 1 1:=⟨by kernel_rfl⟩
theorem aaB:∀ args w,(callFunc 118 args).run prog w=.ok (.enter 118 args) w:=enters func118 rfl (by kernel_rfl)
theorem DY:∀ args w,(callFunc 84 args).run prog w=.ok (.enter 84 args) w:=enters func84 rfl (by kernel_rfl)
theorem aaA:∀ args w,(callFunc 117 args).run prog w=.ok (.enter 117 args) w:=enters func117 rfl (by kernel_rfl)
theorem aaz:∀ args w,(callFunc 116 args).run prog w=.ok (.enter 116 args) w:=enters func116 rfl (by kernel_rfl)
structure fK where
 id:Int
 levels:List nL
def fK.dat (x:fK):List Dat:=[li x.id,.sl 4 (x.levels.map nL.dat)]
structure bU where
 id:Int
 parent:Int
 author:ByteArray
 time:Int
 text:ByteArray
 done:Bool
def bU.dat (x:bU):List Dat:=[li x.id,li x.parent,.lf (.string x.author),li x.time,.lf (.string x.text),.lf (.bool x.done)]
abbrev bU.cells (x:bU):List aj:=[vi x.id,vi x.parent,.string x.author,vi x.time,.string x.text,.bool x.done]
structure lC where
 name:ByteArray
 value:ByteArray
def lC.dat (x:lC):List Dat:=[.lf (.string x.name),.lf (.string x.value)]
abbrev lC.cells (x:lC):List aj:=[.string x.name,.string x.value]
theorem Rw {G:GH} {x:bU} {cs:List aj} (h:aX G x.dat cs):cs=x.cells:=by
 simp only [bU.dat,aX,av] at h
 obtain ⟨_,_,rfl,⟨rfl,_⟩,_,_,rfl,⟨rfl,_⟩,_,_,rfl,⟨rfl,_⟩,_,_,rfl,⟨rfl,_⟩,_,_,rfl,⟨rfl,_⟩,_,_,rfl,⟨rfl,_⟩,rfl⟩:=h
 rfl
theorem aiX {G:GH} {x:lC} {cs:List aj} (h:aX G x.dat cs):cs=x.cells:=by
 simp only [lC.dat,aX,av] at h
 obtain ⟨_,_,rfl,⟨rfl,_⟩,_,_,rfl,⟨rfl,_⟩,rfl⟩:=h
 rfl
theorem NW {G:GH} {l:List fK} {A:Option Addr} {n c k:Nat} (hv:av G (.sl 2 (l.map fK.dat)) (.slice A n c)) (hk:k < l.length):∃ b o B d,A=some ⟨b,o,none⟩∧(∀ j u,[vi l[k].id,.slice B l[k].levels.length d][j]?=some u→aI G b (o+k*2+j)=some u)∧av G (.sl 4 (l[k].levels.map nL.dat)) (.slice B l[k].levels.length d):=by
 obtain ⟨A',c',he,_,_,hg⟩:=hv.slice
 injection he with e1 e2 e3
 subst e1;obtain ⟨b,o,cs,h1,h2,h3,h4⟩:=hg k l[k].dat (by simp [hk])
 simp only [fK.dat,aX] at h4
 obtain ⟨v1,_,rfl,⟨rfl,-⟩,v2,_,rfl,hl,rfl⟩:∃ v vs,cs=v :: vs∧av G (li l[k].id) v∧∃ v2 vs2,vs=v2 :: vs2∧av G (.sl 4 (l[k].levels.map nL.dat)) v2∧vs2=[]:=h4;obtain ⟨B,d,rfl,-,-,-⟩:=hl.slice;rw [bT] at *;exact ⟨b,o,B,d,h1,h3,hl⟩
theorem afL {G:GH} {bl:Nat} {l:List fK} {A:Option Addr} {n c:Nat} (hb:aI G bl 0=some (.slice A n c)) (hv:av G (.sl 2 (l.map fK.dat)) (.slice A n c)):qC (.func (.func 117) #[] #[(aJ bl 0)]) G l.length fun k=>(l[k]?.map fK.id).getD 0:=by
 intro k hk G1 w0 hm hG;refine lV (caps:=[(aJ bl 0)]) aaA ?_;replace hb:=aK hm hb
 obtain rfl:n=l.length:=by have:=hv.len;simpa using this
 obtain ⟨b,o,B,d,rfl,hrow,-⟩:=NW (hv.mono hm) hk;have hq:=hrow 0 _ rfl;refine eN [(0,_),(1,_)] func117 rfl ntmps117 rfl rfl hG ?_;intro a H;refine kP H (SR fun _ K1=>ak K1 rfl (SR fun _ K2=>Rg Dj rfl (by assumption) ?_));clear H K1;intro a H;refine kH H (Rm rfl (Ri Dl EI rfl rfl (Rf SG rfl (Rg aD rfl (by assumption) ?_))));clear H;intro a H;exact kH H (ak K2 rfl (LR results117 rfl fun H=>H.rt (by dsimp only;rw [gM hk];rfl)))
def CQ (l:List fK) (i:Nat):Int:=cO [nV (fun k=>(l[k]?.map fK.id).getD 0) i,dH ((l[i]?.map fK.levels).getD [])]
theorem afO {G:GH} {bl:Nat} {l:List fK} {A:Option Addr} {n c:Nat} (hb:aI G bl 0=some (.slice A n c)) (hv:av G (.sl 2 (l.map fK.dat)) (.slice A n c)) (hl:l.length≤4294967296) (ht:∀ x∈l,∀ y∈x.levels,y.wX.size < 4611686018427387904):qC (.func (.func 116) #[] #[(aJ bl 0)]) G l.length (CQ l):=by
 intro k hk G1 w0 hm hG;refine lV (caps:=[(aJ bl 0)]) aaz ?_;replace hb:=aK hm hb;replace hv:=hv.mono hm;have hcb:=afL hb hv
 obtain rfl:n=l.length:=by have:=hv.len;simpa using this
 obtain ⟨b,o,B,d,rfl,hrow,hlv⟩:=NW hv hk;have hq:=hrow 1 _ rfl
 have he:CQ l k=cO [nV (fun k=>(l[k]?.map fK.id).getD 0) k,dH l[k].levels]:=by unfold CQ;rw [gM hk];rfl
 refine eN [(0,_),(1,_)] func116 rfl ntmps116 rfl rfl hG ?_;intro a H;refine kP H (SR fun _ K1=>ak K1 rfl (SQ fun _ K2=>?_));clear H K1;intro a H;have H:=H.sub (T':=[(0,_),(1,_)]) ⟨rfl,rfl,aF⟩;refine dI hmx [[],[],[0,1],[],[],[3,4],[3,4,5],(ra 3 4),(ra 0 8),(ra 0 9),(ra 0 10),(ra 0 11)] [9,10,11] (by kernel_rfl) [_,.func (.func 117) #[] #[(aJ bl 0)],vi (nV (fun k=>(l[k]?.map fK.id).getD 0) k),_,_,_,_,_,vi (dH l[k].levels)] H (aB (Z0 rfl (Rm rfl)) ?_ ?_ (X0 rfl fun hG=>Rg Dj rfl (aK hG hb)) (aB (Z0 rfl (Rm rfl)) (Z2 3 7 4 8 rfl (Ri Dl EI rfl rfl)) (Z1 5 9 rfl (Rf acD rfl)) (X1 6 10 rfl fun hG=>Rg aiL rfl (aK hG hq)) (aB ?_ (bH rfl) (bH rfl) (bH rfl) bW))) ?_
 ·refine yM rfl fun _ a w G1 hG HT H fin=>?_;refine pU H wn rfl rfl ?_;clear H;intro a H;exact fin H iJ rfl
 ·refine cB 0 4 1 5 rfl rfl fun _ a w G1 hG HT H fin=>?_;refine s_call LQ H wn rfl (NM _ _ H.ro k _ _ (by omega) (fun i hi=>(hcb.mono hG) i (by omega))) rfl ?_;clear H;rintro v6 G6 a w rfl iV H;exact fin H iV (rfl)
 ·refine dw 7 11 rfl rfl fun _ a w G1 hG HT H fin=>?_;refine s_call aaB H wn rfl (Zw _ _ H.ro _ _ (hlv.mono hG) (ht _ (jo hk))) rfl ?_;clear H;rintro v12 Ai a w rfl pF H;exact fin H pF (rfl)
 clear H;intro a w G mH H hv;have H:=H.aS (hv 2 6 rfl rfl) rfl;have H:=H.aS (hv 8 12 rfl rfl) rfl;clear hv;refine gP nJ fV [_,_] [_,_] H wn rfl rfl rfl rfl rfl (by intro i q h;match i,h with|0,h=>exact h|1,h=>exact h|n+2,h=>simp at h) rfl rfl ?_;clear H;intro b13 a w M7 H;obtain ⟨ET,Jg,adN,H⟩:=H.dM;refine s_call oI H wn rfl (oK _ _ H.ro _ _ (vO adN)) rfl ?_;clear H;rintro v14 _ a w ⟨rfl,rfl⟩ - H;refine kH H (Ra rfl ?_);clear H;intro a H;refine aH ⟨rfl,?_⟩;refine K2 _ _ ?_;clear K2;refine lr H results116 rfl ?_;exact H.rt (by rw [he])
def Fv (l:List fK):Int:=cO [bP (decide (64 < (l.length:Int))) 9,jR (CQ l) (min l.length 64)]
theorem qC.le {fv:aj} {G:GH} {n m:Nat} {E:Nat→Int} (h:qC fv G n E) (hm:m≤n):qC fv G m E:=fun i hi=>h i (by omega)
theorem Zx (G:GH) (w0:World) (hG:Hold G w0) (l:List fK) (v:aj) (hv:av G (.sl 2 (l.map fK.dat)) v) (hl:l.length≤4294967296) (ht:∀ x∈l,∀ y∈x.levels,y.wX.size < 4611686018427387904) :
  Calls prog 81 #[v] w0 (bD w0 G fun u G'=>u=vi (Fv l)):=by
 obtain ⟨A,c,rfl,hc1,hc2,-⟩:=hv.slice;rw [bT] at *;refine eN [(0,_)] func81 rfl ntmps81 rfl rfl hG ?_;intro a H;refine dz (fun _ K1=>?_);refine fC (cs:=[_]) H wn rfl rfl rfl ?_;clear H;intro b1 a w hb1 H;refine kH H (ak K1 rfl (SQ fun _ K2=>?_));clear H K1;intro a H;have H:=H.sub (T':=[(1,_)]) ⟨rfl,aF⟩;obtain ⟨Ga,hma,hb1',H⟩:=H.dM
 have hbl:aI Ga b1 0=some (.slice A l.length c):=by unfold aI;rw [hb1'];rfl
 have hcb:=afO hbl (hv.mono hma) hl ht;refine dI hmx [[],[0],[0,1],[0,1,2],[],[4],[4,5],[],(ra 0 8),(ra 0 9),(ra 0 10),(ra 0 11)] [9,10,11] (by kernel_rfl) [_,_,_,vi (bP (decide (64 < (l.length:Int))) 9),_,_,vi ((min l.length 64:Nat):Int),.func (.func 116) #[] #[(aJ b1 0)],vi (jR (CQ l) (min l.length 64))] H (aB (X0 rfl fun hG=>Rg Dj rfl (aK hG hbl)) (Z1 0 3 rfl (Rl Dl rfl)) (Z1 1 4 rfl (Rc rfl)) ?_ (aB (X0 rfl fun hG=>Rg Dj rfl (aK hG hbl)) (Z1 4 7 rfl (Rl Dl rfl)) ?_ ?_ (aB ?_ (bH rfl) (bH rfl) (bH rfl) bW))) ?_
 ·refine dw 2 5 rfl rfl fun _ a w G1 hG HT H fin=>?_;refine s_call iP H wn rfl (iR _ _ H.ro _ 9) rfl ?_;clear H;rintro v6 G6 a w ⟨rfl,-⟩ iV H;exact fin H iV (rfl)
 ·refine dw 5 8 rfl rfl fun _ a w G1 hG HT H fin=>?_;refine JV H wn rfl rfl rfl ?_;clear H;intro a H;exact fin H iJ (ay vi (by omega))
 ·refine yM rfl fun _ a w G1 hG HT H fin=>?_;refine pU H wn rfl rfl ?_;clear H;intro a H;exact fin H iJ rfl
 ·refine cB 6 9 7 10 rfl rfl fun _ a w G1 hG HT H fin=>?_;refine s_call DY H wn rfl (Fp _ _ H.ro (min l.length 64) (CQ l) _ (by omega) ((hcb.mono hG).le (Nat.min_le_left _ _))) rfl ?_;clear H;rintro v11 vU a w rfl jv H;exact fin H jv (rfl)
 clear H;intro a w G mH H hv;have H:=H.aS (hv 3 6 rfl rfl) rfl;have H:=H.aS (hv 8 11 rfl rfl) rfl;clear hv;refine gP nJ fV [_,_] [_,_] H wn rfl rfl rfl rfl rfl (by intro i q h;match i,h with|0,h=>exact h|1,h=>exact h|n+2,h=>simp at h) rfl rfl ?_;clear H;intro b12 a w AV H;obtain ⟨Ai,Cu,Cr,H⟩:=H.dM;refine s_call oI H wn rfl (oK _ _ H.ro _ _ (vO Cr)) rfl ?_;clear H;rintro v13 _ a w ⟨rfl,rfl⟩ - H;refine kH H (Ra rfl ?_);clear H;intro a H;refine aH ⟨rfl,?_⟩;refine K2 _ _ ?_;clear K2;refine lr H results81 rfl ?_;exact H.rt rfl
end
section
open Go.RowKit
theorem mO:prog.underlying 31=some (.slice 181):=by kernel_rfl
theorem jN:Ty prog 181 6 72 [.int .i64 0,.int .i64 0,.string ⟨#[]⟩,.int .i64 0,.int .i64 0,.slice none 0 0] true:=⟨by kernel_rfl,by kernel_rfl⟩
theorem vg:bM prog 181 1 1:=⟨by kernel_rfl⟩
theorem DZ:bM prog 181 2 2:=⟨by kernel_rfl⟩
theorem sU:bM prog 181 0 0:=⟨by kernel_rfl⟩
theorem R3:∀ args w,(callFunc 141 args).run prog w=.ok (.enter 141 args) w:=enters func141 rfl (by kernel_rfl)
theorem aaM:∀ args w,(callFunc 134 args).run prog w=.ok (.enter 134 args) w:=enters func134 rfl (by kernel_rfl)
theorem aaR:∀ args w,(callFunc 142 args).run prog w=.ok (.enter 142 args) w:=enters func142 rfl (by kernel_rfl)
theorem aaS:∀ args w,(callFunc 143 args).run prog w=.ok (.enter 143 args) w:=enters func143 rfl (by kernel_rfl)
structure bG where
 id:Int
 kind:Int
 name:ByteArray
 base:Int
 next:Int
 props:List iq
def bG.dat (x:bG):List Dat:=[li x.id,li x.kind,.lf (.string x.name),li x.base,li x.next,.sl 2 (x.props.map iq.dat)]
theorem O1 {G:GH} {x:bG} {cs:List aj} (h:aX G x.dat cs):∃ A c,cs=[vi x.id,vi x.kind,.string x.name,vi x.base,vi x.next,.slice A x.props.length c]∧av G (.sl 2 (x.props.map iq.dat)) (.slice A x.props.length c):=by
 simp only [bG.dat,aX] at h
 obtain ⟨v1,_,rfl,h1,v2,_,rfl,h2,v3,_,rfl,h3,v4,_,rfl,h4,v5,_,rfl,h5,v6,_,rfl,h6,rfl⟩:=h
 simp only [av] at h1 h2 h3 h4 h5
 obtain ⟨rfl,-⟩:=h1;obtain ⟨rfl,-⟩:=h2;obtain ⟨rfl,-⟩:=h3;obtain ⟨rfl,-⟩:=h4;obtain ⟨rfl,-⟩:=h5;obtain ⟨A,c,rfl,-,-,-⟩:=h6.slice;rw [bT] at *;exact ⟨A,c,rfl,h6⟩
theorem zX {G:GH} {l:List bG} {A:Option Addr} {n c k:Nat} (hv:av G (.sl 6 (l.map bG.dat)) (.slice A n c)) (hk:k < l.length):∃ b o pA pc,A=some ⟨b,o,none⟩∧(∀ j u,[vi l[k].id,vi l[k].kind,.string l[k].name,vi l[k].base,vi l[k].next,.slice pA l[k].props.length pc][j]?=some u→aI G b (o+k*6+j)=some u)∧av G (.sl 2 (l[k].props.map iq.dat)) (.slice pA l[k].props.length pc) ∧
  aX G l[k].dat [vi l[k].id,vi l[k].kind,.string l[k].name,vi l[k].base,vi l[k].next,.slice pA l[k].props.length pc]:=by
 obtain ⟨A',c',he,_,_,hg⟩:=hv.slice
 injection he with e1 e2 e3
 subst e1;obtain ⟨b,o,cs,h1,h2,h3,h4⟩:=hg k l[k].dat (by simp [hk]);obtain ⟨pA,pc,rfl,hp⟩:=O1 h4;exact ⟨b,o,pA,pc,h1,h3,hp,h4⟩
def okB (x:Int):Bool:=decide (32≤x∧x≤126)
def CX (s:ByteArray) (k:Nat):Bool:=(List.range k).all fun i=>okB (gF s i)
def mg (s:ByteArray):Bool:=decide (s.size≠0∧s.size≤40∧gF s 0≠32∧gF s (s.size - 1)≠32) && CX s s.size
theorem agf (s:ByteArray) (k:Nat):CX s (k+1)=(CX s k && okB (gF s k)):=by simp [CX,List.range_succ]
theorem CY {s:ByteArray} {k:Nat} (hk:k < s.size) (h:okB (gF s k)=false):CX s s.size=false:=by
 rw [CX,List.all_eq_false];exact ⟨k,by simpa using hk,by simp [h]⟩
theorem Jv (G:GH) (w0:World) (hG:Hold G w0) (s:ByteArray) (hs:s.size≤4611686018427387904):Calls prog 131 #[.string s] w0 (bD w0 G fun u G'=>u=.bool (mg s)):=by
 refine eN [(0,_)] func131 rfl ntmps131 rfl rfl hG ?_;intro a H;refine kP H (SR fun _ K1=>ak K1 rfl (SQ fun _ K2=>SR fun _ K3=>Rm rfl (Rv fP rfl (Rc rfl (Rm rfl (Sp 7 rfl ?_ ?_)))))) <;> clear H K1
 ·intro h7 a H
  try have p7:=dT h7
  refine kH H (aY h7 rfl (Pt h7 rfl (Rm rfl (aY rfl rfl (Pt rfl rfl (Rm rfl (aY rfl rfl (aY rfl rfl (Pt rfl rfl (Kz K3 (Ct rfl rfl (SR fun _ K4=>ak K4 rfl ?_))))))))))));clear H K3 K4;intro a H;refine lr H results131 rfl ?_
  first
   | exact H.rt (aG (by rw [mg,iN (by omega),tZ]))
   | exact H.rt (aG (by rw [mg,jV (by omega),show s.size=k by omega,hno];rfl))
   | exact H.rt (aG (by rw [mg,CY (k:=k) (by omega) (iN (by omega)),Bool.and_false]))
 intro h7 a H
 try have p7:=dF h7
 refine kH H (YM h7 rfl ?_);clear H;intro a H;refine Bn fP H (wg H rfl rfl h7) rfl rfl ?_;clear H;intro a H;refine kH H (YC h7 rfl (Pf h7 rfl (Rm rfl (Sp 12 rfl ?_ ?_)))) <;> clear H
 ·intro h12 a H
  try have qO:=dT h12
  refine kH H (aY h12 rfl (Pt h12 rfl (Rm rfl (aY rfl rfl (aY rfl rfl (Pt rfl rfl (Kz K3 (Ct rfl rfl (SR fun _ K5=>ak K5 rfl ?_)))))))));clear H K3 K5;intro a H;refine lr H results131 rfl ?_
  first
   | exact H.rt (aG (by rw [mg,iN (by omega),tZ]))
   | exact H.rt (aG (by rw [mg,jV (by omega),show s.size=k by omega,hno];rfl))
   | exact H.rt (aG (by rw [mg,CY (k:=k) (by omega) (iN (by omega)),Bool.and_false]))
 intro h12 a H
 try have qO:=dF h12
 refine kH H (YM h12 rfl ?_);clear H;intro a H;refine nu 0 fP H (wg H rfl rfl h12) rfl rfl rfl (by omega) rfl ?_;clear H;intro a H;rw [← kV] at H;refine kH H (YC h12 rfl (Pf h12 rfl (Rm rfl (Sp 17 rfl ?_ ?_)))) <;> clear H
 ·intro dO a H
  try have lN:=dT dO
  refine kH H (aY dO rfl (aY dO rfl (Pt dO rfl (Kz K3 (Ct rfl rfl (SR fun _ K6=>ak K6 rfl ?_))))));clear H K3 K6;intro a H;refine lr H results131 rfl ?_
  first
   | exact H.rt (aG (by rw [mg,iN (by omega),tZ]))
   | exact H.rt (aG (by rw [mg,jV (by omega),show s.size=k by omega,hno];rfl))
   | exact H.rt (aG (by rw [mg,CY (k:=k) (by omega) (iN (by omega)),Bool.and_false]))
 intro dO a H
 try have lN:=dF dO
 refine kH H (YM dO rfl (YM dO rfl ?_));clear H;intro a H;refine Bn fP H (wg H rfl rfl dO) rfl rfl ?_;clear H;intro a H;refine mq _ H (wg H rfl rfl dO) rfl rfl rfl (by omega) (by omega) rfl ?_;clear H;intro a H;refine nu (s.size - 1) fP H (wg H rfl rfl dO) rfl rfl (by omega) (by omega) rfl ?_;clear H;intro a H;rw [← kV] at H;refine kH H (YC dO rfl (Pf dO rfl (Kz K3 (Cd rfl ?_ ?_)))) <;> clear H K3
 ·intro dN a H
  try have jS:=dT dN
  refine kP H (SR fun _ K7=>ak K7 rfl ?_);clear H K7;intro a H;refine lr H results131 rfl ?_
  first
   | exact H.rt (aG (by rw [mg,iN (by omega),tZ]))
   | exact H.rt (aG (by rw [mg,jV (by omega),show s.size=k by omega,hno];rfl))
   | exact H.rt (aG (by rw [mg,CY (k:=k) (by omega) (iN (by omega)),Bool.and_false]))
 intro dN a H
 try have jS:=dF dN
 refine kP H (Kc K2 (SQ fun _ K8=>SR fun _ K9=>Rm rfl (Rv fP rfl (Rm rfl (Kz K9 (SB ?_))))));clear H K2 K9;intro a H;skip;refine fH (ι:=Nat) (Tc:=[(0,_),(26,_)]) (Lc:=[]) (fun gh=>[(27,vi gh)]) (fun gh=>[]) (fun gh=>G) (fun gh=>gh≤s.size∧CX s gh=true) (fun gh=>s.size - gh) (0) (by exact (H).sub ⟨rfl,rfl,rfl,aF⟩) ?_ ?_
 ·exact ⟨iY _,rfl⟩
 clear H;intro gh a w hI H;obtain ⟨k,hgh⟩:∃ x,x=gh:=⟨_,rfl⟩;subst hgh;obtain ⟨hk,hno⟩:=hI;dsimp only [lca,bq] at H;refine kP H (SR fun _ aT=>Rc rfl (Kz aT (SQ fun _ bC=>Cd rfl ?_ ?_))) <;> clear H aT
 ·intro eP a H
  try have p28:=dT eP
  refine kP H (Kc bC (SQ fun _ bF=>SB (SR fun _ bN=>Rm rfl (ak bN rfl (SR fun _ bQ=>Rm rfl (Rm rfl ?_))))));clear H bC bN;intro a H;refine nu k fP H wn rfl rfl rfl (by omega) rfl ?_;clear H;intro a H;rw [← kV] at H;refine kH H (Rc rfl (Rm rfl (Sp 34 rfl ?_ ?_))) <;> clear H
  ·intro fI a H
   try have p34:=dT fI
   refine kH H (aP fI rfl (aP fI rfl (Pt fI rfl (Kz bQ (Ct rfl rfl (SR fun _ dJ=>ak dJ rfl ?_))))));clear H bQ dJ;intro a H;refine lr H results131 rfl ?_
   first
    | exact H.rt (aG (by rw [mg,iN (by omega),tZ]))
    | exact H.rt (aG (by rw [mg,jV (by omega),show s.size=k by omega,hno];rfl))
    | exact H.rt (aG (by rw [mg,CY (k:=k) (by omega) (iN (by omega)),Bool.and_false]))
  intro fI a H
  try have p34:=dF fI
  refine kH H (YM fI rfl (YM fI rfl ?_));clear H;intro a H;refine nu k fP H (wg H rfl rfl fI) rfl rfl rfl (by omega) rfl ?_;clear H;intro a H;rw [← kV] at H;refine kH H (YC fI rfl (Pf fI rfl (Kz bQ (Cd rfl ?_ ?_)))) <;> clear H bQ
  ·intro lX a H
   try have p39:=dT lX
   refine kP H (SR fun _ dG=>ak dG rfl ?_);clear H dG;intro a H;refine lr H results131 rfl ?_
   first
    | exact H.rt (aG (by rw [mg,iN (by omega),tZ]))
    | exact H.rt (aG (by rw [mg,jV (by omega),show s.size=k by omega,hno];rfl))
    | exact H.rt (aG (by rw [mg,CY (k:=k) (by omega) (iN (by omega)),Bool.and_false]))
  intro lX a H
  try have p39:=dF lX
  refine kP H (Kc bF (SC (Rd rfl (Rm rfl ?_))));clear H bF;intro a H;refine aH ?_;refine dD ((k+1)) (by exact (H).sub ⟨rfl,rfl,rfl,aF⟩) ?_ ?_
  ·exact ⟨by omega,by rw [agf,hno];simp [okB];omega⟩
  first|omega|(dsimp only;omega)
 intro eP a H
 try have p28:=dF eP
 refine dV ?_;refine K8 _ _ ?_;clear K8;refine kP H (SR fun _ dh=>ak dh rfl ?_);clear H dh;intro a H;refine lr H results131 rfl ?_
 first
  | exact H.rt (aG (by rw [mg,iN (by omega),tZ]))
  | exact H.rt (aG (by rw [mg,jV (by omega),show s.size=k by omega,hno];rfl))
  | exact H.rt (aG (by rw [mg,CY (k:=k) (by omega) (iN (by omega)),Bool.and_false]))
theorem UM (G:GH) (w0:World) (hG:Hold G w0) (l:List bG) (p:bG→Bool) (v fv:aj) (hv:av G (.sl 6 (l.map bG.dat)) v) (hf:∀ x∈l,uT fv G x.dat (p x)) :
  Calls prog 141 #[v,fv] w0 (bD w0 G fun u G'=>u=vi (mZ (l.findIdx? p))):=by
 obtain ⟨A,c,rfl,hc1,hc2,-⟩:=hv.slice;have hml:maxLen=9223372036854775807:=rfl;rw [bT] at *;refine eN [(0,_),(1,_)] func141 rfl ntmps141 rfl rfl hG ?_;intro a H;refine kP H (SR fun _ K1=>ak K1 rfl (SQ fun _ K2=>SR fun _ K3=>Rm rfl (Rl mO rfl (Rm rfl (Kz K3 (SB ?_))))));clear H K1 K3;intro a H;skip;refine fH (ι:=Nat × GH) (Tc:=[(0,_),(1,_),(7,_)]) (Lc:=[]) (fun gh=>[(8,vi gh.1)]) (fun gh=>[]) (fun gh=>gh.2) (fun gh=>gh.1≤l.length∧(l.take gh.1).findIdx? p=none∧(∀ b o,G b=some o→gh.2 b=some o)) (fun gh=>l.length - gh.1) ((0,G)) (by exact (H).sub ⟨rfl,rfl,rfl,rfl,aF⟩) ?_ ?_
 ·exact ⟨by omega,rfl,fun _ _ h=>h⟩
 clear H;intro gh a w hI H;obtain ⟨k,g⟩:=gh;dsimp only at hI H;obtain ⟨hk,hno,hgm⟩:=hI;dsimp only [lca,bq] at H;refine kP H (SR fun _ K4=>Rc rfl (Kz K4 (SQ fun _ K5=>Cd rfl ?_ ?_))) <;> clear H K4
 ·intro h9 a H
  try have p9:=dT h9
  have hk2:k < l.length:=by omega
  obtain ⟨b,o,pA,pc,rfl,hrow,hp,hrep⟩:=zX (hv.mono hgm) hk2;refine kP H (Kc K5 (SQ fun _ K6=>SB (SR fun _ K7=>Rm rfl (ak K7 rfl (SR fun _ K8=>Rm rfl (Rm rfl (Rm rfl (Ri mO jN rfl rfl ?_))))))));clear H K5 K7;intro a H;refine bJ jN (cs:=[_,_,_,_,_,_]) H wn rfl rfl (fun j v hj=>H.hp.aI (hrow j v hj)) rfl ?_;clear H;intro a H;refine oO H wn rfl rfl (hf _ (jo hk2) _ _ _ hgm H.ro hrep) rfl ?_;clear H;rintro v16 qB a w rfl qL H;refine K8 _ _ ?_;clear K8;refine kW H rfl ?_ ?_
  ·intro h16
   try have p16:=dT h16
   refine kP H (SR fun _ K9=>Rm rfl (ak K9 rfl ?_));clear H K9;intro a H;refine lr H results141 rfl ?_
   first
    | exact H.rt (by rw [uH hk2 hno h16];rfl)
    | exact H.rt (by rw [show l.take k=l from jH (by omega)] at hno;rw [hno];rfl)
  intro h16
  try have p16:=dF h16
  refine kP H (Kc K6 (SC (Rd rfl (Rm rfl ?_))));clear H K6;intro a H;refine aH ?_;refine dD ((k+1,qB)) (by exact (H).sub ⟨rfl,rfl,rfl,rfl,aF⟩) ?_ ?_
  ·(try dsimp only);exact ⟨by omega,CF hk2 hno h16,fun b o h=>qL b o (hgm b o h)⟩
  first|omega|(dsimp only;omega)
 intro h9 a H
 try have p9:=dF h9
 refine dV ?_;refine K2 _ _ ?_;clear K2;refine kP H (SR fun _ aT=>ak aT rfl ?_);clear H aT;intro a H;refine lr H results141 rfl ?_
 first
  | exact H.rt (by rw [uH hk2 hno h16];rfl)
  | exact H.rt (by rw [show l.take k=l from jH (by omega)] at hno;rw [hno];rfl)
def GK (p q:ByteArray):Bool:=p.toList == q.toList
theorem acS {G:GH} {bk bn:Nat} {kind:Int} {name:ByteArray} (hk:aI G bk 0=some (vi kind)) (hn:aI G bn 0=some (.string name)) (x:bG):uT (.func (.func 142) #[] #[(aJ bk 0),(aJ bn 0)]) G x.dat (decide (x.kind=kind) && GK x.name name):=by
 intro G1 w0 cs hm hG hr;refine lV (caps:=[(aJ bk 0),(aJ bn 0)]) aaR ?_;obtain ⟨pA,pc,rfl,-⟩:=O1 hr;replace hk:=aK hm hk;replace hn:=aK hm hn;refine eN [(0,_),(1,_),(2,_)] func142 rfl ntmps142 rfl rfl hG ?_;intro a H;refine dz (fun _ K1=>?_);refine fC (cs:=[_,_,_,_,_,_]) H wn rfl rfl rfl ?_;clear H;intro b3 a w hb3 H;refine kH H (ak K1 rfl (SR fun _ K2=>aV vg aD 0 rfl rfl (Rg aD rfl (by assumption) ?_)));clear H K1;intro a H;refine kH H (Rc rfl (Rm rfl (Sp 9 rfl ?_ ?_))) <;> clear H
 ·intro h9 a H
  try have p9:=dT h9
  refine kH H (YF DZ h9 rfl (YO gG 0 h9 rfl (YR gG h9 rfl (by assumption) ?_)));clear H;intro a H;refine Bl H (wg H rfl rfl h9) rfl rfl rfl ?_;clear H;intro a H;exact kH H (Pt h9 rfl (ak K2 rfl (LR results142 rfl fun H=>H.rt (by unfold GK;simp_all))))
 intro h9 a H
 try have p9:=dF h9
 exact kH H (aP h9 rfl (aP h9 rfl (Pf h9 rfl (ak K2 rfl (LR results142 rfl fun H=>H.rt (by unfold GK;simp_all))))))
theorem acR {G:GH} {bi:Nat} {id:Int} (hb:aI G bi 0=some (vi id)) (x:bG):uT (.func (.func 143) #[] #[(aJ bi 0)]) G x.dat (decide (x.id=id)):=by
 intro G1 w0 cs hm hG hr;refine lV (caps:=[(aJ bi 0)]) aaS ?_;obtain ⟨pA,pc,rfl,-⟩:=O1 hr;replace hb:=aK hm hb;refine eN [(0,_),(1,_)] func143 rfl ntmps143 rfl rfl hG ?_;intro a H;refine dz (fun _ K1=>?_);refine fC (cs:=[_,_,_,_,_,_]) H wn rfl rfl rfl ?_;clear H;intro b2 a w hb2 H;refine kH H (ak K1 rfl (SR fun _ K2=>aV sU aD 0 rfl rfl (Rg aD rfl (by assumption) ?_)));clear H K1;intro a H;exact kH H (Rc rfl (ak K2 rfl (LR results143 rfl fun H=>H.rt rfl)))
def Ay (l:List bG) (kind:Int) (name:ByteArray):Option Nat:=l.findIdx? fun x=>decide (x.kind=kind) && GK x.name name
def IV (l:List bG) (id:Int):Option Nat:=l.findIdx? fun x=>decide (x.id=id)
theorem UR (o:Option Nat):decide (0≤mZ o)=o.isSome:=by cases o <;> simp [mZ]
theorem acT (G:GH) (w0:World) (hG:Hold G w0) (l:List bG) (kind:Int) (name:ByteArray) (v:aj) (hv:av G (.sl 6 (l.map bG.dat)) v) :
  Calls prog 132 #[v,vi kind,.string name] w0 (bD w0 G fun u G'=>u=.tuple #[vi (max (mZ (Ay l kind name)) 0),.bool (Ay l kind name).isSome]):=by
 obtain ⟨A,c,rfl,hc1,hc2,-⟩:=hv.slice;rw [bT] at *;refine eN [(0,_),(1,_),(2,_)] func132 rfl ntmps132 rfl rfl hG ?_;intro a H;refine dz (fun _ K1=>?_);refine fC (cs:=[_]) H wn rfl rfl rfl ?_;clear H;intro b4 a w hb4 H;refine fC (cs:=[_]) H wn rfl rfl rfl ?_;clear H;intro b5 a w hb5 H;refine kH H (Ra rfl (ak K1 rfl (SQ fun _ K2=>?_)));clear H K1;intro a H;obtain ⟨Ga,hma,xQ,H⟩:=H.dM;obtain ⟨Gb,hmb,wG,H⟩:=H.dM
 have q4:aI Gb b4 0=some (vi kind):=by unfold aI;rw [wG];rfl
 have q5:aI Gb b5 0=some (.string name):=by unfold aI;rw [hmb _ _ xQ];rfl
 refine kP H (SC (Rm rfl ?_));clear H;intro a H;refine pU H wn rfl rfl ?_;clear H;intro a H;refine s_call R3 H wn rfl (UM _ _ H.ro l (fun x=>decide (x.kind=kind) && GK x.name name) _ _ ((hv.mono hma).mono hmb) (fun x _=>acS q4 q5 x)) rfl ?_;clear H;rintro v11 vU a w rfl Jf H;refine kH H (aU K2 rfl (SR fun _ K3=>Rm rfl ?_));clear H K2;intro a H;refine JU H wn rfl rfl rfl ?_;clear H;intro a H;refine kH H (Rm rfl (Rc rfl (Ra rfl (ak K3 rfl ?_))));clear H K3;intro a H;refine bZ ?_;refine (eT H results132 (.cons (aR H rfl) (.cons (aR H rfl) .nil)) ?_).1;exact H.rt (by rw [← UR];rfl)
theorem acW (G:GH) (w0:World) (hG:Hold G w0) (l:List bG) (id:Int) (v:aj) (hv:av G (.sl 6 (l.map bG.dat)) v) :
  Calls prog 134 #[v,vi id] w0 (bD w0 G fun u G'=>u=.tuple #[vi (max (mZ (IV l id)) 0),.bool (IV l id).isSome]):=by
 obtain ⟨A,c,rfl,hc1,hc2,-⟩:=hv.slice;rw [bT] at *;refine eN [(0,_),(1,_)] func134 rfl ntmps134 rfl rfl hG ?_;intro a H;refine dz (fun _ K1=>?_);refine fC (cs:=[_]) H wn rfl rfl rfl ?_;clear H;intro b3 a w hb3 H;refine kH H (Ra rfl (ak K1 rfl (SQ fun _ K2=>?_)));clear H K1;intro a H;obtain ⟨Ga,hma,zD,H⟩:=H.dM
 have q3:aI Ga b3 0=some (vi id):=by unfold aI;rw [zD];rfl
 refine kP H (SC (Rm rfl ?_));clear H;intro a H;refine pU H wn rfl rfl ?_;clear H;intro a H;refine s_call R3 H wn rfl (UM _ _ H.ro l (fun x=>decide (x.id=id)) _ _ (hv.mono hma) (fun x _=>acR q3 x)) rfl ?_;clear H;rintro v9 G9 a w rfl wJ H;refine kH H (aU K2 rfl (SR fun _ K3=>Rm rfl ?_));clear H K2;intro a H;refine JU H wn rfl rfl rfl ?_;clear H;intro a H;refine kH H (Rm rfl (Rc rfl (Ra rfl (ak K3 rfl ?_))));clear H K3;intro a H;refine bZ ?_;refine (eT H results134 (.cons (aR H rfl) (.cons (aR H rfl) .nil)) ?_).1;exact H.rt (by rw [← UR];rfl)
def CJ (l:List bG) (kind id:Int):Bool:=match IV l id with|some i=>decide ((l[i]?.map bG.kind)=some kind)|none=>false
theorem NP (G:GH) (w0:World) (hG:Hold G w0) (l:List bG) (kind id:Int) (v:aj) (hv:av G (.sl 6 (l.map bG.dat)) v) :
  Calls prog 114 #[v,vi kind,vi id] w0 (bD w0 G fun u G'=>u=.bool (CJ l kind id)):=by
 obtain ⟨A,c,rfl,hc1,hc2,-⟩:=hv.slice;rw [bT] at *;refine eN [(0,_),(1,_),(2,_)] func114 rfl ntmps114 rfl rfl hG ?_;intro a H;refine kP H (SR fun _ K1=>ak K1 rfl (SR fun _ K2=>Rm rfl (Rm rfl ?_)));clear H K1;intro a H;refine s_call aaM H wn rfl (acW _ _ H.ro l id _ hv) rfl ?_;clear H;rintro v12 Ai a w rfl Cu H;obtain ⟨o,ho⟩:∃ o,o=IV l id:=⟨_,rfl⟩;rw [← ho] at H;refine kH H (Rm rfl ?_);clear H;intro a H;(iterate 2 refine lQ H wn rfl rfl rfl ?_;clear H;intro a H);refine kH H (Ra rfl (ak K2 rfl (SR fun _ K3=>Rm rfl (Rm rfl (Sp 16 rfl ?_ ?_))))) <;> clear H K2
 ·intro h16 a H
  try have p16:=dT h16
  obtain ⟨i,rfl⟩:=Option.isSome_iff_exists.1 h16
  have hil:i < l.length:=by
   obtain ⟨hi,-⟩:=List.findIdx?_eq_some_iff_getElem.1 ho.symm;exact hi
  rw [show max (mZ (some i)) 0=(i:Int) by simp [mZ]] at H;obtain ⟨b,o',pA,pc,rfl,hrow,hp,hrep⟩:=zX (hv.mono Cu) hil;have r1:aI Ai b (o'+i*6+1)=some (vi l[i].kind):=hrow 1 _ rfl;refine kH H (YM h16 rfl (YM h16 rfl (YI mO jN h16 rfl rfl (YF vg h16 rfl (YR aD h16 rfl (by assumption) ?_)))));clear H;intro a H;refine kH H (YM h16 rfl (YC h16 rfl (Pt h16 rfl (ak K3 rfl ?_))));clear H K3;intro a H;refine lr H results114 rfl ?_
  first
   | exact H.rt (aG (by rw [CJ,← ho];dsimp only;rw [gM hil];simp))
   | exact H.rt (aG (by rw [CJ,← ho];cases o <;> simp_all))
 intro h16 a H
 try have p16:=dF h16
 refine kH H (aY h16 rfl (aP h16 rfl (aP h16 rfl (Pf h16 rfl (ak K3 rfl ?_)))));clear H K3;intro a H;refine lr H results114 rfl ?_
 first
  | exact H.rt (aG (by rw [CJ,← ho];dsimp only;rw [gM hil];simp))
  | exact H.rt (aG (by rw [CJ,← ho];cases o <;> simp_all))
end
section
open Go.RowKit
section
variable {N:Nat} {D:List Deferred} {w0:World} {F:Nat→Prop} {G0 G:GH} {L Li Lo:OL} {T:List (Nat × aj)}
variable {r:Option Nat} {P:Program} {ops:Array Oper} {Q:Exit→Act→World→Prop} {rest:List Oper} {a:Act} {w:World}
variable {d:Nat} {ty:TypeId} {pos:String} {aL:Array Edge} {g:Option (Nat × Bool)}
theorem Wo {t e:TypeId} {sz bytes:Nat} {zero:List aj} {agg:Bool} (hs:P.underlying t=some (.slice e)) (ht:Ty P e sz bytes zero agg) {x z:Operand} {A:Option Addr} {n c:Nat} (hi:Nat) {q:Int} (H:St N D w0 F G0 G L T a w)
  (hw:Region.wanted ⟨some d,.slice t x none (some z) none,ty,pos,aL,g⟩ (yielded ops a.tmps)=true) (hx:ev T x=some (.slice A n c)) (hz:ev T z=some (.int .i64 q)) (hq:q=(hi:Int)) (h2:hi≤c) (hd:Nat.blt d N=true)
  (k:∀ a',St N D w0 F G0 G L ((d,.slice A hi c) :: T) a' w→WL r P ops Q rest a' w):WL r P ops Q (⟨some d,.slice t x none (some z) none,ty,pos,aL,g⟩ :: rest) a w:=by
 subst hq
 refine fE (v:=.slice A hi c) (w':=w) hw rfl ?_ (k _ (H.put hd _ H.hp))
 simp [execOp,H.ev hx,H.ev hz,Instr.sliceAt,Instr.slice,Instr.sliceBounds,Instr.sliceBound,bV,lg hs,ht.zQ,asIntOf,h2]
 intro _
 cases A with
 | none=>rfl
 | some p=>simp [Addr.add]
end
end
section
open Go.RowKit
theorem Iy:∀ args w,(callFunc 131 args).run prog w=.ok (.enter 131 args) w:=enters func131 rfl (by kernel_rfl)
theorem aaK:∀ args w,(callFunc 132 args).run prog w=.ok (.enter 132 args) w:=enters func132 rfl (by kernel_rfl)
theorem SF:bM prog 181 5 5:=⟨by kernel_rfl⟩
theorem aaL:∀ args w,(callFunc 133 args).run prog w=.ok (.enter 133 args) w:=enters func133 rfl (by kernel_rfl)
theorem Sm:∀ args w,(callFunc 90 args).run prog w=.ok (.enter 90 args) w:=enters func90 rfl (by kernel_rfl)
theorem av.pre {G:GH} {sz:Nat} {rows:List (List Dat)} {A:Option Addr} {n c:Nat} (h:av G (.sl sz rows) (.slice A n c)) (k:Nat) (hk:k≤rows.length):av G (.sl sz (rows.take k)) (.slice A k c):=by
 have h:=h.part 0 k (iY _) hk
 have e:(if c=0 then A else A.map (·.add (0*sz)))=A:=by
  split
  ·rfl
  cases A <;> simp [Addr.add]
 rw [e] at h
 simpa using h
theorem aam (G:GH) (w0:World) (hG:Hold G w0) (kind:Int):Calls prog 133 #[vi kind] w0 (bD w0 G fun u G'=>u=vi (if kind=1 then 2 else 1)):=by
 refine eN [(0,_)] func133 rfl ntmps133 rfl rfl hG ?_;intro a H;refine kP H (SR fun _ K1=>ak K1 rfl (SQ fun _ K2=>SR fun _ K3=>Rm rfl (Rc rfl (Kz K3 (Cd rfl ?_ ?_))))) <;> clear H K1 K3
 ·intro h4 a H
  try have p4:=dT h4
  exact kP H (SR fun _ K4=>ak K4 rfl (LR results133 rfl fun H=>H.rt (by first|(rw [au (by omega)];done)|rw [ah (by omega)])))
 intro h4 a H
 try have p4:=dF h4
 exact kP H (Kc K2 (SR fun _ K5=>ak K5 rfl (LR results133 rfl fun H=>H.rt (by first|(rw [au (by omega)];done)|rw [ah (by omega)]))))
def vI (l:List bG) (k:Nat):Option Int:=if k=0 then none else l[k - 1]?.map bG.id
theorem JG {l:List bG} {k:Nat} (h:k=0):vI l k=none:=au h
def DN (k:Int):Bool:=decide (k=20) || decide (k=1)
def kC (q:Option Int) (dup:Bool) (s:bG):Int :=
 if s.id < 1∨1073741824 < s.id then 18 else if q=some s.id then 7 else if Eu q s.id=true then 6 else if s.kind≠1∧s.kind≠2 then 3 else if mg s.name=false then 13 else if dup=true then 7
 else if s.props.any (fun p=>DN p.key)=true then 4 else gq (if s.kind=1 then 2 else 1) s.props
def iy (l:List bG) (k:Nat) (s:bG):Int:=kC (vI l k) (Ay (l.take k) s.kind s.name).isSome s
set_option maxHeartbeats 1000000 in
theorem ags (G:GH) (w0:World) (hG:Hold G w0) (l:List bG) (k:Nat) (v:aj) (hv:av G (.sl 6 (l.map bG.dat)) v) (hk:k < l.length) (hs:l[k].name.size≤4611686018427387904) :
  Calls prog 113 #[v,vi k] w0 (bD w0 G fun u G'=>u=vi (iy l k l[k])):=by
 obtain ⟨A,c,rfl,hc1,hc2,-⟩:=hv.slice;have hml:maxLen=9223372036854775807:=rfl;rw [bT] at *;obtain ⟨b,o,pA,pc,rfl,hrow,hp,hrep⟩:=zX hv hk;obtain ⟨x,hx⟩:∃ x,x=l[k]:=⟨_,rfl⟩;rw [← hx] at hs hrow hp hrep ⊢;have hdp:∀ j v,[vi x.id,vi x.kind,.string x.name,vi x.base,vi x.next,.slice pA x.props.length pc][j]?=some v→aI G b (o+k*6+j)=some v:=hrow;obtain ⟨_,_,he0,akg,akh,-⟩:=hp.slice
 injection he0 with _ he1 he2
 rw [bT] at *;subst he2
 obtain ⟨pk,hpk⟩:∃ pk,0 < k→aI G b (o+(k - 1)*6+0)=some (vi pk)∧vI l k=some pk:=by
  by_cases h0:0 < k
  ·obtain ⟨b',o',_,_,he,hr',-,-⟩:=zX hv (show k - 1 < l.length by omega)
   injection he with he
   injection he with e1 e2 e3
   subst e1;subst e2;exact ⟨_,fun _=>⟨hr' 0 _ rfl,by rw [vI,ah (by omega),gM (by omega)];rfl⟩⟩
  exact ⟨0,fun h=>absurd h h0⟩
 refine eN [(0,_),(1,_)] func113 rfl ntmps113 rfl rfl hG ?_;intro a H;refine kP H (SR fun _ K1=>ak K1 rfl (SR fun _ K2=>Rm rfl (Rm rfl (Ri mO jN rfl rfl ?_))));clear H K1;intro a H;refine bJ jN (cs:=[_,_,_,_,_,_]) H wn rfl rfl (fun j v hj=>H.hp.aI (hrow j v hj)) rfl ?_;clear H;intro a H;refine eX jN H wn rfl ?_;clear H;intro b5 a w hb5 H;refine bE jN 0 (vs:=[_,_,_,_,_,_]) _ H wn rfl rfl rfl rfl rfl rfl rfl rfl ?_;clear H;intro w H;dsimp only [List.set,setRow] at H;refine K2 _ _ ?_;clear K2;refine sP (ι:=GH) (Tc:=[(0,_),(1,_),(5,_)]) (Lc:=[(_,_)]) (fun gh=>[]) (fun gh=>[]) (fun gh=>gh) (fun gh=>¬ (x.id < 1∨1073741824 < x.id)∧¬ vI l k=some x.id∧¬ Eu (vI l k) x.id=true∧¬ (x.kind≠1∧x.kind≠2)∧¬ mg x.name=false∧(∀ b o,G b=some o→gh b=some o)) (by exact (H).sub ⟨rfl,rfl,rfl,aF⟩) ?_ ?_
 ·skip;refine kP H (SB (SR fun _ K3=>aV sU aD 0 rfl rfl (Rc rfl (Rm rfl (Sp 18 rfl ?_ ?_))))) <;> clear H
  ·intro h18 a H
   try have vH:=dT h18
   refine kH H (aY h18 rfl (Pt h18 rfl (ak K3 rfl (Ct rfl rfl (SR fun _ K4=>ak K4 rfl ?_)))));clear H K3 K4;intro a H;refine lr H results113 rfl ?_
   first
    | exact H.rt (ay vi e0.symm)
    | exact H.rt (ay vi e4.symm)
    | exact H.rt (ay vi e7.symm)
    | exact H.rt (ay vi e13.symm)
    | exact H.rt (ay vi e3.symm)
    | exact H.rt (ay vi e6.symm)
    | exact H.rt (ay vi (by rw [iy,kC,au (by omega)]))
  intro h18 a H
  try have vH:=dF h18
  refine kH H (YF sU h18 rfl (YO aD 0 h18 rfl (YC h18 rfl (Pf h18 rfl (ak K3 rfl (Cd rfl ?_ ?_)))))) <;> clear H K3
  ·intro dP a H
   try have mo:=dT dP
   refine kP H (SR fun _ K5=>ak K5 rfl ?_);clear H K5;intro a H;refine lr H results113 rfl ?_
   first
    | exact H.rt (ay vi e0.symm)
    | exact H.rt (ay vi e4.symm)
    | exact H.rt (ay vi e7.symm)
    | exact H.rt (ay vi e13.symm)
    | exact H.rt (ay vi e3.symm)
    | exact H.rt (ay vi e6.symm)
    | exact H.rt (ay vi (by rw [iy,kC,au (by omega)]))
  intro dP a H
  try have mo:=dF dP
  refine bg (fun _ K6=>?_)
  by_cases c0:0 < (k:Int)
  ·skip
   by_cases c1:x.id=pk
   ·skip;refine dI hmx [[],[0],[0,1],[0,1,2],(ra 0 4),[0,1,2],[0,1,2],[0,1,2,6],[0,1,2,5,6,7],[0,1,2,5,6,7,8],[0,1,2,5,6,7,8,9],(ra 0 11),(ra 0 12),(ra 0 13)] [13] (by kernel_rfl) [_,_,_,_,vi x.id,_,_,vi ((k - 1:Nat):Int),_,_,_,_,_] H (aB (Z0 rfl (Rm rfl)) (Z1 0 24 rfl (Rc rfl)) (Z1 1 25 rfl (Rm rfl)) (Z1 2 26 rfl (YF sU (aC c0) rfl)) (aB (Z2 3 27 2 26 rfl (YO aD 0 (aC c0) rfl)) (Z1 2 26 rfl (YM (aC c0) rfl)) (Z1 2 26 rfl (YM (aC c0) rfl)) ?_ (aB (Z3 5 29 7 31 2 26 rfl (YI mO jN (aC c0) rfl rfl)) (Z2 8 32 2 26 rfl (YF sU (aC c0) rfl)) (X2 9 33 2 26 rfl fun hG=>YR aD (aC c0) rfl (aK hG (hpk (by omega)).1)) (Z3 4 28 10 34 2 26 rfl (YC (aC c0) rfl)) (aW (Z2 2 26 11 35 rfl (Pt (aC c0) rfl)) (aW (bH rfl) bW))))) ?_
    ·refine cB 6 30 2 26 rfl rfl fun _ a w G1 hG HT H fin=>?_;refine mq _ H (wg H rfl rfl (aC c0)) rfl rfl rfl (by omega) (by omega) rfl ?_;clear H;intro a H;exact fin H iJ (by show _=_;first|rfl|exact ay vi (by omega))
    clear H;intro a w G vE H hv;have H:=H.aS (hv 12 36 rfl rfl) rfl;clear hv;refine kH H (Ra rfl ?_);clear H;intro a H;refine aH ⟨rfl,?_⟩;refine K6 _ _ ?_;clear K6;refine uf H rfl (aC c1) ?_;refine bg (fun _ K7=>?_)
    have e7:iy l k x=7:=by rw [iy,kC,ah (by omega),au (by rw [(hpk (by omega)).2,c1])]
    refine kP H (SC (aU K7 rfl ?_));clear H K7;intro a H;refine lr H results113 rfl ?_
    first
     | exact H.rt (ay vi e0.symm)
     | exact H.rt (ay vi e4.symm)
     | exact H.rt (ay vi e7.symm)
     | exact H.rt (ay vi e13.symm)
     | exact H.rt (ay vi e3.symm)
     | exact H.rt (ay vi e6.symm)
     | exact H.rt (ay vi (by rw [iy,kC,au (by omega)]))
   skip;refine dI hmx [[],[0],[0,1],[0,1,2],(ra 0 4),[0,1,2],[0,1,2],[0,1,2,6],[0,1,2,5,6,7],[0,1,2,5,6,7,8],[0,1,2,5,6,7,8,9],(ra 0 11),(ra 0 12),(ra 0 13)] [13] (by kernel_rfl) [_,_,_,_,vi x.id,_,_,vi ((k - 1:Nat):Int),_,_,_,_,_] H (aB (Z0 rfl (Rm rfl)) (Z1 0 24 rfl (Rc rfl)) (Z1 1 25 rfl (Rm rfl)) (Z1 2 26 rfl (YF sU (aC c0) rfl)) (aB (Z2 3 27 2 26 rfl (YO aD 0 (aC c0) rfl)) (Z1 2 26 rfl (YM (aC c0) rfl)) (Z1 2 26 rfl (YM (aC c0) rfl)) ?_ (aB (Z3 5 29 7 31 2 26 rfl (YI mO jN (aC c0) rfl rfl)) (Z2 8 32 2 26 rfl (YF sU (aC c0) rfl)) (X2 9 33 2 26 rfl fun hG=>YR aD (aC c0) rfl (aK hG (hpk (by omega)).1)) (Z3 4 28 10 34 2 26 rfl (YC (aC c0) rfl)) (aW (Z2 2 26 11 35 rfl (Pt (aC c0) rfl)) (aW (bH rfl) bW))))) ?_
   ·refine cB 6 30 2 26 rfl rfl fun _ a w G1 hG HT H fin=>?_;refine mq _ H (wg H rfl rfl (aC c0)) rfl rfl rfl (by omega) (by omega) rfl ?_;clear H;intro a H;exact fin H iJ (by show _=_;first|rfl|exact ay vi (by omega))
   clear H;intro a w G vE H hv;have H:=H.aS (hv 12 36 rfl rfl) rfl;clear hv;refine kH H (Ra rfl ?_);clear H;intro a H;refine aH ⟨rfl,?_⟩;refine K6 _ _ ?_;clear K6;refine lF H rfl (aM c1) ?_;refine bg (fun _ K8=>?_)
   have q1:¬ (0 < (k:Int)∧x.id=pk):=by first|exact fun h=>c1 h.2|exact fun h=>c0 h.1
   have q1':¬ vI l k=some x.id:=fun h=>q1 (by
    by_cases h0:0 < k
    ·rw [(hpk h0).2] at h
     injection h with h
     exact ⟨by omega,h.symm⟩
    rw [JG (by omega)] at h
    cases h)
   by_cases c3:x.id < pk
   ·skip;refine dI hmx [[],[0],[0,1],[0,1,2],(ra 0 4),[0,1,2],[0,1,2],[0,1,2,6],[0,1,2,5,6,7],[0,1,2,5,6,7,8],[0,1,2,5,6,7,8,9],(ra 0 11),(ra 0 12),(ra 0 13)] [13] (by kernel_rfl) [_,_,_,_,vi x.id,_,_,vi ((k - 1:Nat):Int),_,_,_,_,_] H (aB (Z0 rfl (Rm rfl)) (Z1 0 38 rfl (Rc rfl)) (Z1 1 39 rfl (Rm rfl)) (Z1 2 40 rfl (YF sU (aC c0) rfl)) (aB (Z2 3 41 2 40 rfl (YO aD 0 (aC c0) rfl)) (Z1 2 40 rfl (YM (aC c0) rfl)) (Z1 2 40 rfl (YM (aC c0) rfl)) ?_ (aB (Z3 5 43 7 45 2 40 rfl (YI mO jN (aC c0) rfl rfl)) (Z2 8 46 2 40 rfl (YF sU (aC c0) rfl)) (X2 9 47 2 40 rfl fun hG=>YR aD (aC c0) rfl (aK hG (aK vE (hpk (by omega)).1))) (Z3 4 42 10 48 2 40 rfl (YC (aC c0) rfl)) (aW (Z2 2 40 11 49 rfl (Pt (aC c0) rfl)) (aW (bH rfl) bW))))) ?_
    ·refine cB 6 44 2 40 rfl rfl fun _ a w G1 hG HT H fin=>?_;refine mq _ H (wg H rfl rfl (aC c0)) rfl rfl rfl (by omega) (by omega) rfl ?_;clear H;intro a H;exact fin H iJ (by show _=_;first|rfl|exact ay vi (by omega))
    clear H;intro a w G iV H hv;have H:=H.aS (hv 12 50 rfl rfl) rfl;clear hv;refine kH H (Ra rfl ?_);clear H;intro a H;refine aH ⟨rfl,?_⟩;refine K8 _ _ ?_;clear K8;refine uf H rfl (aC c3) ?_;refine bg (fun _ K9=>?_)
    have e6:iy l k x=6:=by rw [iy,kC,ah (by omega),ah q1',au (by rw [(hpk (by omega)).2];exact aC c3)]
    refine kP H (SC (aU K9 rfl ?_));clear H K9;intro a H;refine lr H results113 rfl ?_
    first
     | exact H.rt (ay vi e0.symm)
     | exact H.rt (ay vi e4.symm)
     | exact H.rt (ay vi e7.symm)
     | exact H.rt (ay vi e13.symm)
     | exact H.rt (ay vi e3.symm)
     | exact H.rt (ay vi e6.symm)
     | exact H.rt (ay vi (by rw [iy,kC,au (by omega)]))
   skip;refine dI hmx [[],[0],[0,1],[0,1,2],(ra 0 4),[0,1,2],[0,1,2],[0,1,2,6],[0,1,2,5,6,7],[0,1,2,5,6,7,8],[0,1,2,5,6,7,8,9],(ra 0 11),(ra 0 12),(ra 0 13)] [13] (by kernel_rfl) [_,_,_,_,vi x.id,_,_,vi ((k - 1:Nat):Int),_,_,_,_,_] H (aB (Z0 rfl (Rm rfl)) (Z1 0 38 rfl (Rc rfl)) (Z1 1 39 rfl (Rm rfl)) (Z1 2 40 rfl (YF sU (aC c0) rfl)) (aB (Z2 3 41 2 40 rfl (YO aD 0 (aC c0) rfl)) (Z1 2 40 rfl (YM (aC c0) rfl)) (Z1 2 40 rfl (YM (aC c0) rfl)) ?_ (aB (Z3 5 43 7 45 2 40 rfl (YI mO jN (aC c0) rfl rfl)) (Z2 8 46 2 40 rfl (YF sU (aC c0) rfl)) (X2 9 47 2 40 rfl fun hG=>YR aD (aC c0) rfl (aK hG (aK vE (hpk (by omega)).1))) (Z3 4 42 10 48 2 40 rfl (YC (aC c0) rfl)) (aW (Z2 2 40 11 49 rfl (Pt (aC c0) rfl)) (aW (bH rfl) bW))))) ?_
   ·refine cB 6 44 2 40 rfl rfl fun _ a w G1 hG HT H fin=>?_;refine mq _ H (wg H rfl rfl (aC c0)) rfl rfl rfl (by omega) (by omega) rfl ?_;clear H;intro a H;exact fin H iJ (by show _=_;first|rfl|exact ay vi (by omega))
   clear H;intro a w G iV H hv;have H:=H.aS (hv 12 50 rfl rfl) rfl;clear hv;refine kH H (Ra rfl ?_);clear H;intro a H;refine aH ⟨rfl,?_⟩;refine K8 _ _ ?_;clear K8;refine lF H rfl (aM c3) ?_;refine bg (fun _ aT=>?_)
   have q2:¬ (0 < (k:Int)∧x.id < pk):=by first|exact fun h=>c3 h.2|exact fun h=>c0 h.1
   have q2':¬ Eu (vI l k) x.id=true:=fun h=>q2 (by
    by_cases h0:0 < k
    ·rw [(hpk h0).2] at h;exact ⟨by omega,qg h⟩
    rw [JG (by omega)] at h
    cases h)
   refine kP H (SC (aV vg aD 0 rfl rfl (Rc rfl (Rm rfl (Sp 55 rfl ?_ ?_))))) <;> clear H
   ·intro jL a H
    try have p55:=dT jL
    refine kH H (YF vg jL rfl (YO aD 0 jL rfl (YC jL rfl (Pt jL rfl (aU aT rfl (Cd rfl ?_ ?_)))))) <;> clear H aT
    ·intro jq a H
     try have p51:=dT jq
     refine bg (fun _ bC=>?_)
     have e3:iy l k x=3:=by rw [iy,kC,ah (by omega),ah q1',ah q2',au (by omega)]
     refine kP H (SC (aU bC rfl ?_));clear H bC;intro a H;refine lr H results113 rfl ?_
     first
      | exact H.rt (ay vi e0.symm)
      | exact H.rt (ay vi e4.symm)
      | exact H.rt (ay vi e7.symm)
      | exact H.rt (ay vi e13.symm)
      | exact H.rt (ay vi e3.symm)
      | exact H.rt (ay vi e6.symm)
      | exact H.rt (ay vi (by rw [iy,kC,au (by omega)]))
    intro jq a H
    try have p51:=dF jq
    refine kP H (SR fun _ bF=>aV DZ gG 0 rfl rfl ?_);clear H;intro a H;refine s_call Iy H wn rfl (Jv _ _ H.ro x.name hs) rfl ?_;clear H;rintro v63 BH a w rfl hm63 H;refine kH H (Rn rfl (ak bF rfl (Cd rfl ?_ ?_))) <;> clear H bF
    ·intro iU a H
     try have p60:=dT iU
     refine bg (fun _ bN=>?_)
     have e13:iy l k x=13:=by rw [iy,kC,ah (by omega),ah q1',ah q2',ah (by omega),au (by simpa using iU)]
     refine kP H (SC (aU bN rfl ?_));clear H bN;intro a H;refine lr H results113 rfl ?_
     first
      | exact H.rt (ay vi e0.symm)
      | exact H.rt (ay vi e4.symm)
      | exact H.rt (ay vi e7.symm)
      | exact H.rt (ay vi e13.symm)
      | exact H.rt (ay vi e3.symm)
      | exact H.rt (ay vi e6.symm)
      | exact H.rt (ay vi (by rw [iy,kC,au (by omega)]))
    intro iU a H
    try have p60:=dF iU
    refine gI ?_;refine ⟨BH,by exact (H).sub ⟨rfl,rfl,rfl,aF⟩,?_⟩;exact ⟨by omega,q1',q2',by omega,by simpa using iU,fun b o h=>hm63 b o (iV b o (vE b o h))⟩
   intro jL a H
   try have p55:=dF jL
   refine kH H (aY jL rfl (Pf jL rfl (aU aT rfl (Cf rfl rfl (SR fun _ bQ=>aV DZ gG 0 rfl rfl ?_)))));clear H aT;intro a H;refine s_call Iy H wn rfl (Jv _ _ H.ro x.name hs) rfl ?_;clear H;rintro v63 BH a w rfl hm63 H;refine kH H (Rn rfl (ak bQ rfl (Cd rfl ?_ ?_))) <;> clear H bQ
   ·intro iU a H
    try have p60:=dT iU
    refine bg (fun _ dJ=>?_)
    have e13:iy l k x=13:=by rw [iy,kC,ah (by omega),ah q1',ah q2',ah (by omega),au (by simpa using iU)]
    refine kP H (SC (aU dJ rfl ?_));clear H dJ;intro a H;refine lr H results113 rfl ?_
    first
     | exact H.rt (ay vi e0.symm)
     | exact H.rt (ay vi e4.symm)
     | exact H.rt (ay vi e7.symm)
     | exact H.rt (ay vi e13.symm)
     | exact H.rt (ay vi e3.symm)
     | exact H.rt (ay vi e6.symm)
     | exact H.rt (ay vi (by rw [iy,kC,au (by omega)]))
   intro iU a H
   try have p60:=dF iU
   refine gI ?_;refine ⟨BH,by exact (H).sub ⟨rfl,rfl,rfl,aF⟩,?_⟩;exact ⟨by omega,q1',q2',by omega,by simpa using iU,fun b o h=>hm63 b o (iV b o (vE b o h))⟩
  skip;refine dI hmx [[],[0],[0,1],[0,1,2],(ra 0 4),[0,1,2],[0,1,2],[0,1,2,6],[0,1,2,5,6,7],[0,1,2,5,6,7,8],[0,1,2,5,6,7,8,9],(ra 0 11),(ra 0 12),(ra 0 13)] [13] (by kernel_rfl) [_,_,_,undef,undef,undef,undef,undef,undef,undef,undef,undef,_] H (aB (Z0 rfl (Rm rfl)) (Z1 0 24 rfl (Rc rfl)) (Z1 1 25 rfl (Rm rfl)) (aN (j:=2) (by kernel_rfl) (fun _ _ _ _ _ h=>h) rfl rfl rfl rfl rfl (fun _ _ h=>aO h (aG (aM c0))) rfl (fun _=>rfl)) (aB (aN (j:=2) (by kernel_rfl) (fun _ _ _ _ _ h=>h) rfl rfl rfl rfl rfl (fun _ _ h=>aO h (aG (aM c0))) rfl (fun _=>rfl)) (aN (j:=2) (by kernel_rfl) (fun _ _ _ _ _ h=>h) rfl rfl rfl rfl rfl (fun _ _ h=>aO h (aG (aM c0))) rfl (fun _=>rfl)) (aN (j:=2) (by kernel_rfl) (fun _ _ _ _ _ h=>h) rfl rfl rfl rfl rfl (fun _ _ h=>aO h (aG (aM c0))) rfl (fun _=>rfl)) (aN (j:=2) (by kernel_rfl) (fun _ _ _ _ _ h=>h) rfl rfl rfl rfl rfl (fun _ _ h=>aO h (aG (aM c0))) rfl (fun _=>rfl)) (aB (aN (j:=2) (by kernel_rfl) (fun _ _ _ _ _ h=>h) rfl rfl rfl rfl rfl (fun _ _ h=>aO h (aG (aM c0))) rfl (fun _=>rfl)) (aN (j:=2) (by kernel_rfl) (fun _ _ _ _ _ h=>h) rfl rfl rfl rfl rfl (fun _ _ h=>aO h (aG (aM c0))) rfl (fun _=>rfl)) (aN (j:=2) (by kernel_rfl) (fun _ _ _ _ _ h=>h) rfl rfl rfl rfl rfl (fun _ _ h=>aO h (aG (aM c0))) rfl (fun _=>rfl)) (aN (j:=2) (by kernel_rfl) (fun _ _ _ _ _ h=>h) rfl rfl rfl rfl rfl (fun _ _ h=>aO h (aG (aM c0))) rfl (fun _=>rfl)) (aW (Z2 2 26 11 35 rfl (Pf (aM c0) rfl)) (aW (bH rfl) bW))))) ?_
  clear H;intro a w G vE H hv;have H:=H.aS (hv 12 36 rfl rfl) rfl;clear hv;refine kH H (Ra rfl ?_);clear H;intro a H;refine aH ⟨rfl,?_⟩;refine K6 _ _ ?_;clear K6;refine lF H rfl rfl ?_;refine bg (fun _ dG=>?_)
  have q1:¬ (0 < (k:Int)∧x.id=pk):=by first|exact fun h=>c1 h.2|exact fun h=>c0 h.1
  have q1':¬ vI l k=some x.id:=fun h=>q1 (by
   by_cases h0:0 < k
   ·rw [(hpk h0).2] at h
    injection h with h
    exact ⟨by omega,h.symm⟩
   rw [JG (by omega)] at h
   cases h)
  refine dI hmx [[],[0],[0,1],[0,1,2],(ra 0 4),[0,1,2],[0,1,2],[0,1,2,6],[0,1,2,5,6,7],[0,1,2,5,6,7,8],[0,1,2,5,6,7,8,9],(ra 0 11),(ra 0 12),(ra 0 13)] [13] (by kernel_rfl) [_,_,_,undef,undef,undef,undef,undef,undef,undef,undef,undef,_] H (aB (Z0 rfl (Rm rfl)) (Z1 0 38 rfl (Rc rfl)) (Z1 1 39 rfl (Rm rfl)) (aN (j:=2) (by kernel_rfl) (fun _ _ _ _ _ h=>h) rfl rfl rfl rfl rfl (fun _ _ h=>aO h (aG (aM c0))) rfl (fun _=>rfl)) (aB (aN (j:=2) (by kernel_rfl) (fun _ _ _ _ _ h=>h) rfl rfl rfl rfl rfl (fun _ _ h=>aO h (aG (aM c0))) rfl (fun _=>rfl)) (aN (j:=2) (by kernel_rfl) (fun _ _ _ _ _ h=>h) rfl rfl rfl rfl rfl (fun _ _ h=>aO h (aG (aM c0))) rfl (fun _=>rfl)) (aN (j:=2) (by kernel_rfl) (fun _ _ _ _ _ h=>h) rfl rfl rfl rfl rfl (fun _ _ h=>aO h (aG (aM c0))) rfl (fun _=>rfl)) (aN (j:=2) (by kernel_rfl) (fun _ _ _ _ _ h=>h) rfl rfl rfl rfl rfl (fun _ _ h=>aO h (aG (aM c0))) rfl (fun _=>rfl)) (aB (aN (j:=2) (by kernel_rfl) (fun _ _ _ _ _ h=>h) rfl rfl rfl rfl rfl (fun _ _ h=>aO h (aG (aM c0))) rfl (fun _=>rfl)) (aN (j:=2) (by kernel_rfl) (fun _ _ _ _ _ h=>h) rfl rfl rfl rfl rfl (fun _ _ h=>aO h (aG (aM c0))) rfl (fun _=>rfl)) (aN (j:=2) (by kernel_rfl) (fun _ _ _ _ _ h=>h) rfl rfl rfl rfl rfl (fun _ _ h=>aO h (aG (aM c0))) rfl (fun _=>rfl)) (aN (j:=2) (by kernel_rfl) (fun _ _ _ _ _ h=>h) rfl rfl rfl rfl rfl (fun _ _ h=>aO h (aG (aM c0))) rfl (fun _=>rfl)) (aW (Z2 2 40 11 49 rfl (Pf (aM c0) rfl)) (aW (bH rfl) bW))))) ?_
  clear H;intro a w G iV H hv;have H:=H.aS (hv 12 50 rfl rfl) rfl;clear hv;refine kH H (Ra rfl ?_);clear H;intro a H;refine aH ⟨rfl,?_⟩;refine dG _ _ ?_;clear dG;refine lF H rfl rfl ?_;refine bg (fun _ dh=>?_)
  have q2:¬ (0 < (k:Int)∧x.id < pk):=by first|exact fun h=>c3 h.2|exact fun h=>c0 h.1
  have q2':¬ Eu (vI l k) x.id=true:=fun h=>q2 (by
   by_cases h0:0 < k
   ·rw [(hpk h0).2] at h;exact ⟨by omega,qg h⟩
   rw [JG (by omega)] at h
   cases h)
  refine kP H (SC (aV vg aD 0 rfl rfl (Rc rfl (Rm rfl (Sp 55 rfl ?_ ?_))))) <;> clear H
  ·intro jL a H
   try have p55:=dT jL
   refine kH H (YF vg jL rfl (YO aD 0 jL rfl (YC jL rfl (Pt jL rfl (aU dh rfl (Cd rfl ?_ ?_)))))) <;> clear H dh
   ·intro jq a H
    try have p51:=dT jq
    refine bg (fun _ dX=>?_)
    have e3:iy l k x=3:=by rw [iy,kC,ah (by omega),ah q1',ah q2',au (by omega)]
    refine kP H (SC (aU dX rfl ?_));clear H dX;intro a H;refine lr H results113 rfl ?_
    first
     | exact H.rt (ay vi e0.symm)
     | exact H.rt (ay vi e4.symm)
     | exact H.rt (ay vi e7.symm)
     | exact H.rt (ay vi e13.symm)
     | exact H.rt (ay vi e3.symm)
     | exact H.rt (ay vi e6.symm)
     | exact H.rt (ay vi (by rw [iy,kC,au (by omega)]))
   intro jq a H
   try have p51:=dF jq
   refine kP H (SR fun _ gy=>aV DZ gG 0 rfl rfl ?_);clear H;intro a H;refine s_call Iy H wn rfl (Jv _ _ H.ro x.name hs) rfl ?_;clear H;rintro v63 BH a w rfl hm63 H;refine kH H (Rn rfl (ak gy rfl (Cd rfl ?_ ?_))) <;> clear H gy
   ·intro iU a H
    try have p60:=dT iU
    refine bg (fun _ eY=>?_)
    have e13:iy l k x=13:=by rw [iy,kC,ah (by omega),ah q1',ah q2',ah (by omega),au (by simpa using iU)]
    refine kP H (SC (aU eY rfl ?_));clear H eY;intro a H;refine lr H results113 rfl ?_
    first
     | exact H.rt (ay vi e0.symm)
     | exact H.rt (ay vi e4.symm)
     | exact H.rt (ay vi e7.symm)
     | exact H.rt (ay vi e13.symm)
     | exact H.rt (ay vi e3.symm)
     | exact H.rt (ay vi e6.symm)
     | exact H.rt (ay vi (by rw [iy,kC,au (by omega)]))
   intro iU a H
   try have p60:=dF iU
   refine gI ?_;refine ⟨BH,by exact (H).sub ⟨rfl,rfl,rfl,aF⟩,?_⟩;exact ⟨by omega,q1',q2',by omega,by simpa using iU,fun b o h=>hm63 b o (iV b o (vE b o h))⟩
  intro jL a H
  try have p55:=dF jL
  refine kH H (aY jL rfl (Pf jL rfl (aU dh rfl (Cf rfl rfl (SR fun _ gD=>aV DZ gG 0 rfl rfl ?_)))));clear H dh;intro a H;refine s_call Iy H wn rfl (Jv _ _ H.ro x.name hs) rfl ?_;clear H;rintro v63 BH a w rfl hm63 H;refine kH H (Rn rfl (ak gD rfl (Cd rfl ?_ ?_))) <;> clear H gD
  ·intro iU a H
   try have p60:=dT iU
   refine bg (fun _ ig=>?_)
   have e13:iy l k x=13:=by rw [iy,kC,ah (by omega),ah q1',ah q2',ah (by omega),au (by simpa using iU)]
   refine kP H (SC (aU ig rfl ?_));clear H ig;intro a H;refine lr H results113 rfl ?_
   first
    | exact H.rt (ay vi e0.symm)
    | exact H.rt (ay vi e4.symm)
    | exact H.rt (ay vi e7.symm)
    | exact H.rt (ay vi e13.symm)
    | exact H.rt (ay vi e3.symm)
    | exact H.rt (ay vi e6.symm)
    | exact H.rt (ay vi (by rw [iy,kC,au (by omega)]))
  intro iU a H
  try have p60:=dF iU
  refine gI ?_;refine ⟨BH,by exact (H).sub ⟨rfl,rfl,rfl,aF⟩,?_⟩;exact ⟨by omega,q1',q2',by omega,by simpa using iU,fun b o h=>hm63 b o (iV b o (vE b o h))⟩
 clear H;intro gh a w hI H;obtain ⟨g,hgh⟩:∃ x,x=gh:=⟨_,rfl⟩;subst hgh;obtain ⟨q0,q1',q2',q3,q4,hgm⟩:=hI;dsimp only [lca,bq] at H;refine bg (fun _ jF=>?_);refine bg (fun _ iW=>?_);have Uv:=(hv.mono hgm).pre k (by rw [bT];omega);rw [← List.map_take] at Uv;have aeJ:=hp.mono hgm;refine dI hmx [[],[],[0,1],[],[3],[],[5],(ra 0 7),(ra 0 8),(ra 0 9),(ra 0 9),(ra 0 10),(ra 0 12)] [12] (by kernel_rfl) [_,_,.slice (some ⟨b,o,none⟩) k c,_,vi x.kind,_,.string x.name,.tuple #[vi (max (mZ (Ay (l.take k) x.kind x.name)) 0),.bool (Ay (l.take k) x.kind x.name).isSome],_,vi (max (mZ (Ay (l.take k) x.kind x.name)) 0),.bool (Ay (l.take k) x.kind x.name).isSome,_] H (aB (Z0 rfl (Rm rfl)) (Z0 rfl (Rm rfl)) ?_ (Z0 rfl (Rf vg rfl)) (aB (Z1 3 69 rfl (Ro aD 0 rfl)) (Z0 rfl (Rf DZ rfl)) (Z1 5 71 rfl (Ro gG 0 rfl)) ?_ (aB (Z1 7 73 rfl (Rm rfl)) ?_ ?_ (Z1 9 74 rfl (Ra rfl)) (aW (bH rfl) bW)))) ?_
 ·refine cB 0 66 1 67 rfl rfl fun _ a w G1 hG HT H fin=>?_;refine Wo mO jN k H wn rfl rfl rfl (by omega) rfl ?_;clear H;intro a H;exact fin H iJ rfl
 ·refine mR 2 68 4 70 6 72 rfl rfl fun _ a w G1 hG HT H fin=>?_;refine s_call aaK H wn rfl (acT _ _ H.ro (l.take k) x.kind x.name _ (Uv.mono hG)) rfl ?_;clear H;rintro v73 G73 a w rfl ady H;exact fin H ady (rfl)
 ·refine dw 8 65 rfl rfl fun _ a w G1 hG HT H fin=>?_;refine lQ H wn rfl rfl rfl ?_;clear H;intro a H;exact fin H iJ rfl
 ·refine dw 8 65 rfl rfl fun _ a w G1 hG HT H fin=>?_;refine lQ H wn rfl rfl rfl ?_;clear H;intro a H;exact fin H iJ rfl
 clear H;intro a w G pF H hv;have H:=H.aS (hv 10 75 rfl rfl) rfl;clear hv;refine kH H (Ra rfl ?_);clear H;intro a H;refine aH ⟨rfl,?_⟩;refine iW _ _ ?_;clear iW;refine kP H (SR fun _ jd=>Rm rfl (Kz jd (Cd rfl ?_ ?_))) <;> clear H jd
 ·intro zu a H
  try have Og:=dT zu
  refine bg (fun _ jP=>?_)
  have e7:iy l k x=7:=by rw [iy,kC,ah (by omega),ah q1',ah q2',ah q3,ah q4,au zu]
  refine kP H (SC (aU jP rfl ?_));clear H jP;intro a H;refine lr H results113 rfl ?_
  first
   | exact H.rt (ay vi e0.symm)
   | exact H.rt (ay vi e4.symm)
   | exact H.rt (ay vi e7.symm)
   | exact H.rt (ay vi e13.symm)
   | exact H.rt (ay vi e3.symm)
   | exact H.rt (ay vi e6.symm)
   | exact H.rt (ay vi (by rw [iy,kC,au (by omega)]))
 intro zu a H
 try have Og:=dF zu
 refine kP H (Kc jF (SQ fun _ jQ=>SQ fun _ iL=>?_));clear H jF;intro a H
 have q5:¬ (Ay (l.take k) x.kind x.name).isSome=true:=by simpa using zu
 have Bc:=aeJ.mono pF;refine kP H (SC (aV SF Ab 0 rfl rfl (Rl og rfl (Rm rfl (Kn iL (SB ?_))))));clear H iL;intro a H;skip;refine fH (ι:=Nat) (Tc:=[(5,_),(78,_),(79,_)]) (Lc:=[(_,_)]) (fun gh=>[(80,vi gh)]) (fun gh=>[]) (fun gh=>G) (fun gh=>gh≤x.props.length∧(x.props.take gh).any (fun p=>DN p.key)=false) (fun gh=>x.props.length - gh) (0) (by exact (H).sub ⟨rfl,rfl,rfl,rfl,aF⟩) ?_ ?_
 ·exact ⟨iY _,rfl⟩
 clear H;intro gh a w hI H;obtain ⟨n,hgh⟩:∃ x,x=gh:=⟨_,rfl⟩;subst hgh;obtain ⟨hn,hno⟩:=hI;dsimp only [lca,bq] at H;refine kP H (SR fun _ mQ=>Rc rfl (Kz mQ (SQ fun _ om=>Cd rfl ?_ ?_))) <;> clear H mQ
 ·intro MB a H
  try have p81:=dT MB
  have hn2:n < x.props.length:=by omega
  obtain ⟨pb,po,rfl,hrow2⟩:=JH Bc hn2;have hrow:=hrow2;refine kP H (Kc om (SQ fun _ oV=>SB (SR fun _ pY=>Ri og mJ rfl rfl ?_)));clear H om;intro a H;refine bJ mJ (cs:=[_,_]) H wn rfl rfl (fun j v hj=>H.hp.aI (hrow j v hj)) rfl ?_;clear H;intro a H;refine eX mJ H wn rfl ?_;clear H;intro b9 a w xR H;refine bE mJ 0 (vs:=[_,_]) _ H wn rfl rfl rfl rfl rfl rfl rfl rfl ?_;clear H;intro w H;dsimp only [List.set,setRow] at H;refine pY _ _ ?_;clear pY;refine kP H (SR fun _ oW=>aV uo aD 0 rfl rfl (Rc rfl (Rm rfl (Sp 87 rfl ?_ ?_)))) <;> clear H
  ·intro h87 a H
   try have Oj:=dT h87
   refine kH H (aY h87 rfl (Pt h87 rfl (Kz oW (Ct rfl rfl (SQ fun _ rz=>?_)))));clear H oW;intro a H
   have e4:iy l k x=4:=by
    rw [iy,kC,ah (by omega),ah q1',ah q2',ah q3,ah q4,ah q5,au];rw [List.any_eq_true];exact ⟨x.props[n],jo hn2,by simp [DN];omega⟩
   refine kP H (SC (aU rz rfl ?_));clear H rz;intro a H;refine lr H results113 rfl ?_
   first
    | exact H.rt (ay vi e0.symm)
    | exact H.rt (ay vi e4.symm)
    | exact H.rt (ay vi e7.symm)
    | exact H.rt (ay vi e13.symm)
    | exact H.rt (ay vi e3.symm)
    | exact H.rt (ay vi e6.symm)
    | exact H.rt (ay vi (by rw [iy,kC,au (by omega)]))
  intro h87 a H
  try have Oj:=dF h87
  refine kH H (YF uo h87 rfl (YO aD 0 h87 rfl (YC h87 rfl (Pf h87 rfl (Kz oW (Cd rfl ?_ ?_)))))) <;> clear H oW
  ·intro ME a H
   try have p91:=dT ME
   refine bg (fun _ tV=>?_)
   have e4:iy l k x=4:=by
    rw [iy,kC,ah (by omega),ah q1',ah q2',ah q3,ah q4,ah q5,au];rw [List.any_eq_true];exact ⟨x.props[n],jo hn2,by simp [DN];omega⟩
   refine kP H (SC (aU tV rfl ?_));clear H tV;intro a H;refine lr H results113 rfl ?_
   first
    | exact H.rt (ay vi e0.symm)
    | exact H.rt (ay vi e4.symm)
    | exact H.rt (ay vi e7.symm)
    | exact H.rt (ay vi e13.symm)
    | exact H.rt (ay vi e3.symm)
    | exact H.rt (ay vi e6.symm)
    | exact H.rt (ay vi (by rw [iy,kC,au (by omega)]))
  intro ME a H
  try have p91:=dF ME
  refine kP H (Kc oV (SC (Rd rfl (Rm rfl ?_))));clear H oV;intro a H;refine aH ?_;refine dD ((n+1)) (by exact (H.dU (Pl:=[_,_]) (dx:=[_]) [1] (by decide) rfl).sub ⟨rfl,rfl,rfl,rfl,aF⟩) ?_ ?_
  ·exact ⟨by omega,by rw [jB hn2,List.any_append,hno];simp [DN];omega⟩
  first|omega|(dsimp only;omega)
 intro MB a H
 try have p81:=dF MB
 refine dV ?_;refine jQ _ _ ?_;clear jQ;refine bg (fun _ qD=>?_)
 have q6:¬ x.props.any (fun p=>DN p.key)=true:=by
  rw [show x.props.take n=x.props from jH (by omega)] at hno;rw [hno];decide
 have e0:iy l k x=gq (if x.kind=1 then 2 else 1) x.props:=by rw [iy,kC,ah (by omega),ah q1',ah q2',ah q3,ah q4,ah q5,ah q6]
 refine dI hmx [[],[0],[0,1],[],[3],(ra 0 5),(ra 0 6)] [5,6] (by kernel_rfl) [_,vi x.kind,vi (if x.kind=1 then 2 else 1),_,.slice pA x.props.length pc] H (aB (Z0 rfl (Rf vg rfl)) (Z1 0 93 rfl (Ro aD 0 rfl)) ?_ (Z0 rfl (Rf SF rfl)) (aW (Z1 3 96 rfl (Ro Ab 0 rfl)) (aW (bH rfl) (aW (bH rfl) bW)))) ?_
 ·refine dw 1 94 rfl rfl fun _ a w G1 hG HT H fin=>?_;refine s_call aaL H wn rfl (aam _ _ H.ro x.kind) rfl ?_;clear H;rintro v95 G95 a w rfl adA H;exact fin H adA (rfl)
 clear H;intro a w G Eb H hv;have H:=H.aS (hv 2 95 rfl rfl) rfl;have H:=H.aS (hv 4 97 rfl rfl) rfl;clear hv;refine s_call Sm H wn rfl (VJ _ _ H.ro _ x.props _ (Bc.mono Eb)) rfl ?_;clear H;rintro v98 G98 a w rfl akd H;refine kH H (Ra rfl ?_);clear H;intro a H;refine aH ⟨rfl,?_⟩;refine qD _ _ ?_;clear qD;refine lr H results113 rfl ?_
 first
  | exact H.rt (ay vi e0.symm)
  | exact H.rt (ay vi e4.symm)
  | exact H.rt (ay vi e7.symm)
  | exact H.rt (ay vi e13.symm)
  | exact H.rt (ay vi e3.symm)
  | exact H.rt (ay vi e6.symm)
  | exact H.rt (ay vi (by rw [iy,kC,au (by omega)]))
end
section
open Go.RowKit
theorem Ac:Ty prog 33 1 24 [.slice none 0 0] false:=⟨by kernel_rfl,by kernel_rfl⟩
theorem mD:prog.underlying 33=some (.slice 67):=by kernel_rfl
theorem mK:Ty prog 67 6 64 [.int .i64 0,.int .i64 0,.string ⟨#[]⟩,.int .i64 0,.string ⟨#[]⟩,.bool false] true:=⟨by kernel_rfl,by kernel_rfl⟩
theorem vw:bM prog 67 0 0:=⟨by kernel_rfl⟩
theorem zi:bM prog 67 1 1:=⟨by kernel_rfl⟩
theorem aaw:∀ args w,(callFunc 112 args).run prog w=.ok (.enter 112 args) w:=enters func112 rfl (by kernel_rfl)
theorem abM:∀ args w,(callFunc 78 args).run prog w=.ok (.enter 78 args) w:=enters func78 rfl (by kernel_rfl)
theorem acN:bM prog 67 2 2:=⟨by kernel_rfl⟩
theorem Sl:∀ args w,(callFunc 88 args).run prog w=.ok (.enter 88 args) w:=enters func88 rfl (by kernel_rfl)
theorem acO:bM prog 67 3 3:=⟨by kernel_rfl⟩
theorem acP:bM prog 67 4 4:=⟨by kernel_rfl⟩
theorem Ls:∀ args w,(callFunc 122 args).run prog w=.ok (.enter 122 args) w:=enters func122 rfl (by kernel_rfl)
theorem aaF:∀ args w,(callFunc 121 args).run prog w=.ok (.enter 121 args) w:=enters func121 rfl (by kernel_rfl)
theorem aaE:∀ args w,(callFunc 120 args).run prog w=.ok (.enter 120 args) w:=enters func120 rfl (by kernel_rfl)
theorem aaC:∀ args w,(callFunc 119 args).run prog w=.ok (.enter 119 args) w:=enters func119 rfl (by kernel_rfl)
theorem CG {G:GH} {b:Nat} (l:List Int) (h:G b=some (.cells (l.map vi).toArray 56 (0,0))) (hl:l.length≤maxLen):av G (.sl 1 (l.map fun k=>[li k])) (.slice (some ⟨b,0,none⟩) l.length l.length) :=
 av.dS h (by simp) (bK _) hl (jH (by simp)) (eF G l)
theorem Aq {G:GH} {l:List bU} {A:Option Addr} {n c k:Nat} (hv:av G (.sl 6 (l.map bU.dat)) (.slice A n c)) (hk:k < l.length):∃ b o,A=some ⟨b,o,none⟩∧(∀ j u,l[k].cells[j]?=some u→aI G b (o+k*6+j)=some u)∧aX G l[k].dat l[k].cells:=by
 obtain ⟨A',c',he,_,_,hg⟩:=hv.slice
 injection he with e1 e2 e3
 subst e1;obtain ⟨b,o,cs,h1,h2,h3,h4⟩:=hg k l[k].dat (by simp [hk]);have:=Rw h4;subst this;exact ⟨b,o,h1,h3,h4⟩
theorem ZR {G:GH} {bl:Nat} {l:List bU} {A:Option Addr} {n c:Nat} (hb:aI G bl 0=some (.slice A n c)) (hv:av G (.sl 6 (l.map bU.dat)) (.slice A n c)):qC (.func (.func 121) #[] #[(aJ bl 0)]) G l.length fun k=>(l[k]?.map bU.id).getD 0:=by
 intro k hk G1 w0 hm hG;refine lV (caps:=[(aJ bl 0)]) aaF ?_;replace hb:=aK hm hb
 obtain rfl:n=l.length:=by have:=hv.len;simpa using this
 obtain ⟨b,o,rfl,hrow,-⟩:=Aq (hv.mono hm) hk;have hq:=hrow 0 _ rfl;refine eN [(0,_),(1,_)] func121 rfl ntmps121 rfl rfl hG ?_;intro a H;refine kP H (SR fun _ K1=>ak K1 rfl (SR fun _ K2=>Rg Ac rfl (by assumption) ?_));clear H K1;intro a H;refine kH H (Rm rfl (Ri mD mK rfl rfl (Rf vw rfl (Rg aD rfl (by assumption) ?_))));clear H;intro a H;exact kH H (ak K2 rfl (LR results121 rfl fun H=>H.rt (by dsimp only;rw [gM hk];rfl)))
theorem ZU {G:GH} {bc:Nat} {x:bU} (hb:aI G bc 1=some (vi x.parent)) (y:bU):uT (.func (.func 120) #[] #[(aJ bc 0)]) G y.dat (decide (y.id=x.parent)):=by
 intro G1 w0 cs hm hG hr;refine lV (caps:=[(aJ bc 0)]) aaE ?_;obtain rfl:=Rw hr;replace hb:=aK hm hb;refine eN [(0,_),(1,_)] func120 rfl ntmps120 rfl rfl hG ?_;intro a H;refine dz (fun _ K1=>?_);refine fC (cs:=[_,_,_,_,_,_]) H wn rfl rfl rfl ?_;clear H;intro b2 a w hb2 H;refine kH H (ak K1 rfl (SR fun _ K2=>aV vw aD 0 rfl rfl (Rf zi rfl (Rg aD rfl (by assumption) ?_))));clear H K1;intro a H;exact kH H (Rc rfl (ak K2 rfl (LR results120 rfl fun H=>H.rt rfl)))
theorem afj (G:GH) (w0:World) (hG:Hold G w0) (l:List bU) (p:bU→Bool) (v fv:aj) (hv:av G (.sl 6 (l.map bU.dat)) v) (hf:∀ x∈l,uT fv G x.dat (p x)) :
  Calls prog 112 #[v,fv] w0 (bD w0 G fun u G'=>u=vi (mZ (l.findIdx? p))):=by
 obtain ⟨A,c,rfl,hc1,hc2,hg⟩:=hv.slice;have hml:maxLen=9223372036854775807:=rfl;rw [bT] at *;refine eN [(0,_),(1,_)] func112 rfl ntmps112 rfl rfl hG ?_;intro a H;refine kP H (SR fun _ K1=>ak K1 rfl (SQ fun _ K2=>SR fun _ K3=>Rm rfl (Rl mD rfl (Rm rfl (Kz K3 (SB ?_))))));clear H K1 K3;intro a H;skip;refine fH (ι:=Nat × GH) (Tc:=[(0,_),(1,_),(7,_)]) (Lc:=[]) (fun gh=>[(8,vi gh.1)]) (fun gh=>[]) (fun gh=>gh.2) (fun gh=>gh.1≤l.length∧(l.take gh.1).findIdx? p=none∧(∀ b o,G b=some o→gh.2 b=some o)) (fun gh=>l.length - gh.1) ((0,G)) (by exact (H).sub ⟨rfl,rfl,rfl,rfl,aF⟩) ?_ ?_
 ·exact ⟨by omega,rfl,fun _ _ h=>h⟩
 clear H;intro gh a w hI H;obtain ⟨k,g⟩:=gh;dsimp only at hI H;obtain ⟨hk,hno,hgm⟩:=hI;dsimp only [lca,bq] at H;refine kP H (SR fun _ K4=>Rc rfl (Kz K4 (SQ fun _ K5=>Cd rfl ?_ ?_))) <;> clear H K4
 ·intro h9 a H
  try have p9:=dT h9
  have hk2:k < l.length:=by omega
  obtain ⟨b,o,rfl,hrow,hrep⟩:=Aq hv hk2;refine kP H (Kc K5 (SQ fun _ K6=>SB (SR fun _ K7=>Rm rfl (ak K7 rfl (SR fun _ K8=>Rm rfl (Rm rfl (Rm rfl (Ri mD mK rfl rfl ?_))))))));clear H K5 K7;intro a H;refine bJ mK (cs:=l[k].cells) H wn rfl rfl (fun j v hj=>H.hp.aI (aK hgm (hrow j v hj))) rfl ?_;clear H;intro a H;refine oO H wn rfl rfl (hf _ (jo hk2) _ _ _ hgm H.ro (hrep.mono hgm)) rfl ?_;clear H;rintro v16 qB a w rfl qL H;refine K8 _ _ ?_;clear K8;refine kW H rfl ?_ ?_
  ·intro h16
   try have p16:=dT h16
   refine kP H (SR fun _ K9=>Rm rfl (ak K9 rfl ?_));clear H K9;intro a H;refine lr H results112 rfl ?_
   first
    | exact H.rt (by rw [uH hk2 hno h16];rfl)
    | exact H.rt (by rw [show l.take k=l from jH (by omega)] at hno;rw [hno];rfl)
  intro h16
  try have p16:=dF h16
  refine kP H (Kc K6 (SC (Rd rfl (Rm rfl ?_))));clear H K6;intro a H;refine aH ?_;refine dD ((k+1,qB)) (by exact (H).sub ⟨rfl,rfl,rfl,rfl,aF⟩) ?_ ?_
  ·(try dsimp only);exact ⟨by omega,CF hk2 hno h16,fun b o h=>qL b o (hgm b o h)⟩
  first|omega|(dsimp only;omega)
 intro h9 a H
 try have p9:=dF h9
 refine dV ?_;refine K2 _ _ ?_;clear K2;refine kP H (SR fun _ aT=>ak aT rfl ?_);clear H aT;intro a H;refine lr H results112 rfl ?_
 first
  | exact H.rt (by rw [uH hk2 hno h16];rfl)
  | exact H.rt (by rw [show l.take k=l from jH (by omega)] at hno;rw [hno];rfl)
theorem ZY (G:GH) (w0:World) (hG:Hold G w0) (l:List bU) (p:bU→Bool) (v fv:aj) (hv:av G (.sl 6 (l.map bU.dat)) v) (hf:∀ x∈l,uT fv G x.dat (p x)) :
  Calls prog 78 #[v,fv] w0 (bD w0 G fun u G'=>u=.bool (l.findIdx? p).isSome):=by
 obtain ⟨A,c,rfl,hc1,hc2,-⟩:=hv.slice;rw [bT] at *;refine eN [(0,_),(1,_)] func78 rfl ntmps78 rfl rfl hG ?_;intro a H;refine kP H (SR fun _ K1=>ak K1 rfl (SR fun _ K2=>Rm rfl (Rm rfl ?_)));clear H K1;intro a H;refine s_call aaw H wn rfl (afj _ _ H.ro l p _ _ hv hf) rfl ?_;clear H;rintro v7 G7 a w rfl zI H;exact kH H (Rc rfl (ak K2 rfl (LR results78 rfl fun H=>H.rt (aG (NR _)))))
def yS (l:List bU) (i:Nat) (x:bU):Bool:=decide (x.parent=0) || ((l.take i).findIdx? fun y=>decide (y.id=x.parent)).isSome
def Ir (l:List bU) (i:Nat) (x:bU):Int:=cO [nV (fun k=>(l[k]?.map bU.id).getD 0) i,bP (!yS l i x) 8,bP (!uX x.author) 39,bP (!decide (0≤x.time∧x.time≤1099511627776)) 40,zZ x.text]
def Ca (l:List bU) (i:Nat):Int:=match l[i]? with|some x=>Ir l i x|none=>0
theorem ZQ {G:GH} {bl:Nat} {l:List bU} {A:Option Addr} {n c:Nat} (hb:aI G bl 0=some (.slice A n c)) (hv:av G (.sl 6 (l.map bU.dat)) (.slice A n c)) (hl:l.length≤4294967296) (ht:∀ x∈l,x.author.size < 4611686018427387904∧x.text.size < 4611686018427387904):qC (.func (.func 119) #[] #[(aJ bl 0)]) G l.length (Ca l):=by
 intro k hk G1 w0 hm hG;refine lV (caps:=[(aJ bl 0)]) aaC ?_;replace hb:=aK hm hb;replace hv:=hv.mono hm;have hcb:=ZR hb hv;obtain ⟨_,_,hee,hvc,-,-⟩:=hv.slice
 injection hee with _ _ hcc
 subst hcc;rw [bT] at hvc
 obtain rfl:n=l.length:=by have:=hv.len;simpa using this
 obtain ⟨b,o,rfl,hrow,hrep⟩:=Aq hv hk;have hte:=ht _ (jo hk);obtain ⟨x,hx⟩:∃ x,x=l[k]:=⟨_,rfl⟩;rw [← hx] at hrow hte
 have he:Ca l k=Ir l k x:=by unfold Ca;rw [gM hk,hx]
 refine eN [(0,_),(1,_)] func119 rfl ntmps119 rfl rfl hG ?_;intro a H;refine kP H (SR fun _ K1=>ak K1 rfl (SR fun _ K2=>Rg Ac rfl (by assumption) ?_));clear H K1;intro a H;refine kH H (Rm rfl (Ri mD mK rfl rfl ?_));clear H;intro a H;refine bJ mK (cs:=x.cells) H wn rfl rfl (fun j v hj=>H.hp.aI (hrow j v hj)) rfl ?_;clear H;intro a H;refine eX mK H wn rfl ?_;clear H;intro b4 a w hb4 H;refine bE mK 0 (vs:=[_,_,_,_,_,_]) _ H wn rfl rfl rfl rfl rfl rfl rfl rfl ?_;clear H;intro w H;dsimp only [List.set,setRow] at H;obtain ⟨Ga,hma,wG,H⟩:=H.dM
 have hcell:∀ (j:Nat) (u:aj),x.cells[j]?=some u→aI Ga b4 j=some u:=fun j u hj=>by unfold aI;rw [wG];simpa using hj
 have q1:=hcell 1 _ rfl;have hbA:=aK hma hb;have Ux:=(hv.mono hma).pre k (by rw [bT];omega);rw [← List.map_take] at Ux;refine K2 _ _ ?_;clear K2;refine sP (ι:=Bool × GH) (Tc:=[(0,_),(1,_),(4,_)]) (Lc:=[]) (fun gh=>[(5,.bool gh.1)]) (fun gh=>[]) (fun gh=>gh.2) (fun gh=>gh.1=yS l k x∧(∀ b o,Ga b=some o→gh.2 b=some o)) (by exact (H).sub ⟨rfl,rfl,rfl,aF⟩) ?_ ?_
 ·skip;refine kP H (SC (Rf zi rfl (Rg aD rfl (by assumption) ?_)));clear H;intro a H;refine kH H (Rc rfl (Rm rfl (Sp 13 rfl ?_ ?_))) <;> clear H
  ·intro fM a H
   try have pQ:=dT fM
   refine kH H (aY fM rfl (aP fM rfl (Pt fM rfl (Ra rfl ?_))));clear H;intro a H;refine aH ?_;refine ⟨(_,_),by exact (H).sub ⟨rfl,rfl,rfl,rfl,aF⟩,?_⟩;(try dsimp only)
   first
   | exact ⟨by unfold yS;rw [jV (by assumption)];rfl,fun _ _ h=>h⟩
   | exact ⟨by unfold yS;rw [iN (by assumption)];rfl,hm18⟩
  intro fM a H
  try have pQ:=dF fM
  refine kH H (YR Ac fM rfl (by assumption) ?_);clear H;intro a H;refine kH H (YM fM rfl ?_);clear H;intro a H;refine Wo mD mK k H (wg H rfl rfl fM) rfl rfl rfl (by omega) rfl ?_;clear H;intro a H;refine pU H (wg H rfl rfl fM) rfl rfl ?_;clear H;intro a H;refine s_call abM H (wg H rfl rfl fM) rfl (ZY _ _ H.ro (l.take k) (fun y=>decide (y.id=x.parent)) _ _ Ux (fun y _=>ZU q1 y)) rfl ?_;clear H;rintro v18 PW a w rfl hm18 H;refine kH H (Pf fM rfl (Ra rfl ?_));clear H;intro a H;refine aH ?_;refine ⟨(_,_),by exact (H).sub ⟨rfl,rfl,rfl,rfl,aF⟩,?_⟩;(try dsimp only)
  first
  | exact ⟨by unfold yS;rw [jV (by assumption)];rfl,fun _ _ h=>h⟩
  | exact ⟨by unfold yS;rw [iN (by assumption)];rfl,hm18⟩
 clear H;intro gh a w hI H;obtain ⟨bf,g⟩:=gh;dsimp only at hI H;obtain ⟨hbf,hgm⟩:=hI;replace hcell:=fun j u hj=>aK hgm (hcell j u hj);replace hcb:=(hcb.mono hma).mono hgm;dsimp only [lca,bq] at H;refine bg (fun _ K3=>?_);have H:=H.sub (T':=[(0,_),(1,_),(4,_),(5,_)]) ⟨rfl,rfl,rfl,rfl,aF⟩;refine dI hmx [[],[],[0,1],[],[3],(ra 0 5),[],[6],(ra 0 8),(ra 0 9),(ra 0 10),[],[11],(ra 0 13),(ra 0 14),(ra 0 15),[],[16],(ra 0 18),(ra 0 19),(ra 0 20),(ra 0 21)] [19,20,21] (by kernel_rfl) [_,.func (.func 121) #[] #[(aJ bl 0)],vi (nV (fun k=>(l[k]?.map bU.id).getD 0) k),_,_,vi (bP (!bf) 8),_,_,.bool (uX x.author),_,vi (bP (!uX x.author) 39),_,_,.bool (decide (0≤x.time∧x.time≤1099511627776)),_,vi (bP (!decide (0≤x.time∧x.time≤1099511627776)) 40),_,_,vi (zZ x.text)] H (aB (Z0 rfl (Rm rfl)) ?_ ?_ (Z0 rfl (Rm rfl)) (aB (Z1 3 23 rfl (Rn rfl)) ?_ (Z0 rfl (Rf acN rfl)) (X1 6 26 rfl fun hG=>Rg gG rfl (aK hG (hcell 2 _ rfl))) (aB ?_ (Z1 8 28 rfl (Rn rfl)) ?_ (Z0 rfl (Rf acO rfl)) (aB (X1 11 31 rfl fun hG=>Rg aD rfl (aK hG (hcell 3 _ rfl))) ?_ (Z1 13 33 rfl (Rn rfl)) ?_ (aB (Z0 rfl (Rf acP rfl)) (X1 16 36 rfl fun hG=>Rg gG rfl (aK hG (hcell 4 _ rfl))) ?_ (bH rfl) (aW (bH rfl) (aW (bH rfl) bW))))))) ?_
 ·refine yM rfl fun _ a w G1 hG HT H fin=>?_;refine pU H wn rfl rfl ?_;clear H;intro a H;exact fin H iJ rfl
 ·refine cB 0 20 1 21 rfl rfl fun _ a w G1 hG HT H fin=>?_;refine s_call LQ H wn rfl (NM _ _ H.ro k _ _ (by omega) (fun i hi=>(hcb.mono hG) i (by omega))) rfl ?_;clear H;rintro v22 XP a w rfl MJ H;exact fin H MJ (rfl)
 ·refine dw 4 24 rfl rfl fun _ a w G1 hG HT H fin=>?_;refine s_call iP H wn rfl (iR _ _ H.ro _ 8) rfl ?_;clear H;rintro v25 PX a w ⟨rfl,-⟩ adr H;exact fin H adr (rfl)
 ·refine dw 7 27 rfl rfl fun _ a w G1 hG HT H fin=>?_;refine s_call Sl H wn rfl (QO _ _ H.ro x.author hte.1) rfl ?_;clear H;rintro v28 XQ a w ⟨rfl,-⟩ ads H;exact fin H ads (rfl)
 ·refine dw 9 29 rfl rfl fun _ a w G1 hG HT H fin=>?_;refine s_call iP H wn rfl (iR _ _ H.ro _ 39) rfl ?_;clear H;rintro v30 BG a w ⟨rfl,-⟩ ML H;exact fin H ML (rfl)
 ·refine dw 12 32 rfl rfl fun _ a w G1 hG HT H fin=>?_;refine s_call um H wn rfl (uI _ _ H.ro x.time 0 1099511627776) rfl ?_;clear H;rintro v33 XR a w ⟨rfl,-⟩ adu H;exact fin H adu (rfl)
 ·refine dw 14 34 rfl rfl fun _ a w G1 hG HT H fin=>?_;refine s_call iP H wn rfl (iR _ _ H.ro _ 40) rfl ?_;clear H;rintro v35 PZ a w ⟨rfl,-⟩ MN H;exact fin H MN (rfl)
 ·refine dw 17 37 rfl rfl fun _ a w G1 hG HT H fin=>?_;refine s_call Ls H wn rfl (O9 _ _ H.ro x.text hte.2) rfl ?_;clear H;rintro v38 Ky a w rfl adv H;exact fin H adv (rfl)
 clear H;intro a w G adt H hv;have H:=H.aS (hv 2 22 rfl rfl) rfl;have H:=H.aS (hv 5 25 rfl rfl) rfl;have H:=H.aS (hv 10 30 rfl rfl) rfl;have H:=H.aS (hv 15 35 rfl rfl) rfl;have H:=H.aS (hv 18 38 rfl rfl) rfl;clear hv;refine gP nJ fV [_,_,_,_,_] [_,_,_,_,_] H wn rfl rfl rfl rfl rfl (by intro i q h;match i,h with|0,h=>exact h|1,h=>exact h|2,h=>exact h|3,h=>exact h|4,h=>exact h|n+5,h=>simp at h) rfl rfl ?_;clear H;intro b39 a w ajJ H;obtain ⟨P5,aen,adS,H⟩:=H.dM;refine s_call oI H wn rfl (oK _ _ H.ro _ _ (CG [nV (fun k=>(l[k]?.map bU.id).getD 0) k,bP (!bf) 8,bP (!uX x.author) 39,bP (!decide (0≤x.time∧x.time≤1099511627776)) 40,zZ x.text] adS (show 5≤maxLen by decide))) rfl ?_;clear H;rintro v40 _ a w ⟨rfl,rfl⟩ - H;refine kH H (Ra rfl ?_);clear H;intro a H;refine aH ⟨rfl,?_⟩;refine K3 _ _ ?_;clear K3;refine lr H results119 rfl ?_;exact H.rt (by rw [he,Ir,← hbf])
def Il (l:List bU):Int:=cO [bP (decide (1024 < (l.length:Int))) 9,jR (Ca l) (min l.length 1024)]
theorem Zv (G:GH) (w0:World) (hG:Hold G w0) (l:List bU) (v:aj) (hv:av G (.sl 6 (l.map bU.dat)) v) (hl:l.length≤4294967296) (ht:∀ x∈l,x.author.size < 4611686018427387904∧x.text.size < 4611686018427387904) :
  Calls prog 82 #[v] w0 (bD w0 G fun u G'=>u=vi (Il l)):=by
 obtain ⟨A,c,rfl,hc1,hc2,-⟩:=hv.slice;rw [bT] at *;refine eN [(0,_)] func82 rfl ntmps82 rfl rfl hG ?_;intro a H;refine dz (fun _ K1=>?_);refine fC (cs:=[_]) H wn rfl rfl rfl ?_;clear H;intro b1 a w hb1 H;refine kH H (ak K1 rfl (SQ fun _ K2=>?_));clear H K1;intro a H;have H:=H.sub (T':=[(1,_)]) ⟨rfl,aF⟩;obtain ⟨Ga,hma,hb1',H⟩:=H.dM
 have hbl:aI Ga b1 0=some (.slice A l.length c):=by unfold aI;rw [hb1'];rfl
 have hcb:=ZQ hbl (hv.mono hma) hl ht;refine dI hmx [[],[0],[0,1],[0,1,2],[],[4],[4,5],[],(ra 0 8),(ra 0 9),(ra 0 10),(ra 0 11)] [9,10,11] (by kernel_rfl) [_,_,_,vi (bP (decide (1024 < (l.length:Int))) 9),_,_,vi ((min l.length 1024:Nat):Int),.func (.func 119) #[] #[(aJ b1 0)],vi (jR (Ca l) (min l.length 1024))] H (aB (X0 rfl fun hG=>Rg Ac rfl (aK hG hbl)) (Z1 0 3 rfl (Rl mD rfl)) (Z1 1 4 rfl (Rc rfl)) ?_ (aB (X0 rfl fun hG=>Rg Ac rfl (aK hG hbl)) (Z1 4 7 rfl (Rl mD rfl)) ?_ ?_ (aB ?_ (bH rfl) (bH rfl) (bH rfl) bW))) ?_
 ·refine dw 2 5 rfl rfl fun _ a w G1 hG HT H fin=>?_;refine s_call iP H wn rfl (iR _ _ H.ro _ 9) rfl ?_;clear H;rintro v6 G6 a w ⟨rfl,-⟩ iV H;exact fin H iV (rfl)
 ·refine dw 5 8 rfl rfl fun _ a w G1 hG HT H fin=>?_;refine JV H wn rfl rfl rfl ?_;clear H;intro a H;exact fin H iJ (ay vi (by omega))
 ·refine yM rfl fun _ a w G1 hG HT H fin=>?_;refine pU H wn rfl rfl ?_;clear H;intro a H;exact fin H iJ rfl
 ·refine cB 6 9 7 10 rfl rfl fun _ a w G1 hG HT H fin=>?_;refine s_call DY H wn rfl (Fp _ _ H.ro (min l.length 1024) (Ca l) _ (by omega) ((hcb.mono hG).le (Nat.min_le_left _ _))) rfl ?_;clear H;rintro v11 vU a w rfl jv H;exact fin H jv (rfl)
 clear H;intro a w G mH H hv;have H:=H.aS (hv 3 6 rfl rfl) rfl;have H:=H.aS (hv 8 11 rfl rfl) rfl;clear hv;refine gP nJ fV [_,_] [_,_] H wn rfl rfl rfl rfl rfl (by intro i q h;match i,h with|0,h=>exact h|1,h=>exact h|n+2,h=>simp at h) rfl rfl ?_;clear H;intro b12 a w AV H;obtain ⟨Ai,Cu,Cr,H⟩:=H.dM;refine s_call oI H wn rfl (oK _ _ H.ro _ _ (vO Cr)) rfl ?_;clear H;rintro v13 _ a w ⟨rfl,rfl⟩ - H;refine kH H (Ra rfl ?_);clear H;intro a H;refine aH ⟨rfl,?_⟩;refine K2 _ _ ?_;clear K2;refine lr H results82 rfl ?_;exact H.rt rfl
end
section
open Go.RowKit
def uK:Nat→List Int→List MapEntry
 | _,[]=>[]
 | i,k :: r=>⟨.int .i64 k,.int .i64 (i:Int),i⟩ :: uK (i+1) r
theorem Vg (x:Int):∀ (i:Nat) (l:List Int),uK i (l++[x])=uK i l++[⟨.int .i64 x,.int .i64 ((i+l.length:Nat):Int),i+l.length⟩]
 | _,[]=>rfl
 | i,k :: r=>by
  rw [nN,uK,Vg x (i+1) r,uK,nN,nM,show i+1+r.length=i+(r.length+1) by omega]
def rR (x:Int):Nat→List Int→Option Nat
 | _,[]=>none
 | i,k :: r=>if k=x then some i else rR x (i+1) r
theorem UH {x:Int}:∀ {l:List Int} {i n:Nat},rR x i l=some n→i≤n
 | [],_,_,h=>by cases h
 | k :: r,i,n,h=>by
  rw [rR] at h;split at h
  ·cases h;exact bK _
  ·have:=UH h;omega
theorem UK {x:Int}:∀ {l:List Int} {i:Nat},x∉l→rR x i l=none
 | [],_,_=>rfl
 | k :: r,i,h=>by
  rw [rR,ah (fun e=>h (by simp [e])),UK (fun hm=>h (kr _ hm))]
theorem Me (x:Int):∀ (i j:Nat) (l:List Int),Instr.findNow (.int .i64) (.int .i64 x) (uK i l) j=some ((rR x i l).map fun n=>(j+(n - i),.int .i64 (n:Int)))
 | _,_,[]=>rfl
 | i,j,k :: r=>by
  have ih:=Me x (i+1) (j+1) r
  by_cases e:k=x
  ·subst e
   simp only [uK,Instr.findNow,Instr.sameNow,au,rR,beq_self_eq_true]
   simp
  ·have hb:(x == k)=false:=by simp;exact fun h=>e h.symm
   simp only [uK,Instr.findNow,Instr.sameNow,au,hb,rR,ah e,ih]
   cases h:rR x (i+1) r with
   | none=>rfl
   | some n =>
    have:=UH h
    simp only [Option.map_some,mU,gB,and_true]
    omega
abbrev YZ (b:Nat) (l:List Int):Nat × Obj:=(b,.map (uK 0 l).toArray l.length)
theorem aga (l:List Int) (x:Int):(uK 0 l).toArray.push ⟨.int .i64 x,.int .i64 (l.length:Int),l.length⟩=(uK 0 (l++[x])).toArray:=by
 rw [Vg,List.push_toArray,ko]
end
section
open Go.RowKit
section
variable {P:Program} {N:Nat} {D:List Deferred} {w0 w w':World} {F:Nat→Prop} {G0 G G':GH} {L L' Li Lo:OL} {T:List (Nat × aj)} {a a':Act} {Q:Exit→Act→World→Prop}
variable {r:Option Nat} {ops:Array Oper} {rest:List Oper}
def KE (P:Program) (Gi:GH) (B:OL) (gv:aj) (xs:List AP):Prop :=
 ∀ (J:Nat→GH→OL→Prop) (Jx:GH→OL→Prop) (fv:aj) (G:GH) (L:OL) (w:World),fv.cells=#[fv]→(∀ b o,Gi b=some o→G b=some o)→Ak J→DL Jx→J 0 G L→gL G (B++L) w→ES P fv G xs J Jx →
  sw P gv [fv] w (fZ w G (B++L) fun _ G' L'=>J xs.length G' L'∨Jx G' L')
theorem KE.mono {Gi Aj:GH} {B:OL} {gv:aj} {xs:List AP} (h:KE P Gi B gv xs) (hm:∀ b o,Gi b=some o→Aj b=some o):KE P Aj B gv xs :=
 fun J Jx fv G L w h0 h1=>h J Jx fv G L w h0 fun b o hb=>h1 b o (hm b o hb)
end
end
section
open Go.RowKit
section
variable {P:Program} {N:Nat} {D:List Deferred} {w0 w w':World} {F:Nat→Prop} {G0 G G':GH} {L L' Li Lo:OL} {T:List (Nat × aj)} {a a':Act} {Q:Exit→Act→World→Prop}
variable {r:Option Nat} {ops:Array Oper} {rest:List Oper}
def Dz (P:Program) (Gi:GH) (B:OL) (gv:aj) (xs:List AP) (fin:Bool):Prop :=
 ∀ (J:Nat→GH→OL→Prop) (Jx:GH→OL→Prop) (fv:aj) (G:GH) (L:OL) (w:World),fv.cells=#[fv]→(∀ b o,Gi b=some o→G b=some o)→Ak J→DL Jx→J 0 G L→gL G (B++L) w→ES P fv G xs J Jx→(fin=false→∀ g l,¬ J xs.length g l) →
  sw P gv [fv] w (fZ w G (B++L) fun _ G' L'=>J xs.length G' L'∨Jx G' L')
theorem Dz.mono {Gi Aj:GH} {B:OL} {gv:aj} {xs:List AP} {fin:Bool} (h:Dz P Gi B gv xs fin) (hm:∀ b o,Gi b=some o→Aj b=some o):Dz P Aj B gv xs fin :=
 fun J Jx fv G L w h0 h1=>h J Jx fv G L w h0 fun b o hb=>h1 b o (hm b o hb)
theorem Zb {fin:Bool} {B:OL} {wu:Operand} {ps:List Nat} {assign body:Code} {gf:FuncId} {caps:List aj} {xs:List AP} {Gi:GH}
  (H:St N D w0 F G0 G (B++L) T a w) (hg:ev T wu=some (.func (.func gf) #[] caps.toArray)) (en:∀ args w,(callFunc gf args).run P w=.ok (.enter gf args) w) (hit:Dz P Gi B (.func (.func gf) #[] caps.toArray) xs fin) (hGi:∀ b o,Gi b=some o→G b=some o)
  (hps:ps.all (Nat.blt · N)=true) (hlen:∀ k args g,tQ xs k args g→args.length=ps.length)
  (J:Nat→GH→OL→Prop) (Jx:Code→GH→OL→Prop) (hno:fin=false→∀ g l,¬ J xs.length g l) (rO:Ak J) (hJx:∀ c,DL (Jx c)) (h0:J 0 G L) (Ny:KH P N ps assign body T G J Jx xs)
  (hdone:∀ Dk G1 L1 a1 w1,(∀ b o,G b=some o→G1 b=some o)→J xs.length G1 L1→St N ({ target:=.collected Dk,args:=#[] } :: D) w0 F G0 G1 ((Dk,.deferred (some [])) :: L1) T a1 w1→Q .normal a1 w1)
  (hstop:∀ Dk c G1 L1 a1 w1,(∀ b o,G b=some o→G1 b=some o)→Jx c G1 L1→St N ({ target:=.collected Dk,args:=#[] } :: D) w0 F G0 G1 ((Dk,.deferred (some [])) :: L1) T a1 w1→WP none P c Q a1 w1) :
  WP none P (.rangeFunc wu ps.toArray assign body) Q a w:=by
 refine wpIn_rangeFunc ?_
 intro fn _
 have hev:=H.ev hg
 let q:Rec:=⟨fn,a.tmps,ps.toArray,assign,body,w.heap.size⟩
 obtain ⟨W1,hW1⟩:∃ W1,W1=(w.alloc (.deferred (some []))).alloc (q.at .ready none):=⟨_,rfl⟩
 have H1:Hp w0 F G0 G (B++((w.heap.size+1,q.at .ready none) :: (w.heap.size,.deferred (some [])) :: L)) W1:=by
  have:=(H.hp.alloc (.deferred (some []))).alloc (q.at .ready none)
  rw [World.size_alloc] at this
  rw [hW1]
  refine this.perm ?_
  have e:=xD (l₁:=[(w.heap.size+1,q.at .ready none),(w.heap.size,Obj.deferred (some []))]) (l₂:=B)
  have e2:=List.Perm.append_right L e
  rw [lU,lU] at e2
  exact e2
 refine ⟨w.heap.size+1,[{ target:=.collected w.heap.size,args:=#[] }],W1,{ target:=.fn (.func gf) caps.toArray,args:=#[.func (.yield (w.heap.size+1)) #[] #[]] },W1,gf,
  #[.func (.yield (w.heap.size+1)) #[] #[]]++caps.toArray,W1,by rw [hW1];exact run_enterLoop_outer fn a.tmps ps.toArray assign body,?_,fun _ _=>trivial,?_,Ht none,?_⟩
 ·simp only [resolve,rangeCall,hev]
  simp [Deferred.ofValue,Act.eval]
 ·simp [invoke,en]
 ·have hcv:=hit (fun k=>Jr (w.heap.size+1) q [(w.heap.size,.deferred (some []))] (J k)) (Hz (w.heap.size+1) q [(w.heap.size,.deferred (some []))] Jx) (.func (.yield (w.heap.size+1)) #[] #[]) G
   ((w.heap.size+1,q.at .ready none) :: (w.heap.size,.deferred (some [])) :: L) W1 rfl hGi (fun k G G' L hm ⟨Lu,e,h⟩=>⟨Lu,e,rO k G G' Lu hm h⟩) (fun G G' L hm ⟨c,Lu,e,h⟩=>⟨c,Lu,e,hJx c G G' Lu hm h⟩) ⟨L,rfl,h0⟩ (Hp.owns (Li:=[]) H1) (Rb H.kL H.get hps hlen Ny) (fun e g l ⟨Lu,_,h⟩=>hno e g Lu h)
  replace hcv:=hcv.go
  have e:(do let d ← Deferred.ofValue (.func (.func gf) #[] caps.toArray) [Value.func (.yield (w.heap.size+1)) #[] #[]].toArray;invoke d.target d.args:Sem Next).run P W1=.ok (.enter gf (#[.func (.yield (w.heap.size+1)) #[] #[]]++caps.toArray)) W1:=by
   simp [Deferred.ofValue,invoke,en]
  rw [e] at hcv
  refine (KV hcv).mono ?_
  rintro e w2 ⟨v,G2,L2,rfl,hch,hJ⟩
  have H2:=Hp.change (Li:=[]) H1 hch
  rcases hJ with ⟨Lu,rfl,hJ⟩|⟨c,Lu,rfl,hJ⟩
  ·have hl:=H2.own _ (gV)
   have H3:=(H2.upd (i:=0) rfl (Bz (q.at .exhausted none) hl)).drop (yP _ _)
   exact ⟨none,_,run_endLoop hl (by simp),hdone _ G2 Lu _ _ hch.gm hJ ⟨H.kL,H.get,by simp [H.pE],H3⟩⟩
  ·have hl:=H2.own _ (gV)
   have H3:=(H2.upd (i:=0) rfl (Bz (q.at .exhausted (some c)) hl)).drop (yP _ _)
   exact ⟨some c,_,run_endLoop hl (by simp),hstop _ c G2 Lu _ _ hch.gm hJ ⟨H.kL,H.get,by simp [H.pE],H3⟩⟩
theorem Zc {fin:Bool} {B:OL} {ι κ:Type} {Lc:OL} {wu:Operand} {ps:List Nat} {assign body:Code} {gf:FuncId} {caps:List aj} {xs:List AP} {Gi:GH}
  (Lv:Nat→ι→OL) (Lt:Nat→ι→OL) (inv:Nat→ι→GH→Prop) (cx:κ→Code) (Lx BM:κ→OL) (wQ:κ→GH→Prop) (i0:ι)
  (H:St N D w0 F G0 G (B++(Lc++Lv 0 i0++Lt 0 i0)) T a w) (hg:ev T wu=some (.func (.func gf) #[] caps.toArray)) (en:∀ args w,(callFunc gf args).run P w=.ok (.enter gf args) w) (hit:Dz P Gi B (.func (.func gf) #[] caps.toArray) xs fin) (hGi:∀ b o,Gi b=some o→G b=some o)
  (hno:fin=false→∀ i g,¬ inv xs.length i g) (hps:ps.all (Nat.blt · N)=true) (hlen:∀ k args g,tQ xs k args g→args.length=ps.length) (hinv:∀ k i (G G':GH),(∀ b o,G b=some o→G' b=some o)→inv k i G→inv k i G') (Nk:∀ x (G G':GH),(∀ b o,G b=some o→G' b=some o)→wQ x G→wQ x G') (h0:inv 0 i0 G)
  (round:∀ (l:Nat) (Bg xH:Obj) (bk:OL) (k:Nat) (args:List aj) (i:ι) (G1:GH) (w1:World) (F1:Nat→Prop) (B1:Code→Exit→Act→World→Prop) (a1:Act),tQ xs k args G1→(∀ b o,G b=some o→G1 b=some o)→inv k i G1 →
   (∀ T' G2 L2 a2 w2 c,St N [] w1 F1 G1 G2 ((l,Bg) :: L2) T' a2 w2→(∀ w3,St N [] w1 F1 G1 G2 ((l,xH) :: L2) T' a2 w3→WP (some l) P c (B1 c) a2 w3)→Exit.then (fun a2 w2=>∃ w3,(Instr.beginRound l).run P w2=.ok () w3∧c.wpIn (FW (some l)) 0 P (B1 c) a2 w3) (fun _ _ _=>False) .normal a2 w2) →
   (∀ i' T' G2 a2 w2 c,St N [] w1 F1 G1 G2 ((l,xH) :: (Lc++Lv (k+1) i'++(bk++Lt (k+1) i'))) T' a2 w2→inv (k+1) i' G2→B1 c .normal a2 w2) →
   (∀ x T' G2 a2 w2 c,St N [] w1 F1 G1 G2 ((l,xH) :: (Lc++Lx x++(bk++BM x))) T' a2 w2→wQ x G2→(cx x=.ret→B1 c .ret a2 w2)∧∀ n,cx x=.exit n→B1 c (.exit n) a2 w2) →
   St N [] w1 F1 G1 G1 ((l,Bg) :: (Lc++Lv k i++(bk++Lt k i))) (vX ps args T) a1 w1 →
   WP (some l) P assign (Exit.then (fun a2 w2=>∃ w3,(Instr.beginRound l).run P w2=.ok () w3∧body.wpIn (FW (some l)) 0 P (B1 body) a2 w3) (fun _ _ _=>False)) a1 w1)
  (hdone:∀ Dk i G1 a1 w1,(∀ b o,G b=some o→G1 b=some o)→inv xs.length i G1→St N ({ target:=.collected Dk,args:=#[] } :: D) w0 F G0 G1 ((Dk,.deferred (some [])) :: (Lc++Lv xs.length i++Lt xs.length i)) T a1 w1→Q .normal a1 w1)
  (hstop:∀ Dk x G1 a1 w1,(∀ b o,G b=some o→G1 b=some o)→wQ x G1→St N ({ target:=.collected Dk,args:=#[] } :: D) w0 F G0 G1 ((Dk,.deferred (some [])) :: (Lc++Lx x++BM x)) T a1 w1→WP none P (cx x) Q a1 w1) :
  WP none P (.rangeFunc wu ps.toArray assign body) Q a w:=by
 refine Zb (J:=fun k g L=>∃ i,L=Lc++Lv k i++Lt k i∧inv k i g) (Jx:=fun c g L=>∃ x,c=cx x∧L=Lc++Lx x++BM x∧wQ x g) H hg en hit hGi hps hlen (hno:=fun e g l ⟨i,_,h⟩=>hno e i g h) (fun k G G' L hm ⟨i,e,h⟩=>⟨i,e,hinv k i G G' hm h⟩) (fun c G G' L hm ⟨x,e1,e2,h⟩=>⟨x,e1,e2,Nk x G G' hm h⟩) ⟨i0,rfl,h0⟩ ?_ ?_ ?_
 ·rintro l q bk k args G1 L1 w1 a1 hk hm ⟨i,rfl,hi⟩ H1
  have pm:∀ A B:OL,(bk++(A++B)).Perm (A++(bk++B)):=fun A B=>by
   rw [← lU,← lU]
   exact List.Perm.append_right B xD
  refine round l (q.at .ready none) (q.at .busy none) bk k args i G1 w1 _ (fun _=>roundPost P l _) a1 hk hm hi ?_ ?_ ?_ (H1.perm (List.Perm.cons _ (pm _ _)))
  ·intro T' G2 L2 a2 w2 c H2 h
   exact Q6 H2 h
  ·intro i' T' G2 a2 w2 c H2 h2
   exact Ey none (H2.perm (List.Perm.cons _ (pm _ _).symm)) ⟨_,rfl,i',rfl,h2⟩
  ·intro x T' G2 a2 w2 c H2 h2
   have H3:=H2.perm (List.Perm.cons _ (pm _ _).symm)
   refine ⟨fun e=>?_,fun n e=>?_⟩
   ·exact Ey (some .ret) H3 ⟨_,_,rfl,x,e.symm,rfl,h2⟩
   ·exact Ey (some (.exit n)) H3 ⟨_,_,rfl,x,e.symm,rfl,h2⟩
 ·rintro Dk G1 L1 a1 w1 hm ⟨i,rfl,hi⟩ H1
  exact hdone Dk i G1 a1 w1 hm hi H1
 ·rintro Dk c G1 L1 a1 w1 hm ⟨x,rfl,rfl,hx⟩ H1
  exact hstop Dk x G1 a1 w1 hm hx H1
end
end
section
open Go.RowKit
theorem yG:prog.underlying 114=some (.map 3 3):=by kernel_rfl
theorem qZ:Ty prog 31 1 24 [.slice none 0 0] false:=⟨by kernel_rfl,by kernel_rfl⟩
theorem LY:bM prog 181 3 3:=⟨by kernel_rfl⟩
theorem RY:∀ args w,(callFunc 135 args).run prog w=.ok (.enter 135 args) w:=enters func135 rfl (by kernel_rfl)
theorem UJ {x:Int}:∀ {l:List Int} {i n:Nat},rR x i l=some n→n < i+l.length
 | [],_,_,h=>by cases h
 | k :: r,i,n,h=>by
  rw [rR] at h;split at h
  ·cases h;simp
  have:=UJ h;simp only [nM];omega
def uY (l:List bG):Nat→Int→List bG
 | 0,_=>[]
 | f+1,id=>if id=0 then [] else match rR id 0 (l.map bG.id) with|none=>[]|some i=>match l[i]? with|none=>[]|some s=>s :: uY l f s.base
def DU (l:List bG) (id:Int):List bG:=uY l (l.length+1) id
theorem Zr {l:List bG} {f:Nat} {id:Int} (h:id=0):uY l f id=[]:=by
 cases f with
 | zero=>rfl
 | succ f=>rw [uY,au h]
theorem Zp {l:List bG} {f:Nat} {id:Int} (h0:¬ id=0) (h:rR id 0 (l.map bG.id)=none):uY l f id=[]:=by
 cases f with
 | zero=>rfl
 | succ f=>rw [uY,ah h0,h]
theorem Zq {l:List bG} {f i:Nat} {id:Int} (h0:¬ id=0) (h:rR id 0 (l.map bG.id)=some i) (hi:i < l.length):uY l (f+1) id=l[i] :: uY l f l[i].base:=by
 rw [uY,ah h0,h];dsimp only;rw [gM hi]
def stP (x:bG):AP:=fun args g=>∃ cs,args=[.agg cs.toArray]∧aX g x.dat cs
theorem WJ {A:List bG} {k:Nat} {args:List aj} {g:GH} (h:tQ (A.map stP) k args g):∃ (hk:k < A.length) (cs:List aj),args=[.agg cs.toArray]∧aX g A[k].dat cs:=by
 obtain ⟨p,hp,hargs⟩:=h;rw [qd] at hp;obtain ⟨q,hq,rfl⟩:=lD.1 hp;obtain ⟨hk,rfl⟩:=iM.1 hq;obtain ⟨cs,h1,h2⟩:=hargs;exact ⟨hk,cs,h1,h2⟩
abbrev bI (b:Nat) (n:Int):Nat × Obj:=(b,.cells #[vi n] 3 (0,0))
set_option maxHeartbeats 1000000 in
theorem Zt {G:GH} {bl bi:Nat} {l:List bG} {id:Int} {v:aj} (hb:aI G bl 0=some v) (hv:av G (.sl 6 (l.map bG.dat)) v) (hnd:∀ (k:Nat) (h:k < l.length),l[k].id∉(l.take k).map bG.id) :
  Dz prog G [bI bi id] (.func (.func 135) #[] #[(aJ bl 0),(aJ bi 0)]) ((DU l id).map stP) (decide ((DU l id).length≤l.length)):=by
 intro J Jx fv G1 L w0 TH hGi rO hJx hJ hO hcb hfin;refine lV (caps:=[(aJ bl 0),(aJ bi 0)]) RY ?_;obtain ⟨A,c,rfl,hc1,hc2,-⟩:=hv.slice;have hml:maxLen=9223372036854775807:=rfl;rw [bT] at *;replace hb:=aK hGi hb;replace hv:=hv.mono hGi;refine jI (N:=46) (T:=[(0,_),(1,_),(2,_)]) func135 rfl ntmps135 rfl rfl hO ?_;intro a H;refine dz (fun _ K1=>?_);refine Bo H wn rfl ?_;clear H;intro bm a w I9 H;refine kH H (ak K1 rfl (SQ fun _ K2=>SR fun _ K3=>Rg qZ rfl (by assumption) ?_));clear H K1;intro a H;refine kH H (Rl mO rfl (Rm rfl (Kz K3 (SB ?_))));clear H K3;intro a H;skip;refine fH (ι:=Nat) (Tc:=[(0,_),(1,_),(2,_),(4,_),(10,_),(11,_)]) (Lc:=[(_,_)]) (fun gh=>[(12,vi gh)]) (fun gh=>[YZ bm ((l.take gh).map bG.id)]++L) (fun gh=>G1) (fun gh=>gh≤l.length) (fun gh=>l.length - gh) (0) (by exact (H.dU (Pl:=[_,_]) (dx:=[_,_]) [1,0] (by decide) rfl).sub ⟨rfl,rfl,rfl,rfl,rfl,rfl,rfl,aF⟩) ?_ ?_
 ·exact iY _
 clear H;intro gh a w hI H;obtain ⟨k,hgh⟩:∃ x,x=gh:=⟨_,rfl⟩;subst hgh;have hk:=hI;dsimp only [lca,bq] at H;refine kP H (SR fun _ K4=>Rc rfl (Kz K4 (SQ fun _ K5=>Cd rfl ?_ ?_))) <;> clear H K4
 ·intro fM a H
  try have pQ:=dT fM
  have hk2:k < l.length:=by omega
  obtain ⟨b,o,pA,pc,rfl,hrow,hp,hrep⟩:=zX hv hk2;have aeD:=hnd k hk2
  have hlk:((l.take k).map bG.id).length=k:=by rw [bT,List.length_take];omega
  have hnx:(l.take k).map bG.id++[l[k].id]=(l.take (k+1)).map bG.id:=by rw [jB hk2,mX];rfl
  refine kP H (Kc K5 (SQ fun _ K6=>SB (SR fun _ K7=>Rm rfl (Ri mO jN rfl rfl ?_))));clear H K5;intro a H;refine bJ jN (cs:=[_,_,_,_,_,_]) H wn rfl rfl (fun j v hj=>H.hp.aI (hrow j v hj)) rfl ?_;clear H;intro a H;refine eX jN H wn rfl ?_;clear H;intro b6 a w hb6 H;refine kH H (Ra rfl ?_);clear H;intro a H;refine bE jN 0 (vs:=[_,_,_,_,_,_]) _ H wn rfl rfl rfl rfl rfl rfl rfl rfl ?_;clear H;intro w H;dsimp only [List.set,setRow] at H;refine K7 _ _ ?_;clear K7;refine kP H (SC (Rm rfl (aV sU aD 0 rfl rfl (Rm rfl ?_))));clear H;intro a H;refine V9 (i:=2) (ky:=vi l[k].id) (v:=vi k) yG lu H wn rfl rfl rfl rfl (by trivial) (by rw [List.toList_toArray,Me,UK aeD];rfl) ?_;clear H;intro w H
  have hpush:((uK 0 ((l.take k).map bG.id)).toArray.push ⟨vi l[k].id,vi k,((l.take k).map bG.id).length⟩)=(uK 0 ((l.take (k+1)).map bG.id)).toArray:=by rw [← hnx,← aga,hlk]
  rw [hpush,show ((l.take k).map bG.id).length+1=((l.take (k+1)).map bG.id).length by rw [← hnx];simp] at H;refine kH H (Kn K6 (SC (Rd rfl (Rm rfl ?_))));clear H K6;intro a H;refine aH ?_;refine dD ((k+1)) (by exact (H.dU (Pl:=[_,_,_]) (dx:=[_,_]) [1,2] (by decide) rfl).sub ⟨rfl,rfl,rfl,rfl,rfl,rfl,rfl,aF⟩) ?_ ?_
  ·exact by omega
  first|omega|(dsimp only;omega)
 intro fM a H
 try have pQ:=dF fM
 obtain rfl:k=l.length:=by omega
 rw [Ap] at H;refine dV ?_;refine K2 _ _ ?_;clear K2;refine xI ?_;skip;refine fH (ι:=Int × Nat × Nat × OL × GH) (Tc:=[(0,_),(1,_),(2,_),(4,_)]) (Lc:=[(_,_)]) (fun gh=>[]) (fun gh=>[bI bi gh.1]++gh.2.2.2.1) (fun gh=>gh.2.2.2.2) (fun gh=>(∀ b o,G1 b=some o→gh.2.2.2.2 b=some o)∧Now ((DU l id).map stP) stP J (DU l id).length gh.2.2.1 (uY l gh.2.1 gh.1) gh.2.2.2.2 gh.2.2.2.1∧gh.2.2.1+gh.2.1=l.length+1) (fun gh=>gh.2.1) ((id,l.length+1,0,L,G1)) (by exact (H.dU (Pl:=[_,_]) (dx:=[_,_]) [1,0] (by decide) rfl).sub ⟨rfl,rfl,rfl,rfl,aF⟩) ?_ ?_
 ·exact ⟨fun _ _ h=>h,⟨hJ,fun i a h=>by rw [ko,qd];rw [show uY l (l.length+1) id=DU l id from rfl] at h;rw [h];rfl,ko _⟩,ko _⟩
 clear H;intro gh a w hI H;obtain ⟨i,f,j1,Lt,g⟩:=gh;dsimp only at hI H;obtain ⟨hgm,dR,hjf⟩:=hI;have hbg:=aK hgm hb;dsimp only [lca,bq] at H;refine kP H (SQ fun _ K8=>SR fun _ K9=>Ro aD 1 rfl (Rc rfl (Kz K9 (Cd rfl ?_ ?_)))) <;> clear H K9
 ·intro h23 a H
  try have yj:=dT h23
  have h0:¬ i=0:=by simpa using h23
  obtain ⟨an,han⟩:∃ an,an=rR i 0 (l.map bG.id):=⟨_,rfl⟩;have hfn:=Me i 0 0 (l.map bG.id);rw [← han] at hfn;refine kP H (Kc K8 (SB (SR fun _ aT=>Rm rfl (Ro aD 1 rfl ?_))));clear H K8;intro a H;refine ahq (i:=0) (zv:=vi 0) _ yG lu (by kernel_rfl) H wn rfl rfl rfl (by trivial) (by simpa using hfn) rfl ?_;clear H;intro a H;refine kH H (Rm rfl ?_);clear H;intro a H;(iterate 2 refine lQ H wn rfl rfl rfl ?_;clear H;intro a H);refine kH H (Ra rfl (ak aT rfl (SQ fun _ bC=>SR fun _ bF=>Rm rfl (Rn rfl (Rm rfl (Sp 32 rfl ?_ ?_)))))) <;> clear H aT
  ·intro h32 a H
   try have p32:=dT h32
   obtain rfl:an=none:=by
    cases an with
    | none=>rfl
    | some n=>simp [zN] at h32
   rw [Zp h0 han.symm] at dR;refine kH H (aY h32 rfl (aP h32 rfl (aP h32 rfl (Pt h32 rfl (Kz bF (Ct rfl rfl ?_))))));clear H bF;intro a H;refine bZ ?_;refine (leave0 H results135 ?_).1;refine H.hp.gJ (L':=Lt) (by repeat (first|exact iA _|apply List.Sublist.cons)) (.inl ?_);have h:=dR.len
   simp only [List.length_nil,sI] at h
   rw [← h];exact dR.now
  intro h32 a H
  try have p32:=dF h32
  obtain ⟨n,rfl⟩:∃ n,an=some n:=by
   cases an with
   | none=>simp [zN] at h32
   | some n=>exact ⟨n,rfl⟩
  have hnl:n < l.length:=by have:=UJ han.symm;simpa using this
  obtain ⟨f',rfl⟩:∃ f',f=f'+1:=by
   cases f with
   | succ f'=>exact ⟨f',rfl⟩
   | zero =>
    exfalso
    have hl:=dR.len
    simp only [uY,List.length_nil,sI] at hl
    refine hfin (iN (by omega)) g Lt ?_;rw [← hl];exact dR.now
  rw [Zq h0 han.symm hnl] at dR;dsimp only [zN,Option.map_some] at H;obtain ⟨b,o,pA,pc,rfl,hrow,hp,hrep⟩:=zX (hv.mono hgm) hnl;refine kH H (YM h32 rfl (YR qZ h32 rfl (by assumption) ?_));clear H;intro a H;refine kH H (YM h32 rfl (YI mO jN h32 rfl rfl ?_));clear H;intro a H;refine bJ jN (cs:=[_,_,_,_,_,_]) H (wg H rfl rfl h32) rfl rfl (fun j v hj=>H.hp.aI (hrow j v hj)) rfl ?_;clear H;intro a H;refine EB (Li:=[_,_]) (L:=Lt) H (wg H rfl rfl h32) rfl rfl (hcb j1 _ _ _ _ ⟨_,dR.head,_,rfl,hrep⟩ hgm dR.now (Hp.owns (Li:=[_,_]) H.hp)) rfl ?_;clear H;rintro v38 Ky QB a w ⟨YU,rfl,hb1,hb2⟩ El H;have hbg:=aK El hbg;have r3:=aK El (hrow 3 _ rfl);refine kH H (YN h32 rfl (Pf h32 rfl (Kz bF (Cd rfl ?_ ?_)))) <;> clear H bF
  ·intro kN a H
   try have p40:=dT kN
   refine bZ ?_;refine (leave0 H results135 ?_).1;exact H.hp.gJ (L':=QB) (by repeat (first|exact iA _|apply List.Sublist.cons)) (.inr (hb2 (by simpa using kN)))
  intro kN a H
  try have p40:=dF kN
  refine kP H (Kc bC (SC (Rg qZ rfl (by assumption) ?_)));clear H bC;intro a H;refine kH H (Rm rfl (Ri mO jN rfl rfl (Rf LY rfl (Rg aD rfl (by assumption) ?_))));clear H;intro a H;refine bE aD 1 (vs:=[_]) _ H wn rfl rfl rfl rfl rfl rfl rfl rfl ?_;clear H;intro w H;dsimp only [List.set,setRow] at H;refine aH ?_;refine dD ((l[n].base,f',j1+1,QB,Ky)) (by exact (H).sub ⟨rfl,rfl,rfl,rfl,aF⟩) ?_ ?_
  ·(try dsimp only);exact ⟨fun b o h=>El b o (hgm b o h),dR.step (hb1 (by simpa using kN)),by omega⟩
  first|omega|(dsimp only;omega)
 intro h23 a H
 try have yj:=dF h23
 refine dV ?_;refine (leave0 H results135 ?_).2;rw [Zr (by simpa using h23)] at dR;refine H.hp.gJ (L':=Lt) (by repeat (first|exact iA _|apply List.Sublist.cons)) (.inl ?_);have h:=dR.len
 simp only [List.length_nil,sI] at h
 rw [← h];exact dR.now
end
section
open Go.RowKit
theorem aay:∀ args w,(callFunc 115 args).run prog w=.ok (.enter 115 args) w:=enters func115 rfl (by kernel_rfl)
theorem aax:∀ args w,(callFunc 113 args).run prog w=.ok (.enter 113 args) w:=enters func113 rfl (by kernel_rfl)
theorem Lm:∀ args w,(callFunc 114 args).run prog w=.ok (.enter 114 args) w:=enters func114 rfl (by kernel_rfl)
theorem IE:bM prog 181 4 4:=⟨by kernel_rfl⟩
theorem Zu {G:GH} {w0:World} (hO:gL G [] w0) (l:List bG) (id:Int) (v:aj) (hv:av G (.sl 6 (l.map bG.dat)) v) :
  Calls prog 115 #[v,vi id] w0 (fZ w0 G [] fun u G' L'=>∃ bl bi,u=.func (.func 135) #[] #[(aJ bl 0),(aJ bi 0)]∧L'=[bI bi id]∧aI G' bl 0=some v):=by
 obtain ⟨A,c,rfl,hc1,hc2,-⟩:=hv.slice;refine jI (N:=6) (T:=[(0,_),(1,_)]) func115 rfl ntmps115 rfl rfl hO ?_;intro a H;refine dz (fun _ K1=>?_);refine fC (cs:=[_]) H wn rfl rfl rfl ?_;clear H;intro b2 a w hb2 H;refine fC (cs:=[_]) H wn rfl rfl rfl ?_;clear H;intro b3 a w hb3 H;refine kH H (ak K1 rfl (SR fun _ K2=>?_));clear H K1;intro a H;refine pU H wn rfl rfl ?_;clear H;intro a H;refine kH H (ak K2 rfl ?_);clear H K2;intro a H;refine lr H results115 rfl ?_;have H:=H.dU (Pl:=[_,_]) (dx:=[_,_]) [1,0] (by decide) rfl;obtain ⟨Ga,hma,hb2',H⟩:=H.dM;exact H.hp.dW ⟨b2,b3,rfl,rfl,by unfold aI;rw [hb2'];rfl⟩
def qI (p:Nat→Int):Nat→Nat→Int
 | _,0=>0
 | k,n+1=>if p k=0 then qI p (k+1) n else p k
theorem acs {p:Nat→Int} {k m:Nat} (h:k < m):qI p k (m - k)=if p k=0 then qI p (k+1) (m - (k+1)) else p k:=by
 obtain ⟨n,hn⟩:∃ n,m - k=n+1:=⟨m - k - 1,by omega⟩;rw [hn,qI,show m - (k+1)=n by omega]
theorem acr {p:Nat→Int} {k m:Nat} (h:m≤k):qI p k (m - k)=0:=by rw [show m - k=0 by omega];rfl
theorem Sr {p:Nat→Int}:∀ {n k:Nat},qI p k n=0→∀ j,k≤j→j < k+n→p j=0
 | 0,k,_,j,h1,h2=>by omega
 | n+1,k,h,j,h1,h2=>by
  rw [qI] at h;split at h
  ·rename_i hp
   by_cases e:j=k
   ·rw [e];exact hp
   exact Sr h j (by omega) (by omega)
  rename_i hp;exact absurd h hp
def wU (l:List bG) (k:Nat):Int:=match l[k]? with|some s=>iy l k s|none=>0
theorem Vz {l:List bG} {k:Nat} (h:k < l.length):wU l k=iy l k l[k]:=by unfold wU;rw [gM h]
def qG (l:List bG) (s:bG):Bool:=(decide (s.base≠0) && !CJ l s.kind s.base) || (decide (s.next≠0) && (decide (s.kind=2) || !CJ l 1 s.next))
def Ld (l:List bG) (s:bG):Bool:=decide (l.length < (DU l s.id).length)
def fQ (l:List bG):Int:=if 128 < l.length then 9 else if qI (wU l) 0 l.length≠0 then qI (wU l) 0 l.length else if l.any (qG l)=true then 25 else if l.any (Ld l)=true then 16 else 0
theorem agr {l:List bG} (h:qI (wU l) 0 l.length=0) {k:Nat} (hk:k+1 < l.length):l[k].id < l[k+1].id:=by
 have h1:=Sr h (k+1) (iY _) (by omega);rw [Vz hk,iy,kC] at h1
 have hp:vI l (k+1)=some l[k].id:=by rw [vI,ah (by omega),Nat.add_sub_cancel,gM (by omega)];rfl
 rw [hp] at h1
 split at h1
 ·cases h1
 split at h1
 ·cases h1
 split at h1
 ·cases h1
 rename_i _ h2 h3
 have h2':¬ l[k].id=l[k+1].id:=fun e=>h2 (by rw [e]);have h3':¬ l[k+1].id < l[k].id:=fun e=>h3 (aC e)
 omega
theorem VA {l:List bG} (h:qI (wU l) 0 l.length=0):∀ {k j:Nat} (hk:k < l.length) (hj:j < k),l[j].id < l[k].id
 | k+1,j,hk,hj=>by
  have h1:=agr h hk
  by_cases e:j=k
  ·subst e;exact h1
  have:=VA h (k:=k) (j:=j) (by omega) (by omega)
  omega
theorem VB {l:List bG} (h:qI (wU l) 0 l.length=0) (k:Nat) (hk:k < l.length):l[k].id∉(l.take k).map bG.id:=by
 intro hm;obtain ⟨x,hx1,hx2⟩:=List.mem_map.1 hm;obtain ⟨j,hj,rfl⟩:=List.getElem_of_mem hx1;rw [List.getElem_take] at hx2;rw [List.length_take] at hj;have:=VA h hk (j:=j) (by omega)
 omega
theorem Fu {α:Type} {p:α→Bool} {l:List α} {k:Nat} (hk:k < l.length) (h:(l.take k).any p=false) (hp:p l[k]=false):(l.take (k+1)).any p=false:=by
 rw [jB hk,List.any_append,h];simp [hp]
theorem sN {α:Type} {p:α→Bool} {l:List α} {k:Nat} (hk:k < l.length) (hp:p l[k]=true):l.any p=true:=List.any_eq_true.2 ⟨_,jo hk,hp⟩
theorem xE {α:Type} {p:α→Bool} {l:List α} {k:Nat} (hk:l.length≤k) (h:(l.take k).any p=false):¬ l.any p=true:=by
 rw [jH hk] at h;rw [h];decide
set_option maxHeartbeats 1000000 in
theorem ZE (G:GH) (w0:World) (hG:Hold G w0) (l:List bG) (v:aj) (hv:av G (.sl 6 (l.map bG.dat)) v) (hN:∀ s∈l,s.name.size≤4611686018427387904) :
  Calls prog 80 #[v] w0 (bD w0 G fun u G'=>u=vi (fQ l)):=by
 obtain ⟨A,c,rfl,hc1,hc2,-⟩:=hv.slice;have hml:maxLen=9223372036854775807:=rfl;rw [bT] at *;refine eN [(0,_)] func80 rfl ntmps80 rfl rfl hG ?_;intro a H;refine dz (fun _ K1=>?_);refine fC (cs:=[_]) H wn rfl rfl rfl ?_;clear H;intro b1 a w hb1 H;refine eX fV H wn rfl ?_;clear H;intro b2 a w hb2 H;refine K1 _ _ ?_;clear K1;refine kP H (SQ fun _ K2=>SR fun _ K3=>Ro qZ 1 rfl (Rl mO rfl (Rc rfl (Kz K3 (Cd rfl ?_ ?_))))) <;> clear H K3
 ·intro h12 a H
  try have qO:=dT h12
  refine dz (fun _ K4=>?_);refine bE fV 0 (vs:=[_]) _ H wn rfl rfl rfl rfl rfl rfl rfl rfl ?_;clear H;intro w H;dsimp only [List.set,setRow] at H;refine K4 _ _ ?_;clear K4;refine bZ ?_;refine (leave1 H results80 (.cons (rY fV H rfl (H.hp.ng 0 rfl rfl)) .nil) ?_).1
  first
   | exact H.rt (ay vi (by rw [fQ,au (by omega)]))
   | exact H.rt (ay vi (by rw [ah (by simpa using iK)] at heq;rw [fQ,ah (by omega),← heq,au (by simpa using iK)]))
   | exact H.rt (ay vi (by rw [fQ,ah (by omega),ah (by rw [hok];decide),au hbad]))
   | exact H.rt (ay vi (by rw [fQ,ah (by omega),ah (by rw [hok];decide),ah hbad,au (sN hj2 hI)]))
   | exact H.rt (ay vi (by rw [fQ,ah (by omega),ah (by rw [hok];decide),ah hbad,ah (xE (by omega) hnc)]))
 intro h12 a H
 try have qO:=dF h12
 refine kP H (Kc K2 (SQ fun _ K5=>SR fun _ K6=>Ro qZ 1 rfl (Rl mO rfl (Rm rfl (Kz K6 (SB ?_))))));clear H K2 K6;intro a H;skip;refine fH (ι:=Nat × GH) (Tc:=[(1,_),(2,_),(14,_)]) (Lc:=[(_,_),(_,_)]) (fun gh=>[(15,vi gh.1)]) (fun gh=>[]) (fun gh=>gh.2) (fun gh=>gh.1≤l.length∧qI (wU l) gh.1 (l.length - gh.1)=qI (wU l) 0 l.length∧(∀ b o,G b=some o→gh.2 b=some o)) (fun gh=>l.length - gh.1) ((0,G)) (by exact (H).sub ⟨rfl,rfl,rfl,rfl,aF⟩) ?_ ?_
 ·exact ⟨iY _,rfl,fun _ _ h=>h⟩
 clear H;intro gh a w hI H;obtain ⟨k,g⟩:=gh;dsimp only at hI H;obtain ⟨hk,heq,hgm⟩:=hI;dsimp only [lca,bq] at H;refine kP H (SR fun _ K7=>Rc rfl (Kz K7 (SQ fun _ K8=>Cd rfl ?_ ?_))) <;> clear H K7
 ·intro h16 a H
  try have p16:=dT h16
  have hk2:k < l.length:=by omega
  rw [acs hk2,Vz hk2] at heq;refine kP H (Kc K8 (SQ fun _ K9=>SB (SR fun _ aT=>Rm rfl (ak aT rfl (SR fun _ bC=>Ro qZ 1 rfl (Rm rfl ?_))))));clear H K8 aT;intro a H;refine s_call aax H wn rfl (ags _ _ H.ro l k _ (hv.mono hgm) hk2 (hN _ (jo hk2))) rfl ?_;clear H;rintro v20 Dx a w rfl AY H;refine kH H (ak bC rfl (SR fun _ bF=>Rm rfl (Rc rfl (Kz bF (Cd rfl ?_ ?_))))) <;> clear H bC bF
  ·intro h22 a H
   try have iK:=dT h22
   refine kP H (SR fun _ bN=>Rm rfl ?_);clear H;intro a H;refine bE fV 0 (vs:=[_]) _ H wn rfl rfl rfl rfl rfl rfl rfl rfl ?_;clear H;intro w H;dsimp only [List.set,setRow] at H;refine bN _ _ ?_;clear bN;refine bZ ?_;refine (leave1 H results80 (.cons (rY fV H rfl (H.hp.ng 0 rfl rfl)) .nil) ?_).1
   first
    | exact H.rt (ay vi (by rw [fQ,au (by omega)]))
    | exact H.rt (ay vi (by rw [ah (by simpa using iK)] at heq;rw [fQ,ah (by omega),← heq,au (by simpa using iK)]))
    | exact H.rt (ay vi (by rw [fQ,ah (by omega),ah (by rw [hok];decide),au hbad]))
    | exact H.rt (ay vi (by rw [fQ,ah (by omega),ah (by rw [hok];decide),ah hbad,au (sN hj2 hI)]))
    | exact H.rt (ay vi (by rw [fQ,ah (by omega),ah (by rw [hok];decide),ah hbad,ah (xE (by omega) hnc)]))
  intro h22 a H
  try have iK:=dF h22
  refine kP H (Kc K9 (SC (Rd rfl (Rm rfl ?_))));clear H K9;intro a H;refine aH ?_;refine dD ((k+1,Dx)) (by exact (H).sub ⟨rfl,rfl,rfl,rfl,aF⟩) ?_ ?_
  ·(try dsimp only);exact ⟨by omega,by rw [au (by simpa using iK)] at heq;exact heq,fun b o h=>AY b o (hgm b o h)⟩
  first|omega|(dsimp only;omega)
 intro h16 a H
 try have p16:=dF h16
 have hok:qI (wU l) 0 l.length=0:=by rw [← heq];exact acr (by omega)
 clear heq;have CB:=hv.mono hgm;refine dV ?_;refine K5 _ _ ?_;clear K5;refine kP H (SQ fun _ bQ=>SR fun _ dJ=>Ro qZ 1 rfl (Rl mO rfl (Rm rfl (Kz dJ (SB ?_)))));clear H dJ;intro a H;skip;refine fH (ι:=Nat × GH) (Tc:=[(1,_),(2,_),(25,_),(26,_)]) (Lc:=[(_,_),(_,_)]) (fun gh=>[(27,vi gh.1)]) (fun gh=>[]) (fun gh=>gh.2) (fun gh=>gh.1≤l.length∧(l.take gh.1).any (qG l)=false∧(∀ b o,g b=some o→gh.2 b=some o)) (fun gh=>l.length - gh.1) ((0,g)) (by exact (H).sub ⟨rfl,rfl,rfl,rfl,rfl,aF⟩) ?_ ?_
 ·exact ⟨iY _,rfl,fun _ _ h=>h⟩
 clear H;intro gh a w hI H;obtain ⟨k,g2⟩:=gh;dsimp only at hI H;obtain ⟨hk3,hno,nU⟩:=hI;have wO:=CB.mono nU;dsimp only [lca,bq] at H;refine kP H (SR fun _ dG=>Rc rfl (Kz dG (SQ fun _ dh=>Cd rfl ?_ ?_))) <;> clear H dG
 ·intro eP a H
  try have p28:=dT eP
  have hk4:k < l.length:=by omega
  obtain ⟨b,o,pA,pc,rfl,hrow,hp,hrep⟩:=zX wO hk4;refine kP H (Kc dh (SQ fun _ dX=>SB (SR fun _ gy=>Ri mO jN rfl rfl ?_)));clear H dh;intro a H;refine bJ jN (cs:=[_,_,_,_,_,_]) H wn rfl rfl (fun j v hj=>H.hp.aI (hrow j v hj)) rfl ?_;clear H;intro a H;refine eX jN H wn rfl ?_;clear H;intro b6 a w hb6 H;refine bE jN 0 (vs:=[_,_,_,_,_,_]) _ H wn rfl rfl rfl rfl rfl rfl rfl rfl ?_;clear H;intro w H;dsimp only [List.set,setRow] at H;refine gy _ _ ?_;clear gy;refine kP H (SR fun _ eY=>aV LY aD 0 rfl rfl (Rc rfl (Rm rfl (Sp 34 rfl ?_ ?_)))) <;> clear H
  ·intro fI a H
   try have p34:=dT fI
   refine kH H (YO qZ 2 fI rfl (YF vg fI rfl (YO aD 0 fI rfl (YF LY fI rfl (YO aD 0 fI rfl ?_)))));clear H;intro a H;refine s_call Lm H (wg H rfl rfl fI) rfl (NP _ _ H.ro l l[k].kind l[k].base _ wO) rfl ?_;clear H;rintro v40 g2 a w rfl Ji H;replace nU:=fun b o (h:g b=some o)=>Ji b o (nU b o h);replace wO:=wO.mono Ji;refine kH H (YN fI rfl (Pt fI rfl (Rm rfl (Sp 43 rfl ?_ ?_)))) <;> clear H
   ·intro h43 a H
    try have p43:=dT h43
    refine kH H (aP h43 rfl (aP h43 rfl (Ku rfl (Ku rfl (Ku rfl (Ku rfl (Ku rfl (Ku rfl (Ku rfl (Ku rfl (Ku rfl (Ku rfl (Ks h43 rfl (Pt h43 rfl (Kz eY (Ct rfl rfl (SQ fun _ gD=>?_)))))))))))))))));clear H eY;intro a H;have hbad:l.any (qG l)=true:=sN hk4 (by unfold qG;simp_all);refine oF ?_;refine bE fV 1 (vs:=[_]) _ H wn rfl rfl rfl rfl rfl rfl rfl rfl ?_;clear H;intro w H;dsimp only [List.set,setRow] at H;refine aH ?_;refine gD _ _ ?_;clear gD;refine bZ ?_;refine (leave1 H results80 (.cons (rY fV H rfl (H.hp.ng 1 rfl rfl)) .nil) ?_).1
    first
     | exact H.rt (ay vi (by rw [fQ,au (by omega)]))
     | exact H.rt (ay vi (by rw [ah (by simpa using iK)] at heq;rw [fQ,ah (by omega),← heq,au (by simpa using iK)]))
     | exact H.rt (ay vi (by rw [fQ,ah (by omega),ah (by rw [hok];decide),au hbad]))
     | exact H.rt (ay vi (by rw [fQ,ah (by omega),ah (by rw [hok];decide),ah hbad,au (sN hj2 hI)]))
     | exact H.rt (ay vi (by rw [fQ,ah (by omega),ah (by rw [hok];decide),ah hbad,ah (xE (by omega) hnc)]))
   intro h43 a H
   try have p43:=dF h43
   refine kH H (YF IE h43 rfl (YO aD 0 h43 rfl (YC h43 rfl (YM h43 rfl (Sp 47 rfl ?_ ?_))))) <;> clear H
   ·intro h47 a H
    try have p47:=dT h47
    refine kH H (YF vg h47 rfl (YO aD 0 h47 rfl (YC h47 rfl (YM h47 rfl (Sp 51 rfl ?_ ?_))))) <;> clear H
    ·intro jq a H
     try have p51:=dT jq
     refine kH H (aY jq rfl (aP jq rfl (PT h47 jq rfl (PT h43 h47 rfl (Pf h43 rfl (Kz eY (Ct rfl rfl (SQ fun _ ig=>?_))))))));clear H eY;intro a H;have hbad:l.any (qG l)=true:=sN hk4 (by unfold qG;simp_all);refine oF ?_;refine bE fV 1 (vs:=[_]) _ H wn rfl rfl rfl rfl rfl rfl rfl rfl ?_;clear H;intro w H;dsimp only [List.set,setRow] at H;refine aH ?_;refine ig _ _ ?_;clear ig;refine bZ ?_;refine (leave1 H results80 (.cons (rY fV H rfl (H.hp.ng 1 rfl rfl)) .nil) ?_).1
     first
      | exact H.rt (ay vi (by rw [fQ,au (by omega)]))
      | exact H.rt (ay vi (by rw [ah (by simpa using iK)] at heq;rw [fQ,ah (by omega),← heq,au (by simpa using iK)]))
      | exact H.rt (ay vi (by rw [fQ,ah (by omega),ah (by rw [hok];decide),au hbad]))
      | exact H.rt (ay vi (by rw [fQ,ah (by omega),ah (by rw [hok];decide),ah hbad,au (sN hj2 hI)]))
      | exact H.rt (ay vi (by rw [fQ,ah (by omega),ah (by rw [hok];decide),ah hbad,ah (xE (by omega) hnc)]))
    intro jq a H
    try have p51:=dF jq
    refine kH H (YO qZ 2 jq rfl (YF IE jq rfl (YO aD 0 jq rfl ?_)));clear H;intro a H;refine s_call Lm H (wg H rfl rfl jq) rfl (NP _ _ H.ro l 1 l[k].next _ wO) rfl ?_;clear H;rintro v55 g2 a w rfl tC H;replace nU:=fun b o (h:g b=some o)=>tC b o (nU b o h);replace wO:=wO.mono tC;refine kH H (YN jq rfl (PF h47 jq rfl (PT h43 h47 rfl (Pf h43 rfl (Kz eY (Cd rfl ?_ ?_)))))) <;> clear H eY
    ·intro gW a H
     try have p59:=dT gW
     refine bg (fun _ jF=>?_);have hbad:l.any (qG l)=true:=sN hk4 (by unfold qG;simp_all);refine oF ?_;refine bE fV 1 (vs:=[_]) _ H wn rfl rfl rfl rfl rfl rfl rfl rfl ?_;clear H;intro w H;dsimp only [List.set,setRow] at H;refine aH ?_;refine jF _ _ ?_;clear jF;refine bZ ?_;refine (leave1 H results80 (.cons (rY fV H rfl (H.hp.ng 1 rfl rfl)) .nil) ?_).1
     first
      | exact H.rt (ay vi (by rw [fQ,au (by omega)]))
      | exact H.rt (ay vi (by rw [ah (by simpa using iK)] at heq;rw [fQ,ah (by omega),← heq,au (by simpa using iK)]))
      | exact H.rt (ay vi (by rw [fQ,ah (by omega),ah (by rw [hok];decide),au hbad]))
      | exact H.rt (ay vi (by rw [fQ,ah (by omega),ah (by rw [hok];decide),ah hbad,au (sN hj2 hI)]))
      | exact H.rt (ay vi (by rw [fQ,ah (by omega),ah (by rw [hok];decide),ah hbad,ah (xE (by omega) hnc)]))
    intro gW a H
    try have p59:=dF gW
    refine kP H (Kc dX (SC (Rd rfl (Rm rfl ?_))));clear H dX;intro a H;refine aH ?_;refine dD ((k+1,g2)) (by exact (H.dU (Pl:=[_,_,_]) (dx:=[_,_]) [1,2] (by decide) rfl).sub ⟨rfl,rfl,rfl,rfl,rfl,aF⟩) ?_ ?_
    ·(try dsimp only);exact ⟨by omega,Fu hk4 hno (by unfold qG;simp_all),nU⟩
    first|omega|(dsimp only;omega)
   intro h47 a H
   try have p47:=dF h47
   refine kH H (aP h47 rfl (aP h47 rfl (Ku rfl (Ku rfl (Ku rfl (Ku rfl (Ku rfl (Ks h47 rfl (PF h43 h47 rfl (Pf h43 rfl (Kz eY (Cf rfl rfl (Kc dX (SC (Rd rfl (Rm rfl ?_))))))))))))))));clear H eY dX;intro a H;refine aH ?_;refine dD ((k+1,g2)) (by exact (H.dU (Pl:=[_,_,_]) (dx:=[_,_]) [1,2] (by decide) rfl).sub ⟨rfl,rfl,rfl,rfl,rfl,aF⟩) ?_ ?_
   ·(try dsimp only);exact ⟨by omega,Fu hk4 hno (by unfold qG;simp_all),nU⟩
   first|omega|(dsimp only;omega)
  intro fI a H
  try have p34:=dF fI
  refine kH H (aY fI rfl (aP fI rfl (aP fI rfl (Pf fI rfl (Rm rfl ?_)))));clear H;intro a H;refine zS IE H (wg H rfl rfl rfl) rfl rfl ?_;clear H;intro a H;refine nX aD H (wg H rfl rfl rfl) rfl (H.hp.ng 0 rfl rfl) rfl ?_;clear H;intro a H;refine Dc H (wg H rfl rfl rfl) rfl rfl rfl rfl ?_;clear H;intro a H;refine tL H (wg H rfl rfl rfl) rfl rfl ?_;clear H;intro a H;refine OT H 47 rfl ?_ ?_
  ·intro h47
   try have p47:=dT h47
   refine kH H (YF vg h47 rfl (YO aD 0 h47 rfl (YC h47 rfl (YM h47 rfl (Sp 51 rfl ?_ ?_))))) <;> clear H
   ·intro jq a H
    try have p51:=dT jq
    refine kH H (aY jq rfl (aP jq rfl (PT h47 jq rfl ?_)));clear H;intro a H;refine GN H (wg H rfl rfl rfl) rfl h47 rfl rfl ?_;clear H;intro a H;refine kH H (Pf rfl rfl (Kz eY (Ct rfl rfl (SQ fun _ iW=>?_))));clear H eY;intro a H;have hbad:l.any (qG l)=true:=sN hk4 (by unfold qG;simp_all);refine oF ?_;refine bE fV 1 (vs:=[_]) _ H wn rfl rfl rfl rfl rfl rfl rfl rfl ?_;clear H;intro w H;dsimp only [List.set,setRow] at H;refine aH ?_;refine iW _ _ ?_;clear iW;refine bZ ?_;refine (leave1 H results80 (.cons (rY fV H rfl (H.hp.ng 1 rfl rfl)) .nil) ?_).1
    first
     | exact H.rt (ay vi (by rw [fQ,au (by omega)]))
     | exact H.rt (ay vi (by rw [ah (by simpa using iK)] at heq;rw [fQ,ah (by omega),← heq,au (by simpa using iK)]))
     | exact H.rt (ay vi (by rw [fQ,ah (by omega),ah (by rw [hok];decide),au hbad]))
     | exact H.rt (ay vi (by rw [fQ,ah (by omega),ah (by rw [hok];decide),ah hbad,au (sN hj2 hI)]))
     | exact H.rt (ay vi (by rw [fQ,ah (by omega),ah (by rw [hok];decide),ah hbad,ah (xE (by omega) hnc)]))
   intro jq a H
   try have p51:=dF jq
   refine kH H (YO qZ 2 jq rfl (YF IE jq rfl (YO aD 0 jq rfl ?_)));clear H;intro a H;refine s_call Lm H (wg H rfl rfl jq) rfl (NP _ _ H.ro l 1 l[k].next _ wO) rfl ?_;clear H;rintro v55 g2 a w rfl tC H;replace nU:=fun b o (h:g b=some o)=>tC b o (nU b o h);replace wO:=wO.mono tC;refine kH H (YN jq rfl (PF h47 jq rfl ?_));clear H;intro a H;refine GN H (wg H rfl rfl rfl) rfl h47 rfl rfl ?_;clear H;intro a H;refine kH H (Pf rfl rfl (Kz eY (Cd rfl ?_ ?_))) <;> clear H eY
   ·intro gW a H
    try have p59:=dT gW
    refine bg (fun _ jd=>?_);have hbad:l.any (qG l)=true:=sN hk4 (by unfold qG;simp_all);refine oF ?_;refine bE fV 1 (vs:=[_]) _ H wn rfl rfl rfl rfl rfl rfl rfl rfl ?_;clear H;intro w H;dsimp only [List.set,setRow] at H;refine aH ?_;refine jd _ _ ?_;clear jd;refine bZ ?_;refine (leave1 H results80 (.cons (rY fV H rfl (H.hp.ng 1 rfl rfl)) .nil) ?_).1
    first
     | exact H.rt (ay vi (by rw [fQ,au (by omega)]))
     | exact H.rt (ay vi (by rw [ah (by simpa using iK)] at heq;rw [fQ,ah (by omega),← heq,au (by simpa using iK)]))
     | exact H.rt (ay vi (by rw [fQ,ah (by omega),ah (by rw [hok];decide),au hbad]))
     | exact H.rt (ay vi (by rw [fQ,ah (by omega),ah (by rw [hok];decide),ah hbad,au (sN hj2 hI)]))
     | exact H.rt (ay vi (by rw [fQ,ah (by omega),ah (by rw [hok];decide),ah hbad,ah (xE (by omega) hnc)]))
   intro gW a H
   try have p59:=dF gW
   refine kP H (Kc dX (SC (Rd rfl (Rm rfl ?_))));clear H dX;intro a H;refine aH ?_;refine dD ((k+1,g2)) (by exact (H.dU (Pl:=[_,_,_]) (dx:=[_,_]) [1,2] (by decide) rfl).sub ⟨rfl,rfl,rfl,rfl,rfl,aF⟩) ?_ ?_
   ·(try dsimp only);exact ⟨by omega,Fu hk4 hno (by unfold qG;simp_all),nU⟩
   first|omega|(dsimp only;omega)
  intro h47
  try have p47:=dF h47
  refine kH H (aP h47 rfl (aP h47 rfl (Ku rfl (Ku rfl (Ku rfl (Ku rfl (Ku rfl (Ks h47 rfl ?_))))))));clear H;intro a H;refine JW H (wg H rfl rfl rfl) rfl h47 rfl rfl ?_;clear H;intro a H;refine kH H (Pf rfl rfl (Kz eY (Cf rfl rfl (Kc dX (SC (Rd rfl (Rm rfl ?_)))))));clear H eY dX;intro a H;refine aH ?_;refine dD ((k+1,g2)) (by exact (H.dU (Pl:=[_,_,_]) (dx:=[_,_]) [1,2] (by decide) rfl).sub ⟨rfl,rfl,rfl,rfl,rfl,aF⟩) ?_ ?_
  ·(try dsimp only);exact ⟨by omega,Fu hk4 hno (by unfold qG;simp_all),nU⟩
  first|omega|(dsimp only;omega)
 intro eP a H
 try have p28:=dF eP
 have hbad:=xE (by omega) hno;refine dV ?_;refine bQ _ _ ?_;clear bQ;refine kP H (SQ fun _ jP=>SR fun _ jQ=>Ro qZ 1 rfl (Rl mO rfl (Rm rfl (Kz jQ (SB ?_)))));clear H jQ;intro a H;skip;refine Y9 (ι:=Nat × GH × List Nat) (Tc:=[(1,_),(2,_),(61,_),(62,_)]) (Lc:=[(_,_),(_,_)]) (fun gh=>N7 gh.2.2) (fun gh=>[(63,vi gh.1)]) (fun gh=>[]++(CW gh.2.2++[])) (fun gh=>gh.2.1) (fun gh=>gh.1≤l.length∧(l.take gh.1).any (Ld l)=false∧(∀ b o,g2 b=some o→gh.2.1 b=some o)) (fun gh=>l.length - gh.1) ((0,g2,[])) (by exact (H).sub ⟨rfl,rfl,rfl,rfl,rfl,aF⟩) ?_ ?_
 ·exact ⟨iY _,rfl,fun _ _ h=>h⟩
 clear H;intro gh a w hI H;obtain ⟨j,g3,ds⟩:=gh;dsimp only at hI H;obtain ⟨hj,hnc,zG⟩:=hI;have NH:=wO.mono zG;dsimp only [lca,bq] at H;refine kP H (SR fun _ iL=>Rc rfl (Kz iL (SQ fun _ mQ=>Cd rfl ?_ ?_))) <;> clear H iL
 ·intro h64 a H
  try have p64:=dT h64
  have hj2:j < l.length:=by omega
  obtain ⟨b,o,pA,pc,rfl,hrow,hp,hrep⟩:=zX NH hj2;refine kP H (Kc mQ (SQ fun _ om=>SB (SR fun _ oV=>Ri mO jN rfl rfl ?_)));clear H mQ;intro a H;refine bJ jN (cs:=[_,_,_,_,_,_]) H wn rfl rfl (fun j v hj=>H.hp.aI (hrow j v hj)) rfl ?_;clear H;intro a H;refine eX jN H wn rfl ?_;clear H;intro b8 a w F3 H;refine bE jN 0 (vs:=[_,_,_,_,_,_]) _ H wn rfl rfl rfl rfl rfl rfl rfl rfl ?_;clear H;intro w H;dsimp only [List.set,setRow] at H;refine oV _ _ ?_;clear oV;refine dz (fun _ pY=>?_);refine eX aD H wn rfl ?_;clear H;intro b9 a w xR H;refine bE aD 0 (vs:=[_]) _ H wn rfl rfl rfl rfl rfl rfl rfl rfl ?_;clear H;intro w H;dsimp only [List.set,setRow] at H;refine pY _ _ ?_;clear pY;refine kP H (SR fun _ oW=>Ro qZ 3 rfl (aV sU aD 1 rfl rfl ?_));clear H;intro a H;refine gK aay (Li:=[_,_,_,_]++CW ds) (L:=[]) (St.un (A:=[_,_,_,_]) H) wn rfl (Zu (Hp.owns (Li:=[_,_,_,_]++CW ds) (St.un (A:=[_,_,_,_]) H).hp) l l[j].id _ NH) rfl ?_;clear H;rintro v70 g4 L70 a w ⟨bl,bi,rfl,rfl,hbl⟩ TT H;have H:=(St.Vt (A:=[_,_,_,_,_]) (B:=CW ds) (H.perm xD));dsimp only [lca,bq] at H;have hit:=Zt (l:=l) (id:=l[j].id) (bi:=bi) hbl (NH.mono TT) (VB hok);refine oW _ _ ?_;clear oW;refine xI ?_;skip;refine Zc (B:=[(_,_)]) (ι:=Unit) (κ:=Int) (Lc:=[(_,_),(_,_)]) (fun (k:Nat) (gh:Unit)=>[(b9,.cells #[vi k] 3 (0,0)),(b2,.cells #[vi 0] 56 (0,0))]) (fun (k:Nat) (gh:Unit)=>(CW ds++[])) (fun (k:Nat) (gh:Unit) (g:GH)=>k≤l.length) (fun (gx:Int)=>Code.ret) (fun (gx:Int)=>[(b9,.cells #[vi gx] 3 (0,0)),(b2,.cells #[vi 16] 56 (0,0))]) (fun (gx:Int)=>(CW ds++[])) (fun (gx:Int) (g:GH)=>Ld l l[j]=true) (()) (by exact H.dU (Pl:=[_,_,_,_,_]) (dx:=[_,_,_,_,_]) [0,2,4,1,3] (by decide) rfl) rfl RY (hit) (fun _ _ h=>h) (fun e i g h=>absurd (of_decide_eq_false e) (by rw [bT] at h;omega)) rfl (fun k args g h=>by obtain ⟨_,_,rfl,_⟩:=WJ h;rfl) (fun _ _ _ _ _ h=>h) (fun _ _ _ _ h=>h) (iY _) ?_ ?_ ?_
  ·clear H;intro l21 Bg xH bk k args gh Kv w21 F21 XI a TM wI hI adX aeC aeT H;obtain ⟨TM,ajx,rfl,aki⟩:=WJ TM;dsimp only [vX,List.cons_append,List.nil_append] at H;refine gI ?_;refine adX _ _ _ _ _ _ (by exact H) ?_;clear H;intro w H;refine kP H (SB (SR fun _ rz=>Ro aD 3 rfl (Rd rfl ?_)));clear H;intro a H;refine bE aD 3 (vs:=[_]) _ H wn rfl rfl rfl rfl rfl rfl rfl rfl ?_;clear H;intro w H;dsimp only [List.set,setRow] at H;refine rz _ _ ?_;clear rz;refine kP H (SR fun _ tV=>Ro aD 3 rfl (Ro qZ 2 rfl (Rl mO rfl (Rc rfl (Kz tV (Cd rfl ?_ ?_)))))) <;> clear H tV
   ·intro Cn a H
    try have Ew:=dT Cn
    refine dz (fun _ qD=>?_);refine bE fV 4 (vs:=[_]) _ H wn rfl rfl rfl rfl rfl rfl rfl rfl ?_;clear H;intro w H;dsimp only [List.set,setRow] at H;refine qD _ _ ?_;clear qD;refine bZ ?_;refine (aeT ((k:Int)+1) _ _ _ _ _ (by exact H) ?_).1 rfl;exact jV (by omega)
   intro Cn a H
   try have Ew:=dF Cn
   refine gI ?_;refine aeC (()) _ _ _ _ _ (by exact H) ?_
   omega
  ·clear H;intro PS gh P8 a w wI hI H;dsimp only [lca,bq] at H;refine om _ _ ?_;clear om;refine kP H (SC (Rd rfl (Rm rfl ?_)));clear H;intro a H;refine aH ?_;refine afS ((j+1,P8,PS :: ds)) (by exact (H.dU (Pl:=[_,_,_,_,_]) (dx:=[_,_,_]) [4,2,0] (by decide) rfl).sub ⟨rfl,rfl,rfl,rfl,rfl,aF⟩) ?_ ?_
   ·(try dsimp only);exact ⟨by omega,Fu hj2 hnc (iN (by rw [bT] at hI;omega)),fun b o h=>wI b o (TT b o (zG b o h))⟩
   first|omega|(dsimp only;omega)
  clear H;intro PS gx P8 a w wI hI H;obtain ⟨x,hgh⟩:∃ x,x=gx:=⟨_,rfl⟩;subst hgh;dsimp only [lca,bq] at H;refine bZ ?_;refine (Gy H 0 rfl ?_).1;clear H;intro a w H;dsimp only [List.eraseIdx_cons_succ,List.eraseIdx_cons_zero] at H;refine (NU (Lh:=[_,_,_,_]) _ H ?_).1;clear H;intro a w H;dsimp only [lca,bq] at H;refine (leave1 H results80 (.cons (rY fV H rfl (H.hp.ng 3 rfl rfl)) .nil) ?_).1
  first
   | exact H.rt (ay vi (by rw [fQ,au (by omega)]))
   | exact H.rt (ay vi (by rw [ah (by simpa using iK)] at heq;rw [fQ,ah (by omega),← heq,au (by simpa using iK)]))
   | exact H.rt (ay vi (by rw [fQ,ah (by omega),ah (by rw [hok];decide),au hbad]))
   | exact H.rt (ay vi (by rw [fQ,ah (by omega),ah (by rw [hok];decide),ah hbad,au (sN hj2 hI)]))
   | exact H.rt (ay vi (by rw [fQ,ah (by omega),ah (by rw [hok];decide),ah hbad,ah (xE (by omega) hnc)]))
 intro h64 a H
 try have p64:=dF h64
 refine dV ?_;refine jP _ _ ?_;clear jP;refine dz (fun _ vV=>?_);refine bE fV 0 (vs:=[_]) _ H wn rfl rfl rfl rfl rfl rfl rfl rfl ?_;clear H;intro w H;dsimp only [List.set,setRow] at H;refine vV _ _ ?_;clear vV;refine bZ ?_;refine (NU (Lh:=[_,_]) _ H ?_).1;clear H;intro a w H;dsimp only [lca,bq] at H;refine (leave1 H results80 (.cons (rY fV H rfl (H.hp.ng 0 rfl rfl)) .nil) ?_).1
 first
  | exact H.rt (ay vi (by rw [fQ,au (by omega)]))
  | exact H.rt (ay vi (by rw [ah (by simpa using iK)] at heq;rw [fQ,ah (by omega),← heq,au (by simpa using iK)]))
  | exact H.rt (ay vi (by rw [fQ,ah (by omega),ah (by rw [hok];decide),au hbad]))
  | exact H.rt (ay vi (by rw [fQ,ah (by omega),ah (by rw [hok];decide),ah hbad,au (sN hj2 hI)]))
  | exact H.rt (ay vi (by rw [fQ,ah (by omega),ah (by rw [hok];decide),ah hbad,ah (xE (by omega) hnc)]))
end
section
open Go.RowKit
theorem vQ:Ty prog 34 1 24 [.slice none 0 0] false:=⟨by kernel_rfl,by kernel_rfl⟩
theorem xg:prog.underlying 34=some (.slice 219):=by kernel_rfl
theorem Br:Ty prog 219 2 32 [.string ⟨#[]⟩,.string ⟨#[]⟩] true:=⟨by kernel_rfl,by kernel_rfl⟩
theorem D6:bM prog 219 0 0:=⟨by kernel_rfl⟩
theorem LA:∀ args w,(callFunc 124 args).run prog w=.ok (.enter 124 args) w:=enters func124 rfl (by kernel_rfl)
theorem SL:bM prog 219 1 1:=⟨by kernel_rfl⟩
theorem LZ:bM prog 36 0 0:=⟨by kernel_rfl⟩
theorem abN:∀ args w,(callFunc 80 args).run prog w=.ok (.enter 80 args) w:=enters func80 rfl (by kernel_rfl)
theorem L8:bM prog 36 1 1:=⟨by kernel_rfl⟩
theorem abO:∀ args w,(callFunc 81 args).run prog w=.ok (.enter 81 args) w:=enters func81 rfl (by kernel_rfl)
theorem II:bM prog 36 2 2:=⟨by kernel_rfl⟩
theorem abP:∀ args w,(callFunc 82 args).run prog w=.ok (.enter 82 args) w:=enters func82 rfl (by kernel_rfl)
theorem SX:bM prog 36 3 3:=⟨by kernel_rfl⟩
theorem abQ:∀ args w,(callFunc 83 args).run prog w=.ok (.enter 83 args) w:=enters func83 rfl (by kernel_rfl)
theorem aaG:∀ args w,(callFunc 123 args).run prog w=.ok (.enter 123 args) w:=enters func123 rfl (by kernel_rfl)
theorem Xh {G:GH} {l:List lC} {A:Option Addr} {n c k:Nat} (hv:av G (.sl 2 (l.map lC.dat)) (.slice A n c)) (hk:k < l.length):∃ b o,A=some ⟨b,o,none⟩∧(∀ j u,l[k].cells[j]?=some u→aI G b (o+k*2+j)=some u):=by
 obtain ⟨A',c',he,_,_,hg⟩:=hv.slice
 injection he with e1 e2 e3
 subst e1;obtain ⟨b,o,cs,h1,h2,h3,h4⟩:=hg k l[k].dat (by simp [hk]);have:=aiX h4;subst this;exact ⟨b,o,h1,h3⟩
def Xg (k:Nat) (x:lC) (pn:ByteArray):Int:=cO [bP (!oH x.name) 13,bP (decide (0 < (k:Int)) && (x.name.toList == pn.toList)) 7,bP (decide (0 < (k:Int)) && Op.bytesLess x.name.toList pn.toList) 6,zZ x.value]
def ER (l:List lC) (k:Nat):Int:=match l[k]? with|some x=>Xg k x ((l[k - 1]?.map lC.name).getD ⟨#[]⟩)|none=>0
set_option maxHeartbeats 2000000 in
theorem aiW {G:GH} {bl:Nat} {l:List lC} {A:Option Addr} {n c:Nat} (hb:aI G bl 0=some (.slice A n c)) (hv:av G (.sl 2 (l.map lC.dat)) (.slice A n c)) (hl:l.length≤4294967296) (ht:∀ x∈l,x.name.size < 4611686018427387904∧x.value.size < 4611686018427387904):qC (.func (.func 123) #[] #[(aJ bl 0)]) G l.length (ER l):=by
 intro k hk G1 w0 hm hG;refine lV (caps:=[(aJ bl 0)]) aaG ?_;replace hb:=aK hm hb;replace hv:=hv.mono hm
 obtain rfl:n=l.length:=by have:=hv.len;simpa using this
 obtain ⟨b,o,rfl,hrow⟩:=Xh hv hk
 have hk1:k - 1 < l.length:=by omega
 obtain ⟨b',o',he',hrow'⟩:=Xh hv hk1
 injection he' with he'
 injection he' with e1 e2
 subst e1;subst e2;have hte:=ht _ (jo hk)
 have he:ER l k=Xg k l[k] l[k - 1].name:=by unfold ER;rw [gM hk,gM hk1];rfl
 obtain ⟨x,hx⟩:∃ x,x=l[k]:=⟨_,rfl⟩;obtain ⟨y,hy⟩:∃ y,y=l[k - 1]:=⟨_,rfl⟩;rw [← hx] at hrow hte he;rw [← hy] at hrow' he;refine eN [(0,_),(1,_)] func123 rfl ntmps123 rfl rfl hG ?_;intro a H;refine kP H (SR fun _ K1=>ak K1 rfl (SQ fun _ K2=>?_));clear H K1;intro a H;have H:=H.sub (T':=[(0,_),(1,_)]) ⟨rfl,rfl,aF⟩
 by_cases c0:0 < (k:Int)
 ·skip;refine dI hmx [[],[],[0,1],[0,1,2],(ra 0 4),(ra 0 5),(ra 0 6),(ra 0 7),[],[8],(ra 0 10),(ra 0 11),(ra 0 11),(ra 0 13),(ra 0 14),(ra 0 15),(ra 0 11),(ra 0 11),(ra 0 11++[17]),(ra 0 11++[17,18]),(ra 0 11++ra 16 4),(ra 0 11++ra 16 5),(ra 0 11++ra 16 6),(ra 0 23),(ra 0 24),(ra 0 25),[],[26],(ra 0 28),(ra 0 29),(ra 0 29),(ra 0 31),(ra 0 32),(ra 0 33),(ra 0 29),(ra 0 29),(ra 0 29++[35]),(ra 0 29++[35,36]),(ra 0 29++ra 34 4),(ra 0 29++ra 34 5),(ra 0 29++ra 34 6),(ra 0 41),(ra 0 42),(ra 0 43),[],[],[44,45],[44,45,46],(ra 44 4),(ra 0 49),(ra 0 50),(ra 0 51),(ra 0 52)] [50,51,52] (by kernel_rfl) [_,_,_,_,_,.bool (oH x.name),_,vi (bP (!oH x.name) 13),_,_,_,_,_,_,_,_,_,_,vi ((max k 1:Nat):Int),vi ((k - 1:Nat):Int),_,_,_,.bool (x.name.toList == y.name.toList),.bool (decide (0 < (k:Int)) && (x.name.toList == y.name.toList)),vi (bP (decide (0 < (k:Int)) && (x.name.toList == y.name.toList)) 7),_,_,_,_,_,_,_,_,_,_,vi ((max k 1:Nat):Int),vi ((k - 1:Nat):Int),_,_,_,.bool (Op.bytesLess x.name.toList y.name.toList),.bool (decide (0 < (k:Int)) && Op.bytesLess x.name.toList y.name.toList),vi (bP (decide (0 < (k:Int)) && Op.bytesLess x.name.toList y.name.toList) 6),_,_,_,_,_,vi (zZ x.value)] H (aB (X0 rfl fun hG=>Rg vQ rfl (aK hG hb)) (Z0 rfl (Rm rfl)) (Z2 0 4 1 5 rfl (Ri xg Br rfl rfl)) (Z1 2 6 rfl (Rf D6 rfl)) (aB (X1 3 7 rfl fun hG=>Rg gG rfl (aK hG (hrow 0 _ rfl))) ?_ (Z1 5 9 rfl (Rn rfl)) ?_ (aB (Z0 rfl (Rm rfl)) (Z1 8 12 rfl (Rc rfl)) (Z1 9 13 rfl (Rm rfl)) (X1 10 14 rfl fun hG=>YR vQ (aC c0) rfl (aK hG hb)) (aB (Z1 10 14 rfl (YM (aC c0) rfl)) (Z3 11 15 12 16 10 14 rfl (YI xg Br (aC c0) rfl rfl)) (Z2 13 17 10 14 rfl (YF D6 (aC c0) rfl)) (X2 14 18 10 14 rfl fun hG=>YR gG (aC c0) rfl (aK hG (hrow 0 _ rfl))) (aB (X1 10 14 rfl fun hG=>YR vQ (aC c0) rfl (aK hG hb)) (Z1 10 14 rfl (YM (aC c0) rfl)) ?_ ?_ (aB (Z3 16 20 19 23 10 14 rfl (YI xg Br (aC c0) rfl rfl)) (Z2 20 24 10 14 rfl (YF D6 (aC c0) rfl)) (X2 21 25 10 14 rfl fun hG=>YR gG (aC c0) rfl (aK hG (hrow' 0 _ rfl))) ?_ (aB ?_ ?_ (Z0 rfl (Rm rfl)) (Z1 26 30 rfl (Rc rfl)) (aB (Z1 27 31 rfl (Rm rfl)) (X1 28 32 rfl fun hG=>YR vQ (aC c0) rfl (aK hG hb)) (Z1 28 32 rfl (YM (aC c0) rfl)) (Z3 29 33 30 34 28 32 rfl (YI xg Br (aC c0) rfl rfl)) (aB (Z2 31 35 28 32 rfl (YF D6 (aC c0) rfl)) (X2 32 36 28 32 rfl fun hG=>YR gG (aC c0) rfl (aK hG (hrow 0 _ rfl))) (X1 28 32 rfl fun hG=>YR vQ (aC c0) rfl (aK hG hb)) (Z1 28 32 rfl (YM (aC c0) rfl)) (aB ?_ ?_ (Z3 34 38 37 41 28 32 rfl (YI xg Br (aC c0) rfl rfl)) (Z2 38 42 28 32 rfl (YF D6 (aC c0) rfl)) (aB (X2 39 43 28 32 rfl fun hG=>YR gG (aC c0) rfl (aK hG (hrow' 0 _ rfl))) ?_ ?_ ?_ (aB (X0 rfl fun hG=>Rg vQ rfl (aK hG hb)) (Z0 rfl (Rm rfl)) (Z2 44 48 45 49 rfl (Ri xg Br rfl rfl)) (Z1 46 50 rfl (Rf SL rfl)) (aB (X1 47 51 rfl fun hG=>Rg gG rfl (aK hG (hrow 1 _ rfl))) ?_ (bH rfl) (bH rfl) (aW (bH rfl) bW)))))))))))))) ?_
  ·refine dw 4 8 rfl rfl fun _ a w G1 hG HT H fin=>?_;refine s_call LA H wn rfl (Lb _ _ H.ro x.name hte.1) rfl ?_;clear H;rintro v9 G9 a w ⟨rfl,-⟩ MU H;exact fin H MU (rfl)
  ·refine dw 6 10 rfl rfl fun _ a w G1 hG HT H fin=>?_;refine s_call iP H wn rfl (iR _ _ H.ro _ 13) rfl ?_;clear H;rintro v11 vU a w ⟨rfl,-⟩ jv H;exact fin H jv (rfl)
  ·refine cB 17 21 10 14 rfl rfl fun _ a w G1 hG HT H fin=>?_;refine JU H (wg H rfl rfl (aC c0)) rfl rfl rfl ?_;clear H;intro a H;exact fin H iJ (by show _=_;first|rfl|exact ay vi (by omega))
  ·refine cB 18 22 10 14 rfl rfl fun _ a w G1 hG HT H fin=>?_;refine mq _ H (wg H rfl rfl (aC c0)) rfl rfl rfl (by omega) (by omega) rfl ?_;clear H;intro a H;exact fin H iJ (by show _=_;first|rfl|exact ay vi (by omega))
  ·refine mR 15 19 22 26 10 14 rfl rfl fun _ a w G1 hG HT H fin=>?_;refine Bl H (wg H rfl rfl (aC c0)) rfl rfl rfl ?_;clear H;intro a H;exact fin H iJ rfl
  ·refine cB 10 14 23 27 rfl rfl fun _ a w G1 hG HT H fin=>?_;refine kH H (Pt (aC c0) rfl ?_);clear H;intro a H;exact fin H iJ (aG (by first|(rw [jV c0,BR];done)|(rw [iN c0,tZ];done)))
  ·refine dw 24 28 rfl rfl fun _ a w G1 hG HT H fin=>?_;refine s_call iP H wn rfl (iR _ _ H.ro _ 7) rfl ?_;clear H;rintro v29 PY a w ⟨rfl,-⟩ MK H;exact fin H MK (rfl)
  ·refine cB 35 39 28 32 rfl rfl fun _ a w G1 hG HT H fin=>?_;refine JU H (wg H rfl rfl (aC c0)) rfl rfl rfl ?_;clear H;intro a H;exact fin H iJ (by show _=_;first|rfl|exact ay vi (by omega))
  ·refine cB 36 40 28 32 rfl rfl fun _ a w G1 hG HT H fin=>?_;refine mq _ H (wg H rfl rfl (aC c0)) rfl rfl rfl (by omega) (by omega) rfl ?_;clear H;intro a H;exact fin H iJ (by show _=_;first|rfl|exact ay vi (by omega))
  ·refine mR 33 37 40 44 28 32 rfl rfl fun _ a w G1 hG HT H fin=>?_;refine ahs H (wg H rfl rfl (aC c0)) rfl rfl rfl ?_;clear H;intro a H;exact fin H iJ rfl
  ·refine cB 28 32 41 45 rfl rfl fun _ a w G1 hG HT H fin=>?_;refine kH H (Pt (aC c0) rfl ?_);clear H;intro a H;exact fin H iJ (aG (by first|(rw [jV c0,BR];done)|(rw [iN c0,tZ];done)))
  ·refine dw 42 46 rfl rfl fun _ a w G1 hG HT H fin=>?_;refine s_call iP H wn rfl (iR _ _ H.ro _ 6) rfl ?_;clear H;rintro v47 XY a w ⟨rfl,-⟩ FV H;exact fin H FV (rfl)
  ·refine dw 48 52 rfl rfl fun _ a w G1 hG HT H fin=>?_;refine s_call Ls H wn rfl (O9 _ _ H.ro x.value hte.2) rfl ?_;clear H;rintro v53 X4 a w rfl MO H;exact fin H MO (rfl)
  clear H;intro a w G mH H hv;have H:=H.aS (hv 7 11 rfl rfl) rfl;have H:=H.aS (hv 25 29 rfl rfl) rfl;have H:=H.aS (hv 43 47 rfl rfl) rfl;have H:=H.aS (hv 49 53 rfl rfl) rfl;clear hv;refine gP nJ fV [_,_,_,_] [_,_,_,_] H wn rfl rfl rfl rfl rfl (by intro i q h;match i,h with|0,h=>exact h|1,h=>exact h|2,h=>exact h|3,h=>exact h|n+4,h=>simp at h) rfl rfl ?_;clear H;intro YV a w adU H;obtain ⟨X5,aes,M9,H⟩:=H.dM;refine s_call oI H wn rfl (oK _ _ H.ro _ _ (CG [bP (!oH x.name) 13,bP (decide (0 < (k:Int)) && (x.name.toList == y.name.toList)) 7,bP (decide (0 < (k:Int)) && Op.bytesLess x.name.toList y.name.toList) 6,zZ x.value] M9 (show 4≤maxLen by decide))) rfl ?_;clear H;rintro v55 _ a w ⟨rfl,rfl⟩ - H;refine kH H (Ra rfl ?_);clear H;intro a H;refine aH ⟨rfl,?_⟩;refine K2 _ _ ?_;clear K2;refine lr H results123 rfl ?_;exact H.rt (by rw [he];rfl)
 skip;refine dI hmx [[],[],[0,1],[0,1,2],(ra 0 4),(ra 0 5),(ra 0 6),(ra 0 7),[],[8],(ra 0 10),(ra 0 11),(ra 0 11),(ra 0 13),(ra 0 14),(ra 0 15),(ra 0 11),(ra 0 11),(ra 0 11++[17]),(ra 0 11++[17,18]),(ra 0 11++ra 16 4),(ra 0 11++ra 16 5),(ra 0 11++ra 16 6),(ra 0 23),(ra 0 24),(ra 0 25),[],[26],(ra 0 28),(ra 0 29),(ra 0 29),(ra 0 31),(ra 0 32),(ra 0 33),(ra 0 29),(ra 0 29),(ra 0 29++[35]),(ra 0 29++[35,36]),(ra 0 29++ra 34 4),(ra 0 29++ra 34 5),(ra 0 29++ra 34 6),(ra 0 41),(ra 0 42),(ra 0 43),[],[],[44,45],[44,45,46],(ra 44 4),(ra 0 49),(ra 0 50),(ra 0 51),(ra 0 52)] [50,51,52] (by kernel_rfl) [_,_,_,_,_,.bool (oH x.name),_,vi (bP (!oH x.name) 13),_,_,_,undef,undef,undef,undef,undef,undef,undef,undef,undef,undef,undef,undef,undef,.bool (decide (0 < (k:Int)) && (x.name.toList == y.name.toList)),vi (bP (decide (0 < (k:Int)) && (x.name.toList == y.name.toList)) 7),_,_,_,undef,undef,undef,undef,undef,undef,undef,undef,undef,undef,undef,undef,undef,.bool (decide (0 < (k:Int)) && Op.bytesLess x.name.toList y.name.toList),vi (bP (decide (0 < (k:Int)) && Op.bytesLess x.name.toList y.name.toList) 6),_,_,_,_,_,vi (zZ x.value)] H (aB (X0 rfl fun hG=>Rg vQ rfl (aK hG hb)) (Z0 rfl (Rm rfl)) (Z2 0 4 1 5 rfl (Ri xg Br rfl rfl)) (Z1 2 6 rfl (Rf D6 rfl)) (aB (X1 3 7 rfl fun hG=>Rg gG rfl (aK hG (hrow 0 _ rfl))) ?_ (Z1 5 9 rfl (Rn rfl)) ?_ (aB (Z0 rfl (Rm rfl)) (Z1 8 12 rfl (Rc rfl)) (Z1 9 13 rfl (Rm rfl)) (aN (j:=10) (by kernel_rfl) (fun _ _ _ _ _ h=>h) rfl rfl rfl rfl rfl (fun _ _ h=>aO h (aG (aM c0))) rfl (fun _=>rfl)) (aB (aN (j:=10) (by kernel_rfl) (fun _ _ _ _ _ h=>h) rfl rfl rfl rfl rfl (fun _ _ h=>aO h (aG (aM c0))) rfl (fun _=>rfl)) (aN (j:=10) (by kernel_rfl) (fun _ _ _ _ _ h=>h) rfl rfl rfl rfl rfl (fun _ _ h=>aO h (aG (aM c0))) rfl (fun _=>rfl)) (aN (j:=10) (by kernel_rfl) (fun _ _ _ _ _ h=>h) rfl rfl rfl rfl rfl (fun _ _ h=>aO h (aG (aM c0))) rfl (fun _=>rfl)) (aN (j:=10) (by kernel_rfl) (fun _ _ _ _ _ h=>h) rfl rfl rfl rfl rfl (fun _ _ h=>aO h (aG (aM c0))) rfl (fun _=>rfl)) (aB (aN (j:=10) (by kernel_rfl) (fun _ _ _ _ _ h=>h) rfl rfl rfl rfl rfl (fun _ _ h=>aO h (aG (aM c0))) rfl (fun _=>rfl)) (aN (j:=10) (by kernel_rfl) (fun _ _ _ _ _ h=>h) rfl rfl rfl rfl rfl (fun _ _ h=>aO h (aG (aM c0))) rfl (fun _=>rfl)) (aN (j:=10) (by kernel_rfl) (fun _ _ _ _ _ h=>h) rfl rfl rfl rfl rfl (fun _ _ h=>aO h (aG (aM c0))) rfl (fun _=>rfl)) (aN (j:=10) (by kernel_rfl) (fun _ _ _ _ _ h=>h) rfl rfl rfl rfl rfl (fun _ _ h=>aO h (aG (aM c0))) rfl (fun _=>rfl)) (aB (aN (j:=10) (by kernel_rfl) (fun _ _ _ _ _ h=>h) rfl rfl rfl rfl rfl (fun _ _ h=>aO h (aG (aM c0))) rfl (fun _=>rfl)) (aN (j:=10) (by kernel_rfl) (fun _ _ _ _ _ h=>h) rfl rfl rfl rfl rfl (fun _ _ h=>aO h (aG (aM c0))) rfl (fun _=>rfl)) (aN (j:=10) (by kernel_rfl) (fun _ _ _ _ _ h=>h) rfl rfl rfl rfl rfl (fun _ _ h=>aO h (aG (aM c0))) rfl (fun _=>rfl)) (aN (j:=10) (by kernel_rfl) (fun _ _ _ _ _ h=>h) rfl rfl rfl rfl rfl (fun _ _ h=>aO h (aG (aM c0))) rfl (fun _=>rfl)) (aB ?_ ?_ (Z0 rfl (Rm rfl)) (Z1 26 30 rfl (Rc rfl)) (aB (Z1 27 31 rfl (Rm rfl)) (aN (j:=28) (by kernel_rfl) (fun _ _ _ _ _ h=>h) rfl rfl rfl rfl rfl (fun _ _ h=>aO h (aG (aM c0))) rfl (fun _=>rfl)) (aN (j:=28) (by kernel_rfl) (fun _ _ _ _ _ h=>h) rfl rfl rfl rfl rfl (fun _ _ h=>aO h (aG (aM c0))) rfl (fun _=>rfl)) (aN (j:=28) (by kernel_rfl) (fun _ _ _ _ _ h=>h) rfl rfl rfl rfl rfl (fun _ _ h=>aO h (aG (aM c0))) rfl (fun _=>rfl)) (aB (aN (j:=28) (by kernel_rfl) (fun _ _ _ _ _ h=>h) rfl rfl rfl rfl rfl (fun _ _ h=>aO h (aG (aM c0))) rfl (fun _=>rfl)) (aN (j:=28) (by kernel_rfl) (fun _ _ _ _ _ h=>h) rfl rfl rfl rfl rfl (fun _ _ h=>aO h (aG (aM c0))) rfl (fun _=>rfl)) (aN (j:=28) (by kernel_rfl) (fun _ _ _ _ _ h=>h) rfl rfl rfl rfl rfl (fun _ _ h=>aO h (aG (aM c0))) rfl (fun _=>rfl)) (aN (j:=28) (by kernel_rfl) (fun _ _ _ _ _ h=>h) rfl rfl rfl rfl rfl (fun _ _ h=>aO h (aG (aM c0))) rfl (fun _=>rfl)) (aB (aN (j:=28) (by kernel_rfl) (fun _ _ _ _ _ h=>h) rfl rfl rfl rfl rfl (fun _ _ h=>aO h (aG (aM c0))) rfl (fun _=>rfl)) (aN (j:=28) (by kernel_rfl) (fun _ _ _ _ _ h=>h) rfl rfl rfl rfl rfl (fun _ _ h=>aO h (aG (aM c0))) rfl (fun _=>rfl)) (aN (j:=28) (by kernel_rfl) (fun _ _ _ _ _ h=>h) rfl rfl rfl rfl rfl (fun _ _ h=>aO h (aG (aM c0))) rfl (fun _=>rfl)) (aN (j:=28) (by kernel_rfl) (fun _ _ _ _ _ h=>h) rfl rfl rfl rfl rfl (fun _ _ h=>aO h (aG (aM c0))) rfl (fun _=>rfl)) (aB (aN (j:=28) (by kernel_rfl) (fun _ _ _ _ _ h=>h) rfl rfl rfl rfl rfl (fun _ _ h=>aO h (aG (aM c0))) rfl (fun _=>rfl)) (aN (j:=28) (by kernel_rfl) (fun _ _ _ _ _ h=>h) rfl rfl rfl rfl rfl (fun _ _ h=>aO h (aG (aM c0))) rfl (fun _=>rfl)) ?_ ?_ (aB (X0 rfl fun hG=>Rg vQ rfl (aK hG hb)) (Z0 rfl (Rm rfl)) (Z2 44 48 45 49 rfl (Ri xg Br rfl rfl)) (Z1 46 50 rfl (Rf SL rfl)) (aB (X1 47 51 rfl fun hG=>Rg gG rfl (aK hG (hrow 1 _ rfl))) ?_ (bH rfl) (bH rfl) (aW (bH rfl) bW)))))))))))))) ?_
 ·refine dw 4 8 rfl rfl fun _ a w G1 hG HT H fin=>?_;refine s_call LA H wn rfl (Lb _ _ H.ro x.name hte.1) rfl ?_;clear H;rintro v9 G9 a w ⟨rfl,-⟩ MU H;exact fin H MU (rfl)
 ·refine dw 6 10 rfl rfl fun _ a w G1 hG HT H fin=>?_;refine s_call iP H wn rfl (iR _ _ H.ro _ 13) rfl ?_;clear H;rintro v11 vU a w ⟨rfl,-⟩ jv H;exact fin H jv (rfl)
 ·refine cB 10 14 23 27 rfl rfl fun _ a w G1 hG HT H fin=>?_;refine kH H (Pf (aM c0) rfl ?_);clear H;intro a H;exact fin H iJ (aG (by first|(rw [jV c0,BR];done)|(rw [iN c0,tZ];done)))
 ·refine dw 24 28 rfl rfl fun _ a w G1 hG HT H fin=>?_;refine s_call iP H wn rfl (iR _ _ H.ro _ 7) rfl ?_;clear H;rintro v29 PY a w ⟨rfl,-⟩ MK H;exact fin H MK (rfl)
 ·refine cB 28 32 41 45 rfl rfl fun _ a w G1 hG HT H fin=>?_;refine kH H (Pf (aM c0) rfl ?_);clear H;intro a H;exact fin H iJ (aG (by first|(rw [jV c0,BR];done)|(rw [iN c0,tZ];done)))
 ·refine dw 42 46 rfl rfl fun _ a w G1 hG HT H fin=>?_;refine s_call iP H wn rfl (iR _ _ H.ro _ 6) rfl ?_;clear H;rintro v47 XY a w ⟨rfl,-⟩ FV H;exact fin H FV (rfl)
 ·refine dw 48 52 rfl rfl fun _ a w G1 hG HT H fin=>?_;refine s_call Ls H wn rfl (O9 _ _ H.ro x.value hte.2) rfl ?_;clear H;rintro v53 X4 a w rfl MO H;exact fin H MO (rfl)
 clear H;intro a w G mH H hv;have H:=H.aS (hv 7 11 rfl rfl) rfl;have H:=H.aS (hv 25 29 rfl rfl) rfl;have H:=H.aS (hv 43 47 rfl rfl) rfl;have H:=H.aS (hv 49 53 rfl rfl) rfl;clear hv;refine gP nJ fV [_,_,_,_] [_,_,_,_] H wn rfl rfl rfl rfl rfl (by intro i q h;match i,h with|0,h=>exact h|1,h=>exact h|2,h=>exact h|3,h=>exact h|n+4,h=>simp at h) rfl rfl ?_;clear H;intro YV a w adU H;obtain ⟨X5,aes,M9,H⟩:=H.dM;refine s_call oI H wn rfl (oK _ _ H.ro _ _ (CG [bP (!oH x.name) 13,bP (decide (0 < (k:Int)) && (x.name.toList == y.name.toList)) 7,bP (decide (0 < (k:Int)) && Op.bytesLess x.name.toList y.name.toList) 6,zZ x.value] M9 (show 4≤maxLen by decide))) rfl ?_;clear H;rintro v55 _ a w ⟨rfl,rfl⟩ - H;refine kH H (Ra rfl ?_);clear H;intro a H;refine aH ⟨rfl,?_⟩;refine K2 _ _ ?_;clear K2;refine lr H results123 rfl ?_;exact H.rt (by rw [he];rfl)
def Io (l:List lC):Int:=cO [bP (decide (128 < (l.length:Int))) 9,jR (ER l) (min l.length 128)]
theorem ZA (G:GH) (w0:World) (hG:Hold G w0) (l:List lC) (v:aj) (hv:av G (.sl 2 (l.map lC.dat)) v) (hl:l.length≤4294967296) (ht:∀ x∈l,x.name.size < 4611686018427387904∧x.value.size < 4611686018427387904) :
  Calls prog 83 #[v] w0 (bD w0 G fun u G'=>u=vi (Io l)):=by
 obtain ⟨A,c,rfl,hc1,hc2,-⟩:=hv.slice;rw [bT] at *;refine eN [(0,_)] func83 rfl ntmps83 rfl rfl hG ?_;intro a H;refine dz (fun _ K1=>?_);refine fC (cs:=[_]) H wn rfl rfl rfl ?_;clear H;intro b1 a w hb1 H;refine kH H (ak K1 rfl (SQ fun _ K2=>?_));clear H K1;intro a H;have H:=H.sub (T':=[(1,_)]) ⟨rfl,aF⟩;obtain ⟨Ga,hma,hb1',H⟩:=H.dM
 have hbl:aI Ga b1 0=some (.slice A l.length c):=by unfold aI;rw [hb1'];rfl
 have hcb:=aiW hbl (hv.mono hma) hl ht;refine dI hmx [[],[0],[0,1],[0,1,2],[],[4],[4,5],[],(ra 0 8),(ra 0 9),(ra 0 10),(ra 0 11)] [9,10,11] (by kernel_rfl) [_,_,_,vi (bP (decide (128 < (l.length:Int))) 9),_,_,vi ((min l.length 128:Nat):Int),.func (.func 123) #[] #[(aJ b1 0)],vi (jR (ER l) (min l.length 128))] H (aB (X0 rfl fun hG=>Rg vQ rfl (aK hG hbl)) (Z1 0 3 rfl (Rl xg rfl)) (Z1 1 4 rfl (Rc rfl)) ?_ (aB (X0 rfl fun hG=>Rg vQ rfl (aK hG hbl)) (Z1 4 7 rfl (Rl xg rfl)) ?_ ?_ (aB ?_ (bH rfl) (bH rfl) (bH rfl) bW))) ?_
 ·refine dw 2 5 rfl rfl fun _ a w G1 hG HT H fin=>?_;refine s_call iP H wn rfl (iR _ _ H.ro _ 9) rfl ?_;clear H;rintro v6 G6 a w ⟨rfl,-⟩ iV H;exact fin H iV (rfl)
 ·refine dw 5 8 rfl rfl fun _ a w G1 hG HT H fin=>?_;refine JV H wn rfl rfl rfl ?_;clear H;intro a H;exact fin H iJ (ay vi (by omega))
 ·refine yM rfl fun _ a w G1 hG HT H fin=>?_;refine pU H wn rfl rfl ?_;clear H;intro a H;exact fin H iJ rfl
 ·refine cB 6 9 7 10 rfl rfl fun _ a w G1 hG HT H fin=>?_;refine s_call DY H wn rfl (Fp _ _ H.ro (min l.length 128) (ER l) _ (by omega) ((hcb.mono hG).le (Nat.min_le_left _ _))) rfl ?_;clear H;rintro v11 vU a w rfl jv H;exact fin H jv (rfl)
 clear H;intro a w G mH H hv;have H:=H.aS (hv 3 6 rfl rfl) rfl;have H:=H.aS (hv 8 11 rfl rfl) rfl;clear hv;refine gP nJ fV [_,_] [_,_] H wn rfl rfl rfl rfl rfl (by intro i q h;match i,h with|0,h=>exact h|1,h=>exact h|n+2,h=>simp at h) rfl rfl ?_;clear H;intro b12 a w AV H;obtain ⟨Ai,Cu,Cr,H⟩:=H.dM;refine s_call oI H wn rfl (oK _ _ H.ro _ _ (vO Cr)) rfl ?_;clear H;rintro v13 _ a w ⟨rfl,rfl⟩ - H;refine kH H (Ra rfl ?_);clear H;intro a H;refine aH ⟨rfl,?_⟩;refine K2 _ _ ?_;clear K2;refine lr H results83 rfl ?_;exact H.rt rfl
structure yN where
 styles:List bG
 lists:List fK
 comments:List bU
 vars:List lC
structure DJ (G:GH) (s:yN) (a b c d:aj):Prop where
 st:av G (.sl 6 (s.styles.map bG.dat)) a
 li:av G (.sl 2 (s.lists.map fK.dat)) b
 cm:av G (.sl 6 (s.comments.map bU.dat)) c
 va:av G (.sl 2 (s.vars.map lC.dat)) d
structure KL (s:yN):Prop where
 sn:∀ x∈s.styles,x.name.size≤4611686018427387904
 ln:s.lists.length≤4294967296
 lt:∀ x∈s.lists,∀ y∈x.levels,y.wX.size < 4611686018427387904
 cn:s.comments.length≤4294967296
 ct:∀ x∈s.comments,x.author.size < 4611686018427387904∧x.text.size < 4611686018427387904
 vn:s.vars.length≤4294967296
 vt:∀ x∈s.vars,x.name.size < 4611686018427387904∧x.value.size < 4611686018427387904
def Im (s:yN):Int:=cO [fQ s.styles,Fv s.lists,Il s.comments,Io s.vars]
theorem Zz (G:GH) (w0:World) (hG:Hold G w0) (s:yN) (a b c d:aj) (hR:DJ G s a b c d) (hz:KL s) :
  Calls prog 55 #[.agg #[a,b,c,d]] w0 (bD w0 G fun u G'=>u=vi (Im s)):=by
 obtain ⟨sA,sn,sc,rfl⟩:=hR.st.form;obtain ⟨lA,ln,lc,rfl⟩:=hR.li.form;obtain ⟨cA,cn,cc,rfl⟩:=hR.cm.form;obtain ⟨vA,vn,vc,rfl⟩:=hR.va.form;refine eN [(0,_)] func55 rfl ntmps55 rfl rfl hG ?_;intro a H;refine dz (fun _ K1=>?_);refine fC (cs:=[_,_,_,_]) H wn rfl rfl rfl ?_;clear H;intro b1 a w hb1 H;refine kH H (ak K1 rfl (SQ fun _ K2=>?_));clear H K1;intro a H;have H:=H.sub (T':=[(1,_)]) ⟨rfl,aF⟩;obtain ⟨Ga,hma,hb1',H⟩:=H.dM
 have hc0:aI Ga b1 0=some (.slice sA sn sc):=by unfold aI;rw [hb1'];rfl
 have hc1:aI Ga b1 1=some (.slice lA ln lc):=by unfold aI;rw [hb1'];rfl
 have hc2:aI Ga b1 2=some (.slice cA cn cc):=by unfold aI;rw [hb1'];rfl
 have hc3:aI Ga b1 3=some (.slice vA vn vc):=by unfold aI;rw [hb1'];rfl
 refine dI hmx [[],[0],[0,1],[],[3],(ra 0 5),[],[6],(ra 0 8),[],[9],(ra 0 11),(ra 0 12),(ra 0 13),(ra 0 14)] [12,13,14] (by kernel_rfl) [_,_,vi (fQ s.styles),_,_,vi (Fv s.lists),_,_,vi (Il s.comments),_,_,vi (Io s.vars)] H (aB (Z0 rfl (Rf LZ rfl)) (X1 0 3 rfl fun hG=>Rg qZ rfl (aK hG hc0)) ?_ (Z0 rfl (Rf L8 rfl)) (aB (X1 3 6 rfl fun hG=>Rg Dj rfl (aK hG hc1)) ?_ (Z0 rfl (Rf II rfl)) (X1 6 9 rfl fun hG=>Rg Ac rfl (aK hG hc2)) (aB ?_ (Z0 rfl (Rf SX rfl)) (X1 9 12 rfl fun hG=>Rg vQ rfl (aK hG hc3)) ?_ (aW (bH rfl) (aW (bH rfl) (aW (bH rfl) bW)))))) ?_
 ·refine dw 1 4 rfl rfl fun _ a w G1 hG HT H fin=>?_;refine s_call abN H wn rfl (ZE _ _ H.ro s.styles _ ((hR.st.mono hma).mono hG) hz.sn) rfl ?_;clear H;rintro v5 G5 a w rfl AQ H;exact fin H AQ (rfl)
 ·refine dw 4 7 rfl rfl fun _ a w G1 hG HT H fin=>?_;refine s_call abO H wn rfl (Zx _ _ H.ro s.lists _ ((hR.li.mono hma).mono hG) hz.ln hz.lt) rfl ?_;clear H;rintro v8 G8 a w rfl qJ H;exact fin H qJ (rfl)
 ·refine dw 7 10 rfl rfl fun _ a w G1 hG HT H fin=>?_;refine s_call abP H wn rfl (Zv _ _ H.ro s.comments _ ((hR.cm.mono hma).mono hG) hz.cn hz.ct) rfl ?_;clear H;rintro v11 vU a w rfl jv H;exact fin H jv (rfl)
 ·refine dw 10 13 rfl rfl fun _ a w G1 hG HT H fin=>?_;refine s_call abQ H wn rfl (ZA _ _ H.ro s.vars _ ((hR.va.mono hma).mono hG) hz.vn hz.vt) rfl ?_;clear H;rintro v14 Du a w rfl FR H;exact fin H FR (rfl)
 clear H;intro a w G mH H hv;have H:=H.aS (hv 2 5 rfl rfl) rfl;have H:=H.aS (hv 5 8 rfl rfl) rfl;have H:=H.aS (hv 8 11 rfl rfl) rfl;have H:=H.aS (hv 11 14 rfl rfl) rfl;clear hv;refine gP nJ fV [_,_,_,_] [_,_,_,_] H wn rfl rfl rfl rfl rfl (by intro i q h;match i,h with|0,h=>exact h|1,h=>exact h|2,h=>exact h|3,h=>exact h|n+4,h=>simp at h) rfl rfl ?_;clear H;intro b15 a w adP H;obtain ⟨Dw,qK,adQ,H⟩:=H.dM;refine s_call oI H wn rfl (oK _ _ H.ro _ _ (CG [fQ s.styles,Fv s.lists,Il s.comments,Io s.vars] adQ (show 4≤maxLen by decide))) rfl ?_;clear H;rintro v16 _ a w ⟨rfl,rfl⟩ - H;refine kH H (Ra rfl ?_);clear H;intro a H;refine aH ⟨rfl,?_⟩;refine K2 _ _ ?_;clear K2;refine lr H results55 rfl ?_;exact H.rt rfl
end
section
open Go.RowKit
def tJ:Nat→List (Int × aj)→List MapEntry
 | _,[]=>[]
 | i,(k,v) :: r=>⟨.int .i64 k,v,i⟩ :: tJ (i+1) r
theorem Vh (x:Int × aj):∀ (i:Nat) (l:List (Int × aj)),tJ i (l++[x])=tJ i l++[⟨.int .i64 x.1,x.2,i+l.length⟩]
 | _,[]=>rfl
 | i,k :: r=>by
  rw [nN,tJ,Vh x (i+1) r,tJ,nN,nM,show i+1+r.length=i+(r.length+1) by omega]
def kQ (x:Int):List (Int × aj)→Option aj
 | []=>none
 | (k,v) :: r=>if k=x then some v else kQ x r
theorem GA {x:Int}:∀ {l:List (Int × aj)},x∉l.map (·.1)→kQ x l=none
 | [],_=>rfl
 | (k,v) :: r,h=>by
  rw [kQ,ah (fun e=>h (by simp [e])),GA (fun hm=>h (kr _ hm))]
theorem Mf (x:Int):∀ (i j:Nat) (l:List (Int × aj)),∃ an,Instr.findNow (.int .i64) (.int .i64 x) (tJ i l) j=some an∧an.map (·.2)=kQ x l
 | _,_,[]=>⟨none,rfl,rfl⟩
 | i,j,(k,v) :: r=>by
  obtain ⟨an,h1,h2⟩:=Mf x (i+1) (j+1) r
  by_cases e:k=x
  ·subst e
   exact ⟨some (j,v),by simp only [tJ,Instr.findNow,Instr.sameNow,au,beq_self_eq_true],by rw [kQ,au rfl];rfl⟩
  ·have hb:(x == k)=false:=by simp;exact fun h=>e h.symm
   exact ⟨an,by simpa only [tJ,Instr.findNow,Instr.sameNow,au,hb] using h1,by rw [kQ,ah e];exact h2⟩
abbrev eH (l:List (Int × aj)):Obj:=.map (tJ 0 l).toArray l.length
section
variable {N:Nat} {D:List Deferred} {w0:World} {F:Nat→Prop} {G0 G:GH} {L:OL} {T:List (Nat × aj)}
variable {r:Option Nat} {P:Program} {ops:Array Oper} {Q:Exit→Act→World→Prop} {rest:List Oper} {a:Act} {w:World}
variable {d:Nat} {ty:TypeId} {pos:String} {aL:Array Edge} {g:Option (Nat × Bool)}
theorem vL {t kt et:TypeId} {x y:Operand} {b:Nat} {l:List (Int × aj)} {ky:Int} {zv:aj} (hm:P.underlying t=some (.map kt et)) (hk:P.underlying kt=some (.int .i64)) (hz:(P.info? et).map (fun i=>i.zero)=some (some zv)) (H:St N D w0 F G0 G L T a w)
  (hw:Region.wanted ⟨some d,.lookup t x y false,ty,pos,aL,g⟩ (yielded ops a.tmps)=true) (hx:ev T x=some (.map (some b))) (hy:ev T y=some (.int .i64 ky)) (hb:w.heap[b]?=some (eH l)) (hd:Nat.blt d N=true)
  (k:∀ a',St N D w0 F G0 G L ((d,(kQ ky l).getD zv) :: T) a' w→WL r P ops Q rest a' w):WL r P ops Q (⟨some d,.lookup t x y false,ty,pos,aL,g⟩ :: rest) a w:=by
 obtain ⟨an,hf,han⟩:=Mf ky 0 0 l
 obtain ⟨inf,hi1,hi2⟩:=lD.1 hz
 refine fE (v:=(kQ ky l).getD zv) (w':=w) hw rfl ?_ (k _ (H.put hd _ H.hp))
 have hkey:MapKept.IsKey (.int .i64) (.int .i64 ky):=by trivial
 have hf2:Instr.findNow (.int .i64) (.int .i64 ky) (tJ 0 l).toArray.toList 0=some an:=by simpa using hf
 replace hb:w.heap[b]?=some (.map (tJ 0 l).toArray l.length):=hb
 generalize (tJ 0 l).toArray=es at hb hf2
 have h1:=MapKept.run_checkKey (P:=P) (w:=w) hk hkey es.isEmpty 9999
 have h2:=MapKept.run_findKey (P:=P) (w:=w) hk hf2
 rw [← han]
 cases an with
 | none=>simp [execOp,Instr.lookup,H.ev hx,H.ev hy,bV,lg hm,MapKept.run_getObj_map hb,h1,h2,Result.andThen,zeroValue,zP hi1,hi2]
 | some q=>simp [execOp,Instr.lookup,H.ev hx,H.ev hy,bV,lg hm,MapKept.run_getObj_map hb,h1,h2,Result.andThen]
theorem ED {t kt et:TypeId} {x y z:Operand} {b i:Nat} {l:List (Int × aj)} {ky:Int} {v:aj} (hm:P.underlying t=some (.map kt et)) (hk:P.underlying kt=some (.int .i64)) (H:St N D w0 F G0 G L T a w)
  (hw:Region.wanted ⟨none,.mapUpdate t x y z,ty,pos,aL,g⟩ (yielded ops a.tmps)=true) (hx:ev T x=some (.map (some b))) (hy:ev T y=some (.int .i64 ky)) (hzv:ev T z=some v) (hi:L[i]?=some (b,eH l)) (hn:kQ ky l=none)
  (k:∀ w',St N D w0 F G0 G (L.set i (b,eH (l++[(ky,v)]))) T a w'→WL r P ops Q rest a w'):WL r P ops Q (⟨none,.mapUpdate t x y z,ty,pos,aL,g⟩ :: rest) a w:=by
 obtain ⟨an,hf,han⟩:=Mf ky 0 0 l
 have hnone:an=none:=by
  rw [hn] at han
  cases an with
  | none=>rfl
  | some q=>cases han
 subst hnone
 refine V9 (i:=i) hm hk H hw hx hy hzv hi (by trivial) (by simpa using hf) ?_
 intro w' H'
 have e:(tJ 0 l).toArray.push ⟨.int .i64 ky,v,l.length⟩=(tJ 0 (l++[(ky,v)])).toArray:=by
  rw [Vh,List.push_toArray,ko]
 refine k w' ?_
 rw [e] at H'
 rw [eH,kU]
 exact H'
end
end
end Go.Proofs.YteopmoocmoigcaaGreat
