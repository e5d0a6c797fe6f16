/-
  What the claim stands on, part 3: Lfl Dv Lpc Scn By Lps Lcl Dst Sty Mk Stz Dsc Mi Ro Ri Chn Chk Dsv Mq.
-/
import Derived.Test.YteopmoocmoigcaaGreatWub
import Derived.Lib.ConvBytes
import Derived.Laws.MakeOwn
namespace Go.Proofs.YteopmoocmoigcaaGreat
open Go.Proofs.Tryz
section
open Go.RowKit
theorem acK:∀ args w,(callFunc 164 args).run prog w=.ok (.enter 164 args) w:=enters func164 rfl (by kernel_rfl)
theorem Iy:Ty prog 242 1 24 [.slice none 0 0] false:=⟨by kernel_rfl,by kernel_rfl⟩
theorem TT:∀ args w,(callFunc 49 args).run prog w=.ok (.enter 49 args) w:=enters func49 rfl (by kernel_rfl)
theorem FP:prog.underlying 242=some (.slice 247):=by kernel_rfl
theorem FK:Ty prog 247 3 32 [.string ⟨#[]⟩,.int .i64 0,.bool false] true:=⟨by kernel_rfl,by kernel_rfl⟩
theorem acL:∀ args w,(callFunc 165 args).run prog w=.ok (.enter 165 args) w:=enters func165 rfl (by kernel_rfl)
theorem GQ:bW prog 259 2 2:=⟨by kernel_rfl⟩
theorem GR:bW prog 259 3 4:=⟨by kernel_rfl⟩
theorem X4:pq prog 247 [(0,1),(1,1),(2,1)] [.string ⟨#[]⟩,.int .i64 0,.bool false]:=⟨by kernel_rfl,by kernel_rfl⟩
theorem Nh:∀ args w,(callFunc 160 args).run prog w=.ok (.enter 160 args) w:=enters func160 rfl (by kernel_rfl)
theorem JH:bW prog 259 4 5:=⟨by kernel_rfl⟩
structure iP where
 lit:ByteArray
 level:Int
 plain:Bool
def iP.dat (x:iP):List Dat:=[.lf (.string x.lit),li x.level,.lf (.bool x.plain)]
abbrev iP.cells (x:iP):List aj:=[.string x.lit,vi x.level,.bool x.plain]
theorem Wo (G:GH) (x:iP):aZ G x.dat x.cells:=by
 simp only [iP.dat,iP.cells,aZ]
 exact ⟨_,_,rfl,by simp [av,Value.oneCell'],_,_,rfl,by simp [av,Value.oneCell'],_,_,rfl,by simp [av,Value.oneCell'],rfl⟩
theorem Wn {G:GH} {x:iP} {cs:List aj} (h:aZ G x.dat cs):cs=x.cells:=by
 simp only [iP.dat,aZ,av] at h
 obtain ⟨_,_,rfl,⟨rfl,_⟩,_,_,rfl,⟨rfl,_⟩,_,_,rfl,⟨rfl,_⟩,rfl⟩:=h
 rfl
def Cn (l:List iP):List aj:=(l.map iP.cells).flatten
theorem Wm (l:List iP) (x:iP):Cn (l++[x])=Cn l++x.cells:=by simp [Cn]
structure yJ (b:Nat) (lit:List UInt8) (parts:List iP) (p v q:aj) (Lp Lo:OL):Prop where
 ptr:p=.pointer none∨p=(aJ b 2)
 buf:dx 5 1 v lit.length (Lib.byteCells lit) Lo
 prt:dx 247 3 q parts.length (Cn parts) Lp
def sN (lit:List UInt8) (parts:List iP):List iP:=if lit=[] then parts else parts++[⟨⟨lit.toArray⟩,0,false⟩]
set_option maxHeartbeats 1000000 in
theorem NI (G:GH) (Lp Lo:OL) (w0:World) (b:Nat) (s:ByteArray) (i:Int) (p v q:aj) (pl e:Int) (lit:List UInt8) (parts:List iP) (hR:yJ b lit parts p v q Lp Lo) (hO:gX G (gG b s i p v q pl e :: (Lp++Lo)) w0) (hl:lit.length≤4294967296) (hp:parts.length≤4294967296) :
  Calls prog 160 #[(aJ b 0)] w0 (gH w0 G (gG b s i p v q pl e :: (Lp++Lo)) fun u G' L'=>∃ p' v' q' oZ fD,L'=gG b s i p' v' q' pl e :: (oZ++fD)∧yJ b [] (sN lit parts) p' v' q' oZ fD):=by
 obtain ⟨Vu,hbuf,Kh⟩:=hR;have hml:maxLen=9223372036854775807:=rfl;obtain ⟨A,c,rfl,VJ,VK⟩:=hbuf.shape;obtain ⟨B,d,rfl,Vv,Vw⟩:=Kh.shape;obtain ⟨Lt,oC⟩:∃ x,x=Lp++Lo:=⟨_,rfl⟩;rw [← oC] at hO ⊢;refine jO (N:=25) (T:=[(0,_)]) func160 rfl ntmps160 rfl rfl hO ?_;intro a H;refine kP H (SR fun _ K1=>Rm rfl (Rk rfl (Rf GQ rfl ?_)));clear H;intro a H;refine gU acK (Li:=[]) (L:=gG b s i p (.slice A lit.length c) (.slice B parts.length d) pl e :: Lt) H wn rfl (ajy _ _ _ b s i p A lit.length c B parts.length d pl e (Hp.owns (Li:=[]) H.hp)) rfl ?_;clear H;rintro v5 _ L5 a w ⟨rfl,rfl,rfl⟩ OO H;dsimp only [List.nil_append] at H;refine kH H (Rc rfl (Kz K1 (Cd rfl ?_ ?_))) <;> clear H K1
 ·intro h6 a H
  try have p6:=dT h6
  have hne:lit≠[]:=fun e=>by rw [e] at p6;simp at p6
  subst oC;refine bA (fun _ K2=>?_)
  have iR:∀ (eF:Nat) (gZ:(Option Addr × Nat) × OL) (bT:Nat) (v:aj) (G G':GH),(∀ k o,G k=some o→G' k=some o)→(fun (eF:Nat) (gZ:(Option Addr × Nat) × OL) (bT:Nat) (v:aj) (G:GH)=>match bT with|0=>v=(aJ b 0)|1=>v=(aJ b 0)|2=>v=(aJ b 0)|3=>v=(aJ b 4)|4=>v=.slice B parts.length d|5=>v=(aJ b 0)|6=>v=(aJ b 0)|7=>v=(aJ b 2)|8=>v=.string ⟨lit.toArray⟩|9=>v=.agg (iP.cells ⟨⟨lit.toArray⟩,0,false⟩).toArray|10=>v=.slice (some ⟨eF,0,none⟩) 1 1|11=>v=.slice gZ.1.1 (parts.length+1) gZ.1.2∧dx 247 3 v (parts.length+1) (Cn (parts++[⟨⟨lit.toArray⟩,0,false⟩])) gZ.2|_=>True) eF gZ bT v G→(fun (eF:Nat) (gZ:(Option Addr × Nat) × OL) (bT:Nat) (v:aj) (G:GH)=>match bT with|0=>v=(aJ b 0)|1=>v=(aJ b 0)|2=>v=(aJ b 0)|3=>v=(aJ b 4)|4=>v=.slice B parts.length d|5=>v=(aJ b 0)|6=>v=(aJ b 0)|7=>v=(aJ b 2)|8=>v=.string ⟨lit.toArray⟩|9=>v=.agg (iP.cells ⟨⟨lit.toArray⟩,0,false⟩).toArray|10=>v=.slice (some ⟨eF,0,none⟩) 1 1|11=>v=.slice gZ.1.1 (parts.length+1) gZ.1.2∧dx 247 3 v (parts.length+1) (Cn (parts++[⟨⟨lit.toArray⟩,0,false⟩])) gZ.2|_=>True) eF gZ bT v G':=by
   intro eF gZ bT v G G' hm h
   match bT,h with
   | 0,h=>exact h
   | 1,h=>exact h
   | 2,h=>exact h
   | 3,h=>exact h
   | 4,h=>exact h
   | 5,h=>exact h
   | 6,h=>exact h
   | 7,h=>exact h
   | 8,h=>exact h
   | 9,h=>exact h
   | 10,h=>exact h
   | 11,h=>exact h
   | 12,h=>exact trivial
   | 13,h=>exact trivial
   | 14,h=>exact trivial
   | _+15,h=>exact trivial
  refine aao (κ:=(Option Addr × Nat) × OL) (((none,0),[])) (hmx) [[],[],[1],[1,2],[1,2,3],[],[5],[5,6],[5,6,7],(ra 5 4),(ra 5 5),(ra 1 10),(ra 0 12),(ra 0 13),(ra 0 14)] [12,13,14] (by kernel_rfl) (by kernel_rfl) 8 10 11 (by decide) (by decide) (by decide) (by decide) (by decide) (by decide) (by decide) (by decide) (by decide) [gG b s i p (.slice A lit.length c) (.slice B parts.length d) pl e] (gG b s i p (.slice A lit.length c) (.slice B parts.length d) pl e :: Lp) (.cells (iP.cells ⟨⟨lit.toArray⟩,0,false⟩).toArray 247 (0,0)) (fun b_ k_=>(b_,.cells (iP.cells ⟨⟨lit.toArray⟩,0,false⟩).toArray 247 (0,0)) :: gG b s i p (.slice A lit.length c) (.slice B parts.length d) pl e :: k_.2) (fun x hx=>by rw [rH.1 hx];exact gD) (fun x hx=>by rw [rH.1 hx];exact gD) (fun _ _ x hx=>by rw [rH.1 hx];exact jN _ gD) (fun (eF:Nat) (gZ:(Option Addr × Nat) × OL) (bT:Nat) (v:aj) (G:GH)=>match bT with|0=>v=(aJ b 0)|1=>v=(aJ b 0)|2=>v=(aJ b 0)|3=>v=(aJ b 4)|4=>v=.slice B parts.length d|5=>v=(aJ b 0)|6=>v=(aJ b 0)|7=>v=(aJ b 2)|8=>v=.string ⟨lit.toArray⟩|9=>v=.agg (iP.cells ⟨⟨lit.toArray⟩,0,false⟩).toArray|10=>v=.slice (some ⟨eF,0,none⟩) 1 1|11=>v=.slice gZ.1.1 (parts.length+1) gZ.1.2∧dx 247 3 v (parts.length+1) (Cn (parts++[⟨⟨lit.toArray⟩,0,false⟩])) gZ.2|_=>True) (fun b b' k i v G hi hc h=>by match i,hi,hc,h with|0,_,_,h=>exact h|1,_,_,h=>exact h|2,_,_,h=>exact h|3,_,_,h=>exact h|4,_,_,h=>exact h|5,_,_,h=>exact h|6,_,_,h=>exact h|7,_,_,h=>exact h|8,_,_,h=>exact h|9,_,_,h=>exact h|10,hi,_,_=>exact absurd hi (by decide)|11,_,hc,_=>exact absurd hc (by decide)|12,_,hc,_=>exact absurd hc (by decide)|13,_,hc,_=>exact absurd hc (by decide)|14,_,hc,_=>exact absurd hc (by decide)|_+15,_,_,_=>exact trivial) (fun b k k' i v G hi hc h=>by match i,hi,hc,h with|0,_,_,h=>exact h|1,_,_,h=>exact h|2,_,_,h=>exact h|3,_,_,h=>exact h|4,_,_,h=>exact h|5,_,_,h=>exact h|6,_,_,h=>exact h|7,_,_,h=>exact h|8,_,_,h=>exact h|9,_,_,h=>exact h|10,_,_,h=>exact h|11,hi,_,_=>exact absurd hi (by decide)|12,_,hc,_=>exact absurd hc (by decide)|13,_,hc,_=>exact absurd hc (by decide)|14,_,hc,_=>exact absurd hc (by decide)|_+15,_,_,_=>exact trivial) H ?_ ?_ ?_ ?_ ?_ (by kernel_rfl) (by kernel_rfl)
  ·clear H;refine aF ?_ ?_ ?_ ?_ (aF ?_ ?_ ?_ ?_ (aF ?_ ?_ ?_ ?_ (aS ?_ (aS ?_ (aS ?_ bX)))))
   ·intro eF gZ oh bR a w G1 Au _ _ _ _ bS hc hG HT hv;have H:=HT;clear bS;have Hb:=H.full;have H:=Hb;clear hc;refine kH H (Rm rfl ?_);clear H;intro a H;refine aH ⟨rfl,?_⟩;exact ku (by kernel_rfl) (iR eF gZ) rfl rfl HT Hb hG hv (fun _ _ h=>h) (rfl) H
   ·intro eF gZ oh bR a w G1 Au _ _ _ _ bS hc hG HT hv;have H:=HT;clear bS;have Hb:=H.full;have H:=Hb;clear hc;refine kH H (Rm rfl ?_);clear H;intro a H;refine aH ⟨rfl,?_⟩;exact ku (by kernel_rfl) (iR eF gZ) rfl rfl HT Hb hG hv (fun _ _ h=>h) (rfl) H
   ·intro eF gZ oh bR a w G1 Au _ _ _ _ bS hc hG HT hv;have H:=HT;clear bS;have H:=H.aR (hv 1 8 (hc 1 (by decide)) rfl) rfl;have Hb:=H.full;have H:=Hb;clear hc;refine kH H (Rk rfl ?_);clear H;intro a H;refine aH ⟨rfl,?_⟩;exact ku (by kernel_rfl) (iR eF gZ) rfl rfl HT Hb hG hv (fun _ _ h=>h) (rfl) H
   ·intro eF gZ oh bR a w G1 Au _ _ _ _ bS hc hG HT hv;have H:=HT;clear bS;have H:=H.aR (hv 2 9 (hc 2 (by decide)) rfl) rfl;have Hb:=H.full;have H:=Hb;clear hc;refine kH H (Rf GR rfl ?_);clear H;intro a H;refine aH ⟨rfl,?_⟩;exact ku (by kernel_rfl) (iR eF gZ) rfl rfl HT Hb hG hv (fun _ _ h=>h) (rfl) H
   ·intro eF gZ oh bR a w G1 Au _ _ _ _ bS hc hG HT hv;have H:=HT;clear bS;have H:=H.aR (hv 3 10 (hc 3 (by decide)) rfl) rfl;have Hb:=H.full;have H:=Hb;clear hc;refine vF Iy H wn rfl (H.hp.Ww (Au _ gD) rfl) rfl ?_;clear H;intro a H;refine aH ⟨rfl,?_⟩;exact ku (by kernel_rfl) (iR eF gZ) rfl rfl HT Hb hG hv (fun _ _ h=>h) (rfl) H
   ·intro eF gZ oh bR a w G1 Au _ _ _ _ bS hc hG HT hv;have H:=HT;clear bS;have Hb:=H.full;have H:=Hb;clear hc;refine kH H (Rm rfl ?_);clear H;intro a H;refine aH ⟨rfl,?_⟩;exact ku (by kernel_rfl) (iR eF gZ) rfl rfl HT Hb hG hv (fun _ _ h=>h) (rfl) H
   ·intro eF gZ oh bR a w G1 Au _ _ _ _ bS hc hG HT hv;have H:=HT;clear bS;have H:=H.aR (hv 5 12 (hc 5 (by decide)) rfl) rfl;have Hb:=H.full;have H:=Hb;clear hc;refine kH H (Rk rfl ?_);clear H;intro a H;refine aH ⟨rfl,?_⟩;exact ku (by kernel_rfl) (iR eF gZ) rfl rfl HT Hb hG hv (fun _ _ h=>h) (rfl) H
   ·intro eF gZ oh bR a w G1 Au _ _ _ _ bS hc hG HT hv;have H:=HT;clear bS;have H:=H.aR (hv 6 13 (hc 6 (by decide)) rfl) rfl;have Hb:=H.full;have H:=Hb;clear hc;refine kH H (Rf GQ rfl ?_);clear H;intro a H;refine aH ⟨rfl,?_⟩;exact ku (by kernel_rfl) (iR eF gZ) rfl rfl HT Hb hG hv (fun _ _ h=>h) (rfl) H
   ·intro _ _ _ _ _ _ _ _ _ hB;exact absurd hB (by decide)
   ·intro eF gZ oh bR a w G1 Au _ _ _ _ bS hc hG HT hv;have H:=HT;clear bS;have H:=H.aR (hv 8 15 (hc 8 (by decide)) rfl) rfl;have Hb:=H.full;have H:=Hb;clear hc;refine iT X4 [_,_,_] H wn rfl rfl rfl rfl ?_;clear H;intro a H;refine aH ⟨rfl,?_⟩;exact ku (by kernel_rfl) (iR eF gZ) rfl rfl HT Hb hG hv (fun _ _ h=>h) (rfl) H
   ·intro _ _ _ _ _ _ _ _ _ _ hB;exact absurd hB (by decide)
   ·intro _ _ _ _ _ _ _ _ _ _ _ hB;exact absurd hB (by decide)
   ·intro _ _ _ _ _ _ _ _ hB;exact absurd hB (by decide)
   ·intro _ _ _ _ _ _ _ _ hB;exact absurd hB (by decide)
   intro _ _ _ _ _ _ _ _ hB;exact absurd hB (by decide)
  ·clear H;intro o_ eF gZ bR a w G1 xM _ hc hG HT hv;obtain rfl:_=o_:=Option.some.inj xM;clear xM;have H:=HT;have H:=H.aR (hv 7 14 (by decide) (hc 7 (by decide)) rfl) rfl;have Hb:=H.full;have H:=Hb;clear hc;refine gU TT (Li:=[]) (L:=gG b s i p (.slice A lit.length c) (.slice B parts.length d) pl e :: (Lp++Lo)) H wn rfl (ajP _ _ _ _ b s i p _ B parts.length d pl e lit (Hp.owns (Li:=[]) H.hp) hbuf hne) rfl ?_;clear H;rintro v15 BD L15 a w ⟨rfl,rfl⟩ Ao H;dsimp only [List.nil_append] at H;refine aH ⟨rfl,?_⟩;exact abE (by kernel_rfl) (iR eF gZ) rfl HT Hb hG (fun j e h1 h2 h3=>hv j e h1 h2 h3) Ao (rfl) H
  ·clear H;intro o_ gZ bR a w G1 xM _ hc hG HT hv;obtain rfl:_=o_:=Option.some.inj xM;clear xM;have H:=HT;have H:=H.aR (hv 0 9 16 (by decide) (hc 9 (by decide)) rfl) rfl;have Hb:=H.full;have H:=Hb;clear hc;refine gQ FP FK [_,_,_] [_,_,_] H wn rfl rfl rfl rfl rfl (by intro i q h;match i,h with|0,h=>exact h|n+1,h=>simp at h) rfl rfl ?_;clear H;intro b17 a w akP H;refine aH ⟨rfl,b17,?_⟩;exact M6 (by kernel_rfl) rfl HT Hb hG (fun j e h1 h2 h3=>hv _ j e h1 h2 h3) (rfl) H
  ·clear H;intro o_ eF bR a w G1 xM _ hc hG HT hv;obtain rfl:_=o_:=Option.some.inj xM;clear xM;have H:=HT;have H:=H.aR (hv (((none,0),[])) 4 11 (by decide) (hc 4 (by decide)) rfl) rfl;have H:=H.aR (hv (((none,0),[])) 10 17 (by decide) (hc 10 (by decide)) rfl) rfl;have Hb:=H.full;have H:=Hb;clear hc;refine nU (Li:=[_,_]) (Lo:=Lp) (news:=iP.cells ⟨⟨lit.toArray⟩,0,false⟩) FP FK rfl rfl H wn rfl rfl Kh rfl (H.hp.dS 0 rfl rfl) rfl (by omega) (by omega) rfl ?_;clear H;intro v18 ZC a w Fh H;obtain ⟨YW,c18,rfl,-,-⟩:=Fh.shape;rw [← Wm] at Fh;refine aH ⟨rfl,((YW,c18),ZC),?_⟩;exact M6 (by kernel_rfl) rfl HT Hb hG (fun j e h1 h2 h3=>hv _ j e h1 h2 h3) (⟨rfl,Fh⟩) H
  clear H;intro b17 gZ a w G nu H hv;have H:=H.aR (hv 0 7 rfl rfl) rfl;obtain ⟨u18,agA,Vr⟩:=hv 11 18 (by decide) rfl;(try dsimp only at Vr);obtain ⟨rfl,Fh⟩:=Vr;have H:=H.kI agA;clear hv;refine kH H (Rk rfl (Rf GR rfl ?_));clear H;intro a H;refine bH Iy 1 (vs:=[_]) _ H wn rfl rfl rfl rfl rfl rfl rfl rfl ?_;clear H;intro w H;dsimp only [List.set,setRow] at H;refine aH ⟨rfl,?_⟩;refine K2 _ _ ?_;clear K2;refine kP H (SC (Rm rfl (Rk rfl (Rf GQ rfl ?_))));clear H;intro a H;refine gU acL (Li:=[_]) (L:=gG b s i p (.slice A lit.length c) (.slice gZ.1.1 (parts.length+1) gZ.1.2) pl e :: gZ.2) H wn rfl (ajO _ _ _ b s i p A lit.length c gZ.1.1 (parts.length+1) gZ.1.2 pl e (Hp.owns (Li:=[_]) H.hp)) rfl ?_;clear H;rintro v24 _ L24 a w ⟨rfl,rfl⟩ rR H;dsimp only [lca,bg] at H;refine aH ?_;refine (leave0 H results160 ?_).2
  first
   | exact H.hp.fI (L':=gG b s i _ _ _ pl e :: gZ.2) (zU _ _) ⟨_,_,_,gZ.2,[],by rw [mX],⟨.inl rfl,dx.nil,by rw [sN,ah hne];simpa using Fh⟩⟩
   | exact H.hp.eP ⟨_,_,_,Lp,Lo,by rw [oC],by
     have h0:lit=[]:=by
      cases lit with
      | nil=>rfl
      | cons x r=>simp at p6
     subst h0;exact ⟨Vu,hbuf,by rw [sN,au rfl];exact Kh⟩⟩
 intro h6 a H
 try have p6:=dF h6
 refine gI ?_;refine (leave0 H results160 ?_).2
 first
  | exact H.hp.fI (L':=gG b s i _ _ _ pl e :: gZ.2) (zU _ _) ⟨_,_,_,gZ.2,[],by rw [mX],⟨.inl rfl,dx.nil,by rw [sN,ah hne];simpa using Fh⟩⟩
  | exact H.hp.eP ⟨_,_,_,Lp,Lo,by rw [oC],by
    have h0:lit=[]:=by
     cases lit with
     | nil=>rfl
     | cons x r=>simp at p6
    subst h0;exact ⟨Vu,hbuf,by rw [sN,au rfl];exact Kh⟩⟩
theorem Xf (G:GH) (Lp Lo:OL) (w0:World) (b:Nat) (s:ByteArray) (i:Int) (p v q:aj) (pl e:Int) (lit:List UInt8) (parts:List iP) (ch:Int) (plain:Bool) (hR:yJ b lit parts p v q Lp Lo) (hO:gX G (gG b s i p v q pl e :: (Lp++Lo)) w0) (hl:lit.length≤4294967296) (hp:parts.length≤4294967290) (hc:49≤ch∧ch≤57) (hpl:0≤pl∧pl≤4294967296) :
  Calls prog 163 #[(aJ b 0),.int .u8 ch,.bool plain] w0 (gH w0 G (gG b s i p v q pl e :: (Lp++Lo)) fun u G' L'=>∃ p' v' q' oZ fD,L'=gG b s i p' v' q' (pl+1) e :: (oZ++fD)∧yJ b [] (sN lit parts++[⟨⟨#[]⟩,ch - 48,plain⟩]) p' v' q' oZ fD):=by
 have hml:maxLen=9223372036854775807:=rfl
 have hfl:(sN lit parts).length≤parts.length+1:=by unfold sN;split <;> simp
 obtain ⟨A,c,rfl,VJ,VK⟩:=hR.buf.shape;obtain ⟨B,d,rfl,Vv,Vw⟩:=hR.prt.shape;obtain ⟨Lt,oC⟩:∃ x,x=Lp++Lo:=⟨_,rfl⟩;rw [← oC] at hO ⊢;refine jO (N:=29) (T:=[(0,_),(1,_),(2,_)]) func163 rfl ntmps163 rfl rfl hO ?_;intro a H;refine kP H (SR fun _ K1=>Rm rfl ?_);clear H;intro a H;refine gU Nh (Li:=[]) (L:=gG b s i p (.slice A lit.length c) (.slice B parts.length d) pl e :: Lt) H wn rfl (by subst oC;exact NI _ Lp Lo _ b s i p _ _ pl e lit parts hR (Hp.owns (Li:=[]) H.hp) hl (by omega)) rfl ?_;clear H;rintro v7 G7 L7 a w ⟨p',v',q',oZ,fD,rfl,Hg⟩ AJ H;dsimp only [List.nil_append] at H;obtain ⟨A7,c7,rfl,-,-⟩:=Hg.buf.shape;obtain ⟨B7,d7,rfl,-,-⟩:=Hg.prt.shape;refine K1 _ _ ?_;clear K1;refine kP H (SR fun _ K2=>Rm rfl (Rm rfl (Rk rfl (aP GR Iy 0 rfl rfl (Rm rfl ?_)))));clear H;intro a H;refine aje H wn rfl rfl (by omega) (by omega) rfl ?_;clear H;intro a H;refine FD _ nG IC H wn rfl rfl rfl ?_;clear H;intro a H;rw [H9 (by omega) (by omega)] at H;refine kH H (Rm rfl ?_);clear H;intro a H;refine iT X4 [_,_,_] H wn rfl rfl rfl rfl ?_;clear H;intro a H;refine gQ FP FK [_,_,_] [_,_,_] H wn rfl rfl rfl rfl rfl (by intro i q h;match i,h with|0,h=>exact h|n+1,h=>simp at h) rfl rfl ?_;clear H;intro b18 a w Ho H;have H:=(St.cast H (show _=[_,_]++(oZ++fD) from rfl)).perm (List.Perm.append_left _ zV);have H:=St.un H;refine nU (Li:=[_,_]++fD) (Lo:=oZ) (news:=iP.cells ⟨⟨#[]⟩,ch - 48,plain⟩) FP FK rfl rfl H wn rfl rfl Hg.prt rfl (H.hp.dS 0 rfl rfl) rfl (by omega) (by omega) rfl ?_;clear H;intro v19 RZ a w wo H;obtain ⟨IU,c19,rfl,-,-⟩:=wo.shape;rw [← Wm] at wo;have H:=H.assoc.perm (List.Perm.append_left _ zV);dsimp only [lca,bg] at H;refine kH H (Rk rfl (Rf GR rfl ?_));clear H;intro a H;refine bH Iy 1 (vs:=[_]) _ H wn rfl rfl rfl rfl rfl rfl rfl rfl ?_;clear H;intro w H;dsimp only [List.set,setRow] at H;refine K2 _ _ ?_;clear K2;refine kP H (SC (Rm rfl (Rk rfl (aP JH aC 1 rfl rfl (Rd rfl (Rk rfl (Rf JH rfl ?_)))))));clear H;intro a H;refine bH aC 1 (vs:=[_]) _ H wn rfl rfl rfl rfl rfl rfl rfl rfl ?_;clear H;intro w H;dsimp only [List.set,setRow] at H;refine aH ?_;refine (leave0 H results163 ?_).2;exact H.hp.fI (L':=gG b s i _ _ _ (pl+1) e :: (RZ++fD)) (zU _ _) ⟨_,_,_,RZ,fD,rfl,Hg.ptr,Hg.buf,by simpa using wo⟩
end
section
open Go.RowKit
section
variable {N:Nat} {D:List Deferred} {w0:World} {F:Nat→Prop} {G0 G:GH} {L:OL} {T Xs:List (Nat × aj)}
variable {r:Option Nat} {P:Program} {Q:Exit→Act→World→Prop} {l:List Oper} {a a':Act} {w w':World}
abbrev QZ:Type:=Nat × aj × Nat × Bool
def Q0 (ent:List QZ) (S:Nat→Bool) (a:Act):Prop:=∀ e∈ent,S e.2.2.1=e.2.2.2→a.tmps[e.1]?=some e.2.1
theorem Q0.at {ent:List QZ} {S:Nat→Bool} {a:Act} (h:Q0 ent S a) (k:Nat) {t:Nat} {v:aj} {j:Nat} {b:Bool} (hk:ent[k]?=some (t,v,j,b)) (hS:S j=b):a.tmps[t]?=some v:=h _ (lg hk) hS
theorem ajd {ops:Array Oper} {rest:List Oper} {d:Nat} {ty:TypeId} {pos:String} {aN:Array Edge} {g:Option (Nat × Bool)} {t:TypeId} {x y:Operand} {s:ByteArray} {ky:IntKind} {p:Int} (hi:Nat) (ht:P.underlying t=some .string) (H:St N D w0 F G0 G L T a w) (hw:Region.wanted ⟨some d,.slice t x none (some y) none,ty,pos,aN,g⟩ (yielded ops a.tmps)=true) (hx:ev T x=some (.string s)) (hy:ev T y=some (.int ky p)) (hp:p=(hi:Int)) (h1:hi≤s.size) (hd:Nat.blt d N=true)
  (k:∀ a',St N D w0 F G0 G L ((d,.string (s.extract 0 hi)) :: T) a' w→WL r P ops Q rest a' w):WL r P ops Q (⟨some d,.slice t x none (some y) none,ty,pos,aN,g⟩ :: rest) a w:=by
 subst hp
 have hr:=run_slice_string_h (P:=P) w t s ht ky (hi:Int) (by omega) (by omega)
 rw [Int.toNat_natCast] at hr
 refine fM (v:=.string (s.extract 0 hi)) (w':=w) hw rfl ?_ (k _ (H.put hd _ H.hp))
 simp only [execOp,H.ev hx,Option.map_some,Option.map_none,H.ev hy,bZ,run_sliceAt_string w t _ _ _ _ ht,hr,jT,qh]
end
end
section
open Go.RowKit
theorem acM:∀ args w,(callFunc 166 args).run prog w=.ok (.enter 166 args) w:=enters func166 rfl (by kernel_rfl)
theorem uW:bW prog 259 0 0:=⟨by kernel_rfl⟩
theorem TL:∀ args w,(callFunc 159 args).run prog w=.ok (.enter 159 args) w:=enters func159 rfl (by kernel_rfl)
theorem TM:∀ args w,(callFunc 162 args).run prog w=.ok (.enter 162 args) w:=enters func162 rfl (by kernel_rfl)
theorem TN:∀ args w,(callFunc 163 args).run prog w=.ok (.enter 163 args) w:=enters func163 rfl (by kernel_rfl)
theorem oI:bW prog 259 1 1:=⟨by kernel_rfl⟩
theorem Ni:∀ args w,(callFunc 161 args).run prog w=.ok (.enter 161 args) w:=enters func161 rfl (by kernel_rfl)
theorem yU:bW prog 259 5 6:=⟨by kernel_rfl⟩
def qw (s p:ByteArray):Bool:=decide (p.size≤s.size) && ((s.extract 0 p.size).toList == p.toList)
theorem afj (G:GH) (w0:World) (hG:Hold G w0) (s p:ByteArray) (hs:s.size≤4611686018427387904) (hp:p.size≤4611686018427387904):Calls prog 166 #[.string s,.string p] w0 (bE w0 G fun u G'=>u=.bool (qw s p)∧G=G'):=by
 refine eN [(0,_),(1,_)] func166 rfl ntmps166 rfl rfl hG ?_;intro a H;refine kP H (SR fun _ K1=>ak K1 rfl (SR fun _ K2=>Rm rfl (Rv gu rfl (Rm rfl (Rv gu rfl (Rc rfl (Rm rfl (Sp 10 rfl ?_ ?_)))))))) <;> clear H K1
 ·intro h10 a H
  try have mD:=dT h10
  refine kH H (YM h10 rfl (YM h10 rfl ?_));clear H;intro a H;refine Cw gu H (wg H rfl rfl h10) rfl rfl ?_;clear H;intro a H;refine ajd p.size gu H (wg H rfl rfl h10) rfl rfl rfl (by omega) rfl ?_;clear H;intro a H;refine kH H (YM h10 rfl ?_);clear H;intro a H;refine zy H (wg H rfl rfl h10) rfl rfl rfl ?_;clear H;intro a H;exact kH H (Pt h10 rfl (ak K2 rfl (LR results166 rfl fun H=>H.rt ⟨aG (by unfold qw;first|(simp_all;done)|(simp_all;omega)),rfl⟩)))
 intro h10 a H
 try have mD:=dF h10
 exact kH H (aX h10 rfl (aX h10 rfl (Pf h10 rfl (ak K2 rfl (LR results166 rfl fun H=>H.rt ⟨aG (by unfold qw;first|(simp_all;done)|(simp_all;omega)),rfl⟩)))))
theorem Oq (G:GH) (w0:World) (hG:Hold G w0) (s p:ByteArray) (hs:s.size≤4611686018427387904) (hp:p.size≤4611686018427387904):Calls prog 161 #[.string s,.string p] w0 (bE w0 G fun u G'=>u=.bool (qw s p)∧G=G'):=by
 refine eN [(0,_),(1,_)] func161 rfl ntmps161 rfl rfl hG ?_;intro a H;refine kP H (SR fun _ K1=>ak K1 rfl (SR fun _ K2=>Rm rfl (Rm rfl ?_)));clear H K1;intro a H;refine s_call acM H wn rfl (afj _ _ H.ro s p hs hp) rfl ?_;clear H;rintro v7 _ a w ⟨rfl,rfl⟩ - H;exact kH H (ak K2 rfl (LR results161 rfl fun H=>H.rt ⟨rfl,rfl⟩))
def sK (s:ByteArray) (k:Nat):Bool:=decide (k < s.size) && decide (49≤gT s k) && decide (gT s k≤57)
theorem Tw (G:GH) (L:OL) (w0:World) (b:Nat) (s:ByteArray) (i:Int) (p v q:aj) (pl e:Int) (k:Nat) (hs:s.size≤4611686018427387904) (hO:gX G (gG b s i p v q pl e :: L) w0) :
  Calls prog 162 #[(aJ b 0),vi k] w0 (gH w0 G (gG b s i p v q pl e :: L) fun u G' L'=>u=.bool (sK s k)∧L'=gG b s i p v q pl e :: L∧G'=G):=by
 refine jO (N:=30) (T:=[(0,_),(1,_)]) func162 rfl ntmps162 rfl rfl hO ?_;intro a H;refine kP H (SR fun _ K1=>ak K1 rfl (SR fun _ K2=>Rm rfl (Rm rfl (Rk rfl (aP uW fZ 0 rfl rfl (Rv gu rfl (Rc rfl (Rm rfl (Sp 12 rfl ?_ ?_))))))))) <;> clear H K1
 ·intro h12 a H
  try have qX:=dT h12
  refine kH H (YM h12 rfl ?_);clear H;intro a H;refine rW H (wg H rfl rfl h12) rfl rfl ?_;clear H;intro a H;refine kH H (YF uW h12 rfl (YO fZ 0 h12 rfl (YM h12 rfl ?_)));clear H;intro a H;refine nV k gu H (wg H rfl rfl h12) rfl rfl rfl (by omega) rfl ?_;clear H;intro a H;rw [← lM] at H;refine kH H (YC h12 rfl (Pt h12 rfl (Rm rfl (Sp 21 rfl ?_ ?_)))) <;> clear H
  ·intro h21 a H
   try have pV:=dT h21
   refine kH H (YM h21 rfl ?_);clear H;intro a H;refine rW H (wg H rfl rfl h21) rfl rfl ?_;clear H;intro a H;refine kH H (YF uW h21 rfl (YO fZ 0 h21 rfl (YM h21 rfl ?_)));clear H;intro a H;refine nV k gu H (wg H rfl rfl h21) rfl rfl rfl (by omega) rfl ?_;clear H;intro a H;rw [← lM] at H;exact kH H (YC h21 rfl (Pt h21 rfl (ak K2 rfl (LR results162 rfl fun H=>H.hp.eP ⟨aG (by unfold sK;first|(simp_all;done)|(simp_all;omega)),rfl,rfl⟩))))
  intro h21 a H
  try have pV:=dF h21
  exact kH H (aX h21 rfl (aQ h21 rfl (aQ h21 rfl (Pf h21 rfl (ak K2 rfl (LR results162 rfl fun H=>H.hp.eP ⟨aG (by unfold sK;first|(simp_all;done)|(simp_all;omega)),rfl,rfl⟩))))))
 intro h12 a H
 try have qX:=dF h12
 exact kH H (aX h12 rfl (aQ h12 rfl (aQ h12 rfl (Pf h12 rfl (Rm rfl (aX rfl rfl (aQ rfl rfl (aQ rfl rfl (Pf rfl rfl (ak K2 rfl (LR results162 rfl fun H=>H.hp.eP ⟨aG (by unfold sK;first|(simp_all;done)|(simp_all;omega)),rfl,rfl⟩)))))))))))
structure sH where
 i:Nat
 lit:List UInt8
 parts:List iP
 pl:Nat
 e:Int
def nS (s:ByteArray) (x:sH):sH :=
 if qw (s.extract x.i s.size) ⟨#[37,37]⟩=true then ⟨x.i+2,x.lit++[37],x.parts,x.pl,x.e⟩
 else if sK s (x.i+1)=true then ⟨x.i+2,[],sN x.lit x.parts++[⟨⟨#[]⟩,gT s (x.i+1) - 48,false⟩],x.pl+1,x.e⟩
 else if qw (s.extract x.i s.size) ⟨#[37,100]⟩=true∧sK s (x.i+2)=true then ⟨x.i+3,[],sN x.lit x.parts++[⟨⟨#[]⟩,gT s (x.i+2) - 48,true⟩],x.pl+1,x.e⟩
 else ⟨x.i,x.lit,x.parts,x.pl,14⟩
abbrev uH (b:Nat) (s:ByteArray) (x:sH) (p v q:aj):Nat × Obj:=gG b s x.i p v q x.pl x.e
theorem Tt {s:ByteArray} {k:Nat} (h:sK s k=true):k < s.size∧49≤gT s k∧gT s k≤57:=by
 simpa [sK,and_assoc] using h
set_option maxHeartbeats 1000000 in
theorem aik (G:GH) (Lp Lo:OL) (w0:World) (b:Nat) (s:ByteArray) (x:sH) (p v q:aj) (hR:yJ b x.lit x.parts p v q Lp Lo) (hO:gX G (uH b s x p v q :: (Lp++Lo)) w0) (hs:s.size≤4294967290) (hi:x.i < s.size) (hl:x.lit.length≤4294967290) (hp:x.parts.length≤4294967290) (hpl:x.pl≤4294967290) :
    Calls prog 158 #[(aJ b 0)] w0 (gH w0 G (uH b s x p v q :: (Lp++Lo)) fun u G' L'=>∃ p' v' q' oZ fD,L'=uH b s (nS s x) p' v' q' :: (oZ++fD)∧yJ b (nS s x).lit (nS s x).parts p' v' q' oZ fD):=by
  obtain ⟨i,lit,parts,pl,e⟩:=x;dsimp only [uH] at *
  have hex:(s.extract i s.size).size≤4611686018427387904:=by rw [ByteArray.size_extract];omega
  obtain ⟨A,c,rfl,VJ,VK⟩:=hR.buf.shape;obtain ⟨B,d,rfl,Vv,Vw⟩:=hR.prt.shape;obtain ⟨Lt,oC⟩:∃ x,x=Lp++Lo:=⟨_,rfl⟩;rw [← oC] at hO ⊢;refine jO (N:=93) (T:=[(0,_)]) func158 rfl ntmps158 rfl rfl hO ?_;intro a H;refine yP ?_;refine bA (fun _ K1=>?_);refine dI hmx [[],[0],[0,1],[0,1,2],[],[4],[4,5],[4,5,6],(ra 0 8),(ra 0 9),(ra 0 10)] [] (by kernel_rfl) [_,_,_,.string s,_,_,_,vi i,.string (s.extract i s.size),.bool (qw (s.extract i s.size) ⟨#[37,37]⟩),_] H (aF (Z0 rfl (Rm rfl)) (Z1 0 6 rfl (Rk rfl)) (Z1 1 7 rfl (Rf uW rfl)) (Z1 2 8 rfl (Ro fZ 0 rfl)) (aF (Z0 rfl (Rm rfl)) (Z1 4 10 rfl (Rk rfl)) (Z1 5 11 rfl (Rf oI rfl)) (Z1 6 12 rfl (Ro aC 0 rfl)) (aS ?_ (aS ?_ (aS (Z1 9 15 rfl (Ra rfl)) bX))))) ?_
  · refine dG 3 9 7 13 rfl rfl fun _ a w G1 hG HT H fin=>?_;refine Qr i gu H wn rfl rfl rfl (by omega) rfl ?_;clear H;intro a H;exact fin H iJ rfl
  · refine dR 8 14 rfl rfl fun _ a w G1 hG HT H fin=>?_;refine s_call Ni H wn rfl (Oq _ _ H.ro _ _ hex (by decide)) rfl ?_;clear H;rintro v15 BD a w ⟨rfl,rfl⟩ Ao H;exact fin H Ao (rfl)
  clear H;intro a w G nu H hv;have H:=H.aR (hv 10 5 rfl rfl) rfl;clear hv;refine aH ⟨rfl,?_⟩;refine K1 _ _ ?_;clear K1;refine kr H rfl ?_ ?_
  · intro h5
    try have p5:=dT h5
    refine kP H (SR fun _ K2=>Rm rfl (Rk rfl (Rf GQ rfl ?_)));clear H;intro a H;refine gU TL (Li:=[]) (L:=gG b s i p (.slice A lit.length c) (.slice B parts.length d) pl e :: Lt) H wn rfl (by subst oC;exact Yv _ Lp Lo _ b s i p _ B parts.length d pl e lit.length _ 37 hR.ptr (Hp.owns (Li:=[]) H.hp) hR.buf (by omega)) rfl ?_;clear H;rintro v19 _ L19 a w ⟨alV,CZ,rfl,wo,rfl⟩ sU H;dsimp only [List.nil_append] at H;obtain ⟨IU,c19,rfl,-,-⟩:=wo.shape;refine K2 _ _ ?_;clear K2;refine kP H (SC (Rm rfl (Rk rfl (aP oI aC 0 rfl rfl (Rd rfl (Rk rfl (Rf oI rfl ?_)))))));clear H;intro a H;refine bH aC 0 (vs:=[_]) _ H wn rfl rfl rfl rfl rfl rfl rfl rfl ?_;clear H;intro w H;dsimp only [List.set,setRow] at H;refine aH ?_;refine (leave0 H results158 ?_).2;exact H.hp.eP ⟨_,_,_,Lp,CZ,by rw [nS,au h5];rfl,by rw [nS,au h5];exact ⟨.inr rfl,by simpa [Lib.byteCells] using wo,hR.prt⟩⟩
  intro h5
  try have p5:=dF h5
  refine kP H (SR fun _ K3=>Rm rfl (Rm rfl (Rk rfl (aP oI aC 0 rfl rfl (Rd rfl ?_)))));clear H;intro a H;rw [show ((i:Int)+1)=((i+1:Nat):Int) from rfl] at H;refine gU TM (Li:=[]) (L:=gG b s i p (.slice A lit.length c) (.slice B parts.length d) pl e :: Lt) H wn rfl (Tw _ Lt _ b s i p _ _ pl e (i+1) (by omega) (Hp.owns (Li:=[]) H.hp)) rfl ?_;clear H;rintro v34 _ L34 a w ⟨rfl,rfl,rfl⟩ Ve H;dsimp only [List.nil_append] at H;refine kH H (ak K3 rfl (Cd rfl ?_ ?_)) <;> clear H K3
  · intro h27 a H
    try have p27:=dT h27
    have hd1:=Tt h27;refine bA (fun _ K4=>?_);refine dI hmx [[],[],[1],[1,2],[1,2,3],[],[5],[5,6],[5,6,7],(ra 5 4),(ra 1 9),(ra 0 11)] [11] (by kernel_rfl) [_,_,_,_,.string s,_,_,_,vi i,_,.int .u8 (gT s (i+1))] H (aF (Z0 rfl (Rm rfl)) (Z0 rfl (Rm rfl)) (Z1 1 36 rfl (Rk rfl)) (Z1 2 37 rfl (Rf uW rfl)) (aF (Z1 3 38 rfl (Ro fZ 0 rfl)) (Z0 rfl (Rm rfl)) (Z1 5 40 rfl (Rk rfl)) (Z1 6 41 rfl (Rf oI rfl)) (aF (Z1 7 42 rfl (Ro aC 0 rfl)) (Z1 8 43 rfl (Rd rfl)) ?_ (bK rfl) bX))) ?_
    · refine dG 4 39 9 44 rfl rfl fun _ a w G1 hG HT H fin=>?_;refine nV (i+1) gu H wn rfl rfl rfl hd1.1 rfl ?_;clear H;intro a H;rw [← lM] at H;exact fin H iJ rfl
    clear H;intro a w G Cb H hv;have H:=H.aR (hv 0 35 rfl rfl) rfl;have H:=H.aR (hv 10 45 rfl rfl) rfl;clear hv;refine gU TN (Li:=[]) (L:=gG b s i p (.slice A lit.length c) (.slice B parts.length d) pl e :: Lt) H wn rfl (by subst oC;exact Xf _ Lp Lo _ b s i p _ _ pl e lit parts (gT s (i+1)) false hR (Hp.owns (Li:=[]) H.hp) (by omega) (by omega) hd1.2 (by omega)) rfl ?_;clear H;rintro v46 Zd L46 a w ⟨p46,akl,q46,F6,C9,rfl,Av⟩ afP H;dsimp only [List.nil_append] at H;obtain ⟨YZ,c46,rfl,-,-⟩:=Av.buf.shape;obtain ⟨Y3,d46,rfl,-,-⟩:=Av.prt.shape;refine aH ⟨rfl,?_⟩;refine K4 _ _ ?_;clear K4;refine kP H (SC (Rm rfl (Rk rfl (aP oI aC 0 rfl rfl (Rd rfl (Rk rfl (Rf oI rfl ?_)))))));clear H;intro a H;refine bH aC 0 (vs:=[_]) _ H wn rfl rfl rfl rfl rfl rfl rfl rfl ?_;clear H;intro w H;dsimp only [List.set,setRow] at H;refine aH ?_;refine (leave0 H results158 ?_).2;exact H.hp.eP ⟨_,_,_,F6,C9,by rw [nS,ah (by simp [h5]),au h27];rfl,by rw [nS,ah (by simp [h5]),au h27];exact Av⟩
  intro h27 a H
  try have p27:=dF h27
  refine bA (fun _ K5=>?_)
  by_cases c1:qw (s.extract i s.size) ⟨#[37,100]⟩=true
  · skip;refine dI hmx [[],[0],[0,1],[0,1,2],[],[4],[4,5],[4,5,6],(ra 0 8),(ra 0 9),(ra 0 10),(ra 0 11),(ra 0 11),(ra 0 11++[12]),(ra 0 11++[12,13]),(ra 0 11++[12,13,14]),(ra 0 11++ra 12 4),(ra 0 17),(ra 0 18),(ra 0 19)] [] (by kernel_rfl) [_,_,_,.string s,_,_,_,vi i,.string (s.extract i s.size),.bool (qw (s.extract i s.size) ⟨#[37,100]⟩),.bool (decide (qw (s.extract i s.size) ⟨#[37,100]⟩=true)),_,_,(aJ b 0),_,vi i,vi ((i+2:Nat):Int),.bool (sK s (i+2)),_,_] H (aF (Z0 rfl (Rm rfl)) (Z1 0 55 rfl (Rk rfl)) (Z1 1 56 rfl (Rf uW rfl)) (Z1 2 57 rfl (Ro fZ 0 rfl)) (aF (Z0 rfl (Rm rfl)) (Z1 4 59 rfl (Rk rfl)) (Z1 5 60 rfl (Rf oI rfl)) (Z1 6 61 rfl (Ro aC 0 rfl)) (aF ?_ ?_ ?_ (Z1 10 65 rfl (YM (aB c1) rfl)) (aF (Z1 10 65 rfl (YM (aB c1) rfl)) ?_ (Z2 13 68 10 65 rfl (YF oI (aB c1) rfl)) (Z2 14 69 10 65 rfl (YO aC 0 (aB c1) rfl)) (aF ?_ ?_ (Z2 10 65 17 72 rfl (Pt (aB c1) rfl)) (Z1 18 73 rfl (Ra rfl)) bX))))) ?_
    · refine dG 3 58 7 62 rfl rfl fun _ a w G1 hG HT H fin=>?_;refine Qr i gu H wn rfl rfl rfl (by omega) rfl ?_;clear H;intro a H;exact fin H iJ rfl
    · refine dR 8 63 rfl rfl fun _ a w G1 hG HT H fin=>?_;refine s_call Ni H wn rfl (Oq _ _ H.ro _ _ hex (by decide)) rfl ?_;clear H;rintro v64 Zl a w ⟨rfl,rfl⟩ Og H;exact fin H Og (rfl)
    · refine dR 9 64 rfl rfl fun _ a w G1 hG HT H fin=>?_;refine kH H (Rm rfl ?_);clear H;intro a H;exact fin H iJ (by show _=_;simp)
    · refine dG 12 67 10 65 rfl rfl fun _ a w G1 hG HT H fin=>?_;refine rW H (wg H rfl rfl (aB c1)) rfl rfl ?_;clear H;intro a H;exact fin H iJ rfl
    · refine dG 15 70 10 65 rfl rfl fun _ a w G1 hG HT H fin=>?_;refine KT _ H (wg H rfl rfl (aB c1)) rfl rfl rfl (by omega) (by omega) rfl ?_;clear H;intro a H;exact fin H iJ rfl
    · refine qg 11 66 16 71 10 65 rfl rfl fun _ a w G1 hG HT H fin=>?_;refine gU TM (Li:=[]) (L:=gG b s i p (.slice A lit.length c) (.slice B parts.length d) pl e :: Lt) H (wg H rfl rfl (aB c1)) rfl (Tw _ Lt _ b s i p _ _ pl e (i+2) (by omega) (Hp.owns (Li:=[]) H.hp)) rfl ?_;clear H;rintro v72 G72 L72 a w ⟨rfl,rfl,rfl⟩ aeT H;dsimp only [List.nil_append] at H;exact fin H aeT (rfl)
    clear H;intro a w G Ar H hv;have H:=H.aR (hv 19 54 rfl rfl) rfl;clear hv;refine aH ⟨rfl,?_⟩;refine K5 _ _ ?_;clear K5;refine kr H rfl ?_ ?_
    · intro fJ
      try have p54:=dT fJ
      have hd2:=Tt fJ;refine bA (fun _ K6=>?_);refine dI hmx [[],[],[1],[1,2],[1,2,3],[],[5],[5,6],[5,6,7],(ra 5 4),(ra 1 9),(ra 0 11)] [11] (by kernel_rfl) [_,_,_,_,.string s,_,_,_,vi i,_,.int .u8 (gT s (i+2))] H (aF (Z0 rfl (Rm rfl)) (Z0 rfl (Rm rfl)) (Z1 1 75 rfl (Rk rfl)) (Z1 2 76 rfl (Rf uW rfl)) (aF (Z1 3 77 rfl (Ro fZ 0 rfl)) (Z0 rfl (Rm rfl)) (Z1 5 79 rfl (Rk rfl)) (Z1 6 80 rfl (Rf oI rfl)) (aF (Z1 7 81 rfl (Ro aC 0 rfl)) (Z1 8 82 rfl (Rd rfl)) ?_ (bK rfl) bX))) ?_
      · refine dG 4 78 9 83 rfl rfl fun _ a w G1 hG HT H fin=>?_;refine nV (i+2) gu H wn rfl rfl rfl hd2.1 rfl ?_;clear H;intro a H;rw [← lM] at H;exact fin H iJ rfl
      clear H;intro a w G qp H hv;have H:=H.aR (hv 0 74 rfl rfl) rfl;have H:=H.aR (hv 10 84 rfl rfl) rfl;clear hv;refine gU TN (Li:=[]) (L:=gG b s i p (.slice A lit.length c) (.slice B parts.length d) pl e :: Lt) H wn rfl (by subst oC;exact Xf _ Lp Lo _ b s i p _ _ pl e lit parts (gT s (i+2)) true hR (Hp.owns (Li:=[]) H.hp) (by omega) (by omega) hd2.2 (by omega)) rfl ?_;clear H;rintro v85 G85 L85 a w ⟨p46,akl,q46,F6,C9,rfl,Av⟩ alr H;dsimp only [List.nil_append] at H;obtain ⟨YZ,c46,rfl,-,-⟩:=Av.buf.shape;obtain ⟨Y3,d46,rfl,-,-⟩:=Av.prt.shape;refine aH ⟨rfl,?_⟩;refine K6 _ _ ?_;clear K6;refine kP H (SC (Rm rfl (Rk rfl (aP oI aC 0 rfl rfl (Rd rfl (Rk rfl (Rf oI rfl ?_)))))));clear H;intro a H;refine bH aC 0 (vs:=[_]) _ H wn rfl rfl rfl rfl rfl rfl rfl rfl ?_;clear H;intro w H;dsimp only [List.set,setRow] at H;refine aH ?_;refine (leave0 H results158 ?_).2
      have uD:¬ qw (s.extract i s.size) ⟨#[37,37]⟩=true:=by simp [h5]
      have uz:¬ sK s (i+1)=true:=by simp [h27]
      first
        | exact H.hp.eP ⟨_,_,_,F6,C9,by rw [nS,ah uD,ah uz,au ⟨c1,fJ⟩];rfl,by rw [nS,ah uD,ah uz,au ⟨c1,fJ⟩];exact Av⟩
        | (have xL:¬ (qw (s.extract i s.size) ⟨#[37,100]⟩=true∧sK s (i+2)=true):=by simp_all
           exact H.hp.eP ⟨_,_,_,Lp,Lo,by rw [nS,ah uD,ah uz,ah xL,oC],by rw [nS,ah uD,ah uz,ah xL];exact hR⟩)
    intro fJ
    try have p54:=dF fJ
    refine kP H (SC (Rm rfl (Rk rfl (Rf yU rfl ?_))));clear H;intro a H;refine bH gK 0 (vs:=[_]) _ H wn rfl rfl rfl rfl rfl rfl rfl rfl ?_;clear H;intro w H;dsimp only [List.set,setRow] at H;refine aH ?_;refine (leave0 H results158 ?_).2
    have uD:¬ qw (s.extract i s.size) ⟨#[37,37]⟩=true:=by simp [h5]
    have uz:¬ sK s (i+1)=true:=by simp [h27]
    first
      | exact H.hp.eP ⟨_,_,_,F6,C9,by rw [nS,ah uD,ah uz,au ⟨c1,fJ⟩];rfl,by rw [nS,ah uD,ah uz,au ⟨c1,fJ⟩];exact Av⟩
      | (have xL:¬ (qw (s.extract i s.size) ⟨#[37,100]⟩=true∧sK s (i+2)=true):=by simp_all
         exact H.hp.eP ⟨_,_,_,Lp,Lo,by rw [nS,ah uD,ah uz,ah xL,oC],by rw [nS,ah uD,ah uz,ah xL];exact hR⟩)
  skip;refine dI hmx [[],[0],[0,1],[0,1,2],[],[4],[4,5],[4,5,6],(ra 0 8),(ra 0 9),(ra 0 10),(ra 0 11),(ra 0 11),(ra 0 11++[12]),(ra 0 11++[12,13]),(ra 0 11++[12,13,14]),(ra 0 11++ra 12 4),(ra 0 17),(ra 0 18),(ra 0 19)] [] (by kernel_rfl) [_,_,_,.string s,_,_,_,vi i,.string (s.extract i s.size),.bool (qw (s.extract i s.size) ⟨#[37,100]⟩),.bool (decide (qw (s.extract i s.size) ⟨#[37,100]⟩=true)),undef,undef,undef,undef,undef,undef,undef,_,_] H (aF (Z0 rfl (Rm rfl)) (Z1 0 55 rfl (Rk rfl)) (Z1 1 56 rfl (Rf uW rfl)) (Z1 2 57 rfl (Ro fZ 0 rfl)) (aF (Z0 rfl (Rm rfl)) (Z1 4 59 rfl (Rk rfl)) (Z1 5 60 rfl (Rf oI rfl)) (Z1 6 61 rfl (Ro aC 0 rfl)) (aF ?_ ?_ ?_ (aL (j:=10) (by kernel_rfl) (fun _ _ _ _ _ h=>h) rfl rfl rfl rfl rfl (fun _ _ h=>aM h (aG (aO c1))) rfl (fun _=>rfl)) (aF (aL (j:=10) (by kernel_rfl) (fun _ _ _ _ _ h=>h) rfl rfl rfl rfl rfl (fun _ _ h=>aM h (aG (aO c1))) rfl (fun _=>rfl)) (aL (j:=10) (by kernel_rfl) (fun _ _ _ _ _ h=>h) rfl rfl rfl rfl rfl (fun _ _ h=>aM h (aG (aO c1))) rfl (fun _=>rfl)) (aL (j:=10) (by kernel_rfl) (fun _ _ _ _ _ h=>h) rfl rfl rfl rfl rfl (fun _ _ h=>aM h (aG (aO c1))) rfl (fun _=>rfl)) (aL (j:=10) (by kernel_rfl) (fun _ _ _ _ _ h=>h) rfl rfl rfl rfl rfl (fun _ _ h=>aM h (aG (aO c1))) rfl (fun _=>rfl)) (aF (aL (j:=10) (by kernel_rfl) (fun _ _ _ _ _ h=>h) rfl rfl rfl rfl rfl (fun _ _ h=>aM h (aG (aO c1))) rfl (fun _=>rfl)) (aL (j:=10) (by kernel_rfl) (fun _ _ _ _ _ h=>h) rfl rfl rfl rfl rfl (fun _ _ h=>aM h (aG (aO c1))) rfl (fun _=>rfl)) (Z2 10 65 17 72 rfl (Pf (aO c1) rfl)) (Z1 18 73 rfl (Ra rfl)) bX))))) ?_
  · refine dG 3 58 7 62 rfl rfl fun _ a w G1 hG HT H fin=>?_;refine Qr i gu H wn rfl rfl rfl (by omega) rfl ?_;clear H;intro a H;exact fin H iJ rfl
  · refine dR 8 63 rfl rfl fun _ a w G1 hG HT H fin=>?_;refine s_call Ni H wn rfl (Oq _ _ H.ro _ _ hex (by decide)) rfl ?_;clear H;rintro v64 Zl a w ⟨rfl,rfl⟩ Og H;exact fin H Og (rfl)
  · refine dR 9 64 rfl rfl fun _ a w G1 hG HT H fin=>?_;refine kH H (Rm rfl ?_);clear H;intro a H;exact fin H iJ (by show _=_;simp)
  clear H;intro a w G Ar H hv;have H:=H.aR (hv 19 54 rfl rfl) rfl;clear hv;refine aH ⟨rfl,?_⟩;refine K5 _ _ ?_;clear K5;refine kS H rfl rfl ?_;refine kP H (SC (Rm rfl (Rk rfl (Rf yU rfl ?_))));clear H;intro a H;refine bH gK 0 (vs:=[_]) _ H wn rfl rfl rfl rfl rfl rfl rfl rfl ?_;clear H;intro w H;dsimp only [List.set,setRow] at H;refine aH ?_;refine (leave0 H results158 ?_).2
  have uD:¬ qw (s.extract i s.size) ⟨#[37,37]⟩=true:=by simp [h5]
  have uz:¬ sK s (i+1)=true:=by simp [h27]
  first
    | exact H.hp.eP ⟨_,_,_,F6,C9,by rw [nS,ah uD,ah uz,au ⟨c1,fJ⟩];rfl,by rw [nS,ah uD,ah uz,au ⟨c1,fJ⟩];exact Av⟩
    | (have xL:¬ (qw (s.extract i s.size) ⟨#[37,100]⟩=true∧sK s (i+2)=true):=by simp_all
       exact H.hp.eP ⟨_,_,_,Lp,Lo,by rw [nS,ah uD,ah uz,ah xL,oC],by rw [nS,ah uD,ah uz,ah xL];exact hR⟩)
end
section
open Go.RowKit
theorem acJ:∀ args w,(callFunc 158 args).run prog w=.ok (.enter 158 args) w:=enters func158 rfl (by kernel_rfl)
def Js (s:ByteArray) (i:Nat):UInt8:=if h:i < s.size then s[i] else 0
theorem aah (s:ByteArray) (i:Nat):gT s i=((Js s i).toNat:Int):=by
 unfold gT Js;split <;> rfl
def nC (s:ByteArray) (x:sH):sH:=if gT s x.i=37 then nS s x else ⟨x.i+1,x.lit++[Js s x.i],x.parts,x.pl,x.e⟩
def Bj (s:ByteArray):Nat→sH→sH
 | 0,x=>x
 | f+1,x=>if x.i < s.size∧x.e=0 then Bj s f (nC s x) else x
def mS (s:ByteArray) (x:sH):Nat:=if x.e=0 then s.size - x.i else 0
theorem XL {s:ByteArray} {f:Nat} {x:sH} (h:¬ (x.i < s.size∧x.e=0)):Bj s f x=x:=by
 cases f with
 | zero=>rfl
 | succ f=>rw [Bj,ah h]
theorem aez (lit:List UInt8) (parts:List iP):(sN lit parts).length≤parts.length+1:=by unfold sN;split <;> simp
theorem X8 (s:ByteArray) (x:sH) (h:x.i < s.size∧x.e=0) (h1:x.lit.length≤x.i) (h2:x.parts.length≤2*x.i) (h3:x.pl≤x.i) :
  (nC s x).i≤x.i+3∧(nC s x).lit.length≤(nC s x).i∧(nC s x).parts.length≤2*(nC s x).i∧(nC s x).pl≤(nC s x).i∧mS s (nC s x) < mS s x∧mS s x≤s.size:=by
 have hf:=aez x.lit x.parts;have hm:mS s x=s.size - x.i:=au h.2
 unfold nC nS
 split
 ·split
  ·refine ⟨?_,?_,?_,?_,?_,?_⟩ <;> simp only [mS,iA,nL,List.length_nil] at*<;> simp only [h.2,if_true] at*<;> omega
  split
  ·refine ⟨?_,?_,?_,?_,?_,?_⟩ <;> simp only [mS,iA,nL,List.length_nil] at*<;> simp only [h.2,if_true] at*<;> omega
  split
  ·refine ⟨?_,?_,?_,?_,?_,?_⟩ <;> simp only [mS,iA,nL,List.length_nil] at*<;> simp only [h.2,if_true] at*<;> omega
  refine ⟨?_,?_,?_,?_,?_,?_⟩ <;> simp only [mS,iA,nL,List.length_nil] at*<;> simp only [h.2,if_true] at*<;> (try omega) <;> (simp;omega)
 refine ⟨?_,?_,?_,?_,?_,?_⟩ <;> simp only [mS,iA,nL,List.length_nil] at*<;> simp only [h.2,if_true] at*<;> omega
def zB:sH:=⟨0,[],[],0,0⟩
def jL (s:ByteArray):sH:=Bj s s.size zB
def rX (x:sH):Int:=if x.e=0∧9 < (x.pl:Int) then 9 else x.e
set_option maxHeartbeats 1000000 in
theorem ajf (G:GH) (Jf Jd:OL) (w0:World) (b:Nat) (s:ByteArray) (p0 v0 q0:aj) (hR:yJ b [] [] p0 v0 q0 Jf Jd) (hO:gX G (uH b s zB p0 v0 q0 :: (Jf++Jd)) w0) (hs:s.size≤1073741824) :
  Calls prog 154 #[(aJ b 0)] w0 (gH w0 G (uH b s zB p0 v0 q0 :: (Jf++Jd)) fun u G' L'=>∃ p' v' q' oZ fD,L'=gG b s (jL s).i p' v' q' (jL s).pl (rX (jL s)) :: (oZ++fD)∧yJ b [] (sN (jL s).lit (jL s).parts) p' v' q' oZ fD):=by
 obtain ⟨A0,c0,rfl,-,-⟩:=hR.buf.shape;obtain ⟨B0,d0,rfl,-,-⟩:=hR.prt.shape;refine jO (N:=68) (T:=[(0,_)]) func154 rfl ntmps154 rfl rfl hO ?_;intro a H;refine bA (fun _ K1=>?_);refine yP ?_;skip;refine eT (ι:=Nat × sH × aj × Option Addr × Nat × Option Addr × Nat × OL × OL × GH) (Tc:=[(0,_)]) (Lc:=[]) (fun gh=>[]) (fun gh=>[uH b s gh.2.1 gh.2.2.1 (.slice gh.2.2.2.1 gh.2.1.lit.length gh.2.2.2.2.1) (.slice gh.2.2.2.2.2.1 gh.2.1.parts.length gh.2.2.2.2.2.2.1)]++(gh.2.2.2.2.2.2.2.1++gh.2.2.2.2.2.2.2.2.1)) (fun gh=>gh.2.2.2.2.2.2.2.2.2) (fun gh=>yJ b gh.2.1.lit gh.2.1.parts gh.2.2.1 (.slice gh.2.2.2.1 gh.2.1.lit.length gh.2.2.2.2.1) (.slice gh.2.2.2.2.2.1 gh.2.1.parts.length gh.2.2.2.2.2.2.1) gh.2.2.2.2.2.2.2.1 gh.2.2.2.2.2.2.2.2.1∧Bj s gh.1 gh.2.1=jL s∧mS s gh.2.1≤gh.1∧gh.1≤s.size∧gh.2.1.i≤s.size+3∧gh.2.1.lit.length≤gh.2.1.i∧gh.2.1.parts.length≤2*gh.2.1.i∧gh.2.1.pl≤gh.2.1.i) (fun gh=>gh.1) ((s.size,zB,p0,A0,c0,B0,d0,Jf,Jd,G)) (by exact (H).sub ⟨rfl,aD⟩) ?_ ?_
 ·exact ⟨hR,rfl,by simp [mS,zB],bU _,by simp [zB],by simp [zB],by simp [zB],by simp [zB]⟩
 clear H;intro gh a w hI H;obtain ⟨k,x,p,vA,vc,qA,qc,Lp,Lo,g⟩:=gh;dsimp only at hI H;obtain ⟨hR,hsc,hmk,hks,hxi,hx1,hx2,hx3⟩:=hI;dsimp only [lca,bg] at H;refine bA (fun _ K2=>?_);refine bA (fun _ K3=>?_)
 by_cases c0:(x.i:Int) < (s.size:Int)
 ·skip
  by_cases c1:x.e=0
  ·skip;refine dI hmx [[],[0],[0,1],[0,1,2],[],[4],[4,5],[4,5,6],(ra 4 4),(ra 0 9),(ra 0 10),(ra 0 11),(ra 0 12),(ra 0 13),(ra 0 14),(ra 0 15),(ra 0 16)] [] (by kernel_rfl) [_,_,_,vi x.i,_,_,_,.string s,_,_,_,_,(aJ b 0),_,vi x.e,_,_] H (aF (Z0 rfl (Rm rfl)) (Z1 0 2 rfl (Rk rfl)) (Z1 1 3 rfl (Rf oI rfl)) (Z1 2 4 rfl (Ro aC 0 rfl)) (aF (Z0 rfl (Rm rfl)) (Z1 4 6 rfl (Rk rfl)) (Z1 5 7 rfl (Rf uW rfl)) (Z1 6 8 rfl (Ro fZ 0 rfl)) (aF (Z1 7 9 rfl (Rv gu rfl)) (Z2 3 5 8 10 rfl (Rc rfl)) (Z1 9 11 rfl (Rm rfl)) (Z1 10 12 rfl (YM (aB c0) rfl)) (aF ?_ (Z2 12 14 10 12 rfl (YF yU (aB c0) rfl)) (Z2 13 15 10 12 rfl (YO gK 0 (aB c0) rfl)) (Z2 14 16 10 12 rfl (YC (aB c0) rfl)) (aS (Z2 10 12 15 17 rfl (Pt (aB c0) rfl)) bX))))) ?_
   ·refine dG 11 13 10 12 rfl rfl fun _ a w G1 hG HT H fin=>?_;refine rW H (wg H rfl rfl (aB c0)) rfl rfl ?_;clear H;intro a H;exact fin H iJ rfl
   clear H;intro a w G UM H hv;have H:=H.aR (hv 16 18 rfl rfl) rfl;clear hv;refine aH ⟨rfl,?_⟩;refine K3 _ _ ?_;clear K3;refine uQ H rfl (aB c1) ?_;refine kP H (Kc K2 (SB (SQ fun _ K4=>SQ fun _ K5=>?_)));clear H K2;intro a H;refine dI hmx [[],[0],[0,1],[0,1,2],[],[4],[4,5],[4,5,6],(ra 0 8),(ra 0 9)] [] (by kernel_rfl) [_,_,_,.string s,_,_,_,vi x.i,.int .u8 (gT s x.i),_] H (aF (Z0 rfl (Rm rfl)) (Z1 0 19 rfl (Rk rfl)) (Z1 1 20 rfl (Rf uW rfl)) (Z1 2 21 rfl (Ro fZ 0 rfl)) (aF (Z0 rfl (Rm rfl)) (Z1 4 23 rfl (Rk rfl)) (Z1 5 24 rfl (Rf oI rfl)) (Z1 6 25 rfl (Ro aC 0 rfl)) (aS ?_ (aS (Z1 8 27 rfl (Rc rfl)) bX)))) ?_
   ·refine dG 3 22 7 26 rfl rfl fun _ a w G1 hG HT H fin=>?_;refine nV x.i gu H wn rfl rfl rfl (by omega) rfl ?_;clear H;intro a H;rw [← lM] at H;exact fin H iJ rfl
   clear H;intro a w G nu H hv;have H:=H.aR (hv 9 28 rfl rfl) rfl;clear hv;refine aH ⟨rfl,?_⟩;refine K5 _ _ ?_;clear K5;refine kr H rfl ?_ ?_
   ·intro fF
    try have p28:=dT fF
    refine kP H (SR fun _ K6=>Rm rfl ?_);clear H;intro a H;refine gU acJ (Li:=[]) (L:=uH b s x p (.slice vA x.lit.length vc) (.slice qA x.parts.length qc) :: (Lp++Lo)) H wn rfl (aik _ Lp Lo _ b s x p _ _ hR (Hp.owns (Li:=[]) H.hp) (by omega) (by omega) (by omega) (by omega) (by omega)) rfl ?_;clear H;rintro v30 CW L30 a w ⟨p',v',q',oZ,fD,rfl,JX⟩ DI H;dsimp only [List.nil_append] at H;have hst:nC s x=nS s x:=au p28;have hok:=X8 s x ⟨by omega,c1⟩ hx1 hx2 hx3
    have hkk:k=(k - 1)+1:=by omega
    have O8:Bj s (k - 1) (nC s x)=jL s:=by rw [hkk,Bj,au ⟨by omega,c1⟩] at hsc;exact hsc
    rw [← hst] at H JX;obtain ⟨YX,c30,rfl,-,-⟩:=JX.buf.shape;obtain ⟨Y2,d30,rfl,-,-⟩:=JX.prt.shape;refine K6 _ _ ?_;clear K6;refine dU ?_;refine cu ((k - 1,nC s x,p',YX,c30,Y2,d30,oZ,fD,CW)) (by exact (H).sub ⟨rfl,aD⟩) ?_ ?_
    ·(try dsimp only);exact ⟨JX,O8,by omega,by omega,by omega,by omega,by omega,by omega⟩
    first|omega|(dsimp only;omega)
   intro fF
   try have p28:=dF fF
   refine gI ?_;refine K4 _ _ ?_;clear K4;refine bA (fun _ K7=>?_);refine dI hmx [[],[0],[0,1],[],[3],[3,4],[3,4,5],[],[7],[7,8],[7,8,9],(ra 3 8),(ra 0 12)] [12] (by kernel_rfl) [_,_,_,_,_,_,.string s,_,_,_,vi x.i,.int .u8 (gT s x.i)] H (aF (Z0 rfl (Rm rfl)) (Z1 0 31 rfl (Rk rfl)) (Z1 1 32 rfl (Rf GQ rfl)) (Z0 rfl (Rm rfl)) (aF (Z1 3 34 rfl (Rk rfl)) (Z1 4 35 rfl (Rf uW rfl)) (Z1 5 36 rfl (Ro fZ 0 rfl)) (Z0 rfl (Rm rfl)) (aF (Z1 7 38 rfl (Rk rfl)) (Z1 8 39 rfl (Rf oI rfl)) (Z1 9 40 rfl (Ro aC 0 rfl)) ?_ (aS (bK rfl) bX)))) ?_
   ·refine dG 6 37 10 41 rfl rfl fun _ a w G1 hG HT H fin=>?_;refine nV x.i gu H wn rfl rfl rfl (by omega) rfl ?_;clear H;intro a H;rw [← lM] at H;exact fin H iJ rfl
   clear H;intro a w G UQ H hv;have H:=H.aR (hv 2 33 rfl rfl) rfl;have H:=H.aR (hv 11 42 rfl rfl) rfl;clear hv;refine gU TL (Li:=[]) (L:=uH b s x p (.slice vA x.lit.length vc) (.slice qA x.parts.length qc) :: (Lp++Lo)) H wn rfl (Yv _ Lp Lo _ b s x.i p _ qA x.parts.length qc x.pl x.e x.lit.length _ (gT s x.i) hR.ptr (Hp.owns (Li:=[]) H.hp) hR.buf (by omega)) rfl ?_;clear H;rintro v43 _ L43 a w ⟨alW,Mj,rfl,VA,rfl⟩ Ci H;dsimp only [List.nil_append] at H;obtain ⟨LZ,ML,rfl,-,-⟩:=VA.shape;have hst:nC s x=⟨x.i+1,x.lit++[Js s x.i],x.parts,x.pl,x.e⟩:=ah p28;have hok:=X8 s x ⟨by omega,c1⟩ hx1 hx2 hx3
   have hkk:k=(k - 1)+1:=by omega
   have O8:Bj s (k - 1) (nC s x)=jL s:=by rw [hkk,Bj,au ⟨by omega,c1⟩] at hsc;exact hsc
   have afd:yJ b (nC s x).lit (nC s x).parts (aJ b 2) (.slice LZ (nC s x).lit.length ML) (.slice qA (nC s x).parts.length qc) Lp Mj:=by
    rw [hst];exact ⟨.inr rfl,by simpa [Lib.byteCells,aah] using VA,hR.prt⟩
   refine aH ⟨rfl,?_⟩;refine K7 _ _ ?_;clear K7;refine kP H (SC (Rm rfl (Rk rfl (aP oI aC 0 rfl rfl (Rd rfl (Rk rfl (Rf oI rfl ?_)))))));clear H;intro a H;refine bH aC 0 (vs:=[_]) _ H wn rfl rfl rfl rfl rfl rfl rfl rfl ?_;clear H;intro w H;dsimp only [List.set,setRow] at H;replace H:St _ _ _ _ _ _ (uH b s (nC s x) (aJ b 2) (.slice LZ (nC s x).lit.length ML) (.slice qA (nC s x).parts.length qc) :: (Lp++Mj)) _ _ _:=H.cast (by rw [hst];simp [uH,gG]);refine aH ?_;refine cu ((k - 1,nC s x,(aJ b 2),LZ,ML,qA,qc,Lp,Mj,_)) (by exact (H).sub ⟨rfl,aD⟩) ?_ ?_
   ·(try dsimp only);exact ⟨afd,O8,by omega,by omega,by omega,by omega,by omega,by omega⟩
   first|omega|(dsimp only;omega)
  skip;refine dI hmx [[],[0],[0,1],[0,1,2],[],[4],[4,5],[4,5,6],(ra 4 4),(ra 0 9),(ra 0 10),(ra 0 11),(ra 0 12),(ra 0 13),(ra 0 14),(ra 0 15),(ra 0 16)] [] (by kernel_rfl) [_,_,_,vi x.i,_,_,_,.string s,_,_,_,_,(aJ b 0),_,vi x.e,_,_] H (aF (Z0 rfl (Rm rfl)) (Z1 0 2 rfl (Rk rfl)) (Z1 1 3 rfl (Rf oI rfl)) (Z1 2 4 rfl (Ro aC 0 rfl)) (aF (Z0 rfl (Rm rfl)) (Z1 4 6 rfl (Rk rfl)) (Z1 5 7 rfl (Rf uW rfl)) (Z1 6 8 rfl (Ro fZ 0 rfl)) (aF (Z1 7 9 rfl (Rv gu rfl)) (Z2 3 5 8 10 rfl (Rc rfl)) (Z1 9 11 rfl (Rm rfl)) (Z1 10 12 rfl (YM (aB c0) rfl)) (aF ?_ (Z2 12 14 10 12 rfl (YF yU (aB c0) rfl)) (Z2 13 15 10 12 rfl (YO gK 0 (aB c0) rfl)) (Z2 14 16 10 12 rfl (YC (aB c0) rfl)) (aS (Z2 10 12 15 17 rfl (Pt (aB c0) rfl)) bX))))) ?_
  ·refine dG 11 13 10 12 rfl rfl fun _ a w G1 hG HT H fin=>?_;refine rW H (wg H rfl rfl (aB c0)) rfl rfl ?_;clear H;intro a H;exact fin H iJ rfl
  clear H;intro a w G UM H hv;have H:=H.aR (hv 16 18 rfl rfl) rfl;clear hv;refine aH ⟨rfl,?_⟩;refine K3 _ _ ?_;clear K3;refine kS H rfl (aO c1) ?_;refine dU ?_;refine K1 _ _ ?_;clear K1;refine bA (fun _ K8=>?_)
  have Pm:x=jL s:=by
   rw [XL (by first|exact fun h=>c0 (by omega)|exact fun h=>c1 h.2)] at hsc;exact hsc
  subst Pm;refine kP H (SC (Rm rfl ?_));clear H;intro a H;refine gU Nh (Li:=[]) (L:=uH b s (jL s) p (.slice vA (jL s).lit.length vc) (.slice qA (jL s).parts.length qc) :: (Lp++Lo)) H wn rfl (NI _ Lp Lo _ b s (jL s).i p _ _ (jL s).pl (jL s).e (jL s).lit (jL s).parts hR (Hp.owns (Li:=[]) H.hp) (by omega) (by omega)) rfl ?_;clear H;rintro v52 Zf Zt a w ⟨p52,akm,q52,ZE,Zy,rfl,qV⟩ afQ H;dsimp only [List.nil_append] at H;obtain ⟨Y0,c52,rfl,-,-⟩:=qV.buf.shape;obtain ⟨Y4,d52,rfl,-,-⟩:=qV.prt.shape;refine kH H (Kn K8 (SR fun _ K9=>Rm rfl (Rk rfl (aP yU gK 0 rfl rfl (Rc rfl (Rm rfl (Sp 58 rfl ?_ ?_))))))) <;> clear H K8
  ·intro jJ a H
   try have p58:=dT jJ
   refine kH H (YM jJ rfl ?_);clear H;intro a H;refine rW H (wg H rfl rfl jJ) rfl rfl ?_;clear H;intro a H;refine kH H (YF JH jJ rfl (YO aC 0 jJ rfl (YC jJ rfl (Pt jJ rfl (Kz K9 (Cd rfl ?_ ?_)))))) <;> clear H K9
   ·intro h64 a H
    try have p64:=dT h64
    refine kP H (SC (Rm rfl (Rk rfl (Rf yU rfl ?_))));clear H;intro a H;refine bH gK 0 (vs:=[_]) _ H wn rfl rfl rfl rfl rfl rfl rfl rfl ?_;clear H;intro w H;dsimp only [List.set,setRow] at H;refine aH ?_;refine (leave0 H results154 ?_).2
    first
     | exact H.hp.eP ⟨_,_,_,_,_,by rw [rX,au ⟨by assumption,by assumption⟩],qV⟩
     | exact H.hp.eP ⟨_,_,_,_,_,by rw [rX,ah (by first|exact fun h=>p58 h.1|exact fun h=>p64 h.2)],qV⟩
   intro h64 a H
   try have p64:=dF h64
   refine gI ?_;refine (leave0 H results154 ?_).2
   first
    | exact H.hp.eP ⟨_,_,_,_,_,by rw [rX,au ⟨by assumption,by assumption⟩],qV⟩
    | exact H.hp.eP ⟨_,_,_,_,_,by rw [rX,ah (by first|exact fun h=>p58 h.1|exact fun h=>p64 h.2)],qV⟩
  intro jJ a H
  try have p58:=dF jJ
  refine kH H (aX jJ rfl (aQ jJ rfl (Pf jJ rfl (Kz K9 (Cf rfl rfl ?_)))));clear H K9;intro a H;refine gI ?_;refine (leave0 H results154 ?_).2
  first
   | exact H.hp.eP ⟨_,_,_,_,_,by rw [rX,au ⟨by assumption,by assumption⟩],qV⟩
   | exact H.hp.eP ⟨_,_,_,_,_,by rw [rX,ah (by first|exact fun h=>p58 h.1|exact fun h=>p64 h.2)],qV⟩
 skip;refine dI hmx [[],[0],[0,1],[0,1,2],[],[4],[4,5],[4,5,6],(ra 4 4),(ra 0 9),(ra 0 10),(ra 0 11),(ra 0 12),(ra 0 13),(ra 0 14),(ra 0 15),(ra 0 16)] [] (by kernel_rfl) [_,_,_,vi x.i,_,_,_,.string s,_,_,_,undef,undef,undef,undef,undef,_] H (aF (Z0 rfl (Rm rfl)) (Z1 0 2 rfl (Rk rfl)) (Z1 1 3 rfl (Rf oI rfl)) (Z1 2 4 rfl (Ro aC 0 rfl)) (aF (Z0 rfl (Rm rfl)) (Z1 4 6 rfl (Rk rfl)) (Z1 5 7 rfl (Rf uW rfl)) (Z1 6 8 rfl (Ro fZ 0 rfl)) (aF (Z1 7 9 rfl (Rv gu rfl)) (Z2 3 5 8 10 rfl (Rc rfl)) (Z1 9 11 rfl (Rm rfl)) (aL (j:=10) (by kernel_rfl) (fun _ _ _ _ _ h=>h) rfl rfl rfl rfl rfl (fun _ _ h=>aM h (aG (aO c0))) rfl (fun _=>rfl)) (aF (aL (j:=10) (by kernel_rfl) (fun _ _ _ _ _ h=>h) rfl rfl rfl rfl rfl (fun _ _ h=>aM h (aG (aO c0))) rfl (fun _=>rfl)) (aL (j:=10) (by kernel_rfl) (fun _ _ _ _ _ h=>h) rfl rfl rfl rfl rfl (fun _ _ h=>aM h (aG (aO c0))) rfl (fun _=>rfl)) (aL (j:=10) (by kernel_rfl) (fun _ _ _ _ _ h=>h) rfl rfl rfl rfl rfl (fun _ _ h=>aM h (aG (aO c0))) rfl (fun _=>rfl)) (aL (j:=10) (by kernel_rfl) (fun _ _ _ _ _ h=>h) rfl rfl rfl rfl rfl (fun _ _ h=>aM h (aG (aO c0))) rfl (fun _=>rfl)) (aS (Z2 10 12 15 17 rfl (Pf (aO c0) rfl)) bX))))) ?_
 clear H;intro a w G UM H hv;have H:=H.aR (hv 16 18 rfl rfl) rfl;clear hv;refine aH ⟨rfl,?_⟩;refine K3 _ _ ?_;clear K3;refine kS H rfl rfl ?_;refine dU ?_;refine K1 _ _ ?_;clear K1;refine bA (fun _ aT=>?_)
 have Pm:x=jL s:=by
  rw [XL (by first|exact fun h=>c0 (by omega)|exact fun h=>c1 h.2)] at hsc;exact hsc
 subst Pm;refine kP H (SC (Rm rfl ?_));clear H;intro a H;refine gU Nh (Li:=[]) (L:=uH b s (jL s) p (.slice vA (jL s).lit.length vc) (.slice qA (jL s).parts.length qc) :: (Lp++Lo)) H wn rfl (NI _ Lp Lo _ b s (jL s).i p _ _ (jL s).pl (jL s).e (jL s).lit (jL s).parts hR (Hp.owns (Li:=[]) H.hp) (by omega) (by omega)) rfl ?_;clear H;rintro v52 Zf Zt a w ⟨p52,akm,q52,ZE,Zy,rfl,qV⟩ afQ H;dsimp only [List.nil_append] at H;obtain ⟨Y0,c52,rfl,-,-⟩:=qV.buf.shape;obtain ⟨Y4,d52,rfl,-,-⟩:=qV.prt.shape;refine kH H (Kn aT (SR fun _ bq=>Rm rfl (Rk rfl (aP yU gK 0 rfl rfl (Rc rfl (Rm rfl (Sp 58 rfl ?_ ?_))))))) <;> clear H aT
 ·intro jJ a H
  try have p58:=dT jJ
  refine kH H (YM jJ rfl ?_);clear H;intro a H;refine rW H (wg H rfl rfl jJ) rfl rfl ?_;clear H;intro a H;refine kH H (YF JH jJ rfl (YO aC 0 jJ rfl (YC jJ rfl (Pt jJ rfl (Kz bq (Cd rfl ?_ ?_)))))) <;> clear H bq
  ·intro h64 a H
   try have p64:=dT h64
   refine kP H (SC (Rm rfl (Rk rfl (Rf yU rfl ?_))));clear H;intro a H;refine bH gK 0 (vs:=[_]) _ H wn rfl rfl rfl rfl rfl rfl rfl rfl ?_;clear H;intro w H;dsimp only [List.set,setRow] at H;refine aH ?_;refine (leave0 H results154 ?_).2
   first
    | exact H.hp.eP ⟨_,_,_,_,_,by rw [rX,au ⟨by assumption,by assumption⟩],qV⟩
    | exact H.hp.eP ⟨_,_,_,_,_,by rw [rX,ah (by first|exact fun h=>p58 h.1|exact fun h=>p64 h.2)],qV⟩
  intro h64 a H
  try have p64:=dF h64
  refine gI ?_;refine (leave0 H results154 ?_).2
  first
   | exact H.hp.eP ⟨_,_,_,_,_,by rw [rX,au ⟨by assumption,by assumption⟩],qV⟩
   | exact H.hp.eP ⟨_,_,_,_,_,by rw [rX,ah (by first|exact fun h=>p58 h.1|exact fun h=>p64 h.2)],qV⟩
 intro jJ a H
 try have p58:=dF jJ
 refine kH H (aX jJ rfl (aQ jJ rfl (Pf jJ rfl (Kz bq (Cf rfl rfl ?_)))));clear H bq;intro a H;refine gI ?_;refine (leave0 H results154 ?_).2
 first
  | exact H.hp.eP ⟨_,_,_,_,_,by rw [rX,au ⟨by assumption,by assumption⟩],qV⟩
  | exact H.hp.eP ⟨_,_,_,_,_,by rw [rX,ah (by first|exact fun h=>p58 h.1|exact fun h=>p64 h.2)],qV⟩
end
section
open Go.RowKit
def yw (c:Int):List Dat:=[.lf (.int .u8 c)]
theorem Yf {G:GH} {c:Int} {cs:List aj} (h:aZ G (yw c) cs):cs=[.int .u8 c]:=by
 simp only [yw,aZ,av] at h
 obtain ⟨_,_,rfl,⟨rfl,_⟩,rfl⟩:=h
 rfl
def EI (s:ByteArray):List Int:=s.data.toList.map fun b=>(b.toNat:Int)
theorem aam (G:GH) (l:List Int):fE G 1 (l.map yw) (l.map fun c=>Value.int .u8 c):=by
 refine ⟨l.map fun c=>[.int .u8 c],by induction l with|nil=>rfl|cons x r ih=>simp [ih],by simp,fun j r cs hr hc=>?_⟩
 rw [qL] at hr hc
 obtain ⟨x,hx,rfl⟩:=lK.1 hr
 rw [hx] at hc
 cases hc
 exact ⟨by simp only [yw,aZ];exact ⟨_,_,rfl,by simp [av,Value.oneCell'],rfl⟩,rfl⟩
theorem aiE {G:GH} {sz b o n cap:Nat} {cur:Array aj} {e:TypeId} {fz:Nat × Nat} {rows:List (List Dat)} (hb:G b=some (.cells cur e fz)) (h:av (fun k=>if k=b then some (.cells cur e (0,0)) else G k) (.sl sz rows) (.slice (some ⟨b,o,none⟩) n cap)) (hr:∀ r∈rows,∃ c,r=yw c):av G (.sl sz rows) (.slice (some ⟨b,o,none⟩) n cap):=by
 simp only [av] at h ⊢
 obtain ⟨A,c,h1,h2,h3,h4⟩:=h
 refine ⟨A,c,h1,h2,h3,fun hn=>?_⟩
 obtain ⟨b',o',e',hrr⟩:=h4 hn
 injection h1 with e1
 subst e1
 injection e' with e2
 injection e2 with e3 e4
 subst e3;subst e4
 refine ⟨_,_,rfl,kX.mk fun k r hk=>?_⟩
 obtain ⟨cs,g1,g2,g3⟩:=hrr.get hk
 refine ⟨cs,g1,fun j u hj=>?_,?_⟩
 ·have:=g2 j u hj
  unfold aI at this ⊢
  simp only [if_true] at this
  rw [hb];exact this
 ·obtain ⟨c,rfl⟩:=hr r (lg hk)
  have:=Yf g3
  subst this
  simp only [yw,aZ];exact ⟨_,_,rfl,by simp [av,Value.oneCell'],rfl⟩
section
variable {N:Nat} {D:List Deferred} {w0:World} {F:Nat→Prop} {G0 G:GH} {L:OL} {T:List (Nat × aj)}
variable {r:Option Nat} {P:Program} {ops:Array Oper} {Q:Exit→Act→World→Prop} {rest:List Oper} {a:Act} {w:World}
variable {d:Nat} {ty:TypeId} {pos:String} {aN:Array Edge} {g:Option (Nat × Bool)}
theorem akj {w:World} {b o n:Nat} {c:Array aj} {e:TypeId} {fz:Nat × Nat} (h:w.heap[b]?=some (.cells c e fz)) (hn:n≠0):∃ Dt,tO b (.cells c e Dt) w (w.freeze ⟨b,o,none⟩ n):=by
 unfold World.freeze
 rw [ah hn]
 refine ⟨if fz.1 == fz.2 then (o,o+n) else (min fz.1 o,max fz.2 (o+n)),rfl,rfl,rfl,by simp,?_,fun k hk=>?_⟩
 ·simp [Array.getElem?_modify,h]
 ·simp [Array.getElem?_modify,Ne.symm hk]
theorem aiT {t u e:TypeId} {x:Operand} {s:ByteArray} (ht:P.underlying t=some .string) (hu:P.underlying u=some (.slice e)) (he:P.underlying e=some (.int .u8)) (H:St N D w0 F G0 G L T a w) (hw:Region.wanted ⟨some d,.convert t u x,ty,pos,aN,g⟩ (yielded ops a.tmps)=true) (hx:ev T x=some (.string s)) (hz:s.size≤4294967296) (hd:Nat.blt d N=true)
  (k:∀ v G' a' w',(∀ k o,G k=some o→G' k=some o)→av G' (.sl 1 ((EI s).map yw)) v→St N D w0 F G0 G' L ((d,v) :: T) a' w'→WL r P ops Q rest a' w'):WL r P ops Q (⟨some d,.convert t u x,ty,pos,aN,g⟩ :: rest) a w:=by
 have hc:=Lib.run_convert_string_bytes (P:=P) w t u e s ht hu he
 have hge:=grownCap_ge w s.size 0 e
 have hml:s.size≤maxLen:=by
  have:maxLen=9223372036854775807:=rfl
  omega
 have hgm:=grownCap_le_maxLen w s.size 0 e hml
 have H1:=H.hp.drew.alloc (.cells (Lib.bytesCells w e s) e)
 have hw1:(w.drew.alloc (.cells (Lib.bytesCells w e s) e)).heap[w.drew.heap.size]?=some (.cells (Lib.bytesCells w e s) e (0,0)):=H1.own _ gD
 obtain ⟨fz,hu2⟩:=akj (o:=(Lib.bytesCells w e s).size) (n:=1) hw1 (by decide)
 have H2:=H1.upd (i:=0) rfl hu2
 have H3:St N D w0 F G0 G ((w.heap.size,.cells (Lib.bytesCells w e s) e fz) :: L) ((d,.slice (some ⟨w.heap.size,0,none⟩) s.size (grownCap w s.size 0 e)) :: T) (a.put (some d) (.slice (some ⟨w.heap.size,0,none⟩) s.size (grownCap w s.size 0 e))) (Lib.bytesWorld w e s):=H.put hd _ H2
 obtain ⟨G',hm,hb,H4⟩:=H3.dP
 have hlen:(EI s).length=s.size:=by rw [EI,bQ,uN];rfl
 have hrep:av G' (.sl 1 ((EI s).map yw)) (.slice (some ⟨w.heap.size,0,none⟩) s.size (grownCap w s.size 0 e)):=by
  refine aiE hb ?_ (fun r hr=>by obtain ⟨c,-,rfl⟩:=List.mem_map.1 hr;exact ⟨c,rfl⟩)
  refine av.eu (cur:=Lib.bytesCells w e s) (e:=e) (n:=s.size) (cap:=grownCap w s.size 0 e) (by simp) (by rw [bQ,hlen]) hge hgm ?_ (aam _ _)
  rw [Lib.bytesCells,Array.toList_append,Nat.mul_one,List.take_left' (by rw [Array.toList_map,bQ,uN];rfl)]
  simp [EI]
 have k2:=k _ _ _ _ hm hrep H4
 refine fM (v:=.slice (some ⟨w.heap.size,0,none⟩) s.size (grownCap w s.size 0 e)) (w':=Lib.bytesWorld w e s) hw rfl ?_ k2
 simp only [execOp,H.ev hx,bZ,hc,jT,qh]
theorem aiW {t yt:TypeId} {x y:Operand} {p q:ByteArray} (H:St N D w0 F G0 G L T a w) (hw:Region.wanted ⟨some d,.binOp .lss t x y yt,ty,pos,aN,g⟩ (yielded ops a.tmps)=true) (hx:ev T x=some (.string p)) (hy:ev T y=some (.string q)) (hd:Nat.blt d N=true)
  (k:∀ a',St N D w0 F G0 G L ((d,.bool (Op.bytesLess p.toList q.toList)) :: T) a' w→WL r P ops Q rest a' w):WL r P ops Q (⟨some d,.binOp .lss t x y yt,ty,pos,aN,g⟩ :: rest) a w:=by
 refine fM (v:=.bool (Op.bytesLess p.toList q.toList)) (w':=w) hw rfl ?_ (k _ (H.put hd _ H.hp))
 simp [execOp,H.ev hx,H.ev hy,bZ,eqGuard,binOp,Op.stringOp]
end
end
section
open Go.RowKit
theorem acI:∀ args w,(callFunc 157 args).run prog w=.ok (.enter 157 args) w:=enters func157 rfl (by kernel_rfl)
theorem acG:∀ args w,(callFunc 154 args).run prog w=.ok (.enter 154 args) w:=enters func154 rfl (by kernel_rfl)
theorem acE:∀ args w,(callFunc 152 args).run prog w=.ok (.enter 152 args) w:=enters func152 rfl (by kernel_rfl)
theorem ajJ:pq prog 259 [(0,1),(1,1),(2,2),(4,1),(5,1),(6,1)] [.string ⟨#[]⟩,.int .i64 0,.pointer none,.slice none 0 0,.slice none 0 0,.int .i64 0,.int .i64 0]:=⟨by kernel_rfl,by kernel_rfl⟩
theorem acH:∀ args w,(callFunc 155 args).run prog w=.ok (.enter 155 args) w:=enters func155 rfl (by kernel_rfl)
theorem aeh:bW prog 247 1 1:=⟨by kernel_rfl⟩
theorem acv:∀ args w,(callFunc 144 args).run prog w=.ok (.enter 144 args) w:=enters func144 rfl (by kernel_rfl)
theorem acw:∀ args w,(callFunc 145 args).run prog w=.ok (.enter 145 args) w:=enters func145 rfl (by kernel_rfl)
theorem acF:∀ args w,(callFunc 153 args).run prog w=.ok (.enter 153 args) w:=enters func153 rfl (by kernel_rfl)
theorem acy:∀ args w,(callFunc 146 args).run prog w=.ok (.enter 146 args) w:=enters func146 rfl (by kernel_rfl)
def Mx (fv:aj) (G:GH) (c:Int) (b:Bool):Prop:=∀ (G1:GH) (w1:World),(∀ b o,G b=some o→G1 b=some o)→Hold G1 w1→tH prog fv [.int .u8 c] w1 (bE w1 G1 fun u G'=>u=.bool b)
theorem agN (G:GH) (w0:World) (hG:Hold G w0) (l:List Int) (p:Int→Bool) (v fv:aj) (hv:av G (.sl 1 (l.map yw)) v) (hf:∀ c∈l,Mx fv G c (p c)) :
  Calls prog 157 #[v,fv] w0 (bE w0 G fun u G'=>u=vi (nP (l.findIdx? p))):=by
 obtain ⟨A,c,rfl,hc1,hc2,hg⟩:=hv.slice;have hml:maxLen=9223372036854775807:=rfl;rw [bQ] at *;refine eN [(0,_),(1,_)] func157 rfl ntmps157 rfl rfl hG ?_;intro a H;refine kP H (SR fun _ K1=>ak K1 rfl (SQ fun _ K2=>SR fun _ K3=>Rm rfl (Rl Bu rfl (Rm rfl (Kz K3 (SB ?_))))));clear H K1 K3;intro a H;skip;refine eT (ι:=Nat × GH) (Tc:=[(0,_),(1,_),(7,_)]) (Lc:=[]) (fun gh=>[(8,vi gh.1)]) (fun gh=>[]) (fun gh=>gh.2) (fun gh=>gh.1≤l.length∧(l.take gh.1).findIdx? p=none∧(∀ b o,G b=some o→gh.2 b=some o)) (fun gh=>l.length - gh.1) ((0,G)) (by exact (H).sub ⟨rfl,rfl,rfl,rfl,aD⟩) ?_ ?_
 ·exact ⟨by omega,rfl,fun _ _ h=>h⟩
 clear H;intro gh a w hI H;obtain ⟨k,g⟩:=gh;dsimp only at hI H;obtain ⟨hk,hno,hgm⟩:=hI;dsimp only [lca,bg] at H;refine kP H (SR fun _ K4=>Rc rfl (Kz K4 (SQ fun _ K5=>Cd rfl ?_ ?_))) <;> clear H K4
 ·intro h9 a H
  try have p9:=dT h9
  have hk2:k < l.length:=by omega
  obtain ⟨b,o,cs,rfl,hcl,hrow,hr⟩:=hg k (yw l[k]) (by simp [hk2]);obtain rfl:=Yf hr
  have hcell:aI G b (o+k*1)=some (.int .u8 l[k]):=by simpa using hrow 0 _ rfl
  refine kP H (Kc K5 (SQ fun _ K6=>SB (SR fun _ K7=>Rm rfl (ak K7 rfl (SR fun _ K8=>Rm rfl (Rm rfl (Rm rfl (Ri Bu LH rfl rfl (Rg LH rfl (aK hgm hcell) ?_)))))))));clear H K5 K7;intro a H;refine pX H wn rfl rfl (hf _ (iL hk2) _ _ hgm H.ro) rfl ?_;clear H;rintro v16 rF a w rfl rQ H;refine K8 _ _ ?_;clear K8;refine kr H rfl ?_ ?_
  ·intro h16
   try have p16:=dT h16
   refine kP H (SR fun _ K9=>Rm rfl (ak K9 rfl ?_));clear H K9;intro a H;refine lr H results157 rfl ?_
   first
    | exact H.rt (by rw [uF hk2 hno h16];rfl)
    | exact H.rt (by rw [show l.take k=l from jH (by omega)] at hno;rw [hno];rfl)
  intro h16
  try have p16:=dF h16
  refine kP H (Kc K6 (SC (Rd rfl (Rm rfl ?_))));clear H K6;intro a H;refine aH ?_;refine cu ((k+1,rF)) (by exact (H).sub ⟨rfl,rfl,rfl,rfl,aD⟩) ?_ ?_
  ·(try dsimp only);exact ⟨by omega,AX hk2 hno h16,fun b o h=>rQ b o (hgm b o h)⟩
  first|omega|(dsimp only;omega)
 intro h9 a H
 try have p9:=dF h9
 refine dU ?_;refine K2 _ _ ?_;clear K2;refine kP H (SR fun _ aT=>ak aT rfl ?_);clear H aT;intro a H;refine lr H results157 rfl ?_
 first
  | exact H.rt (by rw [uF hk2 hno h16];rfl)
  | exact H.rt (by rw [show l.take k=l from jH (by omega)] at hno;rw [hno];rfl)
theorem Pq (o:Option Nat):decide (0≤nP o)=o.isSome:=by cases o <;> simp [nP]
theorem abt (G:GH) (w0:World) (hG:Hold G w0) (l:List Int) (p:Int→Bool) (v fv:aj) (hv:av G (.sl 1 (l.map yw)) v) (hf:∀ c∈l,Mx fv G c (p c)) :
  Calls prog 152 #[v,fv] w0 (bE w0 G fun u G'=>u=.bool (l.findIdx? p).isSome):=by
 obtain ⟨A,c,rfl,hc1,hc2,-⟩:=hv.slice;rw [bQ] at *;refine eN [(0,_),(1,_)] func152 rfl ntmps152 rfl rfl hG ?_;intro a H;refine kP H (SR fun _ K1=>ak K1 rfl (SR fun _ K2=>Rm rfl (Rm rfl ?_)));clear H K1;intro a H;refine s_call acI H wn rfl (agN _ _ H.ro l p _ _ hv hf) rfl ?_;clear H;rintro v7 G7 a w rfl AJ H;exact kH H (Rc rfl (ak K2 rfl (LR results152 rfl fun H=>H.rt (aG (Pq _)))))
def Gx (c:Int):Bool:=decide (c < 32) || decide (c=127)
theorem abz (G:GH) (c:Int):Mx (.func (.func 153) #[] #[]) G c (Gx c):=by
 intro G1 w0 hm hG;refine lX (caps:=[]) acF ?_;refine eN [(0,_)] func153 rfl ntmps153 rfl rfl hG ?_;intro a H;refine kP H (SR fun _ K1=>ak K1 rfl (SR fun _ K2=>Rm rfl (Rc rfl (Rm rfl (Sp 5 rfl ?_ ?_))))) <;> clear H K1
 ·intro h5 a H
  try have p5:=dT h5
  exact kH H (aQ h5 rfl (Pt h5 rfl (ak K2 rfl (LR results153 rfl fun H=>H.rt (aG (by unfold Gx;first|(simp_all;done)|(simp_all;omega)))))))
 intro h5 a H
 try have p5:=dF h5
 exact kH H (YM h5 rfl (YC h5 rfl (Pf h5 rfl (ak K2 rfl (LR results153 rfl fun H=>H.rt (aG (by unfold Gx;first|(simp_all;done)|(simp_all;omega))))))))
def vE (t:ByteArray):Int:=if 64 < t.size then 10 else if qb t=false then 12 else if ((EI t).findIdx? Gx).isSome=true then 5 else rX (jL t)
def wC (t:ByteArray):List iP:=if vE t=0 then sN (jL t).lit (jL t).parts else []
theorem aho (G:GH) (l:List iP):fE G 3 (l.map iP.dat) (Cn l):=by
 refine ⟨l.map iP.cells,rfl,by simp,fun j r cs hr hc=>?_⟩;rw [qL] at hr hc;obtain ⟨x,hx,rfl⟩:=lK.1 hr;rw [hx] at hc
 cases hc
 exact ⟨Wo G x,rfl⟩
theorem aic (G:GH) (w0:World) (hG:Hold G w0) (t:ByteArray) (ht:t.size < 4611686018427387904) :
  Calls prog 144 #[.string t] w0 (bE w0 G fun u G'=>∃ x,u=.tuple #[x,vi (vE t)]∧av G' (.sl 3 ((wC t).map iP.dat)) x):=by
 refine eN [(0,_)] func144 rfl ntmps144 rfl rfl hG ?_;intro a H;refine kP H (SR fun _ K1=>Ra rfl (ak K1 rfl (SQ fun _ K2=>SB (SR fun _ K3=>Rm rfl (Rv gu rfl (Rc rfl (ak K3 rfl (Cd rfl ?_ ?_)))))))) <;> clear H K1 K3
 ·intro h5 a H
  try have p5:=dT h5
  refine bA (fun _ K4=>?_)
  have he:vE t=10:=by rw [vE,au (by omega)]
  refine kP H (SC (Ra rfl (aU K4 rfl ?_)));clear H K4;intro a H;refine cZ ?_;refine (fG H results144 (.cons (aW H rfl) (.cons (aW H rfl) .nil)) ?_).1
  first
   | exact H.rt ⟨_,by rw [he0],by rw [wC,au he0];exact hrep⟩
   | exact H.rt ⟨_,by rw [he],by rw [wC,ah (by rw [he];first|decide|assumption)];exact av.jw rfl (by decide)⟩
 intro h5 a H
 try have p5:=dF h5
 refine kP H (SR fun _ K5=>Rm rfl ?_);clear H;intro a H;refine s_call GI H wn rfl (IE _ _ H.ro t ht) rfl ?_;clear H;rintro v11 _ a w ⟨rfl,rfl⟩ - H;refine kH H (Rn rfl (ak K5 rfl (Cd rfl ?_ ?_))) <;> clear H K5
 ·intro h9 a H
  try have p9:=dT h9
  refine bA (fun _ K6=>?_)
  have he:vE t=12:=by rw [vE,ah (by omega),au (by simpa using h9)]
  refine kP H (SC (Ra rfl (aU K6 rfl ?_)));clear H K6;intro a H;refine cZ ?_;refine (fG H results144 (.cons (aW H rfl) (.cons (aW H rfl) .nil)) ?_).1
  first
   | exact H.rt ⟨_,by rw [he0],by rw [wC,au he0];exact hrep⟩
   | exact H.rt ⟨_,by rw [he],by rw [wC,ah (by rw [he];first|decide|assumption)];exact av.jw rfl (by decide)⟩
 intro h9 a H
 try have p9:=dF h9
 refine kP H (SR fun _ K7=>Rm rfl ?_);clear H;intro a H;refine aiT gu Bu IC H wn rfl (by omega) rfl ?_;clear H;intro v15 BD a w oM VH H;obtain ⟨YU,c15,rfl,-,-,-⟩:=VH.slice;refine s_call acE H wn rfl (abt _ _ H.ro _ Gx _ _ VH (fun c _=>abz _ c)) rfl ?_;clear H;rintro v16 rF a w rfl rQ H;refine kH H (ak K7 rfl (Cd rfl ?_ ?_)) <;> clear H K7
 ·intro gy a H
  try have qC:=dT gy
  refine bA (fun _ K8=>?_)
  have he:vE t=5:=by rw [vE,ah (by omega),ah (by simpa using h9),au gy]
  refine kP H (SC (Ra rfl (aU K8 rfl ?_)));clear H K8;intro a H;refine cZ ?_;refine (fG H results144 (.cons (aW H rfl) (.cons (aW H rfl) .nil)) ?_).1
  first
   | exact H.rt ⟨_,by rw [he0],by rw [wC,au he0];exact hrep⟩
   | exact H.rt ⟨_,by rw [he],by rw [wC,ah (by rw [he];first|decide|assumption)];exact av.jw rfl (by decide)⟩
 intro gy a H
 try have qC:=dF gy
 refine kP H (Kc K2 (SR fun _ K9=>Rm rfl ?_));clear H K2;intro a H;refine iT ajJ [_,_,_,_,_,_,_] H wn rfl rfl rfl rfl ?_;clear H;intro a H;refine eU (cs:=[_,_,_,_,_,_,_]) H wn rfl rfl rfl ?_;clear H;intro b19 a w akQ H;refine kH H (ak K9 rfl (SQ fun _ aT=>SR fun _ bq=>Rm rfl ?_));clear H K9;intro a H;refine gU acG (Li:=[]) (L:=[uH b19 t zB (.pointer none) (.slice none 0 0) (.slice none 0 0)]) H wn rfl (ajf _ [] [] _ b19 t _ _ _ ⟨.inl rfl,dx.nil,dx.nil⟩ (Hp.owns (Li:=[]) H.hp) (by omega)) rfl ?_;clear H;rintro v21 I4 L21 a w ⟨p',v',q',oZ,fD,rfl,Oo⟩ sV H;dsimp only [List.nil_append] at H;obtain ⟨A21,c21,rfl,-,-⟩:=Oo.buf.shape;obtain ⟨Y1,d21,rfl,-,-⟩:=Oo.prt.shape;refine bq _ _ ?_;clear bq;refine bA (fun _ bF=>?_)
 have he:vE t=rX (jL t):=by rw [vE,ah (by omega),ah (by simpa using h9),ah (by simp [gy])]
 refine kP H (SC (Rm rfl (Rk rfl (aP yU gK 0 rfl rfl (Rc rfl (Kn bF (Cd rfl ?_ ?_))))))) <;> clear H bF
 ·intro fq a H
  try have p26:=dT fq
  refine bA (fun _ bJ=>?_);have H:=H.sub (T':=[(4,_)]) ⟨rfl,aD⟩;refine dI hmx [[],[0],[0,1],[0,1,2],[],(ra 0 5)] [] (by kernel_rfl) [_,_,_,vi (rX (jL t)),_,_] H (aF (Z0 rfl (Rm rfl)) (Z1 0 27 rfl (Rk rfl)) (Z1 1 28 rfl (Rf yU rfl)) (Z1 2 29 rfl (Ro gK 0 rfl)) (aS (Z0 rfl (Ra rfl)) (aS (Z1 3 30 rfl (Ra rfl)) bX))) ?_
  clear H;intro a w G oJ H hv;have H:=H.aR (hv 4 2 rfl rfl) rfl;have H:=H.aR (hv 5 3 rfl rfl) rfl;clear hv;refine aH ⟨rfl,?_⟩;refine bJ _ _ ?_;clear bJ;refine cZ ?_;refine (fG H results144 (.cons (aW H rfl) (.cons (aW H rfl) .nil)) ?_).1
  first
   | exact H.rt ⟨_,by rw [he0],by rw [wC,au he0];exact hrep⟩
   | exact H.rt ⟨_,by rw [he],by rw [wC,ah (by rw [he];first|decide|assumption)];exact av.jw rfl (by decide)⟩
 intro fq a H
 try have p26:=dF fq
 refine gI ?_;refine aT _ _ ?_;clear aT;refine bA (fun _ bN=>?_)
 have he0:vE t=0:=by rw [he];omega
 have H:=(St.cast H (show _=[_]++(oZ++fD) from rfl)).perm (List.Perm.append_left _ zV);have H:=St.un H;obtain ⟨Gr,hmr,hrep,H⟩:=St.uo (Li:=[_]++fD) (Lo:=oZ) H Oo.prt (rows:=(sN (jL t).lit (jL t).parts).map iP.dat) (by simp) (aho _ _);dsimp only [lca,bg] at H;refine kP H (SC (Rm rfl (Rk rfl (aP GR Iy 0 rfl rfl (Ra rfl (aU bN rfl ?_))))));clear H bN;intro a H;refine cZ ?_;refine (fG H results144 (.cons (aW H rfl) (.cons (aW H rfl) .nil)) ?_).1
 first
  | exact H.rt ⟨_,by rw [he0],by rw [wC,au he0];exact hrep⟩
  | exact H.rt ⟨_,by rw [he],by rw [wC,ah (by rw [he];first|decide|assumption)];exact av.jw rfl (by decide)⟩
structure oG where
 fmt:Int
 start:Int
 yj:ByteArray
 restart:Int
def oG.dat (x:oG):List Dat:=[li x.fmt,li x.start,.lf (.string x.yj),li x.restart]
abbrev oG.cells (x:oG):List aj:=[vi x.fmt,vi x.start,.string x.yj,vi x.restart]
theorem ahq {G:GH} {x:oG} {cs:List aj} (h:aZ G x.dat cs):cs=x.cells:=by
 simp only [oG.dat,aZ,av] at h
 obtain ⟨_,_,rfl,⟨rfl,_⟩,_,_,rfl,⟨rfl,_⟩,_,_,rfl,⟨rfl,_⟩,_,_,rfl,⟨rfl,_⟩,rfl⟩:=h
 rfl
theorem agL (G:GH) (w0:World) (hG:Hold G w0) (l:List iP) (p:iP→Bool) (v fv:aj) (hv:av G (.sl 3 (l.map iP.dat)) v) (hf:∀ x∈l,uM fv G x.dat (p x)) :
  Calls prog 155 #[v,fv] w0 (bE w0 G fun u G'=>u=vi (nP (l.findIdx? p))):=by
 obtain ⟨A,c,rfl,hc1,hc2,hg⟩:=hv.slice;have hml:maxLen=9223372036854775807:=rfl;rw [bQ] at *;refine eN [(0,_),(1,_)] func155 rfl ntmps155 rfl rfl hG ?_;intro a H;refine kP H (SR fun _ K1=>ak K1 rfl (SQ fun _ K2=>SR fun _ K3=>Rm rfl (Rl FP rfl (Rm rfl (Kz K3 (SB ?_))))));clear H K1 K3;intro a H;skip;refine eT (ι:=Nat × GH) (Tc:=[(0,_),(1,_),(7,_)]) (Lc:=[]) (fun gh=>[(8,vi gh.1)]) (fun gh=>[]) (fun gh=>gh.2) (fun gh=>gh.1≤l.length∧(l.take gh.1).findIdx? p=none∧(∀ b o,G b=some o→gh.2 b=some o)) (fun gh=>l.length - gh.1) ((0,G)) (by exact (H).sub ⟨rfl,rfl,rfl,rfl,aD⟩) ?_ ?_
 ·exact ⟨by omega,rfl,fun _ _ h=>h⟩
 clear H;intro gh a w hI H;obtain ⟨k,g⟩:=gh;dsimp only at hI H;obtain ⟨hk,hno,hgm⟩:=hI;dsimp only [lca,bg] at H;refine kP H (SR fun _ K4=>Rc rfl (Kz K4 (SQ fun _ K5=>Cd rfl ?_ ?_))) <;> clear H K4
 ·intro h9 a H
  try have p9:=dT h9
  have hk2:k < l.length:=by omega
  obtain ⟨b,o,cs,rfl,hcl,hrow,hr⟩:=hg k l[k].dat (by simp [hk2]);obtain rfl:=Wn hr;refine kP H (Kc K5 (SQ fun _ K6=>SB (SR fun _ K7=>Rm rfl (ak K7 rfl (SR fun _ K8=>Rm rfl (Rm rfl (Rm rfl (Ri FP FK rfl rfl ?_))))))));clear H K5 K7;intro a H;refine bD FK (cs:=l[k].cells) H wn rfl rfl (fun j v hj=>H.hp.aI (aK hgm (hrow j v hj))) rfl ?_;clear H;intro a H;refine pX H wn rfl rfl (hf _ (iL hk2) _ _ _ hgm H.ro (Wo _ l[k])) rfl ?_;clear H;rintro v16 rF a w rfl rQ H;refine K8 _ _ ?_;clear K8;refine kr H rfl ?_ ?_
  ·intro h16
   try have p16:=dT h16
   refine kP H (SR fun _ K9=>Rm rfl (ak K9 rfl ?_));clear H K9;intro a H;refine lr H results155 rfl ?_
   first
    | exact H.rt (by rw [uF hk2 hno h16];rfl)
    | exact H.rt (by rw [show l.take k=l from jH (by omega)] at hno;rw [hno];rfl)
  intro h16
  try have p16:=dF h16
  refine kP H (Kc K6 (SC (Rd rfl (Rm rfl ?_))));clear H K6;intro a H;refine aH ?_;refine cu ((k+1,rF)) (by exact (H).sub ⟨rfl,rfl,rfl,rfl,aD⟩) ?_ ?_
  ·(try dsimp only);exact ⟨by omega,AX hk2 hno h16,fun b o h=>rQ b o (hgm b o h)⟩
  first|omega|(dsimp only;omega)
 intro h9 a H
 try have p9:=dF h9
 refine dU ?_;refine K2 _ _ ?_;clear K2;refine kP H (SR fun _ aT=>ak aT rfl ?_);clear H aT;intro a H;refine lr H results155 rfl ?_
 first
  | exact H.rt (by rw [uF hk2 hno h16];rfl)
  | exact H.rt (by rw [show l.take k=l from jH (by omega)] at hno;rw [hno];rfl)
theorem abr (G:GH) (w0:World) (hG:Hold G w0) (l:List iP) (p:iP→Bool) (v fv:aj) (hv:av G (.sl 3 (l.map iP.dat)) v) (hf:∀ x∈l,uM fv G x.dat (p x)) :
  Calls prog 145 #[v,fv] w0 (bE w0 G fun u G'=>u=.bool (l.findIdx? p).isSome):=by
 obtain ⟨A,c,rfl,hc1,hc2,-⟩:=hv.slice;rw [bQ] at *;refine eN [(0,_),(1,_)] func145 rfl ntmps145 rfl rfl hG ?_;intro a H;refine kP H (SR fun _ K1=>ak K1 rfl (SR fun _ K2=>Rm rfl (Rm rfl ?_)));clear H K1;intro a H;refine s_call acH H wn rfl (agL _ _ H.ro l p _ _ hv hf) rfl ?_;clear H;rintro v7 G7 a w rfl AJ H;exact kH H (Rc rfl (ak K2 rfl (LR results145 rfl fun H=>H.rt (aG (Pq _)))))
theorem ahr {G:GH} {bl:Nat} {k:Int} (hb:aI G bl 0=some (vi k)) (x:iP):uM (.func (.func 146) #[] #[(aJ bl 0)]) G x.dat (decide (k < x.level)):=by
 intro G1 w0 cs hm hG hr;refine lX (caps:=[(aJ bl 0)]) acy ?_;obtain rfl:=Wn hr;replace hb:=aK hm hb;refine eN [(0,_),(1,_)] func146 rfl ntmps146 rfl rfl hG ?_;intro a H;refine dB (fun _ K1=>?_);refine eU (cs:=[_,_,_]) H wn rfl rfl rfl ?_;clear H;intro b2 a w hb2 H;refine kH H (ak K1 rfl (SR fun _ K2=>aP aeh aC 0 rfl rfl (Rg aC rfl (by assumption) ?_)));clear H K1;intro a H;exact kH H (Rc rfl (ak K2 rfl (LR results146 rfl fun H=>H.rt rfl)))
def zo (t:ByteArray) (k:Int):Int:=if k < 1∨9 < k then 2 else if vE t=0∧((wC t).findIdx? fun x=>decide (k < x.level)).isSome=true then 6 else vE t
theorem ahp (G:GH) (w0:World) (hG:Hold G w0) (t:ByteArray) (k:Int) (ht:t.size < 4611686018427387904) :
  Calls prog 136 #[.string t,vi k] w0 (bE w0 G fun u G'=>u=vi (zo t k)):=by
 refine eN [(0,_),(1,_)] func136 rfl ntmps136 rfl rfl hG ?_;intro a H;refine dB (fun _ K1=>?_);refine eU (cs:=[_]) H wn rfl rfl rfl ?_;clear H;intro b3 a w hb3 H;refine kH H (ak K1 rfl (SQ fun _ K2=>SR fun _ K3=>Ro aC 0 rfl (Rc rfl (Rm rfl (Sp 9 rfl ?_ ?_))))) <;> clear H K1
 ·intro h9 a H
  try have p9:=dT h9
  refine kH H (aQ h9 rfl (Pt h9 rfl (Kz K3 (Ct rfl rfl (SR fun _ K4=>ak K4 rfl ?_)))));clear H K3 K4;intro a H;refine lr H results136 rfl ?_
  exact H.rt (ay vi (by unfold zo;(repeat' split) <;> first|rfl|(exfalso;simp_all;done)|(exfalso;simp_all;omega)|(simp_all;done)))
 intro h9 a H
 try have p9:=dF h9
 refine kH H (YO aC 0 h9 rfl (YC h9 rfl (Pf h9 rfl (Kz K3 (Cd rfl ?_ ?_))))) <;> clear H K3
 ·intro h12 a H
  try have qX:=dT h12
  refine kP H (SR fun _ K5=>ak K5 rfl ?_);clear H K5;intro a H;refine lr H results136 rfl ?_
  exact H.rt (ay vi (by unfold zo;(repeat' split) <;> first|rfl|(exfalso;simp_all;done)|(exfalso;simp_all;omega)|(simp_all;done)))
 intro h12 a H
 try have qX:=dF h12
 refine gI ?_;refine K2 _ _ ?_;clear K2;refine bA (fun _ K6=>?_);obtain ⟨Ga,hma,xI,H⟩:=H.dP
 have hbk:aI Ga b3 0=some (vi k):=by unfold aI;rw [xI];rfl
 refine kP H (SC (Rm rfl ?_));clear H;intro a H;refine s_call acv H wn rfl (aic _ _ H.ro t ht) rfl ?_;clear H;rintro v15 BD a w ⟨x15,rfl,VL⟩ oM H;obtain ⟨YU,c15,rfl,-,-,-⟩:=VL.slice;replace hbk:=aK oM hbk;refine kH H (Rm rfl ?_);clear H;intro a H;(iterate 2 refine kN H wn rfl rfl rfl ?_;clear H;intro a H);refine kH H (Ra rfl (aU K6 rfl (SQ fun _ K7=>SR fun _ K8=>Rm rfl (Rc rfl (Rm rfl (Sp 20 rfl ?_ ?_)))))) <;> clear H K6
 ·intro h20 a H
  try have Ef:=dT h20
  refine kH H (YM h20 rfl ?_);clear H;intro a H;refine pY H (wg H rfl rfl h20) rfl rfl ?_;clear H;intro a H;refine s_call acw H (wg H rfl rfl h20) rfl (abr _ _ H.ro _ (fun x=>decide (k < x.level)) _ _ VL (fun x _=>ahr hbk x)) rfl ?_;clear H;rintro v23 Mc a w rfl qx H;refine kH H (Pt h20 rfl (Kz K8 (Cd rfl ?_ ?_))) <;> clear H K8
  ·intro dD a H
   try have jS:=dT dD
   refine kP H (SC (aU K7 rfl (SR fun _ K9=>Rm rfl (ak K9 rfl ?_))));clear H K7 K9;intro a H;refine lr H results136 rfl ?_
   exact H.rt (ay vi (by unfold zo;(repeat' split) <;> first|rfl|(exfalso;simp_all;done)|(exfalso;simp_all;omega)|(simp_all;done)))
  intro dD a H
  try have jS:=dF dD
  refine kP H (Kc K7 (SR fun _ aT=>Rm rfl (ak aT rfl ?_)));clear H K7 aT;intro a H;refine lr H results136 rfl ?_
  exact H.rt (ay vi (by unfold zo;(repeat' split) <;> first|rfl|(exfalso;simp_all;done)|(exfalso;simp_all;omega)|(simp_all;done)))
 intro h20 a H
 try have Ef:=dF h20
 refine kH H (aX h20 rfl (Pf h20 rfl (Kz K8 (Cf rfl rfl (Kc K7 (SR fun _ bq=>Rm rfl (ak bq rfl ?_)))))));clear H K8 K7 bq;intro a H;refine lr H results136 rfl ?_
 exact H.rt (ay vi (by unfold zo;(repeat' split) <;> first|rfl|(exfalso;simp_all;done)|(exfalso;simp_all;omega)|(simp_all;done)))
end
section
open Go.RowKit
theorem LC:Ty prog 230 4 40 [.int .i64 0,.int .i64 0,.string ⟨#[]⟩,.int .i64 0] true:=⟨by kernel_rfl,by kernel_rfl⟩
theorem LJ:prog.underlying 182=some (.slice 230):=by kernel_rfl
theorem Ur:bW prog 230 0 0:=⟨by kernel_rfl⟩
theorem Us:bW prog 230 1 1:=⟨by kernel_rfl⟩
theorem aec:bW prog 230 2 2:=⟨by kernel_rfl⟩
theorem acn:∀ args w,(callFunc 136 args).run prog w=.ok (.enter 136 args) w:=enters func136 rfl (by kernel_rfl)
theorem Ut:bW prog 230 3 3:=⟨by kernel_rfl⟩
def Dj:Nat→List oG→Int
 | _,[]=>0
 | i,x :: r=>if x.fmt < 1∨7 < x.fmt then 3 else if x.start < 0∨32767 < x.start then 2 else if zo x.yj ((i+1:Nat):Int)≠0 then zo x.yj ((i+1:Nat):Int) else if x.restart < 0∨(i:Int) < x.restart then 5 else Dj (i+1) r
def dO (l:List oG):Int:=if l.length=0 then 11 else if 9 < l.length then 9 else Dj 0 l
theorem iM {l:List oG} {k:Nat} (h:k < l.length):Dj k (l.drop k)=if l[k].fmt < 1∨7 < l[k].fmt then 3 else if l[k].start < 0∨32767 < l[k].start then 2 else if zo l[k].yj ((k+1:Nat):Int)≠0 then zo l[k].yj ((k+1:Nat):Int) else if l[k].restart < 0∨(k:Int) < l[k].restart then 5 else Dj (k+1) (l.drop (k+1)):=by
 rw [lW h,Dj]
theorem aaN (G:GH) (w0:World) (hG:Hold G w0) (l:List oG) (v:aj) (hv:av G (.sl 4 (l.map oG.dat)) v) (ht:∀ x∈l,x.yj.size < 4611686018427387904) :
  Calls prog 118 #[v] w0 (bE w0 G fun u G'=>u=vi (dO l)):=by
 obtain ⟨A,c,rfl,hc1,hc2,hg⟩:=hv.slice;have hml:maxLen=9223372036854775807:=rfl;rw [bQ] at *;refine eN [(0,_)] func118 rfl ntmps118 rfl rfl hG ?_;intro a H;refine kP H (SR fun _ K1=>ak K1 rfl (SQ fun _ K2=>SB (SR fun _ K3=>Rm rfl (Rl LJ rfl (Rc rfl (ak K3 rfl (Cd rfl ?_ ?_))))))) <;> clear H K1 K3
 ·intro h6 a H
  try have p6:=dT h6
  refine kP H (SR fun _ K4=>ak K4 rfl ?_);clear H K4;intro a H;refine lr H results118 rfl ?_
  first
   | exact H.rt (ay vi (by rw [dO,au (by omega)]))
   | exact H.rt (ay vi (by rw [dO,ah (by omega),au (by omega)]))
   | exact H.rt (ay vi (by rw [dO,ah (by omega),ah (by omega),← he,iM hk2,au (by omega)]))
   | exact H.rt (ay vi (by rw [dO,ah (by omega),ah (by omega),← he,iM hk2,ah (by omega),au (by omega)]))
   | exact H.rt (ay vi (by rw [dO,ah (by omega),ah (by omega),← he,iM hk2,ah (by omega),ah (by omega),au p45]))
   | exact H.rt (ay vi (by rw [dO,ah (by omega),ah (by omega),← he,iM hk2,ah (by omega),ah (by omega),ah p45,au (by omega)]))
   | exact H.rt (ay vi (by rw [dO,ah (by omega),ah (by omega),← he,iK (by omega)];rfl))
 intro h6 a H
 try have p6:=dF h6
 refine kP H (SR fun _ K5=>Rm rfl (Rl LJ rfl (Rc rfl (ak K5 rfl (Cd rfl ?_ ?_))))) <;> clear H K5
 ·intro h10 a H
  try have mD:=dT h10
  refine kP H (SR fun _ K6=>ak K6 rfl ?_);clear H K6;intro a H;refine lr H results118 rfl ?_
  first
   | exact H.rt (ay vi (by rw [dO,au (by omega)]))
   | exact H.rt (ay vi (by rw [dO,ah (by omega),au (by omega)]))
   | exact H.rt (ay vi (by rw [dO,ah (by omega),ah (by omega),← he,iM hk2,au (by omega)]))
   | exact H.rt (ay vi (by rw [dO,ah (by omega),ah (by omega),← he,iM hk2,ah (by omega),au (by omega)]))
   | exact H.rt (ay vi (by rw [dO,ah (by omega),ah (by omega),← he,iM hk2,ah (by omega),ah (by omega),au p45]))
   | exact H.rt (ay vi (by rw [dO,ah (by omega),ah (by omega),← he,iM hk2,ah (by omega),ah (by omega),ah p45,au (by omega)]))
   | exact H.rt (ay vi (by rw [dO,ah (by omega),ah (by omega),← he,iK (by omega)];rfl))
 intro h10 a H
 try have mD:=dF h10
 refine kP H (Kc K2 (SQ fun _ K7=>SR fun _ K8=>Rm rfl (Rl LJ rfl (Rm rfl (Kz K8 (SB ?_))))));clear H K2 K8;intro a H;skip;refine eT (ι:=Nat × GH) (Tc:=[(14,_),(15,_)]) (Lc:=[]) (fun gh=>[(16,vi gh.1)]) (fun gh=>[]) (fun gh=>gh.2) (fun gh=>gh.1≤l.length∧Dj gh.1 (l.drop gh.1)=Dj 0 l∧(∀ b o,G b=some o→gh.2 b=some o)) (fun gh=>l.length - gh.1) ((0,G)) (by exact (H).sub ⟨rfl,rfl,rfl,aD⟩) ?_ ?_
 ·exact ⟨iy _,rfl,fun _ _ h=>h⟩
 clear H;intro gh a w hI H;obtain ⟨k,g⟩:=gh;dsimp only at hI H;obtain ⟨hk,he,hgm⟩:=hI;dsimp only [lca,bg] at H;refine kP H (SR fun _ K9=>Rc rfl (Kz K9 (SQ fun _ aT=>Cd rfl ?_ ?_))) <;> clear H K9
 ·intro dV a H
  try have mE:=dT dV
  have hk2:k < l.length:=by omega
  obtain ⟨b,o,cs,rfl,hcl,hrow,hr⟩:=hg k l[k].dat (by simp [hk2]);obtain rfl:=ahq hr;refine kP H (Kc aT (SQ fun _ bq=>SB (SR fun _ bF=>Rm rfl (Ri LJ LC rfl rfl ?_))));clear H aT;intro a H;refine bD LC (cs:=l[k].cells) H wn rfl rfl (fun j v hj=>H.hp.aI (aK hgm (hrow j v hj))) rfl ?_;clear H;intro a H;refine eB LC H wn rfl ?_;clear H;intro b4 a w hb4 H;refine kH H (Ra rfl ?_);clear H;intro a H;refine bH LC 0 (vs:=[_,_,_,_]) _ H wn rfl rfl rfl rfl rfl rfl rfl rfl ?_;clear H;intro w H;dsimp only [List.set,setRow] at H;refine bF _ _ ?_;clear bF;refine kP H (SQ fun _ bJ=>SB (SR fun _ bN=>aP Ur aC 0 rfl rfl (Rc rfl (Rm rfl (Sp 25 rfl ?_ ?_))))) <;> clear H
  ·intro lQ a H
   try have p25:=dT lQ
   refine kH H (aX lQ rfl (Pt lQ rfl (ak bN rfl (Ct rfl rfl (SR fun _ cK=>ak cK rfl ?_)))));clear H bN cK;intro a H;refine lr H results118 rfl ?_
   first
    | exact H.rt (ay vi (by rw [dO,au (by omega)]))
    | exact H.rt (ay vi (by rw [dO,ah (by omega),au (by omega)]))
    | exact H.rt (ay vi (by rw [dO,ah (by omega),ah (by omega),← he,iM hk2,au (by omega)]))
    | exact H.rt (ay vi (by rw [dO,ah (by omega),ah (by omega),← he,iM hk2,ah (by omega),au (by omega)]))
    | exact H.rt (ay vi (by rw [dO,ah (by omega),ah (by omega),← he,iM hk2,ah (by omega),ah (by omega),au p45]))
    | exact H.rt (ay vi (by rw [dO,ah (by omega),ah (by omega),← he,iM hk2,ah (by omega),ah (by omega),ah p45,au (by omega)]))
    | exact H.rt (ay vi (by rw [dO,ah (by omega),ah (by omega),← he,iK (by omega)];rfl))
  intro lQ a H
  try have p25:=dF lQ
  refine kH H (YF Ur lQ rfl (YO aC 0 lQ rfl (YC lQ rfl (Pf lQ rfl (ak bN rfl (Cd rfl ?_ ?_)))))) <;> clear H bN
  ·intro h21 a H
   try have pV:=dT h21
   refine kP H (SR fun _ dw=>ak dw rfl ?_);clear H dw;intro a H;refine lr H results118 rfl ?_
   first
    | exact H.rt (ay vi (by rw [dO,au (by omega)]))
    | exact H.rt (ay vi (by rw [dO,ah (by omega),au (by omega)]))
    | exact H.rt (ay vi (by rw [dO,ah (by omega),ah (by omega),← he,iM hk2,au (by omega)]))
    | exact H.rt (ay vi (by rw [dO,ah (by omega),ah (by omega),← he,iM hk2,ah (by omega),au (by omega)]))
    | exact H.rt (ay vi (by rw [dO,ah (by omega),ah (by omega),← he,iM hk2,ah (by omega),ah (by omega),au p45]))
    | exact H.rt (ay vi (by rw [dO,ah (by omega),ah (by omega),← he,iM hk2,ah (by omega),ah (by omega),ah p45,au (by omega)]))
    | exact H.rt (ay vi (by rw [dO,ah (by omega),ah (by omega),← he,iK (by omega)];rfl))
  intro h21 a H
  try have pV:=dF h21
  refine kP H (SR fun _ bY=>aP Us aC 0 rfl rfl (Rc rfl (Rm rfl (Sp 34 rfl ?_ ?_)))) <;> clear H
  ·intro gB a H
   try have p34:=dT gB
   refine kH H (aX gB rfl (Pt gB rfl (ak bY rfl (Ct rfl rfl (SR fun _ dz=>ak dz rfl ?_)))));clear H bY dz;intro a H;refine lr H results118 rfl ?_
   first
    | exact H.rt (ay vi (by rw [dO,au (by omega)]))
    | exact H.rt (ay vi (by rw [dO,ah (by omega),au (by omega)]))
    | exact H.rt (ay vi (by rw [dO,ah (by omega),ah (by omega),← he,iM hk2,au (by omega)]))
    | exact H.rt (ay vi (by rw [dO,ah (by omega),ah (by omega),← he,iM hk2,ah (by omega),au (by omega)]))
    | exact H.rt (ay vi (by rw [dO,ah (by omega),ah (by omega),← he,iM hk2,ah (by omega),ah (by omega),au p45]))
    | exact H.rt (ay vi (by rw [dO,ah (by omega),ah (by omega),← he,iM hk2,ah (by omega),ah (by omega),ah p45,au (by omega)]))
    | exact H.rt (ay vi (by rw [dO,ah (by omega),ah (by omega),← he,iK (by omega)];rfl))
  intro gB a H
  try have p34:=dF gB
  refine kH H (YF Us gB rfl (YO aC 0 gB rfl (YC gB rfl (Pf gB rfl (ak bY rfl (Cd rfl ?_ ?_)))))) <;> clear H bY
  ·intro ow a H
   try have p30:=dT ow
   refine kP H (SR fun _ fC=>ak fC rfl ?_);clear H fC;intro a H;refine lr H results118 rfl ?_
   first
    | exact H.rt (ay vi (by rw [dO,au (by omega)]))
    | exact H.rt (ay vi (by rw [dO,ah (by omega),au (by omega)]))
    | exact H.rt (ay vi (by rw [dO,ah (by omega),ah (by omega),← he,iM hk2,au (by omega)]))
    | exact H.rt (ay vi (by rw [dO,ah (by omega),ah (by omega),← he,iM hk2,ah (by omega),au (by omega)]))
    | exact H.rt (ay vi (by rw [dO,ah (by omega),ah (by omega),← he,iM hk2,ah (by omega),ah (by omega),au p45]))
    | exact H.rt (ay vi (by rw [dO,ah (by omega),ah (by omega),← he,iM hk2,ah (by omega),ah (by omega),ah p45,au (by omega)]))
    | exact H.rt (ay vi (by rw [dO,ah (by omega),ah (by omega),← he,iK (by omega)];rfl))
  intro ow a H
  try have p30:=dF ow
  refine kP H (Kc bJ (SQ fun _ dN=>SR fun _ fQ=>aP aec fZ 0 rfl rfl (Rm rfl (Rd rfl ?_))));clear H bJ;intro a H;rw [show ((k:Int)+1)=((k+1:Nat):Int) from rfl] at H;refine s_call acn H wn rfl (ahp _ _ H.ro l[k].yj ((k+1:Nat):Int) (ht _ (iL hk2))) rfl ?_;clear H;rintro v43 I6 a w rfl Ci H;refine kH H (ak fQ rfl (SR fun _ iq=>Rm rfl (Rc rfl (Kz iq (Cd rfl ?_ ?_))))) <;> clear H fQ iq
  ·intro h45 a H
   try have p45:=dT h45
   refine kP H (SR fun _ jA=>Rm rfl (ak jA rfl ?_));clear H jA;intro a H;refine lr H results118 rfl ?_
   first
    | exact H.rt (ay vi (by rw [dO,au (by omega)]))
    | exact H.rt (ay vi (by rw [dO,ah (by omega),au (by omega)]))
    | exact H.rt (ay vi (by rw [dO,ah (by omega),ah (by omega),← he,iM hk2,au (by omega)]))
    | exact H.rt (ay vi (by rw [dO,ah (by omega),ah (by omega),← he,iM hk2,ah (by omega),au (by omega)]))
    | exact H.rt (ay vi (by rw [dO,ah (by omega),ah (by omega),← he,iM hk2,ah (by omega),ah (by omega),au p45]))
    | exact H.rt (ay vi (by rw [dO,ah (by omega),ah (by omega),← he,iM hk2,ah (by omega),ah (by omega),ah p45,au (by omega)]))
    | exact H.rt (ay vi (by rw [dO,ah (by omega),ah (by omega),← he,iK (by omega)];rfl))
  intro h45 a H
  try have p45:=dF h45
  refine kP H (Kc dN (SR fun _ jo=>aP Ut aC 0 rfl rfl (Rc rfl (Rm rfl (Sp 50 rfl ?_ ?_))))) <;> clear H dN
  ·intro h50 a H
   try have p50:=dT h50
   refine kH H (aQ h50 rfl (aQ h50 rfl (Pt h50 rfl (Kz jo (Ct rfl rfl (SR fun _ jc=>ak jc rfl ?_))))));clear H jo jc;intro a H;refine lr H results118 rfl ?_
   first
    | exact H.rt (ay vi (by rw [dO,au (by omega)]))
    | exact H.rt (ay vi (by rw [dO,ah (by omega),au (by omega)]))
    | exact H.rt (ay vi (by rw [dO,ah (by omega),ah (by omega),← he,iM hk2,au (by omega)]))
    | exact H.rt (ay vi (by rw [dO,ah (by omega),ah (by omega),← he,iM hk2,ah (by omega),au (by omega)]))
    | exact H.rt (ay vi (by rw [dO,ah (by omega),ah (by omega),← he,iM hk2,ah (by omega),ah (by omega),au p45]))
    | exact H.rt (ay vi (by rw [dO,ah (by omega),ah (by omega),← he,iM hk2,ah (by omega),ah (by omega),ah p45,au (by omega)]))
    | exact H.rt (ay vi (by rw [dO,ah (by omega),ah (by omega),← he,iK (by omega)];rfl))
  intro h50 a H
  try have p50:=dF h50
  refine kH H (YF Ut h50 rfl (YO aC 0 h50 rfl (YM h50 rfl (YC h50 rfl (Pf h50 rfl (Kz jo (Cd rfl ?_ ?_))))))) <;> clear H jo
  ·intro lF a H
   try have p55:=dT lF
   refine kP H (SR fun _ jG=>ak jG rfl ?_);clear H jG;intro a H;refine lr H results118 rfl ?_
   first
    | exact H.rt (ay vi (by rw [dO,au (by omega)]))
    | exact H.rt (ay vi (by rw [dO,ah (by omega),au (by omega)]))
    | exact H.rt (ay vi (by rw [dO,ah (by omega),ah (by omega),← he,iM hk2,au (by omega)]))
    | exact H.rt (ay vi (by rw [dO,ah (by omega),ah (by omega),← he,iM hk2,ah (by omega),au (by omega)]))
    | exact H.rt (ay vi (by rw [dO,ah (by omega),ah (by omega),← he,iM hk2,ah (by omega),ah (by omega),au p45]))
    | exact H.rt (ay vi (by rw [dO,ah (by omega),ah (by omega),← he,iM hk2,ah (by omega),ah (by omega),ah p45,au (by omega)]))
    | exact H.rt (ay vi (by rw [dO,ah (by omega),ah (by omega),← he,iK (by omega)];rfl))
  intro lF a H
  try have p55:=dF lF
  refine kP H (Kc bq (SC (Rd rfl (Rm rfl ?_))));clear H bq;intro a H;refine aH ?_;refine cu ((k+1,I6)) (by exact (H.dK (Pl:=[_]) (cB:=[]) [] (by decide) rfl).sub ⟨rfl,rfl,rfl,aD⟩) ?_ ?_
  ·(try dsimp only);exact ⟨by omega,by rw [iM hk2,ah (by omega),ah (by omega),ah p45,ah (by omega)] at he;exact he,fun b o h=>Ci b o (hgm b o h)⟩
  first|omega|(dsimp only;omega)
 intro dV a H
 try have mE:=dF dV
 refine dU ?_;refine K7 _ _ ?_;clear K7;refine kP H (SR fun _ jM=>ak jM rfl ?_);clear H jM;intro a H;refine lr H results118 rfl ?_
 first
  | exact H.rt (ay vi (by rw [dO,au (by omega)]))
  | exact H.rt (ay vi (by rw [dO,ah (by omega),au (by omega)]))
  | exact H.rt (ay vi (by rw [dO,ah (by omega),ah (by omega),← he,iM hk2,au (by omega)]))
  | exact H.rt (ay vi (by rw [dO,ah (by omega),ah (by omega),← he,iM hk2,ah (by omega),au (by omega)]))
  | exact H.rt (ay vi (by rw [dO,ah (by omega),ah (by omega),← he,iM hk2,ah (by omega),ah (by omega),au p45]))
  | exact H.rt (ay vi (by rw [dO,ah (by omega),ah (by omega),← he,iM hk2,ah (by omega),ah (by omega),ah p45,au (by omega)]))
  | exact H.rt (ay vi (by rw [dO,ah (by omega),ah (by omega),← he,iK (by omega)];rfl))
end
section
open Go.RowKit
theorem Eo:Ty prog 32 1 24 [.slice none 0 0] false:=⟨by kernel_rfl,by kernel_rfl⟩
theorem Er:prog.underlying 32=some (.slice 184):=by kernel_rfl
theorem FJ:Ty prog 184 2 32 [.int .i64 0,.slice none 0 0] true:=⟨by kernel_rfl,by kernel_rfl⟩
theorem Ul:bW prog 184 0 0:=⟨by kernel_rfl⟩
theorem akb:Ty prog 182 1 24 [.slice none 0 0] false:=⟨by kernel_rfl,by kernel_rfl⟩
theorem Nq:∀ args w,(callFunc 86 args).run prog w=.ok (.enter 86 args) w:=enters func86 rfl (by kernel_rfl)
theorem aea:bW prog 184 1 1:=⟨by kernel_rfl⟩
theorem abW:∀ args w,(callFunc 118 args).run prog w=.ok (.enter 118 args) w:=enters func118 rfl (by kernel_rfl)
theorem EO:∀ args w,(callFunc 84 args).run prog w=.ok (.enter 84 args) w:=enters func84 rfl (by kernel_rfl)
theorem abV:∀ args w,(callFunc 117 args).run prog w=.ok (.enter 117 args) w:=enters func117 rfl (by kernel_rfl)
theorem abU:∀ args w,(callFunc 116 args).run prog w=.ok (.enter 116 args) w:=enters func116 rfl (by kernel_rfl)
structure fU where
 id:Int
 levels:List oG
def fU.dat (x:fU):List Dat:=[li x.id,.sl 4 (x.levels.map oG.dat)]
structure eO where
 id:Int
 parent:Int
 author:ByteArray
 time:Int
 text:ByteArray
 done:Bool
def eO.dat (x:eO):List Dat:=[li x.id,li x.parent,.lf (.string x.author),li x.time,.lf (.string x.text),.lf (.bool x.done)]
abbrev eO.cells (x:eO):List aj:=[vi x.id,vi x.parent,.string x.author,vi x.time,.string x.text,.bool x.done]
structure lV where
 name:ByteArray
 value:ByteArray
def lV.dat (x:lV):List Dat:=[.lf (.string x.name),.lf (.string x.value)]
abbrev lV.cells (x:lV):List aj:=[.string x.name,.string x.value]
theorem MV {G:GH} {x:eO} {cs:List aj} (h:aZ G x.dat cs):cs=x.cells:=by
 simp only [eO.dat,aZ,av] at h
 obtain ⟨_,_,rfl,⟨rfl,_⟩,_,_,rfl,⟨rfl,_⟩,_,_,rfl,⟨rfl,_⟩,_,_,rfl,⟨rfl,_⟩,_,_,rfl,⟨rfl,_⟩,_,_,rfl,⟨rfl,_⟩,rfl⟩:=h
 rfl
theorem ako {G:GH} {x:lV} {cs:List aj} (h:aZ G x.dat cs):cs=x.cells:=by
 simp only [lV.dat,aZ,av] at h
 obtain ⟨_,_,rfl,⟨rfl,_⟩,_,_,rfl,⟨rfl,_⟩,rfl⟩:=h
 rfl
theorem Pz {G:GH} {l:List fU} {A:Option Addr} {n c k:Nat} (hv:av G (.sl 2 (l.map fU.dat)) (.slice A n c)) (hk:k < l.length):∃ b o B d,A=some ⟨b,o,none⟩∧(∀ j u,[vi l[k].id,.slice B l[k].levels.length d][j]?=some u→aI G b (o+k*2+j)=some u)∧av G (.sl 4 (l[k].levels.map oG.dat)) (.slice B l[k].levels.length d):=by
 obtain ⟨A',c',he,_,_,hg⟩:=hv.slice
 injection he with e1 e2 e3
 subst e1;obtain ⟨b,o,cs,h1,h2,h3,h4⟩:=hg k l[k].dat (by simp [hk])
 simp only [fU.dat,aZ] at h4
 obtain ⟨v1,_,rfl,⟨rfl,-⟩,v2,_,rfl,hl,rfl⟩:∃ v vs,cs=v :: vs∧av G (li l[k].id) v∧∃ v2 vs2,vs=v2 :: vs2∧av G (.sl 4 (l[k].levels.map oG.dat)) v2∧vs2=[]:=h4;obtain ⟨B,d,rfl,-,-,-⟩:=hl.slice;rw [bQ] at *;exact ⟨b,o,B,d,h1,h3,hl⟩
theorem ahh {G:GH} {bl:Nat} {l:List fU} {A:Option Addr} {n c:Nat} (hb:aI G bl 0=some (.slice A n c)) (hv:av G (.sl 2 (l.map fU.dat)) (.slice A n c)):rG (.func (.func 117) #[] #[(aJ bl 0)]) G l.length fun k=>(l[k]?.map fU.id).getD 0:=by
 intro k hk G1 w0 hm hG;refine lX (caps:=[(aJ bl 0)]) abV ?_;replace hb:=aK hm hb
 obtain rfl:n=l.length:=by have:=hv.len;simpa using this
 obtain ⟨b,o,B,d,rfl,hrow,-⟩:=Pz (hv.mono hm) hk;have hq:=hrow 0 _ rfl;refine eN [(0,_),(1,_)] func117 rfl ntmps117 rfl rfl hG ?_;intro a H;refine kP H (SR fun _ K1=>ak K1 rfl (SR fun _ K2=>Rg Eo rfl (by assumption) ?_));clear H K1;intro a H;refine kH H (Rm rfl (Ri Er FJ rfl rfl (Rf Ul rfl (Rg aC rfl (by assumption) ?_))));clear H;intro a H;exact kH H (ak K2 rfl (LR results117 rfl fun H=>H.rt (by dsimp only;rw [gY hk];rfl)))
def D6 (l:List fU) (i:Nat):Int:=dH [oN (fun k=>(l[k]?.map fU.id).getD 0) i,dO ((l[i]?.map fU.levels).getD [])]
theorem ahk {G:GH} {bl:Nat} {l:List fU} {A:Option Addr} {n c:Nat} (hb:aI G bl 0=some (.slice A n c)) (hv:av G (.sl 2 (l.map fU.dat)) (.slice A n c)) (hl:l.length≤4294967296) (ht:∀ x∈l,∀ y∈x.levels,y.yj.size < 4611686018427387904):rG (.func (.func 116) #[] #[(aJ bl 0)]) G l.length (D6 l):=by
 intro k hk G1 w0 hm hG;refine lX (caps:=[(aJ bl 0)]) abU ?_;replace hb:=aK hm hb;replace hv:=hv.mono hm;have hcb:=ahh hb hv
 obtain rfl:n=l.length:=by have:=hv.len;simpa using this
 obtain ⟨b,o,B,d,rfl,hrow,hlv⟩:=Pz hv hk;have hq:=hrow 1 _ rfl
 have he:D6 l k=dH [oN (fun k=>(l[k]?.map fU.id).getD 0) k,dO l[k].levels]:=by unfold D6;rw [gY hk];rfl
 refine eN [(0,_),(1,_)] func116 rfl ntmps116 rfl rfl hG ?_;intro a H;refine kP H (SR fun _ K1=>ak K1 rfl (SQ fun _ K2=>?_));clear H K1;intro a H;have H:=H.sub (T':=[(0,_),(1,_)]) ⟨rfl,rfl,aD⟩;refine dI hmx [[],[],[0,1],[],[],[3,4],[3,4,5],(ra 3 4),(ra 0 8),(ra 0 9),(ra 0 10),(ra 0 11)] [9,10,11] (by kernel_rfl) [_,.func (.func 117) #[] #[(aJ bl 0)],vi (oN (fun k=>(l[k]?.map fU.id).getD 0) k),_,_,_,_,_,vi (dO l[k].levels)] H (aF (Z0 rfl (Rm rfl)) ?_ ?_ (X0 rfl fun hG=>Rg Eo rfl (aK hG hb)) (aF (Z0 rfl (Rm rfl)) (Z2 3 7 4 8 rfl (Ri Er FJ rfl rfl)) (Z1 5 9 rfl (Rf aea rfl)) (X1 6 10 rfl fun hG=>Rg akb rfl (aK hG hq)) (aF ?_ (bK rfl) (bK rfl) (bK rfl) bX))) ?_
 ·refine wM rfl fun _ a w G1 hG HT H fin=>?_;refine pY H wn rfl rfl ?_;clear H;intro a H;exact fin H iJ rfl
 ·refine dG 0 4 1 5 rfl rfl fun _ a w G1 hG HT H fin=>?_;refine s_call Nq H wn rfl (Po _ _ H.ro k _ _ (by omega) (fun i hi=>(hcb.mono hG) i (by omega))) rfl ?_;clear H;rintro v6 G6 a w rfl gJ H;exact fin H gJ (rfl)
 ·refine dR 7 11 rfl rfl fun _ a w G1 hG HT H fin=>?_;refine s_call abW H wn rfl (aaN _ _ H.ro _ _ (hlv.mono hG) (ht _ (iL hk))) rfl ?_;clear H;rintro v12 BA a w rfl qo H;exact fin H qo (rfl)
 clear H;intro a w G nu H hv;have H:=H.aR (hv 2 6 rfl rfl) rfl;have H:=H.aR (hv 8 12 rfl rfl) rfl;clear hv;refine gQ oF gK [_,_] [_,_] H wn rfl rfl rfl rfl rfl (by intro i q h;match i,h with|0,h=>exact h|1,h=>exact h|n+2,h=>simp at h) rfl rfl ?_;clear H;intro b13 a w Ot H;obtain ⟨Eu,Hw,afk,H⟩:=H.dP;refine s_call pI H wn rfl (pJ _ _ H.ro _ _ (wE afk)) rfl ?_;clear H;rintro v14 _ a w ⟨rfl,rfl⟩ - H;refine kH H (Ra rfl ?_);clear H;intro a H;refine aH ⟨rfl,?_⟩;refine K2 _ _ ?_;clear K2;refine lr H results116 rfl ?_;exact H.rt (by rw [he])
def Gn (l:List fU):Int:=dH [bV (decide (64 < (l.length:Int))) 9,ko (D6 l) (min l.length 64)]
theorem rG.le {fv:aj} {G:GH} {n m:Nat} {E:Nat→Int} (h:rG fv G n E) (hm:m≤n):rG fv G m E:=fun i hi=>h i (by omega)
theorem aaO (G:GH) (w0:World) (hG:Hold G w0) (l:List fU) (v:aj) (hv:av G (.sl 2 (l.map fU.dat)) v) (hl:l.length≤4294967296) (ht:∀ x∈l,∀ y∈x.levels,y.yj.size < 4611686018427387904) :
  Calls prog 81 #[v] w0 (bE w0 G fun u G'=>u=vi (Gn l)):=by
 obtain ⟨A,c,rfl,hc1,hc2,-⟩:=hv.slice;rw [bQ] at *;refine eN [(0,_)] func81 rfl ntmps81 rfl rfl hG ?_;intro a H;refine dB (fun _ K1=>?_);refine eU (cs:=[_]) H wn rfl rfl rfl ?_;clear H;intro b1 a w hb1 H;refine kH H (ak K1 rfl (SQ fun _ K2=>?_));clear H K1;intro a H;have H:=H.sub (T':=[(1,_)]) ⟨rfl,aD⟩;obtain ⟨Ga,hma,hb1',H⟩:=H.dP
 have hbl:aI Ga b1 0=some (.slice A l.length c):=by unfold aI;rw [hb1'];rfl
 have hcb:=ahk hbl (hv.mono hma) hl ht;refine dI hmx [[],[0],[0,1],[0,1,2],[],[4],[4,5],[],(ra 0 8),(ra 0 9),(ra 0 10),(ra 0 11)] [9,10,11] (by kernel_rfl) [_,_,_,vi (bV (decide (64 < (l.length:Int))) 9),_,_,vi ((min l.length 64:Nat):Int),.func (.func 116) #[] #[(aJ b1 0)],vi (ko (D6 l) (min l.length 64))] H (aF (X0 rfl fun hG=>Rg Eo rfl (aK hG hbl)) (Z1 0 3 rfl (Rl Er rfl)) (Z1 1 4 rfl (Rc rfl)) ?_ (aF (X0 rfl fun hG=>Rg Eo rfl (aK hG hbl)) (Z1 4 7 rfl (Rl Er rfl)) ?_ ?_ (aF ?_ (bK rfl) (bK rfl) (bK rfl) bX))) ?_
 ·refine dR 2 5 rfl rfl fun _ a w G1 hG HT H fin=>?_;refine s_call iW H wn rfl (iZ _ _ H.ro _ 9) rfl ?_;clear H;rintro v6 G6 a w ⟨rfl,-⟩ gJ H;exact fin H gJ (rfl)
 ·refine dR 5 8 rfl rfl fun _ a w G1 hG HT H fin=>?_;refine La H wn rfl rfl rfl ?_;clear H;intro a H;exact fin H iJ (ay vi (by omega))
 ·refine wM rfl fun _ a w G1 hG HT H fin=>?_;refine pY H wn rfl rfl ?_;clear H;intro a H;exact fin H iJ rfl
 ·refine dG 6 9 7 10 rfl rfl fun _ a w G1 hG HT H fin=>?_;refine s_call EO H wn rfl (Gf _ _ H.ro (min l.length 64) (D6 l) _ (by omega) ((hcb.mono hG).le (Nat.min_le_left _ _))) rfl ?_;clear H;rintro v11 tL a w rfl iY H;exact fin H iY (rfl)
 clear H;intro a w G nu H hv;have H:=H.aR (hv 3 6 rfl rfl) rfl;have H:=H.aR (hv 8 11 rfl rfl) rfl;clear hv;refine gQ oF gK [_,_] [_,_] H wn rfl rfl rfl rfl rfl (by intro i q h;match i,h with|0,h=>exact h|1,h=>exact h|n+2,h=>simp at h) rfl rfl ?_;clear H;intro b12 a w Aw H;obtain ⟨BA,DC,Dy,H⟩:=H.dP;refine s_call pI H wn rfl (pJ _ _ H.ro _ _ (wE Dy)) rfl ?_;clear H;rintro v13 _ a w ⟨rfl,rfl⟩ - H;refine kH H (Ra rfl ?_);clear H;intro a H;refine aH ⟨rfl,?_⟩;refine K2 _ _ ?_;clear K2;refine lr H results81 rfl ?_;exact H.rt rfl
end
section
open Go.RowKit
theorem nE:prog.underlying 31=some (.slice 181):=by kernel_rfl
theorem jY:Ty prog 181 6 72 [.int .i64 0,.int .i64 0,.string ⟨#[]⟩,.int .i64 0,.int .i64 0,.slice none 0 0] true:=⟨by kernel_rfl,by kernel_rfl⟩
theorem vS:bW prog 181 1 1:=⟨by kernel_rfl⟩
theorem EP:bW prog 181 2 2:=⟨by kernel_rfl⟩
theorem uf:bW prog 181 0 0:=⟨by kernel_rfl⟩
theorem TI:∀ args w,(callFunc 141 args).run prog w=.ok (.enter 141 args) w:=enters func141 rfl (by kernel_rfl)
theorem acj:∀ args w,(callFunc 134 args).run prog w=.ok (.enter 134 args) w:=enters func134 rfl (by kernel_rfl)
theorem acs:∀ args w,(callFunc 142 args).run prog w=.ok (.enter 142 args) w:=enters func142 rfl (by kernel_rfl)
theorem acu:∀ args w,(callFunc 143 args).run prog w=.ok (.enter 143 args) w:=enters func143 rfl (by kernel_rfl)
structure bL where
 id:Int
 kind:Int
 name:ByteArray
 base:Int
 next:Int
 props:List iF
def bL.dat (x:bL):List Dat:=[li x.id,li x.kind,.lf (.string x.name),li x.base,li x.next,.sl 2 (x.props.map iF.dat)]
theorem Qx {G:GH} {x:bL} {cs:List aj} (h:aZ G x.dat cs):∃ A c,cs=[vi x.id,vi x.kind,.string x.name,vi x.base,vi x.next,.slice A x.props.length c]∧av G (.sl 2 (x.props.map iF.dat)) (.slice A x.props.length c):=by
 simp only [bL.dat,aZ] at h
 obtain ⟨v1,_,rfl,h1,v2,_,rfl,h2,v3,_,rfl,h3,v4,_,rfl,h4,v5,_,rfl,h5,v6,_,rfl,h6,rfl⟩:=h
 simp only [av] at h1 h2 h3 h4 h5
 obtain ⟨rfl,-⟩:=h1;obtain ⟨rfl,-⟩:=h2;obtain ⟨rfl,-⟩:=h3;obtain ⟨rfl,-⟩:=h4;obtain ⟨rfl,-⟩:=h5;obtain ⟨A,c,rfl,-,-,-⟩:=h6.slice;rw [bQ] at *;exact ⟨A,c,rfl,h6⟩
theorem Bp {G:GH} {l:List bL} {A:Option Addr} {n c k:Nat} (hv:av G (.sl 6 (l.map bL.dat)) (.slice A n c)) (hk:k < l.length):∃ b o pA pc,A=some ⟨b,o,none⟩∧(∀ j u,[vi l[k].id,vi l[k].kind,.string l[k].name,vi l[k].base,vi l[k].next,.slice pA l[k].props.length pc][j]?=some u→aI G b (o+k*6+j)=some u)∧av G (.sl 2 (l[k].props.map iF.dat)) (.slice pA l[k].props.length pc) ∧
  aZ G l[k].dat [vi l[k].id,vi l[k].kind,.string l[k].name,vi l[k].base,vi l[k].next,.slice pA l[k].props.length pc]:=by
 obtain ⟨A',c',he,_,_,hg⟩:=hv.slice
 injection he with e1 e2 e3
 subst e1;obtain ⟨b,o,cs,h1,h2,h3,h4⟩:=hg k l[k].dat (by simp [hk]);obtain ⟨pA,pc,rfl,hp⟩:=Qx h4;exact ⟨b,o,pA,pc,h1,h3,hp,h4⟩
def okB (x:Int):Bool:=decide (32≤x∧x≤126)
def Eb (s:ByteArray) (k:Nat):Bool:=(List.range k).all fun i=>okB (gT s i)
def mP (s:ByteArray):Bool:=decide (s.size≠0∧s.size≤40∧gT s 0≠32∧gT s (s.size - 1)≠32) && Eb s s.size
theorem ahD (s:ByteArray) (k:Nat):Eb s (k+1)=(Eb s k && okB (gT s k)):=by simp [Eb,List.range_succ]
theorem Ec {s:ByteArray} {k:Nat} (hk:k < s.size) (h:okB (gT s k)=false):Eb s s.size=false:=by
 rw [Eb,List.all_eq_false];exact ⟨k,by simpa using hk,by simp [h]⟩
theorem Ko (G:GH) (w0:World) (hG:Hold G w0) (s:ByteArray) (hs:s.size≤4611686018427387904):Calls prog 131 #[.string s] w0 (bE w0 G fun u G'=>u=.bool (mP s)):=by
 refine eN [(0,_)] func131 rfl ntmps131 rfl rfl hG ?_;intro a H;refine kP H (SR fun _ K1=>ak K1 rfl (SQ fun _ K2=>SR fun _ K3=>Rm rfl (Rv gu rfl (Rc rfl (Rm rfl (Sp 7 rfl ?_ ?_)))))) <;> clear H K1
 ·intro h7 a H
  try have p7:=dT h7
  refine kH H (aX h7 rfl (Pt h7 rfl (Rm rfl (aX rfl rfl (Pt rfl rfl (Rm rfl (aX rfl rfl (aX rfl rfl (Pt rfl rfl (Kz K3 (Ct rfl rfl (SR fun _ K4=>ak K4 rfl ?_))))))))))));clear H K3 K4;intro a H;refine lr H results131 rfl ?_
  first
   | exact H.rt (aG (by rw [mP,gL (by omega),uO]))
   | exact H.rt (aG (by rw [mP,iQ (by omega),show s.size=k by omega,hno];rfl))
   | exact H.rt (aG (by rw [mP,Ec (k:=k) (by omega) (gL (by omega)),Bool.and_false]))
 intro h7 a H
 try have p7:=dF h7
 refine kH H (YM h7 rfl ?_);clear H;intro a H;refine Cw gu H (wg H rfl rfl h7) rfl rfl ?_;clear H;intro a H;refine kH H (YC h7 rfl (Pf h7 rfl (Rm rfl (Sp 12 rfl ?_ ?_)))) <;> clear H
 ·intro h12 a H
  try have qX:=dT h12
  refine kH H (aX h12 rfl (Pt h12 rfl (Rm rfl (aX rfl rfl (aX rfl rfl (Pt rfl rfl (Kz K3 (Ct rfl rfl (SR fun _ K5=>ak K5 rfl ?_)))))))));clear H K3 K5;intro a H;refine lr H results131 rfl ?_
  first
   | exact H.rt (aG (by rw [mP,gL (by omega),uO]))
   | exact H.rt (aG (by rw [mP,iQ (by omega),show s.size=k by omega,hno];rfl))
   | exact H.rt (aG (by rw [mP,Ec (k:=k) (by omega) (gL (by omega)),Bool.and_false]))
 intro h12 a H
 try have qX:=dF h12
 refine kH H (YM h12 rfl ?_);clear H;intro a H;refine nV 0 gu H (wg H rfl rfl h12) rfl rfl rfl (by omega) rfl ?_;clear H;intro a H;rw [← lM] at H;refine kH H (YC h12 rfl (Pf h12 rfl (Rm rfl (Sp 17 rfl ?_ ?_)))) <;> clear H
 ·intro dV a H
  try have mE:=dT dV
  refine kH H (aX dV rfl (aX dV rfl (Pt dV rfl (Kz K3 (Ct rfl rfl (SR fun _ K6=>ak K6 rfl ?_))))));clear H K3 K6;intro a H;refine lr H results131 rfl ?_
  first
   | exact H.rt (aG (by rw [mP,gL (by omega),uO]))
   | exact H.rt (aG (by rw [mP,iQ (by omega),show s.size=k by omega,hno];rfl))
   | exact H.rt (aG (by rw [mP,Ec (k:=k) (by omega) (gL (by omega)),Bool.and_false]))
 intro dV a H
 try have mE:=dF dV
 refine kH H (YM dV rfl (YM dV rfl ?_));clear H;intro a H;refine Cw gu H (wg H rfl rfl dV) rfl rfl ?_;clear H;intro a H;refine mR _ H (wg H rfl rfl dV) rfl rfl rfl (by omega) (by omega) rfl ?_;clear H;intro a H;refine nV (s.size - 1) gu H (wg H rfl rfl dV) rfl rfl (by omega) (by omega) rfl ?_;clear H;intro a H;rw [← lM] at H;refine kH H (YC dV rfl (Pf dV rfl (Kz K3 (Cd rfl ?_ ?_)))) <;> clear H K3
 ·intro dD a H
  try have jS:=dT dD
  refine kP H (SR fun _ K7=>ak K7 rfl ?_);clear H K7;intro a H;refine lr H results131 rfl ?_
  first
   | exact H.rt (aG (by rw [mP,gL (by omega),uO]))
   | exact H.rt (aG (by rw [mP,iQ (by omega),show s.size=k by omega,hno];rfl))
   | exact H.rt (aG (by rw [mP,Ec (k:=k) (by omega) (gL (by omega)),Bool.and_false]))
 intro dD a H
 try have jS:=dF dD
 refine kP H (Kc K2 (SQ fun _ K8=>SR fun _ K9=>Rm rfl (Rv gu rfl (Rm rfl (Kz K9 (SB ?_))))));clear H K2 K9;intro a H;skip;refine eT (ι:=Nat) (Tc:=[(0,_),(26,_)]) (Lc:=[]) (fun gh=>[(27,vi gh)]) (fun gh=>[]) (fun gh=>G) (fun gh=>gh≤s.size∧Eb s gh=true) (fun gh=>s.size - gh) (0) (by exact (H).sub ⟨rfl,rfl,rfl,aD⟩) ?_ ?_
 ·exact ⟨iy _,rfl⟩
 clear H;intro gh a w hI H;obtain ⟨k,hgh⟩:∃ x,x=gh:=⟨_,rfl⟩;subst hgh;obtain ⟨hk,hno⟩:=hI;dsimp only [lca,bg] at H;refine kP H (SR fun _ aT=>Rc rfl (Kz aT (SQ fun _ bq=>Cd rfl ?_ ?_))) <;> clear H aT
 ·intro fF a H
  try have p28:=dT fF
  refine kP H (Kc bq (SQ fun _ bF=>SB (SR fun _ bJ=>Rm rfl (ak bJ rfl (SR fun _ bN=>Rm rfl (Rm rfl ?_))))));clear H bq bJ;intro a H;refine nV k gu H wn rfl rfl rfl (by omega) rfl ?_;clear H;intro a H;rw [← lM] at H;refine kH H (Rc rfl (Rm rfl (Sp 34 rfl ?_ ?_))) <;> clear H
  ·intro gB a H
   try have p34:=dT gB
   refine kH H (aQ gB rfl (aQ gB rfl (Pt gB rfl (Kz bN (Ct rfl rfl (SR fun _ cK=>ak cK rfl ?_))))));clear H bN cK;intro a H;refine lr H results131 rfl ?_
   first
    | exact H.rt (aG (by rw [mP,gL (by omega),uO]))
    | exact H.rt (aG (by rw [mP,iQ (by omega),show s.size=k by omega,hno];rfl))
    | exact H.rt (aG (by rw [mP,Ec (k:=k) (by omega) (gL (by omega)),Bool.and_false]))
  intro gB a H
  try have p34:=dF gB
  refine kH H (YM gB rfl (YM gB rfl ?_));clear H;intro a H;refine nV k gu H (wg H rfl rfl gB) rfl rfl rfl (by omega) rfl ?_;clear H;intro a H;rw [← lM] at H;refine kH H (YC gB rfl (Pf gB rfl (Kz bN (Cd rfl ?_ ?_)))) <;> clear H bN
  ·intro kU a H
   try have p39:=dT kU
   refine kP H (SR fun _ dw=>ak dw rfl ?_);clear H dw;intro a H;refine lr H results131 rfl ?_
   first
    | exact H.rt (aG (by rw [mP,gL (by omega),uO]))
    | exact H.rt (aG (by rw [mP,iQ (by omega),show s.size=k by omega,hno];rfl))
    | exact H.rt (aG (by rw [mP,Ec (k:=k) (by omega) (gL (by omega)),Bool.and_false]))
  intro kU a H
  try have p39:=dF kU
  refine kP H (Kc bF (SC (Rd rfl (Rm rfl ?_))));clear H bF;intro a H;refine aH ?_;refine cu ((k+1)) (by exact (H).sub ⟨rfl,rfl,rfl,aD⟩) ?_ ?_
  ·exact ⟨by omega,by rw [ahD,hno];simp [okB];omega⟩
  first|omega|(dsimp only;omega)
 intro fF a H
 try have p28:=dF fF
 refine dU ?_;refine K8 _ _ ?_;clear K8;refine kP H (SR fun _ bY=>ak bY rfl ?_);clear H bY;intro a H;refine lr H results131 rfl ?_
 first
  | exact H.rt (aG (by rw [mP,gL (by omega),uO]))
  | exact H.rt (aG (by rw [mP,iQ (by omega),show s.size=k by omega,hno];rfl))
  | exact H.rt (aG (by rw [mP,Ec (k:=k) (by omega) (gL (by omega)),Bool.and_false]))
theorem VW (G:GH) (w0:World) (hG:Hold G w0) (l:List bL) (p:bL→Bool) (v fv:aj) (hv:av G (.sl 6 (l.map bL.dat)) v) (hf:∀ x∈l,uM fv G x.dat (p x)) :
  Calls prog 141 #[v,fv] w0 (bE w0 G fun u G'=>u=vi (nP (l.findIdx? p))):=by
 obtain ⟨A,c,rfl,hc1,hc2,-⟩:=hv.slice;have hml:maxLen=9223372036854775807:=rfl;rw [bQ] at *;refine eN [(0,_),(1,_)] func141 rfl ntmps141 rfl rfl hG ?_;intro a H;refine kP H (SR fun _ K1=>ak K1 rfl (SQ fun _ K2=>SR fun _ K3=>Rm rfl (Rl nE rfl (Rm rfl (Kz K3 (SB ?_))))));clear H K1 K3;intro a H;skip;refine eT (ι:=Nat × GH) (Tc:=[(0,_),(1,_),(7,_)]) (Lc:=[]) (fun gh=>[(8,vi gh.1)]) (fun gh=>[]) (fun gh=>gh.2) (fun gh=>gh.1≤l.length∧(l.take gh.1).findIdx? p=none∧(∀ b o,G b=some o→gh.2 b=some o)) (fun gh=>l.length - gh.1) ((0,G)) (by exact (H).sub ⟨rfl,rfl,rfl,rfl,aD⟩) ?_ ?_
 ·exact ⟨by omega,rfl,fun _ _ h=>h⟩
 clear H;intro gh a w hI H;obtain ⟨k,g⟩:=gh;dsimp only at hI H;obtain ⟨hk,hno,hgm⟩:=hI;dsimp only [lca,bg] at H;refine kP H (SR fun _ K4=>Rc rfl (Kz K4 (SQ fun _ K5=>Cd rfl ?_ ?_))) <;> clear H K4
 ·intro h9 a H
  try have p9:=dT h9
  have hk2:k < l.length:=by omega
  obtain ⟨b,o,pA,pc,rfl,hrow,hp,hrep⟩:=Bp (hv.mono hgm) hk2;refine kP H (Kc K5 (SQ fun _ K6=>SB (SR fun _ K7=>Rm rfl (ak K7 rfl (SR fun _ K8=>Rm rfl (Rm rfl (Rm rfl (Ri nE jY rfl rfl ?_))))))));clear H K5 K7;intro a H;refine bD jY (cs:=[_,_,_,_,_,_]) H wn rfl rfl (fun j v hj=>H.hp.aI (hrow j v hj)) rfl ?_;clear H;intro a H;refine pX H wn rfl rfl (hf _ (iL hk2) _ _ _ hgm H.ro hrep) rfl ?_;clear H;rintro v16 rF a w rfl rQ H;refine K8 _ _ ?_;clear K8;refine kr H rfl ?_ ?_
  ·intro h16
   try have p16:=dT h16
   refine kP H (SR fun _ K9=>Rm rfl (ak K9 rfl ?_));clear H K9;intro a H;refine lr H results141 rfl ?_
   first
    | exact H.rt (by rw [uF hk2 hno h16];rfl)
    | exact H.rt (by rw [show l.take k=l from jH (by omega)] at hno;rw [hno];rfl)
  intro h16
  try have p16:=dF h16
  refine kP H (Kc K6 (SC (Rd rfl (Rm rfl ?_))));clear H K6;intro a H;refine aH ?_;refine cu ((k+1,rF)) (by exact (H).sub ⟨rfl,rfl,rfl,rfl,aD⟩) ?_ ?_
  ·(try dsimp only);exact ⟨by omega,AX hk2 hno h16,fun b o h=>rQ b o (hgm b o h)⟩
  first|omega|(dsimp only;omega)
 intro h9 a H
 try have p9:=dF h9
 refine dU ?_;refine K2 _ _ ?_;clear K2;refine kP H (SR fun _ aT=>ak aT rfl ?_);clear H aT;intro a H;refine lr H results141 rfl ?_
 first
  | exact H.rt (by rw [uF hk2 hno h16];rfl)
  | exact H.rt (by rw [show l.take k=l from jH (by omega)] at hno;rw [hno];rfl)
def Ii (p q:ByteArray):Bool:=p.toList == q.toList
theorem aen {G:GH} {bk bn:Nat} {kind:Int} {name:ByteArray} (hk:aI G bk 0=some (vi kind)) (hn:aI G bn 0=some (.string name)) (x:bL):uM (.func (.func 142) #[] #[(aJ bk 0),(aJ bn 0)]) G x.dat (decide (x.kind=kind) && Ii x.name name):=by
 intro G1 w0 cs hm hG hr;refine lX (caps:=[(aJ bk 0),(aJ bn 0)]) acs ?_;obtain ⟨pA,pc,rfl,-⟩:=Qx hr;replace hk:=aK hm hk;replace hn:=aK hm hn;refine eN [(0,_),(1,_),(2,_)] func142 rfl ntmps142 rfl rfl hG ?_;intro a H;refine dB (fun _ K1=>?_);refine eU (cs:=[_,_,_,_,_,_]) H wn rfl rfl rfl ?_;clear H;intro b3 a w hb3 H;refine kH H (ak K1 rfl (SR fun _ K2=>aP vS aC 0 rfl rfl (Rg aC rfl (by assumption) ?_)));clear H K1;intro a H;refine kH H (Rc rfl (Rm rfl (Sp 9 rfl ?_ ?_))) <;> clear H
 ·intro h9 a H
  try have p9:=dT h9
  refine kH H (YF EP h9 rfl (YO fZ 0 h9 rfl (YR fZ h9 rfl (by assumption) ?_)));clear H;intro a H;refine zy H (wg H rfl rfl h9) rfl rfl rfl ?_;clear H;intro a H;exact kH H (Pt h9 rfl (ak K2 rfl (LR results142 rfl fun H=>H.rt (by unfold Ii;simp_all))))
 intro h9 a H
 try have p9:=dF h9
 exact kH H (aQ h9 rfl (aQ h9 rfl (Pf h9 rfl (ak K2 rfl (LR results142 rfl fun H=>H.rt (by unfold Ii;simp_all))))))
theorem aem {G:GH} {bi:Nat} {id:Int} (hb:aI G bi 0=some (vi id)) (x:bL):uM (.func (.func 143) #[] #[(aJ bi 0)]) G x.dat (decide (x.id=id)):=by
 intro G1 w0 cs hm hG hr;refine lX (caps:=[(aJ bi 0)]) acu ?_;obtain ⟨pA,pc,rfl,-⟩:=Qx hr;replace hb:=aK hm hb;refine eN [(0,_),(1,_)] func143 rfl ntmps143 rfl rfl hG ?_;intro a H;refine dB (fun _ K1=>?_);refine eU (cs:=[_,_,_,_,_,_]) H wn rfl rfl rfl ?_;clear H;intro b2 a w hb2 H;refine kH H (ak K1 rfl (SR fun _ K2=>aP uf aC 0 rfl rfl (Rg aC rfl (by assumption) ?_)));clear H K1;intro a H;exact kH H (Rc rfl (ak K2 rfl (LR results143 rfl fun H=>H.rt rfl)))
def BP (l:List bL) (kind:Int) (name:ByteArray):Option Nat:=l.findIdx? fun x=>decide (x.kind=kind) && Ii x.name name
def JM (l:List bL) (id:Int):Option Nat:=l.findIdx? fun x=>decide (x.id=id)
theorem V3 (o:Option Nat):decide (0≤nP o)=o.isSome:=by cases o <;> simp [nP]
theorem aeo (G:GH) (w0:World) (hG:Hold G w0) (l:List bL) (kind:Int) (name:ByteArray) (v:aj) (hv:av G (.sl 6 (l.map bL.dat)) v) :
  Calls prog 132 #[v,vi kind,.string name] w0 (bE w0 G fun u G'=>u=.tuple #[vi (max (nP (BP l kind name)) 0),.bool (BP l kind name).isSome]):=by
 obtain ⟨A,c,rfl,hc1,hc2,-⟩:=hv.slice;rw [bQ] at *;refine eN [(0,_),(1,_),(2,_)] func132 rfl ntmps132 rfl rfl hG ?_;intro a H;refine dB (fun _ K1=>?_);refine eU (cs:=[_]) H wn rfl rfl rfl ?_;clear H;intro b4 a w hb4 H;refine eU (cs:=[_]) H wn rfl rfl rfl ?_;clear H;intro b5 a w hb5 H;refine kH H (Ra rfl (ak K1 rfl (SQ fun _ K2=>?_)));clear H K1;intro a H;obtain ⟨Ga,hma,za,H⟩:=H.dP;obtain ⟨Gb,hmb,uZ,H⟩:=H.dP
 have q4:aI Gb b4 0=some (vi kind):=by unfold aI;rw [uZ];rfl
 have q5:aI Gb b5 0=some (.string name):=by unfold aI;rw [hmb _ _ za];rfl
 refine kP H (SC (Rm rfl ?_));clear H;intro a H;refine pY H wn rfl rfl ?_;clear H;intro a H;refine s_call TI H wn rfl (VW _ _ H.ro l (fun x=>decide (x.kind=kind) && Ii x.name name) _ _ ((hv.mono hma).mono hmb) (fun x _=>aen q4 q5 x)) rfl ?_;clear H;rintro v11 tL a w rfl AB H;refine kH H (aU K2 rfl (SR fun _ K3=>Rm rfl ?_));clear H K2;intro a H;refine KZ H wn rfl rfl rfl ?_;clear H;intro a H;refine kH H (Rm rfl (Rc rfl (Ra rfl (ak K3 rfl ?_))));clear H K3;intro a H;refine cZ ?_;refine (fG H results132 (.cons (aW H rfl) (.cons (aW H rfl) .nil)) ?_).1;exact H.rt (by rw [← V3];rfl)
theorem aeu (G:GH) (w0:World) (hG:Hold G w0) (l:List bL) (id:Int) (v:aj) (hv:av G (.sl 6 (l.map bL.dat)) v) :
  Calls prog 134 #[v,vi id] w0 (bE w0 G fun u G'=>u=.tuple #[vi (max (nP (JM l id)) 0),.bool (JM l id).isSome]):=by
 obtain ⟨A,c,rfl,hc1,hc2,-⟩:=hv.slice;rw [bQ] at *;refine eN [(0,_),(1,_)] func134 rfl ntmps134 rfl rfl hG ?_;intro a H;refine dB (fun _ K1=>?_);refine eU (cs:=[_]) H wn rfl rfl rfl ?_;clear H;intro b3 a w hb3 H;refine kH H (Ra rfl (ak K1 rfl (SQ fun _ K2=>?_)));clear H K1;intro a H;obtain ⟨Ga,hma,xI,H⟩:=H.dP
 have q3:aI Ga b3 0=some (vi id):=by unfold aI;rw [xI];rfl
 refine kP H (SC (Rm rfl ?_));clear H;intro a H;refine pY H wn rfl rfl ?_;clear H;intro a H;refine s_call TI H wn rfl (VW _ _ H.ro l (fun x=>decide (x.id=id)) _ _ (hv.mono hma) (fun x _=>aem q3 x)) rfl ?_;clear H;rintro v9 G9 a w rfl xK H;refine kH H (aU K2 rfl (SR fun _ K3=>Rm rfl ?_));clear H K2;intro a H;refine KZ H wn rfl rfl rfl ?_;clear H;intro a H;refine kH H (Rm rfl (Rc rfl (Ra rfl (ak K3 rfl ?_))));clear H K3;intro a H;refine cZ ?_;refine (fG H results134 (.cons (aW H rfl) (.cons (aW H rfl) .nil)) ?_).1;exact H.rt (by rw [← V3];rfl)
def DW (l:List bL) (kind id:Int):Bool:=match JM l id with|some i=>decide ((l[i]?.map bL.kind)=some kind)|none=>false
theorem Pp (G:GH) (w0:World) (hG:Hold G w0) (l:List bL) (kind id:Int) (v:aj) (hv:av G (.sl 6 (l.map bL.dat)) v) :
  Calls prog 114 #[v,vi kind,vi id] w0 (bE w0 G fun u G'=>u=.bool (DW l kind id)):=by
 obtain ⟨A,c,rfl,hc1,hc2,-⟩:=hv.slice;rw [bQ] at *;refine eN [(0,_),(1,_),(2,_)] func114 rfl ntmps114 rfl rfl hG ?_;intro a H;refine kP H (SR fun _ K1=>ak K1 rfl (SR fun _ K2=>Rm rfl (Rm rfl ?_)));clear H K1;intro a H;refine s_call acj H wn rfl (aeu _ _ H.ro l id _ hv) rfl ?_;clear H;rintro v12 BA a w rfl DC H;obtain ⟨o,ho⟩:∃ o,o=JM l id:=⟨_,rfl⟩;rw [← ho] at H;refine kH H (Rm rfl ?_);clear H;intro a H;(iterate 2 refine kN H wn rfl rfl rfl ?_;clear H;intro a H);refine kH H (Ra rfl (ak K2 rfl (SR fun _ K3=>Rm rfl (Rm rfl (Sp 16 rfl ?_ ?_))))) <;> clear H K2
 ·intro h16 a H
  try have p16:=dT h16
  obtain ⟨i,rfl⟩:=Option.isSome_iff_exists.1 h16
  have hil:i < l.length:=by
   obtain ⟨hi,-⟩:=List.findIdx?_eq_some_iff_getElem.1 ho.symm;exact hi
  rw [show max (nP (some i)) 0=(i:Int) by simp [nP]] at H;obtain ⟨b,o',pA,pc,rfl,hrow,hp,hrep⟩:=Bp (hv.mono DC) hil;have r1:aI BA b (o'+i*6+1)=some (vi l[i].kind):=hrow 1 _ rfl;refine kH H (YM h16 rfl (YM h16 rfl (YI nE jY h16 rfl rfl (YF vS h16 rfl (YR aC h16 rfl (by assumption) ?_)))));clear H;intro a H;refine kH H (YM h16 rfl (YC h16 rfl (Pt h16 rfl (ak K3 rfl ?_))));clear H K3;intro a H;refine lr H results114 rfl ?_
  first
   | exact H.rt (aG (by rw [DW,← ho];dsimp only;rw [gY hil];simp))
   | exact H.rt (aG (by rw [DW,← ho];cases o <;> simp_all))
 intro h16 a H
 try have p16:=dF h16
 refine kH H (aX h16 rfl (aQ h16 rfl (aQ h16 rfl (Pf h16 rfl (ak K3 rfl ?_)))));clear H K3;intro a H;refine lr H results114 rfl ?_
 first
  | exact H.rt (aG (by rw [DW,← ho];dsimp only;rw [gY hil];simp))
  | exact H.rt (aG (by rw [DW,← ho];cases o <;> simp_all))
end
section
open Go.RowKit
section
variable {N:Nat} {D:List Deferred} {w0:World} {F:Nat→Prop} {G0 G:GH} {L Li Lo:OL} {T:List (Nat × aj)}
variable {r:Option Nat} {P:Program} {ops:Array Oper} {Q:Exit→Act→World→Prop} {rest:List Oper} {a:Act} {w:World}
variable {d:Nat} {ty:TypeId} {pos:String} {aN:Array Edge} {g:Option (Nat × Bool)}
theorem XI {t e:TypeId} {sz bytes:Nat} {zero:List aj} {agg:Bool} (hs:P.underlying t=some (.slice e)) (ht:Ty P e sz bytes zero agg) {x z:Operand} {A:Option Addr} {n c:Nat} (hi:Nat) {q:Int} (H:St N D w0 F G0 G L T a w)
  (hw:Region.wanted ⟨some d,.slice t x none (some z) none,ty,pos,aN,g⟩ (yielded ops a.tmps)=true) (hx:ev T x=some (.slice A n c)) (hz:ev T z=some (.int .i64 q)) (hq:q=(hi:Int)) (h2:hi≤c) (hd:Nat.blt d N=true)
  (k:∀ a',St N D w0 F G0 G L ((d,.slice A hi c) :: T) a' w→WL r P ops Q rest a' w):WL r P ops Q (⟨some d,.slice t x none (some z) none,ty,pos,aN,g⟩ :: rest) a w:=by
 subst hq
 refine fM (v:=.slice A hi c) (w':=w) hw rfl ?_ (k _ (H.put hd _ H.hp))
 simp [execOp,H.ev hx,H.ev hz,Instr.sliceAt,Instr.slice,Instr.sliceBounds,Instr.sliceBound,bZ,kM hs,ht.Bg,asIntOf,h2]
 intro _
 cases A with
 | none=>rfl
 | some p=>simp [Addr.add]
end
end
section
open Go.RowKit
theorem JC:∀ args w,(callFunc 131 args).run prog w=.ok (.enter 131 args) w:=enters func131 rfl (by kernel_rfl)
theorem ach:∀ args w,(callFunc 132 args).run prog w=.ok (.enter 132 args) w:=enters func132 rfl (by kernel_rfl)
theorem Uk:bW prog 181 5 5:=⟨by kernel_rfl⟩
theorem aci:∀ args w,(callFunc 133 args).run prog w=.ok (.enter 133 args) w:=enters func133 rfl (by kernel_rfl)
theorem Ua:∀ args w,(callFunc 90 args).run prog w=.ok (.enter 90 args) w:=enters func90 rfl (by kernel_rfl)
theorem av.pre {G:GH} {sz:Nat} {rows:List (List Dat)} {A:Option Addr} {n c:Nat} (h:av G (.sl sz rows) (.slice A n c)) (k:Nat) (hk:k≤rows.length):av G (.sl sz (rows.take k)) (.slice A k c):=by
 have h:=h.part 0 k (iy _) hk
 have e:(if c=0 then A else A.map (·.add (0*sz)))=A:=by
  split
  ·rfl
  cases A <;> simp [Addr.add]
 rw [e] at h
 simpa using h
theorem abH (G:GH) (w0:World) (hG:Hold G w0) (kind:Int):Calls prog 133 #[vi kind] w0 (bE w0 G fun u G'=>u=vi (if kind=1 then 2 else 1)):=by
 refine eN [(0,_)] func133 rfl ntmps133 rfl rfl hG ?_;intro a H;refine kP H (SR fun _ K1=>ak K1 rfl (SQ fun _ K2=>SR fun _ K3=>Rm rfl (Rc rfl (Kz K3 (Cd rfl ?_ ?_))))) <;> clear H K1 K3
 ·intro h4 a H
  try have p4:=dT h4
  exact kP H (SR fun _ K4=>ak K4 rfl (LR results133 rfl fun H=>H.rt (by first|(rw [au (by omega)];done)|rw [ah (by omega)])))
 intro h4 a H
 try have p4:=dF h4
 exact kP H (Kc K2 (SR fun _ K5=>ak K5 rfl (LR results133 rfl fun H=>H.rt (by first|(rw [au (by omega)];done)|rw [ah (by omega)]))))
def wB (l:List bL) (k:Nat):Option Int:=if k=0 then none else l[k - 1]?.map bL.id
theorem KN {l:List bL} {k:Nat} (h:k=0):wB l k=none:=au h
def EG (k:Int):Bool:=decide (k=20) || decide (k=1)
def kW (q:Option Int) (dup:Bool) (s:bL):Int :=
 if s.id < 1∨1073741824 < s.id then 18 else if q=some s.id then 7 else if Fv q s.id=true then 6 else if s.kind≠1∧s.kind≠2 then 3 else if mP s.name=false then 13 else if dup=true then 7
 else if s.props.any (fun p=>EG p.key)=true then 4 else gM (if s.kind=1 then 2 else 1) s.props
def iH (l:List bL) (k:Nat) (s:bL):Int:=kW (wB l k) (BP (l.take k) s.kind s.name).isSome s
set_option maxHeartbeats 1000000 in
theorem ahT (G:GH) (w0:World) (hG:Hold G w0) (l:List bL) (k:Nat) (v:aj) (hv:av G (.sl 6 (l.map bL.dat)) v) (hk:k < l.length) (hs:l[k].name.size≤4611686018427387904) :
  Calls prog 113 #[v,vi k] w0 (bE w0 G fun u G'=>u=vi (iH l k l[k])):=by
 obtain ⟨A,c,rfl,hc1,hc2,-⟩:=hv.slice;have hml:maxLen=9223372036854775807:=rfl;rw [bQ] at *;obtain ⟨b,o,pA,pc,rfl,hrow,hp,hrep⟩:=Bp hv hk;obtain ⟨x,hx⟩:∃ x,x=l[k]:=⟨_,rfl⟩;rw [← hx] at hs hrow hp hrep ⊢;have hdp:∀ j v,[vi x.id,vi x.kind,.string x.name,vi x.base,vi x.next,.slice pA x.props.length pc][j]?=some v→aI G b (o+k*6+j)=some v:=hrow;obtain ⟨_,_,he0,aly,alz,-⟩:=hp.slice
 injection he0 with _ he1 he2
 rw [bQ] at *;subst he2
 obtain ⟨pk,hpk⟩:∃ pk,0 < k→aI G b (o+(k - 1)*6+0)=some (vi pk)∧wB l k=some pk:=by
  by_cases h0:0 < k
  ·obtain ⟨b',o',_,_,he,hr',-,-⟩:=Bp hv (show k - 1 < l.length by omega)
   injection he with he
   injection he with e1 e2 e3
   subst e1;subst e2;exact ⟨_,fun _=>⟨hr' 0 _ rfl,by rw [wB,ah (by omega),gY (by omega)];rfl⟩⟩
  exact ⟨0,fun h=>absurd h h0⟩
 refine eN [(0,_),(1,_)] func113 rfl ntmps113 rfl rfl hG ?_;intro a H;refine kP H (SR fun _ K1=>ak K1 rfl (SR fun _ K2=>Rm rfl (Rm rfl (Ri nE jY rfl rfl ?_))));clear H K1;intro a H;refine bD jY (cs:=[_,_,_,_,_,_]) H wn rfl rfl (fun j v hj=>H.hp.aI (hrow j v hj)) rfl ?_;clear H;intro a H;refine eB jY H wn rfl ?_;clear H;intro b5 a w hb5 H;refine bH jY 0 (vs:=[_,_,_,_,_,_]) _ H wn rfl rfl rfl rfl rfl rfl rfl rfl ?_;clear H;intro w H;dsimp only [List.set,setRow] at H;refine K2 _ _ ?_;clear K2;refine pF (ι:=GH) (Tc:=[(0,_),(1,_),(5,_)]) (Lc:=[(_,_)]) (fun gh=>[]) (fun gh=>[]) (fun gh=>gh) (fun gh=>¬ (x.id < 1∨1073741824 < x.id)∧¬ wB l k=some x.id∧¬ Fv (wB l k) x.id=true∧¬ (x.kind≠1∧x.kind≠2)∧¬ mP x.name=false∧(∀ b o,G b=some o→gh b=some o)) (by exact (H).sub ⟨rfl,rfl,rfl,aD⟩) ?_ ?_
 ·skip;refine kP H (SB (SR fun _ K3=>aP uf aC 0 rfl rfl (Rc rfl (Rm rfl (Sp 18 rfl ?_ ?_))))) <;> clear H
  ·intro h18 a H
   try have wz:=dT h18
   refine kH H (aX h18 rfl (Pt h18 rfl (ak K3 rfl (Ct rfl rfl (SR fun _ K4=>ak K4 rfl ?_)))));clear H K3 K4;intro a H;refine lr H results113 rfl ?_
   first
    | exact H.rt (ay vi e0.symm)
    | exact H.rt (ay vi e4.symm)
    | exact H.rt (ay vi e7.symm)
    | exact H.rt (ay vi e13.symm)
    | exact H.rt (ay vi e3.symm)
    | exact H.rt (ay vi e6.symm)
    | exact H.rt (ay vi (by rw [iH,kW,au (by omega)]))
  intro h18 a H
  try have wz:=dF h18
  refine kH H (YF uf h18 rfl (YO aC 0 h18 rfl (YC h18 rfl (Pf h18 rfl (ak K3 rfl (Cd rfl ?_ ?_)))))) <;> clear H K3
  ·intro dW a H
   try have mQ:=dT dW
   refine kP H (SR fun _ K5=>ak K5 rfl ?_);clear H K5;intro a H;refine lr H results113 rfl ?_
   first
    | exact H.rt (ay vi e0.symm)
    | exact H.rt (ay vi e4.symm)
    | exact H.rt (ay vi e7.symm)
    | exact H.rt (ay vi e13.symm)
    | exact H.rt (ay vi e3.symm)
    | exact H.rt (ay vi e6.symm)
    | exact H.rt (ay vi (by rw [iH,kW,au (by omega)]))
  intro dW a H
  try have mQ:=dF dW
  refine bA (fun _ K6=>?_)
  by_cases c0:0 < (k:Int)
  ·skip
   by_cases c1:x.id=pk
   ·skip;refine dI hmx [[],[0],[0,1],[0,1,2],(ra 0 4),[0,1,2],[0,1,2],[0,1,2,6],[0,1,2,5,6,7],[0,1,2,5,6,7,8],[0,1,2,5,6,7,8,9],(ra 0 11),(ra 0 12),(ra 0 13)] [13] (by kernel_rfl) [_,_,_,_,vi x.id,_,_,vi ((k - 1:Nat):Int),_,_,_,_,_] H (aF (Z0 rfl (Rm rfl)) (Z1 0 24 rfl (Rc rfl)) (Z1 1 25 rfl (Rm rfl)) (Z1 2 26 rfl (YF uf (aB c0) rfl)) (aF (Z2 3 27 2 26 rfl (YO aC 0 (aB c0) rfl)) (Z1 2 26 rfl (YM (aB c0) rfl)) (Z1 2 26 rfl (YM (aB c0) rfl)) ?_ (aF (Z3 5 29 7 31 2 26 rfl (YI nE jY (aB c0) rfl rfl)) (Z2 8 32 2 26 rfl (YF uf (aB c0) rfl)) (X2 9 33 2 26 rfl fun hG=>YR aC (aB c0) rfl (aK hG (hpk (by omega)).1)) (Z3 4 28 10 34 2 26 rfl (YC (aB c0) rfl)) (aS (Z2 2 26 11 35 rfl (Pt (aB c0) rfl)) (aS (bK rfl) bX))))) ?_
    ·refine dG 6 30 2 26 rfl rfl fun _ a w G1 hG HT H fin=>?_;refine mR _ H (wg H rfl rfl (aB c0)) rfl rfl rfl (by omega) (by omega) rfl ?_;clear H;intro a H;exact fin H iJ (by show _=_;first|rfl|exact ay vi (by omega))
    clear H;intro a w G Aq H hv;have H:=H.aR (hv 12 36 rfl rfl) rfl;clear hv;refine kH H (Ra rfl ?_);clear H;intro a H;refine aH ⟨rfl,?_⟩;refine K6 _ _ ?_;clear K6;refine uQ H rfl (aB c1) ?_;refine bA (fun _ K7=>?_)
    have e7:iH l k x=7:=by rw [iH,kW,ah (by omega),au (by rw [(hpk (by omega)).2,c1])]
    refine kP H (SC (aU K7 rfl ?_));clear H K7;intro a H;refine lr H results113 rfl ?_
    first
     | exact H.rt (ay vi e0.symm)
     | exact H.rt (ay vi e4.symm)
     | exact H.rt (ay vi e7.symm)
     | exact H.rt (ay vi e13.symm)
     | exact H.rt (ay vi e3.symm)
     | exact H.rt (ay vi e6.symm)
     | exact H.rt (ay vi (by rw [iH,kW,au (by omega)]))
   skip;refine dI hmx [[],[0],[0,1],[0,1,2],(ra 0 4),[0,1,2],[0,1,2],[0,1,2,6],[0,1,2,5,6,7],[0,1,2,5,6,7,8],[0,1,2,5,6,7,8,9],(ra 0 11),(ra 0 12),(ra 0 13)] [13] (by kernel_rfl) [_,_,_,_,vi x.id,_,_,vi ((k - 1:Nat):Int),_,_,_,_,_] H (aF (Z0 rfl (Rm rfl)) (Z1 0 24 rfl (Rc rfl)) (Z1 1 25 rfl (Rm rfl)) (Z1 2 26 rfl (YF uf (aB c0) rfl)) (aF (Z2 3 27 2 26 rfl (YO aC 0 (aB c0) rfl)) (Z1 2 26 rfl (YM (aB c0) rfl)) (Z1 2 26 rfl (YM (aB c0) rfl)) ?_ (aF (Z3 5 29 7 31 2 26 rfl (YI nE jY (aB c0) rfl rfl)) (Z2 8 32 2 26 rfl (YF uf (aB c0) rfl)) (X2 9 33 2 26 rfl fun hG=>YR aC (aB c0) rfl (aK hG (hpk (by omega)).1)) (Z3 4 28 10 34 2 26 rfl (YC (aB c0) rfl)) (aS (Z2 2 26 11 35 rfl (Pt (aB c0) rfl)) (aS (bK rfl) bX))))) ?_
   ·refine dG 6 30 2 26 rfl rfl fun _ a w G1 hG HT H fin=>?_;refine mR _ H (wg H rfl rfl (aB c0)) rfl rfl rfl (by omega) (by omega) rfl ?_;clear H;intro a H;exact fin H iJ (by show _=_;first|rfl|exact ay vi (by omega))
   clear H;intro a w G Aq H hv;have H:=H.aR (hv 12 36 rfl rfl) rfl;clear hv;refine kH H (Ra rfl ?_);clear H;intro a H;refine aH ⟨rfl,?_⟩;refine K6 _ _ ?_;clear K6;refine kS H rfl (aO c1) ?_;refine bA (fun _ K8=>?_)
   have q1:¬ (0 < (k:Int)∧x.id=pk):=by first|exact fun h=>c1 h.2|exact fun h=>c0 h.1
   have q1':¬ wB l k=some x.id:=fun h=>q1 (by
    by_cases h0:0 < k
    ·rw [(hpk h0).2] at h
     injection h with h
     exact ⟨by omega,h.symm⟩
    rw [KN (by omega)] at h
    cases h)
   by_cases c3:x.id < pk
   ·skip;refine dI hmx [[],[0],[0,1],[0,1,2],(ra 0 4),[0,1,2],[0,1,2],[0,1,2,6],[0,1,2,5,6,7],[0,1,2,5,6,7,8],[0,1,2,5,6,7,8,9],(ra 0 11),(ra 0 12),(ra 0 13)] [13] (by kernel_rfl) [_,_,_,_,vi x.id,_,_,vi ((k - 1:Nat):Int),_,_,_,_,_] H (aF (Z0 rfl (Rm rfl)) (Z1 0 38 rfl (Rc rfl)) (Z1 1 39 rfl (Rm rfl)) (Z1 2 40 rfl (YF uf (aB c0) rfl)) (aF (Z2 3 41 2 40 rfl (YO aC 0 (aB c0) rfl)) (Z1 2 40 rfl (YM (aB c0) rfl)) (Z1 2 40 rfl (YM (aB c0) rfl)) ?_ (aF (Z3 5 43 7 45 2 40 rfl (YI nE jY (aB c0) rfl rfl)) (Z2 8 46 2 40 rfl (YF uf (aB c0) rfl)) (X2 9 47 2 40 rfl fun hG=>YR aC (aB c0) rfl (aK hG (aK Aq (hpk (by omega)).1))) (Z3 4 42 10 48 2 40 rfl (YC (aB c0) rfl)) (aS (Z2 2 40 11 49 rfl (Pt (aB c0) rfl)) (aS (bK rfl) bX))))) ?_
    ·refine dG 6 44 2 40 rfl rfl fun _ a w G1 hG HT H fin=>?_;refine mR _ H (wg H rfl rfl (aB c0)) rfl rfl rfl (by omega) (by omega) rfl ?_;clear H;intro a H;exact fin H iJ (by show _=_;first|rfl|exact ay vi (by omega))
    clear H;intro a w G gJ H hv;have H:=H.aR (hv 12 50 rfl rfl) rfl;clear hv;refine kH H (Ra rfl ?_);clear H;intro a H;refine aH ⟨rfl,?_⟩;refine K8 _ _ ?_;clear K8;refine uQ H rfl (aB c3) ?_;refine bA (fun _ K9=>?_)
    have e6:iH l k x=6:=by rw [iH,kW,ah (by omega),ah q1',au (by rw [(hpk (by omega)).2];exact aB c3)]
    refine kP H (SC (aU K9 rfl ?_));clear H K9;intro a H;refine lr H results113 rfl ?_
    first
     | exact H.rt (ay vi e0.symm)
     | exact H.rt (ay vi e4.symm)
     | exact H.rt (ay vi e7.symm)
     | exact H.rt (ay vi e13.symm)
     | exact H.rt (ay vi e3.symm)
     | exact H.rt (ay vi e6.symm)
     | exact H.rt (ay vi (by rw [iH,kW,au (by omega)]))
   skip;refine dI hmx [[],[0],[0,1],[0,1,2],(ra 0 4),[0,1,2],[0,1,2],[0,1,2,6],[0,1,2,5,6,7],[0,1,2,5,6,7,8],[0,1,2,5,6,7,8,9],(ra 0 11),(ra 0 12),(ra 0 13)] [13] (by kernel_rfl) [_,_,_,_,vi x.id,_,_,vi ((k - 1:Nat):Int),_,_,_,_,_] H (aF (Z0 rfl (Rm rfl)) (Z1 0 38 rfl (Rc rfl)) (Z1 1 39 rfl (Rm rfl)) (Z1 2 40 rfl (YF uf (aB c0) rfl)) (aF (Z2 3 41 2 40 rfl (YO aC 0 (aB c0) rfl)) (Z1 2 40 rfl (YM (aB c0) rfl)) (Z1 2 40 rfl (YM (aB c0) rfl)) ?_ (aF (Z3 5 43 7 45 2 40 rfl (YI nE jY (aB c0) rfl rfl)) (Z2 8 46 2 40 rfl (YF uf (aB c0) rfl)) (X2 9 47 2 40 rfl fun hG=>YR aC (aB c0) rfl (aK hG (aK Aq (hpk (by omega)).1))) (Z3 4 42 10 48 2 40 rfl (YC (aB c0) rfl)) (aS (Z2 2 40 11 49 rfl (Pt (aB c0) rfl)) (aS (bK rfl) bX))))) ?_
   ·refine dG 6 44 2 40 rfl rfl fun _ a w G1 hG HT H fin=>?_;refine mR _ H (wg H rfl rfl (aB c0)) rfl rfl rfl (by omega) (by omega) rfl ?_;clear H;intro a H;exact fin H iJ (by show _=_;first|rfl|exact ay vi (by omega))
   clear H;intro a w G gJ H hv;have H:=H.aR (hv 12 50 rfl rfl) rfl;clear hv;refine kH H (Ra rfl ?_);clear H;intro a H;refine aH ⟨rfl,?_⟩;refine K8 _ _ ?_;clear K8;refine kS H rfl (aO c3) ?_;refine bA (fun _ aT=>?_)
   have q2:¬ (0 < (k:Int)∧x.id < pk):=by first|exact fun h=>c3 h.2|exact fun h=>c0 h.1
   have q2':¬ Fv (wB l k) x.id=true:=fun h=>q2 (by
    by_cases h0:0 < k
    ·rw [(hpk h0).2] at h;exact ⟨by omega,om h⟩
    rw [KN (by omega)] at h
    cases h)
   refine kP H (SC (aP vS aC 0 rfl rfl (Rc rfl (Rm rfl (Sp 55 rfl ?_ ?_))))) <;> clear H
   ·intro lF a H
    try have p55:=dT lF
    refine kH H (YF vS lF rfl (YO aC 0 lF rfl (YC lF rfl (Pt lF rfl (aU aT rfl (Cd rfl ?_ ?_)))))) <;> clear H aT
    ·intro jf a H
     try have p51:=dT jf
     refine bA (fun _ bq=>?_)
     have e3:iH l k x=3:=by rw [iH,kW,ah (by omega),ah q1',ah q2',au (by omega)]
     refine kP H (SC (aU bq rfl ?_));clear H bq;intro a H;refine lr H results113 rfl ?_
     first
      | exact H.rt (ay vi e0.symm)
      | exact H.rt (ay vi e4.symm)
      | exact H.rt (ay vi e7.symm)
      | exact H.rt (ay vi e13.symm)
      | exact H.rt (ay vi e3.symm)
      | exact H.rt (ay vi e6.symm)
      | exact H.rt (ay vi (by rw [iH,kW,au (by omega)]))
    intro jf a H
    try have p51:=dF jf
    refine kP H (SR fun _ bF=>aP EP fZ 0 rfl rfl ?_);clear H;intro a H;refine s_call JC H wn rfl (Ko _ _ H.ro x.name hs) rfl ?_;clear H;rintro v63 CX a w rfl hm63 H;refine kH H (Rn rfl (ak bF rfl (Cd rfl ?_ ?_))) <;> clear H bF
    ·intro jg a H
     try have p60:=dT jg
     refine bA (fun _ bJ=>?_)
     have e13:iH l k x=13:=by rw [iH,kW,ah (by omega),ah q1',ah q2',ah (by omega),au (by simpa using jg)]
     refine kP H (SC (aU bJ rfl ?_));clear H bJ;intro a H;refine lr H results113 rfl ?_
     first
      | exact H.rt (ay vi e0.symm)
      | exact H.rt (ay vi e4.symm)
      | exact H.rt (ay vi e7.symm)
      | exact H.rt (ay vi e13.symm)
      | exact H.rt (ay vi e3.symm)
      | exact H.rt (ay vi e6.symm)
      | exact H.rt (ay vi (by rw [iH,kW,au (by omega)]))
    intro jg a H
    try have p60:=dF jg
    refine gI ?_;refine ⟨CX,by exact (H).sub ⟨rfl,rfl,rfl,aD⟩,?_⟩;exact ⟨by omega,q1',q2',by omega,by simpa using jg,fun b o h=>hm63 b o (gJ b o (Aq b o h))⟩
   intro lF a H
   try have p55:=dF lF
   refine kH H (aX lF rfl (Pf lF rfl (aU aT rfl (Cf rfl rfl (SR fun _ bN=>aP EP fZ 0 rfl rfl ?_)))));clear H aT;intro a H;refine s_call JC H wn rfl (Ko _ _ H.ro x.name hs) rfl ?_;clear H;rintro v63 CX a w rfl hm63 H;refine kH H (Rn rfl (ak bN rfl (Cd rfl ?_ ?_))) <;> clear H bN
   ·intro jg a H
    try have p60:=dT jg
    refine bA (fun _ cK=>?_)
    have e13:iH l k x=13:=by rw [iH,kW,ah (by omega),ah q1',ah q2',ah (by omega),au (by simpa using jg)]
    refine kP H (SC (aU cK rfl ?_));clear H cK;intro a H;refine lr H results113 rfl ?_
    first
     | exact H.rt (ay vi e0.symm)
     | exact H.rt (ay vi e4.symm)
     | exact H.rt (ay vi e7.symm)
     | exact H.rt (ay vi e13.symm)
     | exact H.rt (ay vi e3.symm)
     | exact H.rt (ay vi e6.symm)
     | exact H.rt (ay vi (by rw [iH,kW,au (by omega)]))
   intro jg a H
   try have p60:=dF jg
   refine gI ?_;refine ⟨CX,by exact (H).sub ⟨rfl,rfl,rfl,aD⟩,?_⟩;exact ⟨by omega,q1',q2',by omega,by simpa using jg,fun b o h=>hm63 b o (gJ b o (Aq b o h))⟩
  skip;refine dI hmx [[],[0],[0,1],[0,1,2],(ra 0 4),[0,1,2],[0,1,2],[0,1,2,6],[0,1,2,5,6,7],[0,1,2,5,6,7,8],[0,1,2,5,6,7,8,9],(ra 0 11),(ra 0 12),(ra 0 13)] [13] (by kernel_rfl) [_,_,_,undef,undef,undef,undef,undef,undef,undef,undef,undef,_] H (aF (Z0 rfl (Rm rfl)) (Z1 0 24 rfl (Rc rfl)) (Z1 1 25 rfl (Rm rfl)) (aL (j:=2) (by kernel_rfl) (fun _ _ _ _ _ h=>h) rfl rfl rfl rfl rfl (fun _ _ h=>aM h (aG (aO c0))) rfl (fun _=>rfl)) (aF (aL (j:=2) (by kernel_rfl) (fun _ _ _ _ _ h=>h) rfl rfl rfl rfl rfl (fun _ _ h=>aM h (aG (aO c0))) rfl (fun _=>rfl)) (aL (j:=2) (by kernel_rfl) (fun _ _ _ _ _ h=>h) rfl rfl rfl rfl rfl (fun _ _ h=>aM h (aG (aO c0))) rfl (fun _=>rfl)) (aL (j:=2) (by kernel_rfl) (fun _ _ _ _ _ h=>h) rfl rfl rfl rfl rfl (fun _ _ h=>aM h (aG (aO c0))) rfl (fun _=>rfl)) (aL (j:=2) (by kernel_rfl) (fun _ _ _ _ _ h=>h) rfl rfl rfl rfl rfl (fun _ _ h=>aM h (aG (aO c0))) rfl (fun _=>rfl)) (aF (aL (j:=2) (by kernel_rfl) (fun _ _ _ _ _ h=>h) rfl rfl rfl rfl rfl (fun _ _ h=>aM h (aG (aO c0))) rfl (fun _=>rfl)) (aL (j:=2) (by kernel_rfl) (fun _ _ _ _ _ h=>h) rfl rfl rfl rfl rfl (fun _ _ h=>aM h (aG (aO c0))) rfl (fun _=>rfl)) (aL (j:=2) (by kernel_rfl) (fun _ _ _ _ _ h=>h) rfl rfl rfl rfl rfl (fun _ _ h=>aM h (aG (aO c0))) rfl (fun _=>rfl)) (aL (j:=2) (by kernel_rfl) (fun _ _ _ _ _ h=>h) rfl rfl rfl rfl rfl (fun _ _ h=>aM h (aG (aO c0))) rfl (fun _=>rfl)) (aS (Z2 2 26 11 35 rfl (Pf (aO c0) rfl)) (aS (bK rfl) bX))))) ?_
  clear H;intro a w G Aq H hv;have H:=H.aR (hv 12 36 rfl rfl) rfl;clear hv;refine kH H (Ra rfl ?_);clear H;intro a H;refine aH ⟨rfl,?_⟩;refine K6 _ _ ?_;clear K6;refine kS H rfl rfl ?_;refine bA (fun _ dw=>?_)
  have q1:¬ (0 < (k:Int)∧x.id=pk):=by first|exact fun h=>c1 h.2|exact fun h=>c0 h.1
  have q1':¬ wB l k=some x.id:=fun h=>q1 (by
   by_cases h0:0 < k
   ·rw [(hpk h0).2] at h
    injection h with h
    exact ⟨by omega,h.symm⟩
   rw [KN (by omega)] at h
   cases h)
  refine dI hmx [[],[0],[0,1],[0,1,2],(ra 0 4),[0,1,2],[0,1,2],[0,1,2,6],[0,1,2,5,6,7],[0,1,2,5,6,7,8],[0,1,2,5,6,7,8,9],(ra 0 11),(ra 0 12),(ra 0 13)] [13] (by kernel_rfl) [_,_,_,undef,undef,undef,undef,undef,undef,undef,undef,undef,_] H (aF (Z0 rfl (Rm rfl)) (Z1 0 38 rfl (Rc rfl)) (Z1 1 39 rfl (Rm rfl)) (aL (j:=2) (by kernel_rfl) (fun _ _ _ _ _ h=>h) rfl rfl rfl rfl rfl (fun _ _ h=>aM h (aG (aO c0))) rfl (fun _=>rfl)) (aF (aL (j:=2) (by kernel_rfl) (fun _ _ _ _ _ h=>h) rfl rfl rfl rfl rfl (fun _ _ h=>aM h (aG (aO c0))) rfl (fun _=>rfl)) (aL (j:=2) (by kernel_rfl) (fun _ _ _ _ _ h=>h) rfl rfl rfl rfl rfl (fun _ _ h=>aM h (aG (aO c0))) rfl (fun _=>rfl)) (aL (j:=2) (by kernel_rfl) (fun _ _ _ _ _ h=>h) rfl rfl rfl rfl rfl (fun _ _ h=>aM h (aG (aO c0))) rfl (fun _=>rfl)) (aL (j:=2) (by kernel_rfl) (fun _ _ _ _ _ h=>h) rfl rfl rfl rfl rfl (fun _ _ h=>aM h (aG (aO c0))) rfl (fun _=>rfl)) (aF (aL (j:=2) (by kernel_rfl) (fun _ _ _ _ _ h=>h) rfl rfl rfl rfl rfl (fun _ _ h=>aM h (aG (aO c0))) rfl (fun _=>rfl)) (aL (j:=2) (by kernel_rfl) (fun _ _ _ _ _ h=>h) rfl rfl rfl rfl rfl (fun _ _ h=>aM h (aG (aO c0))) rfl (fun _=>rfl)) (aL (j:=2) (by kernel_rfl) (fun _ _ _ _ _ h=>h) rfl rfl rfl rfl rfl (fun _ _ h=>aM h (aG (aO c0))) rfl (fun _=>rfl)) (aL (j:=2) (by kernel_rfl) (fun _ _ _ _ _ h=>h) rfl rfl rfl rfl rfl (fun _ _ h=>aM h (aG (aO c0))) rfl (fun _=>rfl)) (aS (Z2 2 40 11 49 rfl (Pf (aO c0) rfl)) (aS (bK rfl) bX))))) ?_
  clear H;intro a w G gJ H hv;have H:=H.aR (hv 12 50 rfl rfl) rfl;clear hv;refine kH H (Ra rfl ?_);clear H;intro a H;refine aH ⟨rfl,?_⟩;refine dw _ _ ?_;clear dw;refine kS H rfl rfl ?_;refine bA (fun _ bY=>?_)
  have q2:¬ (0 < (k:Int)∧x.id < pk):=by first|exact fun h=>c3 h.2|exact fun h=>c0 h.1
  have q2':¬ Fv (wB l k) x.id=true:=fun h=>q2 (by
   by_cases h0:0 < k
   ·rw [(hpk h0).2] at h;exact ⟨by omega,om h⟩
   rw [KN (by omega)] at h
   cases h)
  refine kP H (SC (aP vS aC 0 rfl rfl (Rc rfl (Rm rfl (Sp 55 rfl ?_ ?_))))) <;> clear H
  ·intro lF a H
   try have p55:=dT lF
   refine kH H (YF vS lF rfl (YO aC 0 lF rfl (YC lF rfl (Pt lF rfl (aU bY rfl (Cd rfl ?_ ?_)))))) <;> clear H bY
   ·intro jf a H
    try have p51:=dT jf
    refine bA (fun _ dz=>?_)
    have e3:iH l k x=3:=by rw [iH,kW,ah (by omega),ah q1',ah q2',au (by omega)]
    refine kP H (SC (aU dz rfl ?_));clear H dz;intro a H;refine lr H results113 rfl ?_
    first
     | exact H.rt (ay vi e0.symm)
     | exact H.rt (ay vi e4.symm)
     | exact H.rt (ay vi e7.symm)
     | exact H.rt (ay vi e13.symm)
     | exact H.rt (ay vi e3.symm)
     | exact H.rt (ay vi e6.symm)
     | exact H.rt (ay vi (by rw [iH,kW,au (by omega)]))
   intro jf a H
   try have p51:=dF jf
   refine kP H (SR fun _ fC=>aP EP fZ 0 rfl rfl ?_);clear H;intro a H;refine s_call JC H wn rfl (Ko _ _ H.ro x.name hs) rfl ?_;clear H;rintro v63 CX a w rfl hm63 H;refine kH H (Rn rfl (ak fC rfl (Cd rfl ?_ ?_))) <;> clear H fC
   ·intro jg a H
    try have p60:=dT jg
    refine bA (fun _ dN=>?_)
    have e13:iH l k x=13:=by rw [iH,kW,ah (by omega),ah q1',ah q2',ah (by omega),au (by simpa using jg)]
    refine kP H (SC (aU dN rfl ?_));clear H dN;intro a H;refine lr H results113 rfl ?_
    first
     | exact H.rt (ay vi e0.symm)
     | exact H.rt (ay vi e4.symm)
     | exact H.rt (ay vi e7.symm)
     | exact H.rt (ay vi e13.symm)
     | exact H.rt (ay vi e3.symm)
     | exact H.rt (ay vi e6.symm)
     | exact H.rt (ay vi (by rw [iH,kW,au (by omega)]))
   intro jg a H
   try have p60:=dF jg
   refine gI ?_;refine ⟨CX,by exact (H).sub ⟨rfl,rfl,rfl,aD⟩,?_⟩;exact ⟨by omega,q1',q2',by omega,by simpa using jg,fun b o h=>hm63 b o (gJ b o (Aq b o h))⟩
  intro lF a H
  try have p55:=dF lF
  refine kH H (aX lF rfl (Pf lF rfl (aU bY rfl (Cf rfl rfl (SR fun _ fQ=>aP EP fZ 0 rfl rfl ?_)))));clear H bY;intro a H;refine s_call JC H wn rfl (Ko _ _ H.ro x.name hs) rfl ?_;clear H;rintro v63 CX a w rfl hm63 H;refine kH H (Rn rfl (ak fQ rfl (Cd rfl ?_ ?_))) <;> clear H fQ
  ·intro jg a H
   try have p60:=dT jg
   refine bA (fun _ iq=>?_)
   have e13:iH l k x=13:=by rw [iH,kW,ah (by omega),ah q1',ah q2',ah (by omega),au (by simpa using jg)]
   refine kP H (SC (aU iq rfl ?_));clear H iq;intro a H;refine lr H results113 rfl ?_
   first
    | exact H.rt (ay vi e0.symm)
    | exact H.rt (ay vi e4.symm)
    | exact H.rt (ay vi e7.symm)
    | exact H.rt (ay vi e13.symm)
    | exact H.rt (ay vi e3.symm)
    | exact H.rt (ay vi e6.symm)
    | exact H.rt (ay vi (by rw [iH,kW,au (by omega)]))
  intro jg a H
  try have p60:=dF jg
  refine gI ?_;refine ⟨CX,by exact (H).sub ⟨rfl,rfl,rfl,aD⟩,?_⟩;exact ⟨by omega,q1',q2',by omega,by simpa using jg,fun b o h=>hm63 b o (gJ b o (Aq b o h))⟩
 clear H;intro gh a w hI H;obtain ⟨g,hgh⟩:∃ x,x=gh:=⟨_,rfl⟩;subst hgh;obtain ⟨q0,q1',q2',q3,q4,hgm⟩:=hI;dsimp only [lca,bg] at H;refine bA (fun _ jA=>?_);refine bA (fun _ jo=>?_);have VG:=(hv.mono hgm).pre k (by rw [bQ];omega);rw [← List.map_take] at VG;have agj:=hp.mono hgm;refine dI hmx [[],[],[0,1],[],[3],[],[5],(ra 0 7),(ra 0 8),(ra 0 9),(ra 0 9),(ra 0 10),(ra 0 12)] [12] (by kernel_rfl) [_,_,.slice (some ⟨b,o,none⟩) k c,_,vi x.kind,_,.string x.name,.tuple #[vi (max (nP (BP (l.take k) x.kind x.name)) 0),.bool (BP (l.take k) x.kind x.name).isSome],_,vi (max (nP (BP (l.take k) x.kind x.name)) 0),.bool (BP (l.take k) x.kind x.name).isSome,_] H (aF (Z0 rfl (Rm rfl)) (Z0 rfl (Rm rfl)) ?_ (Z0 rfl (Rf vS rfl)) (aF (Z1 3 69 rfl (Ro aC 0 rfl)) (Z0 rfl (Rf EP rfl)) (Z1 5 71 rfl (Ro fZ 0 rfl)) ?_ (aF (Z1 7 73 rfl (Rm rfl)) ?_ ?_ (Z1 9 74 rfl (Ra rfl)) (aS (bK rfl) bX)))) ?_
 ·refine dG 0 66 1 67 rfl rfl fun _ a w G1 hG HT H fin=>?_;refine XI nE jY k H wn rfl rfl rfl (by omega) rfl ?_;clear H;intro a H;exact fin H iJ rfl
 ·refine qg 2 68 4 70 6 72 rfl rfl fun _ a w G1 hG HT H fin=>?_;refine s_call ach H wn rfl (aeo _ _ H.ro (l.take k) x.kind x.name _ (VG.mono hG)) rfl ?_;clear H;rintro v73 G73 a w rfl aeU H;exact fin H aeU (rfl)
 ·refine dR 8 65 rfl rfl fun _ a w G1 hG HT H fin=>?_;refine kN H wn rfl rfl rfl ?_;clear H;intro a H;exact fin H iJ rfl
 ·refine dR 8 65 rfl rfl fun _ a w G1 hG HT H fin=>?_;refine kN H wn rfl rfl rfl ?_;clear H;intro a H;exact fin H iJ rfl
 clear H;intro a w G qo H hv;have H:=H.aR (hv 10 75 rfl rfl) rfl;clear hv;refine kH H (Ra rfl ?_);clear H;intro a H;refine aH ⟨rfl,?_⟩;refine jo _ _ ?_;clear jo;refine kP H (SR fun _ jc=>Rm rfl (Kz jc (Cd rfl ?_ ?_))) <;> clear H jc
 ·intro Al a H
  try have PY:=dT Al
  refine bA (fun _ jG=>?_)
  have e7:iH l k x=7:=by rw [iH,kW,ah (by omega),ah q1',ah q2',ah q3,ah q4,au Al]
  refine kP H (SC (aU jG rfl ?_));clear H jG;intro a H;refine lr H results113 rfl ?_
  first
   | exact H.rt (ay vi e0.symm)
   | exact H.rt (ay vi e4.symm)
   | exact H.rt (ay vi e7.symm)
   | exact H.rt (ay vi e13.symm)
   | exact H.rt (ay vi e3.symm)
   | exact H.rt (ay vi e6.symm)
   | exact H.rt (ay vi (by rw [iH,kW,au (by omega)]))
 intro Al a H
 try have PY:=dF Al
 refine kP H (Kc jA (SQ fun _ jM=>SQ fun _ iI=>?_));clear H jA;intro a H
 have q5:¬ (BP (l.take k) x.kind x.name).isSome=true:=by simpa using Al
 have qy:=agj.mono qo;refine kP H (SC (aP Uk Bt 0 rfl rfl (Rl oQ rfl (Rm rfl (Kn iI (SB ?_))))));clear H iI;intro a H;skip;refine eT (ι:=Nat) (Tc:=[(5,_),(78,_),(79,_)]) (Lc:=[(_,_)]) (fun gh=>[(80,vi gh)]) (fun gh=>[]) (fun gh=>G) (fun gh=>gh≤x.props.length∧(x.props.take gh).any (fun p=>EG p.key)=false) (fun gh=>x.props.length - gh) (0) (by exact (H).sub ⟨rfl,rfl,rfl,rfl,aD⟩) ?_ ?_
 ·exact ⟨iy _,rfl⟩
 clear H;intro gh a w hI H;obtain ⟨n,hgh⟩:∃ x,x=gh:=⟨_,rfl⟩;subst hgh;obtain ⟨hn,hno⟩:=hI;dsimp only [lca,bg] at H;refine kP H (SR fun _ lU=>Rc rfl (Kz lU (SQ fun _ mJ=>Cd rfl ?_ ?_))) <;> clear H lU
 ·intro Dw a H
  try have P5:=dT Dw
  have hn2:n < x.props.length:=by omega
  obtain ⟨pb,po,rfl,hrow2⟩:=KO qy hn2;have hrow:=hrow2;refine kP H (Kc mJ (SQ fun _ nH=>SB (SR fun _ mV=>Ri oQ nD rfl rfl ?_)));clear H mJ;intro a H;refine bD nD (cs:=[_,_]) H wn rfl rfl (fun j v hj=>H.hp.aI (hrow j v hj)) rfl ?_;clear H;intro a H;refine eB nD H wn rfl ?_;clear H;intro b9 a w ze H;refine bH nD 0 (vs:=[_,_]) _ H wn rfl rfl rfl rfl rfl rfl rfl rfl ?_;clear H;intro w H;dsimp only [List.set,setRow] at H;refine mV _ _ ?_;clear mV;refine kP H (SR fun _ mK=>aP uV aC 0 rfl rfl (Rc rfl (Rm rfl (Sp 87 rfl ?_ ?_)))) <;> clear H
  ·intro h87 a H
   try have Ij:=dT h87
   refine kH H (aX h87 rfl (Pt h87 rfl (Kz mK (Ct rfl rfl (SQ fun _ nZ=>?_)))));clear H mK;intro a H
   have e4:iH l k x=4:=by
    rw [iH,kW,ah (by omega),ah q1',ah q2',ah q3,ah q4,ah q5,au];rw [List.any_eq_true];exact ⟨x.props[n],iL hn2,by simp [EG];omega⟩
   refine kP H (SC (aU nZ rfl ?_));clear H nZ;intro a H;refine lr H results113 rfl ?_
   first
    | exact H.rt (ay vi e0.symm)
    | exact H.rt (ay vi e4.symm)
    | exact H.rt (ay vi e7.symm)
    | exact H.rt (ay vi e13.symm)
    | exact H.rt (ay vi e3.symm)
    | exact H.rt (ay vi e6.symm)
    | exact H.rt (ay vi (by rw [iH,kW,au (by omega)]))
  intro h87 a H
  try have Ij:=dF h87
  refine kH H (YF uV h87 rfl (YO aC 0 h87 rfl (YC h87 rfl (Pf h87 rfl (Kz mK (Cd rfl ?_ ?_)))))) <;> clear H mK
  ·intro NT a H
   try have p91:=dT NT
   refine bA (fun _ oV=>?_)
   have e4:iH l k x=4:=by
    rw [iH,kW,ah (by omega),ah q1',ah q2',ah q3,ah q4,ah q5,au];rw [List.any_eq_true];exact ⟨x.props[n],iL hn2,by simp [EG];omega⟩
   refine kP H (SC (aU oV rfl ?_));clear H oV;intro a H;refine lr H results113 rfl ?_
   first
    | exact H.rt (ay vi e0.symm)
    | exact H.rt (ay vi e4.symm)
    | exact H.rt (ay vi e7.symm)
    | exact H.rt (ay vi e13.symm)
    | exact H.rt (ay vi e3.symm)
    | exact H.rt (ay vi e6.symm)
    | exact H.rt (ay vi (by rw [iH,kW,au (by omega)]))
  intro NT a H
  try have p91:=dF NT
  refine kP H (Kc nH (SC (Rd rfl (Rm rfl ?_))));clear H nH;intro a H;refine aH ?_;refine cu ((n+1)) (by exact (H.dK (Pl:=[_,_]) (cB:=[_]) [1] (by decide) rfl).sub ⟨rfl,rfl,rfl,rfl,aD⟩) ?_ ?_
  ·exact ⟨by omega,by rw [jq hn2,List.any_append,hno];simp [EG];omega⟩
  first|omega|(dsimp only;omega)
 intro Dw a H
 try have P5:=dF Dw
 refine dU ?_;refine jM _ _ ?_;clear jM;refine bA (fun _ nI=>?_)
 have q6:¬ x.props.any (fun p=>EG p.key)=true:=by
  rw [show x.props.take n=x.props from jH (by omega)] at hno;rw [hno];decide
 have e0:iH l k x=gM (if x.kind=1 then 2 else 1) x.props:=by rw [iH,kW,ah (by omega),ah q1',ah q2',ah q3,ah q4,ah q5,ah q6]
 refine dI hmx [[],[0],[0,1],[],[3],(ra 0 5),(ra 0 6)] [5,6] (by kernel_rfl) [_,vi x.kind,vi (if x.kind=1 then 2 else 1),_,.slice pA x.props.length pc] H (aF (Z0 rfl (Rf vS rfl)) (Z1 0 93 rfl (Ro aC 0 rfl)) ?_ (Z0 rfl (Rf Uk rfl)) (aS (Z1 3 96 rfl (Ro Bt 0 rfl)) (aS (bK rfl) (aS (bK rfl) bX)))) ?_
 ·refine dR 1 94 rfl rfl fun _ a w G1 hG HT H fin=>?_;refine s_call aci H wn rfl (abH _ _ H.ro x.kind) rfl ?_;clear H;rintro v95 Zp a w rfl aeX H;exact fin H aeX (rfl)
 clear H;intro a w G EU H hv;have H:=H.aR (hv 2 95 rfl rfl) rfl;have H:=H.aR (hv 4 97 rfl rfl) rfl;clear hv;refine s_call Ua H wn rfl (Xi _ _ H.ro _ x.props _ (qy.mono EU)) rfl ?_;clear H;rintro v98 G98 a w rfl alu H;refine kH H (Ra rfl ?_);clear H;intro a H;refine aH ⟨rfl,?_⟩;refine nI _ _ ?_;clear nI;refine lr H results113 rfl ?_
 first
  | exact H.rt (ay vi e0.symm)
  | exact H.rt (ay vi e4.symm)
  | exact H.rt (ay vi e7.symm)
  | exact H.rt (ay vi e13.symm)
  | exact H.rt (ay vi e3.symm)
  | exact H.rt (ay vi e6.symm)
  | exact H.rt (ay vi (by rw [iH,kW,au (by omega)]))
end
section
open Go.RowKit
theorem uI:Ty prog 33 1 24 [.slice none 0 0] false:=⟨by kernel_rfl,by kernel_rfl⟩
theorem tF:prog.underlying 33=some (.slice 67):=by kernel_rfl
theorem qF:Ty prog 67 6 64 [.int .i64 0,.int .i64 0,.string ⟨#[]⟩,.int .i64 0,.string ⟨#[]⟩,.bool false] true:=⟨by kernel_rfl,by kernel_rfl⟩
theorem Ag:bW prog 67 0 0:=⟨by kernel_rfl⟩
theorem JL:bW prog 67 1 1:=⟨by kernel_rfl⟩
theorem abR:∀ args w,(callFunc 112 args).run prog w=.ok (.enter 112 args) w:=enters func112 rfl (by kernel_rfl)
theorem TY:∀ args w,(callFunc 78 args).run prog w=.ok (.enter 78 args) w:=enters func78 rfl (by kernel_rfl)
theorem aej:bW prog 67 2 2:=⟨by kernel_rfl⟩
theorem T9:∀ args w,(callFunc 88 args).run prog w=.ok (.enter 88 args) w:=enters func88 rfl (by kernel_rfl)
theorem aek:bW prog 67 3 3:=⟨by kernel_rfl⟩
theorem ael:bW prog 67 4 4:=⟨by kernel_rfl⟩
theorem Na:∀ args w,(callFunc 122 args).run prog w=.ok (.enter 122 args) w:=enters func122 rfl (by kernel_rfl)
theorem abZ:∀ args w,(callFunc 121 args).run prog w=.ok (.enter 121 args) w:=enters func121 rfl (by kernel_rfl)
theorem abY:∀ args w,(callFunc 120 args).run prog w=.ok (.enter 120 args) w:=enters func120 rfl (by kernel_rfl)
theorem abX:∀ args w,(callFunc 119 args).run prog w=.ok (.enter 119 args) w:=enters func119 rfl (by kernel_rfl)
theorem DV {G:GH} {b:Nat} (l:List Int) (h:G b=some (.cells (l.map vi).toArray 56 (0,0))) (hl:l.length≤maxLen):av G (.sl 1 (l.map fun k=>[li k])) (.slice (some ⟨b,0,none⟩) l.length l.length) :=
 av.eu h (by simp) (bU _) hl (jH (by simp)) (fu G l)
theorem EL {G:GH} {l:List eO} {A:Option Addr} {n c k:Nat} (hv:av G (.sl 6 (l.map eO.dat)) (.slice A n c)) (hk:k < l.length):∃ b o,A=some ⟨b,o,none⟩∧(∀ j u,l[k].cells[j]?=some u→aI G b (o+k*6+j)=some u)∧aZ G l[k].dat l[k].cells:=by
 obtain ⟨A',c',he,_,_,hg⟩:=hv.slice
 injection he with e1 e2 e3
 subst e1;obtain ⟨b,o,cs,h1,h2,h3,h4⟩:=hg k l[k].dat (by simp [hk]);have:=MV h4;subst this;exact ⟨b,o,h1,h3,h4⟩
theorem abl {G:GH} {bl:Nat} {l:List eO} {A:Option Addr} {n c:Nat} (hb:aI G bl 0=some (.slice A n c)) (hv:av G (.sl 6 (l.map eO.dat)) (.slice A n c)):rG (.func (.func 121) #[] #[(aJ bl 0)]) G l.length fun k=>(l[k]?.map eO.id).getD 0:=by
 intro k hk G1 w0 hm hG;refine lX (caps:=[(aJ bl 0)]) abZ ?_;replace hb:=aK hm hb
 obtain rfl:n=l.length:=by have:=hv.len;simpa using this
 obtain ⟨b,o,rfl,hrow,-⟩:=EL (hv.mono hm) hk;have hq:=hrow 0 _ rfl;refine eN [(0,_),(1,_)] func121 rfl ntmps121 rfl rfl hG ?_;intro a H;refine kP H (SR fun _ K1=>ak K1 rfl (SR fun _ K2=>Rg uI rfl (by assumption) ?_));clear H K1;intro a H;refine kH H (Rm rfl (Ri tF qF rfl rfl (Rf Ag rfl (Rg aC rfl (by assumption) ?_))));clear H;intro a H;exact kH H (ak K2 rfl (LR results121 rfl fun H=>H.rt (by dsimp only;rw [gY hk];rfl)))
theorem abn {G:GH} {bc:Nat} {x:eO} (hb:aI G bc 1=some (vi x.parent)) (y:eO):uM (.func (.func 120) #[] #[(aJ bc 0)]) G y.dat (decide (y.id=x.parent)):=by
 intro G1 w0 cs hm hG hr;refine lX (caps:=[(aJ bc 0)]) abY ?_;obtain rfl:=MV hr;replace hb:=aK hm hb;refine eN [(0,_),(1,_)] func120 rfl ntmps120 rfl rfl hG ?_;intro a H;refine dB (fun _ K1=>?_);refine eU (cs:=[_,_,_,_,_,_]) H wn rfl rfl rfl ?_;clear H;intro b2 a w hb2 H;refine kH H (ak K1 rfl (SR fun _ K2=>aP Ag aC 0 rfl rfl (Rf JL rfl (Rg aC rfl (by assumption) ?_))));clear H K1;intro a H;exact kH H (Rc rfl (ak K2 rfl (LR results120 rfl fun H=>H.rt rfl)))
theorem agI (G:GH) (w0:World) (hG:Hold G w0) (l:List eO) (p:eO→Bool) (v fv:aj) (hv:av G (.sl 6 (l.map eO.dat)) v) (hf:∀ x∈l,uM fv G x.dat (p x)) :
  Calls prog 112 #[v,fv] w0 (bE w0 G fun u G'=>u=vi (nP (l.findIdx? p))):=by
 obtain ⟨A,c,rfl,hc1,hc2,hg⟩:=hv.slice;have hml:maxLen=9223372036854775807:=rfl;rw [bQ] at *;refine eN [(0,_),(1,_)] func112 rfl ntmps112 rfl rfl hG ?_;intro a H;refine kP H (SR fun _ K1=>ak K1 rfl (SQ fun _ K2=>SR fun _ K3=>Rm rfl (Rl tF rfl (Rm rfl (Kz K3 (SB ?_))))));clear H K1 K3;intro a H;skip;refine eT (ι:=Nat × GH) (Tc:=[(0,_),(1,_),(7,_)]) (Lc:=[]) (fun gh=>[(8,vi gh.1)]) (fun gh=>[]) (fun gh=>gh.2) (fun gh=>gh.1≤l.length∧(l.take gh.1).findIdx? p=none∧(∀ b o,G b=some o→gh.2 b=some o)) (fun gh=>l.length - gh.1) ((0,G)) (by exact (H).sub ⟨rfl,rfl,rfl,rfl,aD⟩) ?_ ?_
 ·exact ⟨by omega,rfl,fun _ _ h=>h⟩
 clear H;intro gh a w hI H;obtain ⟨k,g⟩:=gh;dsimp only at hI H;obtain ⟨hk,hno,hgm⟩:=hI;dsimp only [lca,bg] at H;refine kP H (SR fun _ K4=>Rc rfl (Kz K4 (SQ fun _ K5=>Cd rfl ?_ ?_))) <;> clear H K4
 ·intro h9 a H
  try have p9:=dT h9
  have hk2:k < l.length:=by omega
  obtain ⟨b,o,rfl,hrow,hrep⟩:=EL hv hk2;refine kP H (Kc K5 (SQ fun _ K6=>SB (SR fun _ K7=>Rm rfl (ak K7 rfl (SR fun _ K8=>Rm rfl (Rm rfl (Rm rfl (Ri tF qF rfl rfl ?_))))))));clear H K5 K7;intro a H;refine bD qF (cs:=l[k].cells) H wn rfl rfl (fun j v hj=>H.hp.aI (aK hgm (hrow j v hj))) rfl ?_;clear H;intro a H;refine pX H wn rfl rfl (hf _ (iL hk2) _ _ _ hgm H.ro (hrep.mono hgm)) rfl ?_;clear H;rintro v16 rF a w rfl rQ H;refine K8 _ _ ?_;clear K8;refine kr H rfl ?_ ?_
  ·intro h16
   try have p16:=dT h16
   refine kP H (SR fun _ K9=>Rm rfl (ak K9 rfl ?_));clear H K9;intro a H;refine lr H results112 rfl ?_
   first
    | exact H.rt (by rw [uF hk2 hno h16];rfl)
    | exact H.rt (by rw [show l.take k=l from jH (by omega)] at hno;rw [hno];rfl)
  intro h16
  try have p16:=dF h16
  refine kP H (Kc K6 (SC (Rd rfl (Rm rfl ?_))));clear H K6;intro a H;refine aH ?_;refine cu ((k+1,rF)) (by exact (H).sub ⟨rfl,rfl,rfl,rfl,aD⟩) ?_ ?_
  ·(try dsimp only);exact ⟨by omega,AX hk2 hno h16,fun b o h=>rQ b o (hgm b o h)⟩
  first|omega|(dsimp only;omega)
 intro h9 a H
 try have p9:=dF h9
 refine dU ?_;refine K2 _ _ ?_;clear K2;refine kP H (SR fun _ aT=>ak aT rfl ?_);clear H aT;intro a H;refine lr H results112 rfl ?_
 first
  | exact H.rt (by rw [uF hk2 hno h16];rfl)
  | exact H.rt (by rw [show l.take k=l from jH (by omega)] at hno;rw [hno];rfl)
theorem Ti (G:GH) (w0:World) (hG:Hold G w0) (l:List eO) (p:eO→Bool) (v fv:aj) (hv:av G (.sl 6 (l.map eO.dat)) v) (hf:∀ x∈l,uM fv G x.dat (p x)) :
  Calls prog 78 #[v,fv] w0 (bE w0 G fun u G'=>u=.bool (l.findIdx? p).isSome):=by
 obtain ⟨A,c,rfl,hc1,hc2,-⟩:=hv.slice;rw [bQ] at *;refine eN [(0,_),(1,_)] func78 rfl ntmps78 rfl rfl hG ?_;intro a H;refine kP H (SR fun _ K1=>ak K1 rfl (SR fun _ K2=>Rm rfl (Rm rfl ?_)));clear H K1;intro a H;refine s_call abR H wn rfl (agI _ _ H.ro l p _ _ hv hf) rfl ?_;clear H;rintro v7 G7 a w rfl AJ H;exact kH H (Rc rfl (ak K2 rfl (LR results78 rfl fun H=>H.rt (aG (Pq _)))))
def EH (l:List eO) (i:Nat) (x:eO):Bool:=decide (x.parent=0) || ((l.take i).findIdx? fun y=>decide (y.id=x.parent)).isSome
def MU (l:List eO) (i:Nat) (x:eO):Int:=dH [oN (fun k=>(l[k]?.map eO.id).getD 0) i,bV (!EH l i x) 8,bV (!vP x.author) 39,bV (!decide (0≤x.time∧x.time≤1099511627776)) 40,Bq x.text]
def EK (l:List eO) (i:Nat):Int:=match l[i]? with|some x=>MU l i x|none=>0
theorem abk {G:GH} {bl:Nat} {l:List eO} {A:Option Addr} {n c:Nat} (hb:aI G bl 0=some (.slice A n c)) (hv:av G (.sl 6 (l.map eO.dat)) (.slice A n c)) (hl:l.length≤4294967296) (ht:∀ x∈l,x.author.size < 4611686018427387904∧x.text.size < 4611686018427387904):rG (.func (.func 119) #[] #[(aJ bl 0)]) G l.length (EK l):=by
 intro k hk G1 w0 hm hG;refine lX (caps:=[(aJ bl 0)]) abX ?_;replace hb:=aK hm hb;replace hv:=hv.mono hm;have hcb:=abl hb hv;obtain ⟨_,_,hee,hvc,-,-⟩:=hv.slice
 injection hee with _ _ hcc
 subst hcc;rw [bQ] at hvc
 obtain rfl:n=l.length:=by have:=hv.len;simpa using this
 obtain ⟨b,o,rfl,hrow,hrep⟩:=EL hv hk;have hte:=ht _ (iL hk);obtain ⟨x,hx⟩:∃ x,x=l[k]:=⟨_,rfl⟩;rw [← hx] at hrow hte
 have he:EK l k=MU l k x:=by unfold EK;rw [gY hk,hx]
 refine eN [(0,_),(1,_)] func119 rfl ntmps119 rfl rfl hG ?_;intro a H;refine kP H (SR fun _ K1=>ak K1 rfl (SR fun _ K2=>Rg uI rfl (by assumption) ?_));clear H K1;intro a H;refine kH H (Rm rfl (Ri tF qF rfl rfl ?_));clear H;intro a H;refine bD qF (cs:=x.cells) H wn rfl rfl (fun j v hj=>H.hp.aI (hrow j v hj)) rfl ?_;clear H;intro a H;refine eB qF H wn rfl ?_;clear H;intro b4 a w hb4 H;refine bH qF 0 (vs:=[_,_,_,_,_,_]) _ H wn rfl rfl rfl rfl rfl rfl rfl rfl ?_;clear H;intro w H;dsimp only [List.set,setRow] at H;obtain ⟨Ga,hma,uZ,H⟩:=H.dP
 have hcell:∀ (j:Nat) (u:aj),x.cells[j]?=some u→aI Ga b4 j=some u:=fun j u hj=>by unfold aI;rw [uZ];simpa using hj
 have q1:=hcell 1 _ rfl;have hbA:=aK hma hb;have VI:=(hv.mono hma).pre k (by rw [bQ];omega);rw [← List.map_take] at VI;refine K2 _ _ ?_;clear K2;refine pF (ι:=Bool × GH) (Tc:=[(0,_),(1,_),(4,_)]) (Lc:=[]) (fun gh=>[(5,.bool gh.1)]) (fun gh=>[]) (fun gh=>gh.2) (fun gh=>gh.1=EH l k x∧(∀ b o,Ga b=some o→gh.2 b=some o)) (by exact (H).sub ⟨rfl,rfl,rfl,aD⟩) ?_ ?_
 ·skip;refine kP H (SC (Rf JL rfl (Rg aC rfl (by assumption) ?_)));clear H;intro a H;refine kH H (Rc rfl (Rm rfl (Sp 13 rfl ?_ ?_))) <;> clear H
  ·intro gy a H
   try have qC:=dT gy
   refine kH H (aX gy rfl (aQ gy rfl (Pt gy rfl (Ra rfl ?_))));clear H;intro a H;refine aH ?_;refine ⟨(_,_),by exact (H).sub ⟨rfl,rfl,rfl,rfl,aD⟩,?_⟩;(try dsimp only)
   first
   | exact ⟨by unfold EH;rw [iQ (by assumption)];rfl,fun _ _ h=>h⟩
   | exact ⟨by unfold EH;rw [gL (by assumption)];rfl,hm18⟩
  intro gy a H
  try have qC:=dF gy
  refine kH H (YR uI gy rfl (by assumption) ?_);clear H;intro a H;refine kH H (YM gy rfl ?_);clear H;intro a H;refine XI tF qF k H (wg H rfl rfl gy) rfl rfl rfl (by omega) rfl ?_;clear H;intro a H;refine pY H (wg H rfl rfl gy) rfl rfl ?_;clear H;intro a H;refine s_call TY H (wg H rfl rfl gy) rfl (Ti _ _ H.ro (l.take k) (fun y=>decide (y.id=x.parent)) _ _ VI (fun y _=>abn q1 y)) rfl ?_;clear H;rintro v18 Q5 a w rfl hm18 H;refine kH H (Pf gy rfl (Ra rfl ?_));clear H;intro a H;refine aH ?_;refine ⟨(_,_),by exact (H).sub ⟨rfl,rfl,rfl,rfl,aD⟩,?_⟩;(try dsimp only)
  first
  | exact ⟨by unfold EH;rw [iQ (by assumption)];rfl,fun _ _ h=>h⟩
  | exact ⟨by unfold EH;rw [gL (by assumption)];rfl,hm18⟩
 clear H;intro gh a w hI H;obtain ⟨bf,g⟩:=gh;dsimp only at hI H;obtain ⟨hbf,hgm⟩:=hI;replace hcell:=fun j u hj=>aK hgm (hcell j u hj);replace hcb:=(hcb.mono hma).mono hgm;dsimp only [lca,bg] at H;refine bA (fun _ K3=>?_);have H:=H.sub (T':=[(0,_),(1,_),(4,_),(5,_)]) ⟨rfl,rfl,rfl,rfl,aD⟩;refine dI hmx [[],[],[0,1],[],[3],(ra 0 5),[],[6],(ra 0 8),(ra 0 9),(ra 0 10),[],[11],(ra 0 13),(ra 0 14),(ra 0 15),[],[16],(ra 0 18),(ra 0 19),(ra 0 20),(ra 0 21)] [19,20,21] (by kernel_rfl) [_,.func (.func 121) #[] #[(aJ bl 0)],vi (oN (fun k=>(l[k]?.map eO.id).getD 0) k),_,_,vi (bV (!bf) 8),_,_,.bool (vP x.author),_,vi (bV (!vP x.author) 39),_,_,.bool (decide (0≤x.time∧x.time≤1099511627776)),_,vi (bV (!decide (0≤x.time∧x.time≤1099511627776)) 40),_,_,vi (Bq x.text)] H (aF (Z0 rfl (Rm rfl)) ?_ ?_ (Z0 rfl (Rm rfl)) (aF (Z1 3 23 rfl (Rn rfl)) ?_ (Z0 rfl (Rf aej rfl)) (X1 6 26 rfl fun hG=>Rg fZ rfl (aK hG (hcell 2 _ rfl))) (aF ?_ (Z1 8 28 rfl (Rn rfl)) ?_ (Z0 rfl (Rf aek rfl)) (aF (X1 11 31 rfl fun hG=>Rg aC rfl (aK hG (hcell 3 _ rfl))) ?_ (Z1 13 33 rfl (Rn rfl)) ?_ (aF (Z0 rfl (Rf ael rfl)) (X1 16 36 rfl fun hG=>Rg fZ rfl (aK hG (hcell 4 _ rfl))) ?_ (bK rfl) (aS (bK rfl) (aS (bK rfl) bX))))))) ?_
 ·refine wM rfl fun _ a w G1 hG HT H fin=>?_;refine pY H wn rfl rfl ?_;clear H;intro a H;exact fin H iJ rfl
 ·refine dG 0 20 1 21 rfl rfl fun _ a w G1 hG HT H fin=>?_;refine s_call Nq H wn rfl (Po _ _ H.ro k _ _ (by omega) (fun i hi=>(hcb.mono hG) i (by omega))) rfl ?_;clear H;rintro v22 Y7 a w rfl N7 H;exact fin H N7 (rfl)
 ·refine dR 4 24 rfl rfl fun _ a w G1 hG HT H fin=>?_;refine s_call iW H wn rfl (iZ _ _ H.ro _ 8) rfl ?_;clear H;rintro v25 Y8 a w ⟨rfl,-⟩ aeO H;exact fin H aeO (rfl)
 ·refine dR 7 27 rfl rfl fun _ a w G1 hG HT H fin=>?_;refine s_call T9 H wn rfl (Sq _ _ H.ro x.author hte.1) rfl ?_;clear H;rintro v28 Y9 a w ⟨rfl,-⟩ aeP H;exact fin H aeP (rfl)
 ·refine dR 9 29 rfl rfl fun _ a w G1 hG HT H fin=>?_;refine s_call iW H wn rfl (iZ _ _ H.ro _ 39) rfl ?_;clear H;rintro v30 CW a w ⟨rfl,-⟩ N9 H;exact fin H N9 (rfl)
 ·refine dR 12 32 rfl rfl fun _ a w G1 hG HT H fin=>?_;refine s_call uU H wn rfl (vv _ _ H.ro x.time 0 1099511627776) rfl ?_;clear H;rintro v33 Za a w ⟨rfl,-⟩ aeQ H;exact fin H aeQ (rfl)
 ·refine dR 14 34 rfl rfl fun _ a w G1 hG HT H fin=>?_;refine s_call iW H wn rfl (iZ _ _ H.ro _ 40) rfl ?_;clear H;rintro v35 Q6 a w ⟨rfl,-⟩ Oa H;exact fin H Oa (rfl)
 ·refine dR 17 37 rfl rfl fun _ a w G1 hG HT H fin=>?_;refine s_call Na H wn rfl (QD _ _ H.ro x.text hte.2) rfl ?_;clear H;rintro v38 Me a w rfl aeR H;exact fin H aeR (rfl)
 clear H;intro a w G UQ H hv;have H:=H.aR (hv 2 22 rfl rfl) rfl;have H:=H.aR (hv 5 25 rfl rfl) rfl;have H:=H.aR (hv 10 30 rfl rfl) rfl;have H:=H.aR (hv 15 35 rfl rfl) rfl;have H:=H.aR (hv 18 38 rfl rfl) rfl;clear hv;refine gQ oF gK [_,_,_,_,_] [_,_,_,_,_] H wn rfl rfl rfl rfl rfl (by intro i q h;match i,h with|0,h=>exact h|1,h=>exact h|2,h=>exact h|3,h=>exact h|4,h=>exact h|n+5,h=>simp at h) rfl rfl ?_;clear H;intro b39 a w afp H;obtain ⟨Q7,afO,afq,H⟩:=H.dP;refine s_call pI H wn rfl (pJ _ _ H.ro _ _ (DV [oN (fun k=>(l[k]?.map eO.id).getD 0) k,bV (!bf) 8,bV (!vP x.author) 39,bV (!decide (0≤x.time∧x.time≤1099511627776)) 40,Bq x.text] afq (show 5≤maxLen by decide))) rfl ?_;clear H;rintro v40 _ a w ⟨rfl,rfl⟩ - H;refine kH H (Ra rfl ?_);clear H;intro a H;refine aH ⟨rfl,?_⟩;refine K3 _ _ ?_;clear K3;refine lr H results119 rfl ?_;exact H.rt (by rw [he,MU,← hbf])
def Jv (l:List eO):Int:=dH [bV (decide (1024 < (l.length:Int))) 9,ko (EK l) (min l.length 1024)]
theorem aaM (G:GH) (w0:World) (hG:Hold G w0) (l:List eO) (v:aj) (hv:av G (.sl 6 (l.map eO.dat)) v) (hl:l.length≤4294967296) (ht:∀ x∈l,x.author.size < 4611686018427387904∧x.text.size < 4611686018427387904) :
  Calls prog 82 #[v] w0 (bE w0 G fun u G'=>u=vi (Jv l)):=by
 obtain ⟨A,c,rfl,hc1,hc2,-⟩:=hv.slice;rw [bQ] at *;refine eN [(0,_)] func82 rfl ntmps82 rfl rfl hG ?_;intro a H;refine dB (fun _ K1=>?_);refine eU (cs:=[_]) H wn rfl rfl rfl ?_;clear H;intro b1 a w hb1 H;refine kH H (ak K1 rfl (SQ fun _ K2=>?_));clear H K1;intro a H;have H:=H.sub (T':=[(1,_)]) ⟨rfl,aD⟩;obtain ⟨Ga,hma,hb1',H⟩:=H.dP
 have hbl:aI Ga b1 0=some (.slice A l.length c):=by unfold aI;rw [hb1'];rfl
 have hcb:=abk hbl (hv.mono hma) hl ht;refine dI hmx [[],[0],[0,1],[0,1,2],[],[4],[4,5],[],(ra 0 8),(ra 0 9),(ra 0 10),(ra 0 11)] [9,10,11] (by kernel_rfl) [_,_,_,vi (bV (decide (1024 < (l.length:Int))) 9),_,_,vi ((min l.length 1024:Nat):Int),.func (.func 119) #[] #[(aJ b1 0)],vi (ko (EK l) (min l.length 1024))] H (aF (X0 rfl fun hG=>Rg uI rfl (aK hG hbl)) (Z1 0 3 rfl (Rl tF rfl)) (Z1 1 4 rfl (Rc rfl)) ?_ (aF (X0 rfl fun hG=>Rg uI rfl (aK hG hbl)) (Z1 4 7 rfl (Rl tF rfl)) ?_ ?_ (aF ?_ (bK rfl) (bK rfl) (bK rfl) bX))) ?_
 ·refine dR 2 5 rfl rfl fun _ a w G1 hG HT H fin=>?_;refine s_call iW H wn rfl (iZ _ _ H.ro _ 9) rfl ?_;clear H;rintro v6 G6 a w ⟨rfl,-⟩ gJ H;exact fin H gJ (rfl)
 ·refine dR 5 8 rfl rfl fun _ a w G1 hG HT H fin=>?_;refine La H wn rfl rfl rfl ?_;clear H;intro a H;exact fin H iJ (ay vi (by omega))
 ·refine wM rfl fun _ a w G1 hG HT H fin=>?_;refine pY H wn rfl rfl ?_;clear H;intro a H;exact fin H iJ rfl
 ·refine dG 6 9 7 10 rfl rfl fun _ a w G1 hG HT H fin=>?_;refine s_call EO H wn rfl (Gf _ _ H.ro (min l.length 1024) (EK l) _ (by omega) ((hcb.mono hG).le (Nat.min_le_left _ _))) rfl ?_;clear H;rintro v11 tL a w rfl iY H;exact fin H iY (rfl)
 clear H;intro a w G nu H hv;have H:=H.aR (hv 3 6 rfl rfl) rfl;have H:=H.aR (hv 8 11 rfl rfl) rfl;clear hv;refine gQ oF gK [_,_] [_,_] H wn rfl rfl rfl rfl rfl (by intro i q h;match i,h with|0,h=>exact h|1,h=>exact h|n+2,h=>simp at h) rfl rfl ?_;clear H;intro b12 a w Aw H;obtain ⟨BA,DC,Dy,H⟩:=H.dP;refine s_call pI H wn rfl (pJ _ _ H.ro _ _ (wE Dy)) rfl ?_;clear H;rintro v13 _ a w ⟨rfl,rfl⟩ - H;refine kH H (Ra rfl ?_);clear H;intro a H;refine aH ⟨rfl,?_⟩;refine K2 _ _ ?_;clear K2;refine lr H results82 rfl ?_;exact H.rt rfl
end
section
open Go.RowKit
def vB:Nat→List Int→List MapEntry
 | _,[]=>[]
 | i,k :: r=>⟨.int .i64 k,.int .i64 (i:Int),i⟩ :: vB (i+1) r
theorem Wt (x:Int):∀ (i:Nat) (l:List Int),vB i (l++[x])=vB i l++[⟨.int .i64 x,.int .i64 ((i+l.length:Nat):Int),i+l.length⟩]
 | _,[]=>rfl
 | i,k :: r=>by
  rw [mW,vB,Wt x (i+1) r,vB,mW,nL,show i+1+r.length=i+(r.length+1) by omega]
def tq (x:Int):Nat→List Int→Option Nat
 | _,[]=>none
 | i,k :: r=>if k=x then some i else tq x (i+1) r
theorem VO {x:Int}:∀ {l:List Int} {i n:Nat},tq x i l=some n→i≤n
 | [],_,_,h=>by cases h
 | k :: r,i,n,h=>by
  rw [tq] at h;split at h
  ·cases h;exact bU _
  ·have:=VO h;omega
theorem VQ {x:Int}:∀ {l:List Int} {i:Nat},x∉l→tq x i l=none
 | [],_,_=>rfl
 | k :: r,i,h=>by
  rw [tq,ah (fun e=>h (by simp [e])),VQ (fun hm=>h (jN _ hm))]
theorem NC (x:Int):∀ (i j:Nat) (l:List Int),Instr.findNow (.int .i64) (.int .i64 x) (vB i l) j=some ((tq x i l).map fun n=>(j+(n - i),.int .i64 (n:Int)))
 | _,_,[]=>rfl
 | i,j,k :: r=>by
  have ih:=NC x (i+1) (j+1) r
  by_cases e:k=x
  ·subst e
   simp only [vB,Instr.findNow,Instr.sameNow,au,tq,beq_self_eq_true]
   simp
  ·have hb:(x == k)=false:=by simp;exact fun h=>e h.symm
   simp only [vB,Instr.findNow,Instr.sameNow,au,hb,tq,ah e,ih]
   cases h:tq x (i+1) r with
   | none=>rfl
   | some n =>
    have:=VO h
    simp only [Option.map_some,nK,gP,and_true]
    omega
abbrev aai (b:Nat) (l:List Int):Nat × Obj:=(b,.map (vB 0 l).toArray l.length)
theorem ahv (l:List Int) (x:Int):(vB 0 l).toArray.push ⟨.int .i64 x,.int .i64 (l.length:Int),l.length⟩=(vB 0 (l++[x])).toArray:=by
 rw [Wt,List.push_toArray,kR]
end
section
open Go.RowKit
section
variable {P:Program} {N:Nat} {D:List Deferred} {w0 w w':World} {F:Nat→Prop} {G0 G G':GH} {L L' Li Lo:OL} {T:List (Nat × aj)} {a a':Act} {Q:Exit→Act→World→Prop}
variable {r:Option Nat} {ops:Array Oper} {rest:List Oper}
def Mi (P:Program) (Gi:GH) (B:OL) (gv:aj) (xs:List AP):Prop :=
 ∀ (J:Nat→GH→OL→Prop) (Jx:GH→OL→Prop) (fv:aj) (G:GH) (L:OL) (w:World),fv.cells=#[fv]→(∀ b o,Gi b=some o→G b=some o)→CY J→ED Jx→J 0 G L→gX G (B++L) w→FV P fv G xs J Jx →
  tH P gv [fv] w (gH w G (B++L) fun _ G' L'=>J xs.length G' L'∨Jx G' L')
theorem Mi.mono {Gi BF:GH} {B:OL} {gv:aj} {xs:List AP} (h:Mi P Gi B gv xs) (hm:∀ b o,Gi b=some o→BF b=some o):Mi P BF B gv xs :=
 fun J Jx fv G L w h0 h1=>h J Jx fv G L w h0 fun b o hb=>h1 b o (hm b o hb)
end
end
section
open Go.RowKit
section
variable {P:Program} {N:Nat} {D:List Deferred} {w0 w w':World} {F:Nat→Prop} {G0 G G':GH} {L L' Li Lo:OL} {T:List (Nat × aj)} {a a':Act} {Q:Exit→Act→World→Prop}
variable {r:Option Nat} {ops:Array Oper} {rest:List Oper}
def Ey (P:Program) (Gi:GH) (B:OL) (gv:aj) (xs:List AP) (fin:Bool):Prop :=
 ∀ (J:Nat→GH→OL→Prop) (Jx:GH→OL→Prop) (fv:aj) (G:GH) (L:OL) (w:World),fv.cells=#[fv]→(∀ b o,Gi b=some o→G b=some o)→CY J→ED Jx→J 0 G L→gX G (B++L) w→FV P fv G xs J Jx→(fin=false→∀ g l,¬ J xs.length g l) →
  tH P gv [fv] w (gH w G (B++L) fun _ G' L'=>J xs.length G' L'∨Jx G' L')
theorem Ey.mono {Gi BF:GH} {B:OL} {gv:aj} {xs:List AP} {fin:Bool} (h:Ey P Gi B gv xs fin) (hm:∀ b o,Gi b=some o→BF b=some o):Ey P BF B gv xs fin :=
 fun J Jx fv G L w h0 h1=>h J Jx fv G L w h0 fun b o hb=>h1 b o (hm b o hb)
theorem aat {fin:Bool} {B:OL} {xu:Operand} {ps:List Nat} {assign body:Code} {gf:FuncId} {caps:List aj} {xs:List AP} {Gi:GH}
  (H:St N D w0 F G0 G (B++L) T a w) (hg:ev T xu=some (.func (.func gf) #[] caps.toArray)) (en:∀ args w,(callFunc gf args).run P w=.ok (.enter gf args) w) (hit:Ey P Gi B (.func (.func gf) #[] caps.toArray) xs fin) (hGi:∀ b o,Gi b=some o→G b=some o)
  (hps:ps.all (Nat.blt · N)=true) (hlen:∀ k args g,uK xs k args g→args.length=ps.length)
  (J:Nat→GH→OL→Prop) (Jx:Code→GH→OL→Prop) (hno:fin=false→∀ g l,¬ J xs.length g l) (uY:CY J) (hJx:∀ c,ED (Jx c)) (h0:J 0 G L) (O6:Ms P N ps assign body T G J Jx xs)
  (hdone:∀ Dk G1 L1 a1 w1,(∀ b o,G b=some o→G1 b=some o)→J xs.length G1 L1→St N ({ target:=.collected Dk,args:=#[] } :: D) w0 F G0 G1 ((Dk,.deferred (some [])) :: L1) T a1 w1→Q .normal a1 w1)
  (hstop:∀ Dk c G1 L1 a1 w1,(∀ b o,G b=some o→G1 b=some o)→Jx c G1 L1→St N ({ target:=.collected Dk,args:=#[] } :: D) w0 F G0 G1 ((Dk,.deferred (some [])) :: L1) T a1 w1→WP none P c Q a1 w1) :
  WP none P (.rangeFunc xu ps.toArray assign body) Q a w:=by
 refine wpIn_rangeFunc ?_
 intro fn _
 have hev:=H.ev hg
 let q:Rec:=⟨fn,a.tmps,ps.toArray,assign,body,w.heap.size⟩
 obtain ⟨W1,hW1⟩:∃ W1,W1=(w.alloc (.deferred (some []))).alloc (q.at .ready none):=⟨_,rfl⟩
 have H1:Hp w0 F G0 G (B++((w.heap.size+1,q.at .ready none) :: (w.heap.size,.deferred (some [])) :: L)) W1:=by
  have:=(H.hp.alloc (.deferred (some []))).alloc (q.at .ready none)
  rw [World.size_alloc] at this
  rw [hW1]
  refine this.perm ?_
  have e:=zV (l₁:=[(w.heap.size+1,q.at .ready none),(w.heap.size,Obj.deferred (some []))]) (l₂:=B)
  have e2:=List.Perm.append_right L e
  rw [oo,oo] at e2
  exact e2
 refine ⟨w.heap.size+1,[{ target:=.collected w.heap.size,args:=#[] }],W1,{ target:=.fn (.func gf) caps.toArray,args:=#[.func (.yield (w.heap.size+1)) #[] #[]] },W1,gf,
  #[.func (.yield (w.heap.size+1)) #[] #[]]++caps.toArray,W1,by rw [hW1];exact run_enterLoop_outer fn a.tmps ps.toArray assign body,?_,fun _ _=>trivial,?_,IZ none,?_⟩
 ·simp only [resolve,rangeCall,hev]
  simp [Deferred.ofValue,Act.eval]
 ·simp [invoke,en]
 ·have hcv:=hit (fun k=>Jr (w.heap.size+1) q [(w.heap.size,.deferred (some []))] (J k)) (I8 (w.heap.size+1) q [(w.heap.size,.deferred (some []))] Jx) (.func (.yield (w.heap.size+1)) #[] #[]) G
   ((w.heap.size+1,q.at .ready none) :: (w.heap.size,.deferred (some [])) :: L) W1 rfl hGi (fun k G G' L hm ⟨Lu,e,h⟩=>⟨Lu,e,uY k G G' Lu hm h⟩) (fun G G' L hm ⟨c,Lu,e,h⟩=>⟨c,Lu,e,hJx c G G' Lu hm h⟩) ⟨L,rfl,h0⟩ (Hp.owns (Li:=[]) H1) (SV H.lC H.get hps hlen O6) (fun e g l ⟨Lu,_,h⟩=>hno e g Lu h)
  replace hcv:=hcv.go
  have e:(do let d ← Deferred.ofValue (.func (.func gf) #[] caps.toArray) [Value.func (.yield (w.heap.size+1)) #[] #[]].toArray;invoke d.target d.args:Sem Next).run P W1=.ok (.enter gf (#[.func (.yield (w.heap.size+1)) #[] #[]]++caps.toArray)) W1:=by
   simp [Deferred.ofValue,invoke,en]
  rw [e] at hcv
  refine (MO hcv).mono ?_
  rintro e w2 ⟨v,G2,L2,rfl,hch,hJ⟩
  have H2:=Hp.change (Li:=[]) H1 hch
  rcases hJ with ⟨Lu,rfl,hJ⟩|⟨c,Lu,rfl,hJ⟩
  ·have hl:=H2.own _ (gD)
   have H3:=(H2.upd (i:=0) rfl (CJ (q.at .exhausted none) hl)).drop (zU _ _)
   exact ⟨none,_,run_endLoop hl (by simp),hdone _ G2 Lu _ _ hch.gm hJ ⟨H.lC,H.get,by simp [H.qm],H3⟩⟩
  ·have hl:=H2.own _ (gD)
   have H3:=(H2.upd (i:=0) rfl (CJ (q.at .exhausted (some c)) hl)).drop (zU _ _)
   exact ⟨some c,_,run_endLoop hl (by simp),hstop _ c G2 Lu _ _ hch.gm hJ ⟨H.lC,H.get,by simp [H.qm],H3⟩⟩
theorem aau {fin:Bool} {B:OL} {ι κ:Type} {Lc:OL} {xu:Operand} {ps:List Nat} {assign body:Code} {gf:FuncId} {caps:List aj} {xs:List AP} {Gi:GH}
  (Lv:Nat→ι→OL) (Lt:Nat→ι→OL) (inv:Nat→ι→GH→Prop) (cx:κ→Code) (Lx Db:κ→OL) (xU:κ→GH→Prop) (i0:ι)
  (H:St N D w0 F G0 G (B++(Lc++Lv 0 i0++Lt 0 i0)) T a w) (hg:ev T xu=some (.func (.func gf) #[] caps.toArray)) (en:∀ args w,(callFunc gf args).run P w=.ok (.enter gf args) w) (hit:Ey P Gi B (.func (.func gf) #[] caps.toArray) xs fin) (hGi:∀ b o,Gi b=some o→G b=some o)
  (hno:fin=false→∀ i g,¬ inv xs.length i g) (hps:ps.all (Nat.blt · N)=true) (hlen:∀ k args g,uK xs k args g→args.length=ps.length) (hinv:∀ k i (G G':GH),(∀ b o,G b=some o→G' b=some o)→inv k i G→inv k i G') (OG:∀ x (G G':GH),(∀ b o,G b=some o→G' b=some o)→xU x G→xU x G') (h0:inv 0 i0 G)
  (round:∀ (l:Nat) (Cr yO:Obj) (bk:OL) (k:Nat) (args:List aj) (i:ι) (G1:GH) (w1:World) (F1:Nat→Prop) (B1:Code→Exit→Act→World→Prop) (a1:Act),uK xs k args G1→(∀ b o,G b=some o→G1 b=some o)→inv k i G1 →
   (∀ T' G2 L2 a2 w2 c,St N [] w1 F1 G1 G2 ((l,Cr) :: L2) T' a2 w2→(∀ w3,St N [] w1 F1 G1 G2 ((l,yO) :: L2) T' a2 w3→WP (some l) P c (B1 c) a2 w3)→Exit.then (fun a2 w2=>∃ w3,(Instr.beginRound l).run P w2=.ok () w3∧c.wpIn (FW (some l)) 0 P (B1 c) a2 w3) (fun _ _ _=>False) .normal a2 w2) →
   (∀ i' T' G2 a2 w2 c,St N [] w1 F1 G1 G2 ((l,yO) :: (Lc++Lv (k+1) i'++(bk++Lt (k+1) i'))) T' a2 w2→inv (k+1) i' G2→B1 c .normal a2 w2) →
   (∀ x T' G2 a2 w2 c,St N [] w1 F1 G1 G2 ((l,yO) :: (Lc++Lx x++(bk++Db x))) T' a2 w2→xU x G2→(cx x=.ret→B1 c .ret a2 w2)∧∀ n,cx x=.exit n→B1 c (.exit n) a2 w2) →
   St N [] w1 F1 G1 G1 ((l,Cr) :: (Lc++Lv k i++(bk++Lt k i))) (wU ps args T) a1 w1 →
   WP (some l) P assign (Exit.then (fun a2 w2=>∃ w3,(Instr.beginRound l).run P w2=.ok () w3∧body.wpIn (FW (some l)) 0 P (B1 body) a2 w3) (fun _ _ _=>False)) a1 w1)
  (hdone:∀ Dk i G1 a1 w1,(∀ b o,G b=some o→G1 b=some o)→inv xs.length i G1→St N ({ target:=.collected Dk,args:=#[] } :: D) w0 F G0 G1 ((Dk,.deferred (some [])) :: (Lc++Lv xs.length i++Lt xs.length i)) T a1 w1→Q .normal a1 w1)
  (hstop:∀ Dk x G1 a1 w1,(∀ b o,G b=some o→G1 b=some o)→xU x G1→St N ({ target:=.collected Dk,args:=#[] } :: D) w0 F G0 G1 ((Dk,.deferred (some [])) :: (Lc++Lx x++Db x)) T a1 w1→WP none P (cx x) Q a1 w1) :
  WP none P (.rangeFunc xu ps.toArray assign body) Q a w:=by
 refine aat (J:=fun k g L=>∃ i,L=Lc++Lv k i++Lt k i∧inv k i g) (Jx:=fun c g L=>∃ x,c=cx x∧L=Lc++Lx x++Db x∧xU x g) H hg en hit hGi hps hlen (hno:=fun e g l ⟨i,_,h⟩=>hno e i g h) (fun k G G' L hm ⟨i,e,h⟩=>⟨i,e,hinv k i G G' hm h⟩) (fun c G G' L hm ⟨x,e1,e2,h⟩=>⟨x,e1,e2,OG x G G' hm h⟩) ⟨i0,rfl,h0⟩ ?_ ?_ ?_
 ·rintro l q bk k args G1 L1 w1 a1 hk hm ⟨i,rfl,hi⟩ H1
  have pm:∀ A B:OL,(bk++(A++B)).Perm (A++(bk++B)):=fun A B=>by
   rw [← oo,← oo]
   exact List.Perm.append_right B zV
  refine round l (q.at .ready none) (q.at .busy none) bk k args i G1 w1 _ (fun _=>roundPost P l _) a1 hk hm hi ?_ ?_ ?_ (H1.perm (List.Perm.cons _ (pm _ _)))
  ·intro T' G2 L2 a2 w2 c H2 h
   exact SK H2 h
  ·intro i' T' G2 a2 w2 c H2 h2
   exact Fy none (H2.perm (List.Perm.cons _ (pm _ _).symm)) ⟨_,rfl,i',rfl,h2⟩
  ·intro x T' G2 a2 w2 c H2 h2
   have H3:=H2.perm (List.Perm.cons _ (pm _ _).symm)
   refine ⟨fun e=>?_,fun n e=>?_⟩
   ·exact Fy (some .ret) H3 ⟨_,_,rfl,x,e.symm,rfl,h2⟩
   ·exact Fy (some (.exit n)) H3 ⟨_,_,rfl,x,e.symm,rfl,h2⟩
 ·rintro Dk G1 L1 a1 w1 hm ⟨i,rfl,hi⟩ H1
  exact hdone Dk i G1 a1 w1 hm hi H1
 ·rintro Dk c G1 L1 a1 w1 hm ⟨x,rfl,rfl,hx⟩ H1
  exact hstop Dk x G1 a1 w1 hm hx H1
end
end
section
open Go.RowKit
theorem Ep:prog.underlying 114=some (.map 3 3):=by kernel_rfl
theorem sD:Ty prog 31 1 24 [.slice none 0 0] false:=⟨by kernel_rfl,by kernel_rfl⟩
theorem Nv:bW prog 181 3 3:=⟨by kernel_rfl⟩
theorem TG:∀ args w,(callFunc 135 args).run prog w=.ok (.enter 135 args) w:=enters func135 rfl (by kernel_rfl)
theorem VP {x:Int}:∀ {l:List Int} {i n:Nat},tq x i l=some n→n < i+l.length
 | [],_,_,h=>by cases h
 | k :: r,i,n,h=>by
  rw [tq] at h;split at h
  ·cases h;simp
  have:=VP h;simp only [nL];omega
def vQ (l:List bL):Nat→Int→List bL
 | 0,_=>[]
 | f+1,id=>if id=0 then [] else match tq id 0 (l.map bL.id) with|none=>[]|some i=>match l[i]? with|none=>[]|some s=>s :: vQ l f s.base
def EJ (l:List bL) (id:Int):List bL:=vQ l (l.length+1) id
theorem aaJ {l:List bL} {f:Nat} {id:Int} (h:id=0):vQ l f id=[]:=by
 cases f with
 | zero=>rfl
 | succ f=>rw [vQ,au h]
theorem aaH {l:List bL} {f:Nat} {id:Int} (h0:¬ id=0) (h:tq id 0 (l.map bL.id)=none):vQ l f id=[]:=by
 cases f with
 | zero=>rfl
 | succ f=>rw [vQ,ah h0,h]
theorem aaI {l:List bL} {f i:Nat} {id:Int} (h0:¬ id=0) (h:tq id 0 (l.map bL.id)=some i) (hi:i < l.length):vQ l (f+1) id=l[i] :: vQ l f l[i].base:=by
 rw [vQ,ah h0,h];dsimp only;rw [gY hi]
def stP (x:bL):AP:=fun args g=>∃ cs,args=[.agg cs.toArray]∧aZ g x.dat cs
theorem X7 {A:List bL} {k:Nat} {args:List aj} {g:GH} (h:uK (A.map stP) k args g):∃ (hk:k < A.length) (cs:List aj),args=[.agg cs.toArray]∧aZ g A[k].dat cs:=by
 obtain ⟨p,hp,hargs⟩:=h;rw [qL] at hp;obtain ⟨q,hq,rfl⟩:=lK.1 hp;obtain ⟨hk,rfl⟩:=jk.1 hq;obtain ⟨cs,h1,h2⟩:=hargs;exact ⟨hk,cs,h1,h2⟩
abbrev bI (b:Nat) (n:Int):Nat × Obj:=(b,.cells #[vi n] 3 (0,0))
set_option maxHeartbeats 1000000 in
theorem aaK {G:GH} {bl bi:Nat} {l:List bL} {id:Int} {v:aj} (hb:aI G bl 0=some v) (hv:av G (.sl 6 (l.map bL.dat)) v) (hnd:∀ (k:Nat) (h:k < l.length),l[k].id∉(l.take k).map bL.id) :
  Ey prog G [bI bi id] (.func (.func 135) #[] #[(aJ bl 0),(aJ bi 0)]) ((EJ l id).map stP) (decide ((EJ l id).length≤l.length)):=by
 intro J Jx fv G1 L w0 U6 hGi uY hJx hJ hO hcb hfin;refine lX (caps:=[(aJ bl 0),(aJ bi 0)]) TG ?_;obtain ⟨A,c,rfl,hc1,hc2,-⟩:=hv.slice;have hml:maxLen=9223372036854775807:=rfl;rw [bQ] at *;replace hb:=aK hGi hb;replace hv:=hv.mono hGi;refine jO (N:=46) (T:=[(0,_),(1,_),(2,_)]) func135 rfl ntmps135 rfl rfl hO ?_;intro a H;refine dB (fun _ K1=>?_);refine Cx H wn rfl ?_;clear H;intro bm a w sQ H;refine kH H (ak K1 rfl (SQ fun _ K2=>SR fun _ K3=>Rg sD rfl (by assumption) ?_));clear H K1;intro a H;refine kH H (Rl nE rfl (Rm rfl (Kz K3 (SB ?_))));clear H K3;intro a H;skip;refine eT (ι:=Nat) (Tc:=[(0,_),(1,_),(2,_),(4,_),(10,_),(11,_)]) (Lc:=[(_,_)]) (fun gh=>[(12,vi gh)]) (fun gh=>[aai bm ((l.take gh).map bL.id)]++L) (fun gh=>G1) (fun gh=>gh≤l.length) (fun gh=>l.length - gh) (0) (by exact (H.dK (Pl:=[_,_]) (cB:=[_,_]) [1,0] (by decide) rfl).sub ⟨rfl,rfl,rfl,rfl,rfl,rfl,rfl,aD⟩) ?_ ?_
 ·exact iy _
 clear H;intro gh a w hI H;obtain ⟨k,hgh⟩:∃ x,x=gh:=⟨_,rfl⟩;subst hgh;have hk:=hI;dsimp only [lca,bg] at H;refine kP H (SR fun _ K4=>Rc rfl (Kz K4 (SQ fun _ K5=>Cd rfl ?_ ?_))) <;> clear H K4
 ·intro gy a H
  try have qC:=dT gy
  have hk2:k < l.length:=by omega
  obtain ⟨b,o,pA,pc,rfl,hrow,hp,hrep⟩:=Bp hv hk2;have agb:=hnd k hk2
  have hlk:((l.take k).map bL.id).length=k:=by rw [bQ,List.length_take];omega
  have hnx:(l.take k).map bL.id++[l[k].id]=(l.take (k+1)).map bL.id:=by rw [jq hk2,mZ];rfl
  refine kP H (Kc K5 (SQ fun _ K6=>SB (SR fun _ K7=>Rm rfl (Ri nE jY rfl rfl ?_))));clear H K5;intro a H;refine bD jY (cs:=[_,_,_,_,_,_]) H wn rfl rfl (fun j v hj=>H.hp.aI (hrow j v hj)) rfl ?_;clear H;intro a H;refine eB jY H wn rfl ?_;clear H;intro b6 a w hb6 H;refine kH H (Ra rfl ?_);clear H;intro a H;refine bH jY 0 (vs:=[_,_,_,_,_,_]) _ H wn rfl rfl rfl rfl rfl rfl rfl rfl ?_;clear H;intro w H;dsimp only [List.set,setRow] at H;refine K7 _ _ ?_;clear K7;refine kP H (SC (Rm rfl (aP uf aC 0 rfl rfl (Rm rfl ?_))));clear H;intro a H;refine Qp (i:=2) (ky:=vi l[k].id) (v:=vi k) Ep nG H wn rfl rfl rfl rfl (by trivial) (by rw [List.toList_toArray,NC,VQ agb];rfl) ?_;clear H;intro w H
  have hpush:((vB 0 ((l.take k).map bL.id)).toArray.push ⟨vi l[k].id,vi k,((l.take k).map bL.id).length⟩)=(vB 0 ((l.take (k+1)).map bL.id)).toArray:=by rw [← hnx,← ahv,hlk]
  rw [hpush,show ((l.take k).map bL.id).length+1=((l.take (k+1)).map bL.id).length by rw [← hnx];simp] at H;refine kH H (Kn K6 (SC (Rd rfl (Rm rfl ?_))));clear H K6;intro a H;refine aH ?_;refine cu ((k+1)) (by exact (H.dK (Pl:=[_,_,_]) (cB:=[_,_]) [1,2] (by decide) rfl).sub ⟨rfl,rfl,rfl,rfl,rfl,rfl,rfl,aD⟩) ?_ ?_
  ·exact by omega
  first|omega|(dsimp only;omega)
 intro gy a H
 try have qC:=dF gy
 obtain rfl:k=l.length:=by omega
 rw [wT] at H;refine dU ?_;refine K2 _ _ ?_;clear K2;refine yP ?_;skip;refine eT (ι:=Int × Nat × Nat × OL × GH) (Tc:=[(0,_),(1,_),(2,_),(4,_)]) (Lc:=[(_,_)]) (fun gh=>[]) (fun gh=>[bI bi gh.1]++gh.2.2.2.1) (fun gh=>gh.2.2.2.2) (fun gh=>(∀ b o,G1 b=some o→gh.2.2.2.2 b=some o)∧Now ((EJ l id).map stP) stP J (EJ l id).length gh.2.2.1 (vQ l gh.2.1 gh.1) gh.2.2.2.2 gh.2.2.2.1∧gh.2.2.1+gh.2.1=l.length+1) (fun gh=>gh.2.1) ((id,l.length+1,0,L,G1)) (by exact (H.dK (Pl:=[_,_]) (cB:=[_,_]) [1,0] (by decide) rfl).sub ⟨rfl,rfl,rfl,rfl,aD⟩) ?_ ?_
 ·exact ⟨fun _ _ h=>h,⟨hJ,fun i a h=>by rw [kR,qL];rw [show vQ l (l.length+1) id=EJ l id from rfl] at h;rw [h];rfl,kR _⟩,kR _⟩
 clear H;intro gh a w hI H;obtain ⟨i,f,j1,Lt,g⟩:=gh;dsimp only at hI H;obtain ⟨hgm,dZ,hjf⟩:=hI;have hbg:=aK hgm hb;dsimp only [lca,bg] at H;refine kP H (SQ fun _ K8=>SR fun _ K9=>Ro aC 1 rfl (Rc rfl (Kz K9 (Cd rfl ?_ ?_)))) <;> clear H K9
 ·intro h23 a H
  try have rU:=dT h23
  have h0:¬ i=0:=by simpa using h23
  obtain ⟨an,han⟩:∃ an,an=tq i 0 (l.map bL.id):=⟨_,rfl⟩;have hfn:=NC i 0 0 (l.map bL.id);rw [← han] at hfn;refine kP H (Kc K8 (SB (SR fun _ aT=>Rm rfl (Ro aC 1 rfl ?_))));clear H K8;intro a H;refine aiU (i:=0) (zv:=vi 0) _ Ep nG (by kernel_rfl) H wn rfl rfl rfl (by trivial) (by simpa using hfn) rfl ?_;clear H;intro a H;refine kH H (Rm rfl ?_);clear H;intro a H;(iterate 2 refine kN H wn rfl rfl rfl ?_;clear H;intro a H);refine kH H (Ra rfl (ak aT rfl (SQ fun _ bq=>SR fun _ bF=>Rm rfl (Rn rfl (Rm rfl (Sp 32 rfl ?_ ?_)))))) <;> clear H aT
  ·intro h32 a H
   try have p32:=dT h32
   obtain rfl:an=none:=by
    cases an with
    | none=>rfl
    | some n=>simp [Ba] at h32
   rw [aaH h0 han.symm] at dZ;refine kH H (aX h32 rfl (aQ h32 rfl (aQ h32 rfl (Pt h32 rfl (Kz bF (Ct rfl rfl ?_))))));clear H bF;intro a H;refine cZ ?_;refine (leave0 H results135 ?_).1;refine H.hp.fI (L':=Lt) (by repeat (first|exact fV _|apply List.Sublist.cons)) (.inl ?_);have h:=dZ.len
   simp only [List.length_nil,tT] at h
   rw [← h];exact dZ.now
  intro h32 a H
  try have p32:=dF h32
  obtain ⟨n,rfl⟩:∃ n,an=some n:=by
   cases an with
   | none=>simp [Ba] at h32
   | some n=>exact ⟨n,rfl⟩
  have hnl:n < l.length:=by have:=VP han.symm;simpa using this
  obtain ⟨f',rfl⟩:∃ f',f=f'+1:=by
   cases f with
   | succ f'=>exact ⟨f',rfl⟩
   | zero =>
    exfalso
    have hl:=dZ.len
    simp only [vQ,List.length_nil,tT] at hl
    refine hfin (gL (by omega)) g Lt ?_;rw [← hl];exact dZ.now
  rw [aaI h0 han.symm hnl] at dZ;dsimp only [Ba,Option.map_some] at H;obtain ⟨b,o,pA,pc,rfl,hrow,hp,hrep⟩:=Bp (hv.mono hgm) hnl;refine kH H (YM h32 rfl (YR sD h32 rfl (by assumption) ?_));clear H;intro a H;refine kH H (YM h32 rfl (YI nE jY h32 rfl rfl ?_));clear H;intro a H;refine bD jY (cs:=[_,_,_,_,_,_]) H (wg H rfl rfl h32) rfl rfl (fun j v hj=>H.hp.aI (hrow j v hj)) rfl ?_;clear H;intro a H;refine FC (Li:=[_,_]) (L:=Lt) H (wg H rfl rfl h32) rfl rfl (hcb j1 _ _ _ _ ⟨_,dZ.head,_,rfl,hrep⟩ hgm dZ.now (Hp.owns (Li:=[_,_]) H.hp)) rfl ?_;clear H;rintro v38 Me R4 a w ⟨b38,rfl,hb1,hb2⟩ Fa H;have hbg:=aK Fa hbg;have r3:=aK Fa (hrow 3 _ rfl);refine kH H (YN h32 rfl (Pf h32 rfl (Kz bF (Cd rfl ?_ ?_)))) <;> clear H bF
  ·intro lD a H
   try have p40:=dT lD
   refine cZ ?_;refine (leave0 H results135 ?_).1;exact H.hp.fI (L':=R4) (by repeat (first|exact fV _|apply List.Sublist.cons)) (.inr (hb2 (by simpa using lD)))
  intro lD a H
  try have p40:=dF lD
  refine kP H (Kc bq (SC (Rg sD rfl (by assumption) ?_)));clear H bq;intro a H;refine kH H (Rm rfl (Ri nE jY rfl rfl (Rf Nv rfl (Rg aC rfl (by assumption) ?_))));clear H;intro a H;refine bH aC 1 (vs:=[_]) _ H wn rfl rfl rfl rfl rfl rfl rfl rfl ?_;clear H;intro w H;dsimp only [List.set,setRow] at H;refine aH ?_;refine cu ((l[n].base,f',j1+1,R4,Me)) (by exact (H).sub ⟨rfl,rfl,rfl,rfl,aD⟩) ?_ ?_
  ·(try dsimp only);exact ⟨fun b o h=>Fa b o (hgm b o h),dZ.step (hb1 (by simpa using lD)),by omega⟩
  first|omega|(dsimp only;omega)
 intro h23 a H
 try have rU:=dF h23
 refine dU ?_;refine (leave0 H results135 ?_).2;rw [aaJ (by simpa using h23)] at dZ;refine H.hp.fI (L':=Lt) (by repeat (first|exact fV _|apply List.Sublist.cons)) (.inl ?_);have h:=dZ.len
 simp only [List.length_nil,tT] at h
 rw [← h];exact dZ.now
end
section
open Go.RowKit
theorem abT:∀ args w,(callFunc 115 args).run prog w=.ok (.enter 115 args) w:=enters func115 rfl (by kernel_rfl)
theorem abS:∀ args w,(callFunc 113 args).run prog w=.ok (.enter 113 args) w:=enters func113 rfl (by kernel_rfl)
theorem M9:∀ args w,(callFunc 114 args).run prog w=.ok (.enter 114 args) w:=enters func114 rfl (by kernel_rfl)
theorem JG:bW prog 181 4 4:=⟨by kernel_rfl⟩
theorem aaL {G:GH} {w0:World} (hO:gX G [] w0) (l:List bL) (id:Int) (v:aj) (hv:av G (.sl 6 (l.map bL.dat)) v) :
  Calls prog 115 #[v,vi id] w0 (gH w0 G [] fun u G' L'=>∃ bl bi,u=.func (.func 135) #[] #[(aJ bl 0),(aJ bi 0)]∧L'=[bI bi id]∧aI G' bl 0=some v):=by
 obtain ⟨A,c,rfl,hc1,hc2,-⟩:=hv.slice;refine jO (N:=6) (T:=[(0,_),(1,_)]) func115 rfl ntmps115 rfl rfl hO ?_;intro a H;refine dB (fun _ K1=>?_);refine eU (cs:=[_]) H wn rfl rfl rfl ?_;clear H;intro b2 a w hb2 H;refine eU (cs:=[_]) H wn rfl rfl rfl ?_;clear H;intro b3 a w hb3 H;refine kH H (ak K1 rfl (SR fun _ K2=>?_));clear H K1;intro a H;refine pY H wn rfl rfl ?_;clear H;intro a H;refine kH H (ak K2 rfl ?_);clear H K2;intro a H;refine lr H results115 rfl ?_;have H:=H.dK (Pl:=[_,_]) (cB:=[_,_]) [1,0] (by decide) rfl;obtain ⟨Ga,hma,hb2',H⟩:=H.dP;exact H.hp.eP ⟨b2,b3,rfl,rfl,by unfold aI;rw [hb2'];rfl⟩
def rP (p:Nat→Int):Nat→Nat→Int
 | _,0=>0
 | k,n+1=>if p k=0 then rP p (k+1) n else p k
theorem adR {p:Nat→Int} {k m:Nat} (h:k < m):rP p k (m - k)=if p k=0 then rP p (k+1) (m - (k+1)) else p k:=by
 obtain ⟨n,hn⟩:∃ n,m - k=n+1:=⟨m - k - 1,by omega⟩;rw [hn,rP,show m - (k+1)=n by omega]
theorem adQ {p:Nat→Int} {k m:Nat} (h:m≤k):rP p k (m - k)=0:=by rw [show m - k=0 by omega];rfl
theorem Ud {p:Nat→Int}:∀ {n k:Nat},rP p k n=0→∀ j,k≤j→j < k+n→p j=0
 | 0,k,_,j,h1,h2=>by omega
 | n+1,k,h,j,h1,h2=>by
  rw [rP] at h;split at h
  ·rename_i hp
   by_cases e:j=k
   ·rw [e];exact hp
   exact Ud h j (by omega) (by omega)
  rename_i hp;exact absurd h hp
def xY (l:List bL) (k:Nat):Int:=match l[k]? with|some s=>iH l k s|none=>0
theorem WU {l:List bL} {k:Nat} (h:k < l.length):xY l k=iH l k l[k]:=by unfold xY;rw [gY h]
def rM (l:List bL) (s:bL):Bool:=(decide (s.base≠0) && !DW l s.kind s.base) || (decide (s.next≠0) && (decide (s.kind=2) || !DW l 1 s.next))
def M0 (l:List bL) (s:bL):Bool:=decide (l.length < (EJ l s.id).length)
def gF (l:List bL):Int:=if 128 < l.length then 9 else if rP (xY l) 0 l.length≠0 then rP (xY l) 0 l.length else if l.any (rM l)=true then 25 else if l.any (M0 l)=true then 16 else 0
theorem ahS {l:List bL} (h:rP (xY l) 0 l.length=0) {k:Nat} (hk:k+1 < l.length):l[k].id < l[k+1].id:=by
 have h1:=Ud h (k+1) (iy _) (by omega);rw [WU hk,iH,kW] at h1
 have hp:wB l (k+1)=some l[k].id:=by rw [wB,ah (by omega),Nat.add_sub_cancel,gY (by omega)];rfl
 rw [hp] at h1
 split at h1
 ·cases h1
 split at h1
 ·cases h1
 split at h1
 ·cases h1
 rename_i _ h2 h3
 have h2':¬ l[k].id=l[k+1].id:=fun e=>h2 (by rw [e]);have h3':¬ l[k+1].id < l[k].id:=fun e=>h3 (aB e)
 omega
theorem WV {l:List bL} (h:rP (xY l) 0 l.length=0):∀ {k j:Nat} (hk:k < l.length) (hj:j < k),l[j].id < l[k].id
 | k+1,j,hk,hj=>by
  have h1:=ahS h hk
  by_cases e:j=k
  ·subst e;exact h1
  have:=WV h (k:=k) (j:=j) (by omega) (by omega)
  omega
theorem WW {l:List bL} (h:rP (xY l) 0 l.length=0) (k:Nat) (hk:k < l.length):l[k].id∉(l.take k).map bL.id:=by
 intro hm;obtain ⟨x,hx1,hx2⟩:=List.mem_map.1 hm;obtain ⟨j,hj,rfl⟩:=List.getElem_of_mem hx1;rw [List.getElem_take] at hx2;rw [List.length_take] at hj;have:=WV h hk (j:=j) (by omega)
 omega
theorem Gj {α:Type} {p:α→Bool} {l:List α} {k:Nat} (hk:k < l.length) (h:(l.take k).any p=false) (hp:p l[k]=false):(l.take (k+1)).any p=false:=by
 rw [jq hk,List.any_append,h];simp [hp]
theorem tV {α:Type} {p:α→Bool} {l:List α} {k:Nat} (hk:k < l.length) (hp:p l[k]=true):l.any p=true:=List.any_eq_true.2 ⟨_,iL hk,hp⟩
theorem yL {α:Type} {p:α→Bool} {l:List α} {k:Nat} (hk:l.length≤k) (h:(l.take k).any p=false):¬ l.any p=true:=by
 rw [jH hk] at h;rw [h];decide
set_option maxHeartbeats 1000000 in
theorem aaU (G:GH) (w0:World) (hG:Hold G w0) (l:List bL) (v:aj) (hv:av G (.sl 6 (l.map bL.dat)) v) (hN:∀ s∈l,s.name.size≤4611686018427387904) :
  Calls prog 80 #[v] w0 (bE w0 G fun u G'=>u=vi (gF l)):=by
 obtain ⟨A,c,rfl,hc1,hc2,-⟩:=hv.slice;have hml:maxLen=9223372036854775807:=rfl;rw [bQ] at *;refine eN [(0,_)] func80 rfl ntmps80 rfl rfl hG ?_;intro a H;refine dB (fun _ K1=>?_);refine eU (cs:=[_]) H wn rfl rfl rfl ?_;clear H;intro b1 a w hb1 H;refine eB gK H wn rfl ?_;clear H;intro b2 a w hb2 H;refine K1 _ _ ?_;clear K1;refine kP H (SQ fun _ K2=>SR fun _ K3=>Ro sD 1 rfl (Rl nE rfl (Rc rfl (Kz K3 (Cd rfl ?_ ?_))))) <;> clear H K3
 ·intro h12 a H
  try have qX:=dT h12
  refine dB (fun _ K4=>?_);refine bH gK 0 (vs:=[_]) _ H wn rfl rfl rfl rfl rfl rfl rfl rfl ?_;clear H;intro w H;dsimp only [List.set,setRow] at H;refine K4 _ _ ?_;clear K4;refine cZ ?_;refine (leave1 H results80 (.cons (tC gK H rfl (H.hp.nQ 0 rfl rfl)) .nil) ?_).1
  first
   | exact H.rt (ay vi (by rw [gF,au (by omega)]))
   | exact H.rt (ay vi (by rw [ah (by simpa using iw)] at heq;rw [gF,ah (by omega),← heq,au (by simpa using iw)]))
   | exact H.rt (ay vi (by rw [gF,ah (by omega),ah (by rw [hok];decide),au hbad]))
   | exact H.rt (ay vi (by rw [gF,ah (by omega),ah (by rw [hok];decide),ah hbad,au (tV hj2 hI)]))
   | exact H.rt (ay vi (by rw [gF,ah (by omega),ah (by rw [hok];decide),ah hbad,ah (yL (by omega) hnc)]))
 intro h12 a H
 try have qX:=dF h12
 refine kP H (Kc K2 (SQ fun _ K5=>SR fun _ K6=>Ro sD 1 rfl (Rl nE rfl (Rm rfl (Kz K6 (SB ?_))))));clear H K2 K6;intro a H;skip;refine eT (ι:=Nat × GH) (Tc:=[(1,_),(2,_),(14,_)]) (Lc:=[(_,_),(_,_)]) (fun gh=>[(15,vi gh.1)]) (fun gh=>[]) (fun gh=>gh.2) (fun gh=>gh.1≤l.length∧rP (xY l) gh.1 (l.length - gh.1)=rP (xY l) 0 l.length∧(∀ b o,G b=some o→gh.2 b=some o)) (fun gh=>l.length - gh.1) ((0,G)) (by exact (H).sub ⟨rfl,rfl,rfl,rfl,aD⟩) ?_ ?_
 ·exact ⟨iy _,rfl,fun _ _ h=>h⟩
 clear H;intro gh a w hI H;obtain ⟨k,g⟩:=gh;dsimp only at hI H;obtain ⟨hk,heq,hgm⟩:=hI;dsimp only [lca,bg] at H;refine kP H (SR fun _ K7=>Rc rfl (Kz K7 (SQ fun _ K8=>Cd rfl ?_ ?_))) <;> clear H K7
 ·intro h16 a H
  try have p16:=dT h16
  have hk2:k < l.length:=by omega
  rw [adR hk2,WU hk2] at heq;refine kP H (Kc K8 (SQ fun _ K9=>SB (SR fun _ aT=>Rm rfl (ak aT rfl (SR fun _ bq=>Ro sD 1 rfl (Rm rfl ?_))))));clear H K8 aT;intro a H;refine s_call abS H wn rfl (ahT _ _ H.ro l k _ (hv.mono hgm) hk2 (hN _ (iL hk2))) rfl ?_;clear H;rintro v20 Ev a w rfl Ch H;refine kH H (ak bq rfl (SR fun _ bF=>Rm rfl (Rc rfl (Kz bF (Cd rfl ?_ ?_))))) <;> clear H bq bF
  ·intro h22 a H
   try have iw:=dT h22
   refine kP H (SR fun _ bJ=>Rm rfl ?_);clear H;intro a H;refine bH gK 0 (vs:=[_]) _ H wn rfl rfl rfl rfl rfl rfl rfl rfl ?_;clear H;intro w H;dsimp only [List.set,setRow] at H;refine bJ _ _ ?_;clear bJ;refine cZ ?_;refine (leave1 H results80 (.cons (tC gK H rfl (H.hp.nQ 0 rfl rfl)) .nil) ?_).1
   first
    | exact H.rt (ay vi (by rw [gF,au (by omega)]))
    | exact H.rt (ay vi (by rw [ah (by simpa using iw)] at heq;rw [gF,ah (by omega),← heq,au (by simpa using iw)]))
    | exact H.rt (ay vi (by rw [gF,ah (by omega),ah (by rw [hok];decide),au hbad]))
    | exact H.rt (ay vi (by rw [gF,ah (by omega),ah (by rw [hok];decide),ah hbad,au (tV hj2 hI)]))
    | exact H.rt (ay vi (by rw [gF,ah (by omega),ah (by rw [hok];decide),ah hbad,ah (yL (by omega) hnc)]))
  intro h22 a H
  try have iw:=dF h22
  refine kP H (Kc K9 (SC (Rd rfl (Rm rfl ?_))));clear H K9;intro a H;refine aH ?_;refine cu ((k+1,Ev)) (by exact (H).sub ⟨rfl,rfl,rfl,rfl,aD⟩) ?_ ?_
  ·(try dsimp only);exact ⟨by omega,by rw [au (by simpa using iw)] at heq;exact heq,fun b o h=>Ch b o (hgm b o h)⟩
  first|omega|(dsimp only;omega)
 intro h16 a H
 try have p16:=dF h16
 have hok:rP (xY l) 0 l.length=0:=by rw [← heq];exact adQ (by omega)
 clear heq;have DT:=hv.mono hgm;refine dU ?_;refine K5 _ _ ?_;clear K5;refine kP H (SQ fun _ bN=>SR fun _ cK=>Ro sD 1 rfl (Rl nE rfl (Rm rfl (Kz cK (SB ?_)))));clear H cK;intro a H;skip;refine eT (ι:=Nat × GH) (Tc:=[(1,_),(2,_),(25,_),(26,_)]) (Lc:=[(_,_),(_,_)]) (fun gh=>[(27,vi gh.1)]) (fun gh=>[]) (fun gh=>gh.2) (fun gh=>gh.1≤l.length∧(l.take gh.1).any (rM l)=false∧(∀ b o,g b=some o→gh.2 b=some o)) (fun gh=>l.length - gh.1) ((0,g)) (by exact (H).sub ⟨rfl,rfl,rfl,rfl,rfl,aD⟩) ?_ ?_
 ·exact ⟨iy _,rfl,fun _ _ h=>h⟩
 clear H;intro gh a w hI H;obtain ⟨k,g2⟩:=gh;dsimp only at hI H;obtain ⟨hk3,hno,oL⟩:=hI;have xS:=DT.mono oL;dsimp only [lca,bg] at H;refine kP H (SR fun _ dw=>Rc rfl (Kz dw (SQ fun _ bY=>Cd rfl ?_ ?_))) <;> clear H dw
 ·intro fF a H
  try have p28:=dT fF
  have hk4:k < l.length:=by omega
  obtain ⟨b,o,pA,pc,rfl,hrow,hp,hrep⟩:=Bp xS hk4;refine kP H (Kc bY (SQ fun _ dz=>SB (SR fun _ fC=>Ri nE jY rfl rfl ?_)));clear H bY;intro a H;refine bD jY (cs:=[_,_,_,_,_,_]) H wn rfl rfl (fun j v hj=>H.hp.aI (hrow j v hj)) rfl ?_;clear H;intro a H;refine eB jY H wn rfl ?_;clear H;intro b6 a w hb6 H;refine bH jY 0 (vs:=[_,_,_,_,_,_]) _ H wn rfl rfl rfl rfl rfl rfl rfl rfl ?_;clear H;intro w H;dsimp only [List.set,setRow] at H;refine fC _ _ ?_;clear fC;refine kP H (SR fun _ dN=>aP Nv aC 0 rfl rfl (Rc rfl (Rm rfl (Sp 34 rfl ?_ ?_)))) <;> clear H
  ·intro gB a H
   try have p34:=dT gB
   refine kH H (YO sD 2 gB rfl (YF vS gB rfl (YO aC 0 gB rfl (YF Nv gB rfl (YO aC 0 gB rfl ?_)))));clear H;intro a H;refine s_call M9 H (wg H rfl rfl gB) rfl (Pp _ _ H.ro l l[k].kind l[k].base _ xS) rfl ?_;clear H;rintro v40 g2 a w rfl J6 H;replace oL:=fun b o (h:g b=some o)=>J6 b o (oL b o h);replace xS:=xS.mono J6;refine kH H (YN gB rfl (Pt gB rfl (Rm rfl (Sp 43 rfl ?_ ?_)))) <;> clear H
   ·intro h43 a H
    try have p43:=dT h43
    refine kH H (aQ h43 rfl (aQ h43 rfl (Ku rfl (Ku rfl (Ku rfl (Ku rfl (Ku rfl (Ku rfl (Ku rfl (Ku rfl (Ku rfl (Ku rfl (Ks h43 rfl (Pt h43 rfl (Kz dN (Ct rfl rfl (SQ fun _ fQ=>?_)))))))))))))))));clear H dN;intro a H;have hbad:l.any (rM l)=true:=tV hk4 (by unfold rM;simp_all);refine pE ?_;refine bH gK 1 (vs:=[_]) _ H wn rfl rfl rfl rfl rfl rfl rfl rfl ?_;clear H;intro w H;dsimp only [List.set,setRow] at H;refine aH ?_;refine fQ _ _ ?_;clear fQ;refine cZ ?_;refine (leave1 H results80 (.cons (tC gK H rfl (H.hp.nQ 1 rfl rfl)) .nil) ?_).1
    first
     | exact H.rt (ay vi (by rw [gF,au (by omega)]))
     | exact H.rt (ay vi (by rw [ah (by simpa using iw)] at heq;rw [gF,ah (by omega),← heq,au (by simpa using iw)]))
     | exact H.rt (ay vi (by rw [gF,ah (by omega),ah (by rw [hok];decide),au hbad]))
     | exact H.rt (ay vi (by rw [gF,ah (by omega),ah (by rw [hok];decide),ah hbad,au (tV hj2 hI)]))
     | exact H.rt (ay vi (by rw [gF,ah (by omega),ah (by rw [hok];decide),ah hbad,ah (yL (by omega) hnc)]))
   intro h43 a H
   try have p43:=dF h43
   refine kH H (YF JG h43 rfl (YO aC 0 h43 rfl (YC h43 rfl (YM h43 rfl (Sp 47 rfl ?_ ?_))))) <;> clear H
   ·intro h47 a H
    try have p47:=dT h47
    refine kH H (YF vS h47 rfl (YO aC 0 h47 rfl (YC h47 rfl (YM h47 rfl (Sp 51 rfl ?_ ?_))))) <;> clear H
    ·intro jf a H
     try have p51:=dT jf
     refine kH H (aX jf rfl (aQ jf rfl (PT h47 jf rfl (PT h43 h47 rfl (Pf h43 rfl (Kz dN (Ct rfl rfl (SQ fun _ iq=>?_))))))));clear H dN;intro a H;have hbad:l.any (rM l)=true:=tV hk4 (by unfold rM;simp_all);refine pE ?_;refine bH gK 1 (vs:=[_]) _ H wn rfl rfl rfl rfl rfl rfl rfl rfl ?_;clear H;intro w H;dsimp only [List.set,setRow] at H;refine aH ?_;refine iq _ _ ?_;clear iq;refine cZ ?_;refine (leave1 H results80 (.cons (tC gK H rfl (H.hp.nQ 1 rfl rfl)) .nil) ?_).1
     first
      | exact H.rt (ay vi (by rw [gF,au (by omega)]))
      | exact H.rt (ay vi (by rw [ah (by simpa using iw)] at heq;rw [gF,ah (by omega),← heq,au (by simpa using iw)]))
      | exact H.rt (ay vi (by rw [gF,ah (by omega),ah (by rw [hok];decide),au hbad]))
      | exact H.rt (ay vi (by rw [gF,ah (by omega),ah (by rw [hok];decide),ah hbad,au (tV hj2 hI)]))
      | exact H.rt (ay vi (by rw [gF,ah (by omega),ah (by rw [hok];decide),ah hbad,ah (yL (by omega) hnc)]))
    intro jf a H
    try have p51:=dF jf
    refine kH H (YO sD 2 jf rfl (YF JG jf rfl (YO aC 0 jf rfl ?_)));clear H;intro a H;refine s_call M9 H (wg H rfl rfl jf) rfl (Pp _ _ H.ro l 1 l[k].next _ xS) rfl ?_;clear H;rintro v55 g2 a w rfl uy H;replace oL:=fun b o (h:g b=some o)=>uy b o (oL b o h);replace xS:=xS.mono uy;refine kH H (YN jf rfl (PF h47 jf rfl (PT h43 h47 rfl (Pf h43 rfl (Kz dN (Cd rfl ?_ ?_)))))) <;> clear H dN
    ·intro iB a H
     try have p59:=dT iB
     refine bA (fun _ jA=>?_);have hbad:l.any (rM l)=true:=tV hk4 (by unfold rM;simp_all);refine pE ?_;refine bH gK 1 (vs:=[_]) _ H wn rfl rfl rfl rfl rfl rfl rfl rfl ?_;clear H;intro w H;dsimp only [List.set,setRow] at H;refine aH ?_;refine jA _ _ ?_;clear jA;refine cZ ?_;refine (leave1 H results80 (.cons (tC gK H rfl (H.hp.nQ 1 rfl rfl)) .nil) ?_).1
     first
      | exact H.rt (ay vi (by rw [gF,au (by omega)]))
      | exact H.rt (ay vi (by rw [ah (by simpa using iw)] at heq;rw [gF,ah (by omega),← heq,au (by simpa using iw)]))
      | exact H.rt (ay vi (by rw [gF,ah (by omega),ah (by rw [hok];decide),au hbad]))
      | exact H.rt (ay vi (by rw [gF,ah (by omega),ah (by rw [hok];decide),ah hbad,au (tV hj2 hI)]))
      | exact H.rt (ay vi (by rw [gF,ah (by omega),ah (by rw [hok];decide),ah hbad,ah (yL (by omega) hnc)]))
    intro iB a H
    try have p59:=dF iB
    refine kP H (Kc dz (SC (Rd rfl (Rm rfl ?_))));clear H dz;intro a H;refine aH ?_;refine cu ((k+1,g2)) (by exact (H.dK (Pl:=[_,_,_]) (cB:=[_,_]) [1,2] (by decide) rfl).sub ⟨rfl,rfl,rfl,rfl,rfl,aD⟩) ?_ ?_
    ·(try dsimp only);exact ⟨by omega,Gj hk4 hno (by unfold rM;simp_all),oL⟩
    first|omega|(dsimp only;omega)
   intro h47 a H
   try have p47:=dF h47
   refine kH H (aQ h47 rfl (aQ h47 rfl (Ku rfl (Ku rfl (Ku rfl (Ku rfl (Ku rfl (Ks h47 rfl (PF h43 h47 rfl (Pf h43 rfl (Kz dN (Cf rfl rfl (Kc dz (SC (Rd rfl (Rm rfl ?_))))))))))))))));clear H dN dz;intro a H;refine aH ?_;refine cu ((k+1,g2)) (by exact (H.dK (Pl:=[_,_,_]) (cB:=[_,_]) [1,2] (by decide) rfl).sub ⟨rfl,rfl,rfl,rfl,rfl,aD⟩) ?_ ?_
   ·(try dsimp only);exact ⟨by omega,Gj hk4 hno (by unfold rM;simp_all),oL⟩
   first|omega|(dsimp only;omega)
  intro gB a H
  try have p34:=dF gB
  refine kH H (aX gB rfl (aQ gB rfl (aQ gB rfl (Pf gB rfl (Rm rfl ?_)))));clear H;intro a H;refine Ip JG H (wg H rfl rfl rfl) rfl rfl ?_;clear H;intro a H;refine vF aC H (wg H rfl rfl rfl) rfl (H.hp.nQ 0 rfl rfl) rfl ?_;clear H;intro a H;refine Io H (wg H rfl rfl rfl) rfl rfl rfl rfl ?_;clear H;intro a H;refine Ir H (wg H rfl rfl rfl) rfl rfl ?_;clear H;intro a H;refine Qq H 47 rfl ?_ ?_
  ·intro h47
   try have p47:=dT h47
   refine kH H (YF vS h47 rfl (YO aC 0 h47 rfl (YC h47 rfl (YM h47 rfl (Sp 51 rfl ?_ ?_))))) <;> clear H
   ·intro jf a H
    try have p51:=dT jf
    refine kH H (aX jf rfl (aQ jf rfl (PT h47 jf rfl ?_)));clear H;intro a H;refine Iu H (wg H rfl rfl rfl) rfl h47 rfl rfl ?_;clear H;intro a H;refine kH H (Pf rfl rfl (Kz dN (Ct rfl rfl (SQ fun _ jo=>?_))));clear H dN;intro a H;have hbad:l.any (rM l)=true:=tV hk4 (by unfold rM;simp_all);refine pE ?_;refine bH gK 1 (vs:=[_]) _ H wn rfl rfl rfl rfl rfl rfl rfl rfl ?_;clear H;intro w H;dsimp only [List.set,setRow] at H;refine aH ?_;refine jo _ _ ?_;clear jo;refine cZ ?_;refine (leave1 H results80 (.cons (tC gK H rfl (H.hp.nQ 1 rfl rfl)) .nil) ?_).1
    first
     | exact H.rt (ay vi (by rw [gF,au (by omega)]))
     | exact H.rt (ay vi (by rw [ah (by simpa using iw)] at heq;rw [gF,ah (by omega),← heq,au (by simpa using iw)]))
     | exact H.rt (ay vi (by rw [gF,ah (by omega),ah (by rw [hok];decide),au hbad]))
     | exact H.rt (ay vi (by rw [gF,ah (by omega),ah (by rw [hok];decide),ah hbad,au (tV hj2 hI)]))
     | exact H.rt (ay vi (by rw [gF,ah (by omega),ah (by rw [hok];decide),ah hbad,ah (yL (by omega) hnc)]))
   intro jf a H
   try have p51:=dF jf
   refine kH H (YO sD 2 jf rfl (YF JG jf rfl (YO aC 0 jf rfl ?_)));clear H;intro a H;refine s_call M9 H (wg H rfl rfl jf) rfl (Pp _ _ H.ro l 1 l[k].next _ xS) rfl ?_;clear H;rintro v55 g2 a w rfl uy H;replace oL:=fun b o (h:g b=some o)=>uy b o (oL b o h);replace xS:=xS.mono uy;refine kH H (YN jf rfl (PF h47 jf rfl ?_));clear H;intro a H;refine Iu H (wg H rfl rfl rfl) rfl h47 rfl rfl ?_;clear H;intro a H;refine kH H (Pf rfl rfl (Kz dN (Cd rfl ?_ ?_))) <;> clear H dN
   ·intro iB a H
    try have p59:=dT iB
    refine bA (fun _ jc=>?_);have hbad:l.any (rM l)=true:=tV hk4 (by unfold rM;simp_all);refine pE ?_;refine bH gK 1 (vs:=[_]) _ H wn rfl rfl rfl rfl rfl rfl rfl rfl ?_;clear H;intro w H;dsimp only [List.set,setRow] at H;refine aH ?_;refine jc _ _ ?_;clear jc;refine cZ ?_;refine (leave1 H results80 (.cons (tC gK H rfl (H.hp.nQ 1 rfl rfl)) .nil) ?_).1
    first
     | exact H.rt (ay vi (by rw [gF,au (by omega)]))
     | exact H.rt (ay vi (by rw [ah (by simpa using iw)] at heq;rw [gF,ah (by omega),← heq,au (by simpa using iw)]))
     | exact H.rt (ay vi (by rw [gF,ah (by omega),ah (by rw [hok];decide),au hbad]))
     | exact H.rt (ay vi (by rw [gF,ah (by omega),ah (by rw [hok];decide),ah hbad,au (tV hj2 hI)]))
     | exact H.rt (ay vi (by rw [gF,ah (by omega),ah (by rw [hok];decide),ah hbad,ah (yL (by omega) hnc)]))
   intro iB a H
   try have p59:=dF iB
   refine kP H (Kc dz (SC (Rd rfl (Rm rfl ?_))));clear H dz;intro a H;refine aH ?_;refine cu ((k+1,g2)) (by exact (H.dK (Pl:=[_,_,_]) (cB:=[_,_]) [1,2] (by decide) rfl).sub ⟨rfl,rfl,rfl,rfl,rfl,aD⟩) ?_ ?_
   ·(try dsimp only);exact ⟨by omega,Gj hk4 hno (by unfold rM;simp_all),oL⟩
   first|omega|(dsimp only;omega)
  intro h47
  try have p47:=dF h47
  refine kH H (aQ h47 rfl (aQ h47 rfl (Ku rfl (Ku rfl (Ku rfl (Ku rfl (Ku rfl (Ks h47 rfl ?_))))))));clear H;intro a H;refine Ld H (wg H rfl rfl rfl) rfl h47 rfl rfl ?_;clear H;intro a H;refine kH H (Pf rfl rfl (Kz dN (Cf rfl rfl (Kc dz (SC (Rd rfl (Rm rfl ?_)))))));clear H dN dz;intro a H;refine aH ?_;refine cu ((k+1,g2)) (by exact (H.dK (Pl:=[_,_,_]) (cB:=[_,_]) [1,2] (by decide) rfl).sub ⟨rfl,rfl,rfl,rfl,rfl,aD⟩) ?_ ?_
  ·(try dsimp only);exact ⟨by omega,Gj hk4 hno (by unfold rM;simp_all),oL⟩
  first|omega|(dsimp only;omega)
 intro fF a H
 try have p28:=dF fF
 have hbad:=yL (by omega) hno;refine dU ?_;refine bN _ _ ?_;clear bN;refine kP H (SQ fun _ jG=>SR fun _ jM=>Ro sD 1 rfl (Rl nE rfl (Rm rfl (Kz jM (SB ?_)))));clear H jM;intro a H;skip;refine aar (ι:=Nat × GH × List Nat) (Tc:=[(1,_),(2,_),(61,_),(62,_)]) (Lc:=[(_,_),(_,_)]) (fun gh=>PI gh.2.2) (fun gh=>[(63,vi gh.1)]) (fun gh=>[]++(Ea gh.2.2++[])) (fun gh=>gh.2.1) (fun gh=>gh.1≤l.length∧(l.take gh.1).any (M0 l)=false∧(∀ b o,g2 b=some o→gh.2.1 b=some o)) (fun gh=>l.length - gh.1) ((0,g2,[])) (by exact (H).sub ⟨rfl,rfl,rfl,rfl,rfl,aD⟩) ?_ ?_
 ·exact ⟨iy _,rfl,fun _ _ h=>h⟩
 clear H;intro gh a w hI H;obtain ⟨j,g3,ds⟩:=gh;dsimp only at hI H;obtain ⟨hj,hnc,Az⟩:=hI;have Pk:=xS.mono Az;dsimp only [lca,bg] at H;refine kP H (SR fun _ iI=>Rc rfl (Kz iI (SQ fun _ lU=>Cd rfl ?_ ?_))) <;> clear H iI
 ·intro h64 a H
  try have p64:=dT h64
  have hj2:j < l.length:=by omega
  obtain ⟨b,o,pA,pc,rfl,hrow,hp,hrep⟩:=Bp Pk hj2;refine kP H (Kc lU (SQ fun _ mJ=>SB (SR fun _ nH=>Ri nE jY rfl rfl ?_)));clear H lU;intro a H;refine bD jY (cs:=[_,_,_,_,_,_]) H wn rfl rfl (fun j v hj=>H.hp.aI (hrow j v hj)) rfl ?_;clear H;intro a H;refine eB jY H wn rfl ?_;clear H;intro b8 a w Dz H;refine bH jY 0 (vs:=[_,_,_,_,_,_]) _ H wn rfl rfl rfl rfl rfl rfl rfl rfl ?_;clear H;intro w H;dsimp only [List.set,setRow] at H;refine nH _ _ ?_;clear nH;refine dB (fun _ mV=>?_);refine eB aC H wn rfl ?_;clear H;intro b9 a w ze H;refine bH aC 0 (vs:=[_]) _ H wn rfl rfl rfl rfl rfl rfl rfl rfl ?_;clear H;intro w H;dsimp only [List.set,setRow] at H;refine mV _ _ ?_;clear mV;refine kP H (SR fun _ mK=>Ro sD 3 rfl (aP uf aC 1 rfl rfl ?_));clear H;intro a H;refine gU abT (Li:=[_,_,_,_]++Ea ds) (L:=[]) (St.un (A:=[_,_,_,_]) H) wn rfl (aaL (Hp.owns (Li:=[_,_,_,_]++Ea ds) (St.un (A:=[_,_,_,_]) H).hp) l l[j].id _ Pk) rfl ?_;clear H;rintro v70 g4 L70 a w ⟨bl,bi,rfl,rfl,hbl⟩ Vi H;have H:=(St.WK (A:=[_,_,_,_,_]) (B:=Ea ds) (H.perm zV));dsimp only [lca,bg] at H;have hit:=aaK (l:=l) (id:=l[j].id) (bi:=bi) hbl (Pk.mono Vi) (WW hok);refine mK _ _ ?_;clear mK;refine yP ?_;skip;refine aau (B:=[(_,_)]) (ι:=Unit) (κ:=Int) (Lc:=[(_,_),(_,_)]) (fun (k:Nat) (gh:Unit)=>[(b9,.cells #[vi k] 3 (0,0)),(b2,.cells #[vi 0] 56 (0,0))]) (fun (k:Nat) (gh:Unit)=>(Ea ds++[])) (fun (k:Nat) (gh:Unit) (g:GH)=>k≤l.length) (fun (gx:Int)=>Code.ret) (fun (gx:Int)=>[(b9,.cells #[vi gx] 3 (0,0)),(b2,.cells #[vi 16] 56 (0,0))]) (fun (gx:Int)=>(Ea ds++[])) (fun (gx:Int) (g:GH)=>M0 l l[j]=true) (()) (by exact H.dK (Pl:=[_,_,_,_,_]) (cB:=[_,_,_,_,_]) [0,2,4,1,3] (by decide) rfl) rfl TG (hit) (fun _ _ h=>h) (fun e i g h=>absurd (of_decide_eq_false e) (by rw [bQ] at h;omega)) rfl (fun k args g h=>by obtain ⟨_,_,rfl,_⟩:=X7 h;rfl) (fun _ _ _ _ _ h=>h) (fun _ _ _ _ h=>h) (iy _) ?_ ?_ ?_
  ·clear H;intro l21 Cr yO bk k args gh I4 w21 F21 Y1 a Vd sV hI afx aga agv H;obtain ⟨Vd,akK,rfl,alB⟩:=X7 Vd;dsimp only [wU,List.cons_append,List.nil_append] at H;refine gI ?_;refine afx _ _ _ _ _ _ (by exact H) ?_;clear H;intro w H;refine kP H (SB (SR fun _ nZ=>Ro aC 3 rfl (Rd rfl ?_)));clear H;intro a H;refine bH aC 3 (vs:=[_]) _ H wn rfl rfl rfl rfl rfl rfl rfl rfl ?_;clear H;intro w H;dsimp only [List.set,setRow] at H;refine nZ _ _ ?_;clear nZ;refine kP H (SR fun _ oV=>Ro aC 3 rfl (Ro sD 2 rfl (Rl nE rfl (Rc rfl (Kz oV (Cd rfl ?_ ?_)))))) <;> clear H oV
   ·intro qR a H
    try have Co:=dT qR
    refine dB (fun _ nI=>?_);refine bH gK 4 (vs:=[_]) _ H wn rfl rfl rfl rfl rfl rfl rfl rfl ?_;clear H;intro w H;dsimp only [List.set,setRow] at H;refine nI _ _ ?_;clear nI;refine cZ ?_;refine (agv ((k:Int)+1) _ _ _ _ _ (by exact H) ?_).1 rfl;exact iQ (by omega)
   intro qR a H
   try have Co:=dF qR
   refine gI ?_;refine aga (()) _ _ _ _ _ (by exact H) ?_
   omega
  ·clear H;intro QY gh Rb a w sV hI H;dsimp only [lca,bg] at H;refine mJ _ _ ?_;clear mJ;refine kP H (SC (Rd rfl (Rm rfl ?_)));clear H;intro a H;refine aH ?_;refine ahn ((j+1,Rb,QY :: ds)) (by exact (H.dK (Pl:=[_,_,_,_,_]) (cB:=[_,_,_]) [4,2,0] (by decide) rfl).sub ⟨rfl,rfl,rfl,rfl,rfl,aD⟩) ?_ ?_
   ·(try dsimp only);exact ⟨by omega,Gj hj2 hnc (gL (by rw [bQ] at hI;omega)),fun b o h=>sV b o (Vi b o (Az b o h))⟩
   first|omega|(dsimp only;omega)
  clear H;intro QY gx Rb a w sV hI H;obtain ⟨x,hgh⟩:∃ x,x=gx:=⟨_,rfl⟩;subst hgh;dsimp only [lca,bg] at H;refine cZ ?_;refine (Ic H 0 rfl ?_).1;clear H;intro a w H;dsimp only [List.eraseIdx_cons_succ,List.eraseIdx_cons_zero] at H;refine (Px (Lh:=[_,_,_,_]) _ H ?_).1;clear H;intro a w H;dsimp only [lca,bg] at H;refine (leave1 H results80 (.cons (tC gK H rfl (H.hp.nQ 3 rfl rfl)) .nil) ?_).1
  first
   | exact H.rt (ay vi (by rw [gF,au (by omega)]))
   | exact H.rt (ay vi (by rw [ah (by simpa using iw)] at heq;rw [gF,ah (by omega),← heq,au (by simpa using iw)]))
   | exact H.rt (ay vi (by rw [gF,ah (by omega),ah (by rw [hok];decide),au hbad]))
   | exact H.rt (ay vi (by rw [gF,ah (by omega),ah (by rw [hok];decide),ah hbad,au (tV hj2 hI)]))
   | exact H.rt (ay vi (by rw [gF,ah (by omega),ah (by rw [hok];decide),ah hbad,ah (yL (by omega) hnc)]))
 intro h64 a H
 try have p64:=dF h64
 refine dU ?_;refine jG _ _ ?_;clear jG;refine dB (fun _ oW=>?_);refine bH gK 0 (vs:=[_]) _ H wn rfl rfl rfl rfl rfl rfl rfl rfl ?_;clear H;intro w H;dsimp only [List.set,setRow] at H;refine oW _ _ ?_;clear oW;refine cZ ?_;refine (Px (Lh:=[_,_]) _ H ?_).1;clear H;intro a w H;dsimp only [lca,bg] at H;refine (leave1 H results80 (.cons (tC gK H rfl (H.hp.nQ 0 rfl rfl)) .nil) ?_).1
 first
  | exact H.rt (ay vi (by rw [gF,au (by omega)]))
  | exact H.rt (ay vi (by rw [ah (by simpa using iw)] at heq;rw [gF,ah (by omega),← heq,au (by simpa using iw)]))
  | exact H.rt (ay vi (by rw [gF,ah (by omega),ah (by rw [hok];decide),au hbad]))
  | exact H.rt (ay vi (by rw [gF,ah (by omega),ah (by rw [hok];decide),ah hbad,au (tV hj2 hI)]))
  | exact H.rt (ay vi (by rw [gF,ah (by omega),ah (by rw [hok];decide),ah hbad,ah (yL (by omega) hnc)]))
end
section
open Go.RowKit
theorem wG:Ty prog 34 1 24 [.slice none 0 0] false:=⟨by kernel_rfl,by kernel_rfl⟩
theorem yx:prog.underlying 34=some (.slice 219):=by kernel_rfl
theorem Cz:Ty prog 219 2 32 [.string ⟨#[]⟩,.string ⟨#[]⟩] true:=⟨by kernel_rfl,by kernel_rfl⟩
theorem ES:bW prog 219 0 0:=⟨by kernel_rfl⟩
theorem Nb:∀ args w,(callFunc 124 args).run prog w=.ok (.enter 124 args) w:=enters func124 rfl (by kernel_rfl)
theorem Uq:bW prog 219 1 1:=⟨by kernel_rfl⟩
theorem Nw:bW prog 36 0 0:=⟨by kernel_rfl⟩
theorem ads:∀ args w,(callFunc 80 args).run prog w=.ok (.enter 80 args) w:=enters func80 rfl (by kernel_rfl)
theorem Ny:bW prog 36 1 1:=⟨by kernel_rfl⟩
theorem adt:∀ args w,(callFunc 81 args).run prog w=.ok (.enter 81 args) w:=enters func81 rfl (by kernel_rfl)
theorem Ad:bW prog 36 2 2:=⟨by kernel_rfl⟩
theorem adu:∀ args w,(callFunc 82 args).run prog w=.ok (.enter 82 args) w:=enters func82 rfl (by kernel_rfl)
theorem Uu:bW prog 36 3 3:=⟨by kernel_rfl⟩
theorem adv:∀ args w,(callFunc 83 args).run prog w=.ok (.enter 83 args) w:=enters func83 rfl (by kernel_rfl)
theorem acd:∀ args w,(callFunc 123 args).run prog w=.ok (.enter 123 args) w:=enters func123 rfl (by kernel_rfl)
theorem Yp {G:GH} {l:List lV} {A:Option Addr} {n c k:Nat} (hv:av G (.sl 2 (l.map lV.dat)) (.slice A n c)) (hk:k < l.length):∃ b o,A=some ⟨b,o,none⟩∧(∀ j u,l[k].cells[j]?=some u→aI G b (o+k*2+j)=some u):=by
 obtain ⟨A',c',he,_,_,hg⟩:=hv.slice
 injection he with e1 e2 e3
 subst e1;obtain ⟨b,o,cs,h1,h2,h3,h4⟩:=hg k l[k].dat (by simp [hk]);have:=ako h4;subst this;exact ⟨b,o,h1,h3⟩
def Yo (k:Nat) (x:lV) (pn:ByteArray):Int:=dH [bV (!pG x.name) 13,bV (decide (0 < (k:Int)) && (x.name.toList == pn.toList)) 7,bV (decide (0 < (k:Int)) && Op.bytesLess x.name.toList pn.toList) 6,Bq x.value]
def FU (l:List lV) (k:Nat):Int:=match l[k]? with|some x=>Yo k x ((l[k - 1]?.map lV.name).getD ⟨#[]⟩)|none=>0
set_option maxHeartbeats 2000000 in
theorem akn {G:GH} {bl:Nat} {l:List lV} {A:Option Addr} {n c:Nat} (hb:aI G bl 0=some (.slice A n c)) (hv:av G (.sl 2 (l.map lV.dat)) (.slice A n c)) (hl:l.length≤4294967296) (ht:∀ x∈l,x.name.size < 4611686018427387904∧x.value.size < 4611686018427387904):rG (.func (.func 123) #[] #[(aJ bl 0)]) G l.length (FU l):=by
 intro k hk G1 w0 hm hG;refine lX (caps:=[(aJ bl 0)]) acd ?_;replace hb:=aK hm hb;replace hv:=hv.mono hm
 obtain rfl:n=l.length:=by have:=hv.len;simpa using this
 obtain ⟨b,o,rfl,hrow⟩:=Yp hv hk
 have hk1:k - 1 < l.length:=by omega
 obtain ⟨b',o',he',hrow'⟩:=Yp hv hk1
 injection he' with he'
 injection he' with e1 e2
 subst e1;subst e2;have hte:=ht _ (iL hk)
 have he:FU l k=Yo k l[k] l[k - 1].name:=by unfold FU;rw [gY hk,gY hk1];rfl
 obtain ⟨x,hx⟩:∃ x,x=l[k]:=⟨_,rfl⟩;obtain ⟨y,hy⟩:∃ y,y=l[k - 1]:=⟨_,rfl⟩;rw [← hx] at hrow hte he;rw [← hy] at hrow' he;refine eN [(0,_),(1,_)] func123 rfl ntmps123 rfl rfl hG ?_;intro a H;refine kP H (SR fun _ K1=>ak K1 rfl (SQ fun _ K2=>?_));clear H K1;intro a H;have H:=H.sub (T':=[(0,_),(1,_)]) ⟨rfl,rfl,aD⟩
 by_cases c0:0 < (k:Int)
 ·skip;refine dI hmx [[],[],[0,1],[0,1,2],(ra 0 4),(ra 0 5),(ra 0 6),(ra 0 7),[],[8],(ra 0 10),(ra 0 11),(ra 0 11),(ra 0 13),(ra 0 14),(ra 0 15),(ra 0 11),(ra 0 11),(ra 0 11++[17]),(ra 0 11++[17,18]),(ra 0 11++ra 16 4),(ra 0 11++ra 16 5),(ra 0 11++ra 16 6),(ra 0 23),(ra 0 24),(ra 0 25),[],[26],(ra 0 28),(ra 0 29),(ra 0 29),(ra 0 31),(ra 0 32),(ra 0 33),(ra 0 29),(ra 0 29),(ra 0 29++[35]),(ra 0 29++[35,36]),(ra 0 29++ra 34 4),(ra 0 29++ra 34 5),(ra 0 29++ra 34 6),(ra 0 41),(ra 0 42),(ra 0 43),[],[],[44,45],[44,45,46],(ra 44 4),(ra 0 49),(ra 0 50),(ra 0 51),(ra 0 52)] [50,51,52] (by kernel_rfl) [_,_,_,_,_,.bool (pG x.name),_,vi (bV (!pG x.name) 13),_,_,_,_,_,_,_,_,_,_,vi ((max k 1:Nat):Int),vi ((k - 1:Nat):Int),_,_,_,.bool (x.name.toList == y.name.toList),.bool (decide (0 < (k:Int)) && (x.name.toList == y.name.toList)),vi (bV (decide (0 < (k:Int)) && (x.name.toList == y.name.toList)) 7),_,_,_,_,_,_,_,_,_,_,vi ((max k 1:Nat):Int),vi ((k - 1:Nat):Int),_,_,_,.bool (Op.bytesLess x.name.toList y.name.toList),.bool (decide (0 < (k:Int)) && Op.bytesLess x.name.toList y.name.toList),vi (bV (decide (0 < (k:Int)) && Op.bytesLess x.name.toList y.name.toList) 6),_,_,_,_,_,vi (Bq x.value)] H (aF (X0 rfl fun hG=>Rg wG rfl (aK hG hb)) (Z0 rfl (Rm rfl)) (Z2 0 4 1 5 rfl (Ri yx Cz rfl rfl)) (Z1 2 6 rfl (Rf ES rfl)) (aF (X1 3 7 rfl fun hG=>Rg fZ rfl (aK hG (hrow 0 _ rfl))) ?_ (Z1 5 9 rfl (Rn rfl)) ?_ (aF (Z0 rfl (Rm rfl)) (Z1 8 12 rfl (Rc rfl)) (Z1 9 13 rfl (Rm rfl)) (X1 10 14 rfl fun hG=>YR wG (aB c0) rfl (aK hG hb)) (aF (Z1 10 14 rfl (YM (aB c0) rfl)) (Z3 11 15 12 16 10 14 rfl (YI yx Cz (aB c0) rfl rfl)) (Z2 13 17 10 14 rfl (YF ES (aB c0) rfl)) (X2 14 18 10 14 rfl fun hG=>YR fZ (aB c0) rfl (aK hG (hrow 0 _ rfl))) (aF (X1 10 14 rfl fun hG=>YR wG (aB c0) rfl (aK hG hb)) (Z1 10 14 rfl (YM (aB c0) rfl)) ?_ ?_ (aF (Z3 16 20 19 23 10 14 rfl (YI yx Cz (aB c0) rfl rfl)) (Z2 20 24 10 14 rfl (YF ES (aB c0) rfl)) (X2 21 25 10 14 rfl fun hG=>YR fZ (aB c0) rfl (aK hG (hrow' 0 _ rfl))) ?_ (aF ?_ ?_ (Z0 rfl (Rm rfl)) (Z1 26 30 rfl (Rc rfl)) (aF (Z1 27 31 rfl (Rm rfl)) (X1 28 32 rfl fun hG=>YR wG (aB c0) rfl (aK hG hb)) (Z1 28 32 rfl (YM (aB c0) rfl)) (Z3 29 33 30 34 28 32 rfl (YI yx Cz (aB c0) rfl rfl)) (aF (Z2 31 35 28 32 rfl (YF ES (aB c0) rfl)) (X2 32 36 28 32 rfl fun hG=>YR fZ (aB c0) rfl (aK hG (hrow 0 _ rfl))) (X1 28 32 rfl fun hG=>YR wG (aB c0) rfl (aK hG hb)) (Z1 28 32 rfl (YM (aB c0) rfl)) (aF ?_ ?_ (Z3 34 38 37 41 28 32 rfl (YI yx Cz (aB c0) rfl rfl)) (Z2 38 42 28 32 rfl (YF ES (aB c0) rfl)) (aF (X2 39 43 28 32 rfl fun hG=>YR fZ (aB c0) rfl (aK hG (hrow' 0 _ rfl))) ?_ ?_ ?_ (aF (X0 rfl fun hG=>Rg wG rfl (aK hG hb)) (Z0 rfl (Rm rfl)) (Z2 44 48 45 49 rfl (Ri yx Cz rfl rfl)) (Z1 46 50 rfl (Rf Uq rfl)) (aF (X1 47 51 rfl fun hG=>Rg fZ rfl (aK hG (hrow 1 _ rfl))) ?_ (bK rfl) (bK rfl) (aS (bK rfl) bX)))))))))))))) ?_
  ·refine dR 4 8 rfl rfl fun _ a w G1 hG HT H fin=>?_;refine s_call Nb H wn rfl (MZ _ _ H.ro x.name hte.1) rfl ?_;clear H;rintro v9 G9 a w ⟨rfl,-⟩ Hf H;exact fin H Hf (rfl)
  ·refine dR 6 10 rfl rfl fun _ a w G1 hG HT H fin=>?_;refine s_call iW H wn rfl (iZ _ _ H.ro _ 13) rfl ?_;clear H;rintro v11 tL a w ⟨rfl,-⟩ iY H;exact fin H iY (rfl)
  ·refine dG 17 21 10 14 rfl rfl fun _ a w G1 hG HT H fin=>?_;refine KZ H (wg H rfl rfl (aB c0)) rfl rfl rfl ?_;clear H;intro a H;exact fin H iJ (by show _=_;first|rfl|exact ay vi (by omega))
  ·refine dG 18 22 10 14 rfl rfl fun _ a w G1 hG HT H fin=>?_;refine mR _ H (wg H rfl rfl (aB c0)) rfl rfl rfl (by omega) (by omega) rfl ?_;clear H;intro a H;exact fin H iJ (by show _=_;first|rfl|exact ay vi (by omega))
  ·refine qg 15 19 22 26 10 14 rfl rfl fun _ a w G1 hG HT H fin=>?_;refine zy H (wg H rfl rfl (aB c0)) rfl rfl rfl ?_;clear H;intro a H;exact fin H iJ rfl
  ·refine dG 10 14 23 27 rfl rfl fun _ a w G1 hG HT H fin=>?_;refine kH H (Pt (aB c0) rfl ?_);clear H;intro a H;exact fin H iJ (aG (by first|(rw [iQ c0,yK];done)|(rw [gL c0,uO];done)))
  ·refine dR 24 28 rfl rfl fun _ a w G1 hG HT H fin=>?_;refine s_call iW H wn rfl (iZ _ _ H.ro _ 7) rfl ?_;clear H;rintro v29 Md a w ⟨rfl,-⟩ N8 H;exact fin H N8 (rfl)
  ·refine dG 35 39 28 32 rfl rfl fun _ a w G1 hG HT H fin=>?_;refine KZ H (wg H rfl rfl (aB c0)) rfl rfl rfl ?_;clear H;intro a H;exact fin H iJ (by show _=_;first|rfl|exact ay vi (by omega))
  ·refine dG 36 40 28 32 rfl rfl fun _ a w G1 hG HT H fin=>?_;refine mR _ H (wg H rfl rfl (aB c0)) rfl rfl rfl (by omega) (by omega) rfl ?_;clear H;intro a H;exact fin H iJ (by show _=_;first|rfl|exact ay vi (by omega))
  ·refine qg 33 37 40 44 28 32 rfl rfl fun _ a w G1 hG HT H fin=>?_;refine aiW H (wg H rfl rfl (aB c0)) rfl rfl rfl ?_;clear H;intro a H;exact fin H iJ rfl
  ·refine dG 28 32 41 45 rfl rfl fun _ a w G1 hG HT H fin=>?_;refine kH H (Pt (aB c0) rfl ?_);clear H;intro a H;exact fin H iJ (aG (by first|(rw [iQ c0,yK];done)|(rw [gL c0,uO];done)))
  ·refine dR 42 46 rfl rfl fun _ a w G1 hG HT H fin=>?_;refine s_call iW H wn rfl (iZ _ _ H.ro _ 6) rfl ?_;clear H;rintro v47 Ze a w ⟨rfl,-⟩ Ob H;exact fin H Ob (rfl)
  ·refine dR 48 52 rfl rfl fun _ a w G1 hG HT H fin=>?_;refine s_call Na H wn rfl (QD _ _ H.ro x.value hte.2) rfl ?_;clear H;rintro v53 Zg a w rfl Oc H;exact fin H Oc (rfl)
  clear H;intro a w G nu H hv;have H:=H.aR (hv 7 11 rfl rfl) rfl;have H:=H.aR (hv 25 29 rfl rfl) rfl;have H:=H.aR (hv 43 47 rfl rfl) rfl;have H:=H.aR (hv 49 53 rfl rfl) rfl;clear hv;refine gQ oF gK [_,_,_,_] [_,_,_,_] H wn rfl rfl rfl rfl rfl (by intro i q h;match i,h with|0,h=>exact h|1,h=>exact h|2,h=>exact h|3,h=>exact h|n+4,h=>simp at h) rfl rfl ?_;clear H;intro b54 a w afs H;obtain ⟨Zh,afR,Ow,H⟩:=H.dP;refine s_call pI H wn rfl (pJ _ _ H.ro _ _ (DV [bV (!pG x.name) 13,bV (decide (0 < (k:Int)) && (x.name.toList == y.name.toList)) 7,bV (decide (0 < (k:Int)) && Op.bytesLess x.name.toList y.name.toList) 6,Bq x.value] Ow (show 4≤maxLen by decide))) rfl ?_;clear H;rintro v55 _ a w ⟨rfl,rfl⟩ - H;refine kH H (Ra rfl ?_);clear H;intro a H;refine aH ⟨rfl,?_⟩;refine K2 _ _ ?_;clear K2;refine lr H results123 rfl ?_;exact H.rt (by rw [he];rfl)
 skip;refine dI hmx [[],[],[0,1],[0,1,2],(ra 0 4),(ra 0 5),(ra 0 6),(ra 0 7),[],[8],(ra 0 10),(ra 0 11),(ra 0 11),(ra 0 13),(ra 0 14),(ra 0 15),(ra 0 11),(ra 0 11),(ra 0 11++[17]),(ra 0 11++[17,18]),(ra 0 11++ra 16 4),(ra 0 11++ra 16 5),(ra 0 11++ra 16 6),(ra 0 23),(ra 0 24),(ra 0 25),[],[26],(ra 0 28),(ra 0 29),(ra 0 29),(ra 0 31),(ra 0 32),(ra 0 33),(ra 0 29),(ra 0 29),(ra 0 29++[35]),(ra 0 29++[35,36]),(ra 0 29++ra 34 4),(ra 0 29++ra 34 5),(ra 0 29++ra 34 6),(ra 0 41),(ra 0 42),(ra 0 43),[],[],[44,45],[44,45,46],(ra 44 4),(ra 0 49),(ra 0 50),(ra 0 51),(ra 0 52)] [50,51,52] (by kernel_rfl) [_,_,_,_,_,.bool (pG x.name),_,vi (bV (!pG x.name) 13),_,_,_,undef,undef,undef,undef,undef,undef,undef,undef,undef,undef,undef,undef,undef,.bool (decide (0 < (k:Int)) && (x.name.toList == y.name.toList)),vi (bV (decide (0 < (k:Int)) && (x.name.toList == y.name.toList)) 7),_,_,_,undef,undef,undef,undef,undef,undef,undef,undef,undef,undef,undef,undef,undef,.bool (decide (0 < (k:Int)) && Op.bytesLess x.name.toList y.name.toList),vi (bV (decide (0 < (k:Int)) && Op.bytesLess x.name.toList y.name.toList) 6),_,_,_,_,_,vi (Bq x.value)] H (aF (X0 rfl fun hG=>Rg wG rfl (aK hG hb)) (Z0 rfl (Rm rfl)) (Z2 0 4 1 5 rfl (Ri yx Cz rfl rfl)) (Z1 2 6 rfl (Rf ES rfl)) (aF (X1 3 7 rfl fun hG=>Rg fZ rfl (aK hG (hrow 0 _ rfl))) ?_ (Z1 5 9 rfl (Rn rfl)) ?_ (aF (Z0 rfl (Rm rfl)) (Z1 8 12 rfl (Rc rfl)) (Z1 9 13 rfl (Rm rfl)) (aL (j:=10) (by kernel_rfl) (fun _ _ _ _ _ h=>h) rfl rfl rfl rfl rfl (fun _ _ h=>aM h (aG (aO c0))) rfl (fun _=>rfl)) (aF (aL (j:=10) (by kernel_rfl) (fun _ _ _ _ _ h=>h) rfl rfl rfl rfl rfl (fun _ _ h=>aM h (aG (aO c0))) rfl (fun _=>rfl)) (aL (j:=10) (by kernel_rfl) (fun _ _ _ _ _ h=>h) rfl rfl rfl rfl rfl (fun _ _ h=>aM h (aG (aO c0))) rfl (fun _=>rfl)) (aL (j:=10) (by kernel_rfl) (fun _ _ _ _ _ h=>h) rfl rfl rfl rfl rfl (fun _ _ h=>aM h (aG (aO c0))) rfl (fun _=>rfl)) (aL (j:=10) (by kernel_rfl) (fun _ _ _ _ _ h=>h) rfl rfl rfl rfl rfl (fun _ _ h=>aM h (aG (aO c0))) rfl (fun _=>rfl)) (aF (aL (j:=10) (by kernel_rfl) (fun _ _ _ _ _ h=>h) rfl rfl rfl rfl rfl (fun _ _ h=>aM h (aG (aO c0))) rfl (fun _=>rfl)) (aL (j:=10) (by kernel_rfl) (fun _ _ _ _ _ h=>h) rfl rfl rfl rfl rfl (fun _ _ h=>aM h (aG (aO c0))) rfl (fun _=>rfl)) (aL (j:=10) (by kernel_rfl) (fun _ _ _ _ _ h=>h) rfl rfl rfl rfl rfl (fun _ _ h=>aM h (aG (aO c0))) rfl (fun _=>rfl)) (aL (j:=10) (by kernel_rfl) (fun _ _ _ _ _ h=>h) rfl rfl rfl rfl rfl (fun _ _ h=>aM h (aG (aO c0))) rfl (fun _=>rfl)) (aF (aL (j:=10) (by kernel_rfl) (fun _ _ _ _ _ h=>h) rfl rfl rfl rfl rfl (fun _ _ h=>aM h (aG (aO c0))) rfl (fun _=>rfl)) (aL (j:=10) (by kernel_rfl) (fun _ _ _ _ _ h=>h) rfl rfl rfl rfl rfl (fun _ _ h=>aM h (aG (aO c0))) rfl (fun _=>rfl)) (aL (j:=10) (by kernel_rfl) (fun _ _ _ _ _ h=>h) rfl rfl rfl rfl rfl (fun _ _ h=>aM h (aG (aO c0))) rfl (fun _=>rfl)) (aL (j:=10) (by kernel_rfl) (fun _ _ _ _ _ h=>h) rfl rfl rfl rfl rfl (fun _ _ h=>aM h (aG (aO c0))) rfl (fun _=>rfl)) (aF ?_ ?_ (Z0 rfl (Rm rfl)) (Z1 26 30 rfl (Rc rfl)) (aF (Z1 27 31 rfl (Rm rfl)) (aL (j:=28) (by kernel_rfl) (fun _ _ _ _ _ h=>h) rfl rfl rfl rfl rfl (fun _ _ h=>aM h (aG (aO c0))) rfl (fun _=>rfl)) (aL (j:=28) (by kernel_rfl) (fun _ _ _ _ _ h=>h) rfl rfl rfl rfl rfl (fun _ _ h=>aM h (aG (aO c0))) rfl (fun _=>rfl)) (aL (j:=28) (by kernel_rfl) (fun _ _ _ _ _ h=>h) rfl rfl rfl rfl rfl (fun _ _ h=>aM h (aG (aO c0))) rfl (fun _=>rfl)) (aF (aL (j:=28) (by kernel_rfl) (fun _ _ _ _ _ h=>h) rfl rfl rfl rfl rfl (fun _ _ h=>aM h (aG (aO c0))) rfl (fun _=>rfl)) (aL (j:=28) (by kernel_rfl) (fun _ _ _ _ _ h=>h) rfl rfl rfl rfl rfl (fun _ _ h=>aM h (aG (aO c0))) rfl (fun _=>rfl)) (aL (j:=28) (by kernel_rfl) (fun _ _ _ _ _ h=>h) rfl rfl rfl rfl rfl (fun _ _ h=>aM h (aG (aO c0))) rfl (fun _=>rfl)) (aL (j:=28) (by kernel_rfl) (fun _ _ _ _ _ h=>h) rfl rfl rfl rfl rfl (fun _ _ h=>aM h (aG (aO c0))) rfl (fun _=>rfl)) (aF (aL (j:=28) (by kernel_rfl) (fun _ _ _ _ _ h=>h) rfl rfl rfl rfl rfl (fun _ _ h=>aM h (aG (aO c0))) rfl (fun _=>rfl)) (aL (j:=28) (by kernel_rfl) (fun _ _ _ _ _ h=>h) rfl rfl rfl rfl rfl (fun _ _ h=>aM h (aG (aO c0))) rfl (fun _=>rfl)) (aL (j:=28) (by kernel_rfl) (fun _ _ _ _ _ h=>h) rfl rfl rfl rfl rfl (fun _ _ h=>aM h (aG (aO c0))) rfl (fun _=>rfl)) (aL (j:=28) (by kernel_rfl) (fun _ _ _ _ _ h=>h) rfl rfl rfl rfl rfl (fun _ _ h=>aM h (aG (aO c0))) rfl (fun _=>rfl)) (aF (aL (j:=28) (by kernel_rfl) (fun _ _ _ _ _ h=>h) rfl rfl rfl rfl rfl (fun _ _ h=>aM h (aG (aO c0))) rfl (fun _=>rfl)) (aL (j:=28) (by kernel_rfl) (fun _ _ _ _ _ h=>h) rfl rfl rfl rfl rfl (fun _ _ h=>aM h (aG (aO c0))) rfl (fun _=>rfl)) ?_ ?_ (aF (X0 rfl fun hG=>Rg wG rfl (aK hG hb)) (Z0 rfl (Rm rfl)) (Z2 44 48 45 49 rfl (Ri yx Cz rfl rfl)) (Z1 46 50 rfl (Rf Uq rfl)) (aF (X1 47 51 rfl fun hG=>Rg fZ rfl (aK hG (hrow 1 _ rfl))) ?_ (bK rfl) (bK rfl) (aS (bK rfl) bX)))))))))))))) ?_
 ·refine dR 4 8 rfl rfl fun _ a w G1 hG HT H fin=>?_;refine s_call Nb H wn rfl (MZ _ _ H.ro x.name hte.1) rfl ?_;clear H;rintro v9 G9 a w ⟨rfl,-⟩ Hf H;exact fin H Hf (rfl)
 ·refine dR 6 10 rfl rfl fun _ a w G1 hG HT H fin=>?_;refine s_call iW H wn rfl (iZ _ _ H.ro _ 13) rfl ?_;clear H;rintro v11 tL a w ⟨rfl,-⟩ iY H;exact fin H iY (rfl)
 ·refine dG 10 14 23 27 rfl rfl fun _ a w G1 hG HT H fin=>?_;refine kH H (Pf (aO c0) rfl ?_);clear H;intro a H;exact fin H iJ (aG (by first|(rw [iQ c0,yK];done)|(rw [gL c0,uO];done)))
 ·refine dR 24 28 rfl rfl fun _ a w G1 hG HT H fin=>?_;refine s_call iW H wn rfl (iZ _ _ H.ro _ 7) rfl ?_;clear H;rintro v29 Md a w ⟨rfl,-⟩ N8 H;exact fin H N8 (rfl)
 ·refine dG 28 32 41 45 rfl rfl fun _ a w G1 hG HT H fin=>?_;refine kH H (Pf (aO c0) rfl ?_);clear H;intro a H;exact fin H iJ (aG (by first|(rw [iQ c0,yK];done)|(rw [gL c0,uO];done)))
 ·refine dR 42 46 rfl rfl fun _ a w G1 hG HT H fin=>?_;refine s_call iW H wn rfl (iZ _ _ H.ro _ 6) rfl ?_;clear H;rintro v47 Ze a w ⟨rfl,-⟩ Ob H;exact fin H Ob (rfl)
 ·refine dR 48 52 rfl rfl fun _ a w G1 hG HT H fin=>?_;refine s_call Na H wn rfl (QD _ _ H.ro x.value hte.2) rfl ?_;clear H;rintro v53 Zg a w rfl Oc H;exact fin H Oc (rfl)
 clear H;intro a w G nu H hv;have H:=H.aR (hv 7 11 rfl rfl) rfl;have H:=H.aR (hv 25 29 rfl rfl) rfl;have H:=H.aR (hv 43 47 rfl rfl) rfl;have H:=H.aR (hv 49 53 rfl rfl) rfl;clear hv;refine gQ oF gK [_,_,_,_] [_,_,_,_] H wn rfl rfl rfl rfl rfl (by intro i q h;match i,h with|0,h=>exact h|1,h=>exact h|2,h=>exact h|3,h=>exact h|n+4,h=>simp at h) rfl rfl ?_;clear H;intro b54 a w afs H;obtain ⟨Zh,afR,Ow,H⟩:=H.dP;refine s_call pI H wn rfl (pJ _ _ H.ro _ _ (DV [bV (!pG x.name) 13,bV (decide (0 < (k:Int)) && (x.name.toList == y.name.toList)) 7,bV (decide (0 < (k:Int)) && Op.bytesLess x.name.toList y.name.toList) 6,Bq x.value] Ow (show 4≤maxLen by decide))) rfl ?_;clear H;rintro v55 _ a w ⟨rfl,rfl⟩ - H;refine kH H (Ra rfl ?_);clear H;intro a H;refine aH ⟨rfl,?_⟩;refine K2 _ _ ?_;clear K2;refine lr H results123 rfl ?_;exact H.rt (by rw [he];rfl)
def Jy (l:List lV):Int:=dH [bV (decide (128 < (l.length:Int))) 9,ko (FU l) (min l.length 128)]
theorem aaR (G:GH) (w0:World) (hG:Hold G w0) (l:List lV) (v:aj) (hv:av G (.sl 2 (l.map lV.dat)) v) (hl:l.length≤4294967296) (ht:∀ x∈l,x.name.size < 4611686018427387904∧x.value.size < 4611686018427387904) :
  Calls prog 83 #[v] w0 (bE w0 G fun u G'=>u=vi (Jy l)):=by
 obtain ⟨A,c,rfl,hc1,hc2,-⟩:=hv.slice;rw [bQ] at *;refine eN [(0,_)] func83 rfl ntmps83 rfl rfl hG ?_;intro a H;refine dB (fun _ K1=>?_);refine eU (cs:=[_]) H wn rfl rfl rfl ?_;clear H;intro b1 a w hb1 H;refine kH H (ak K1 rfl (SQ fun _ K2=>?_));clear H K1;intro a H;have H:=H.sub (T':=[(1,_)]) ⟨rfl,aD⟩;obtain ⟨Ga,hma,hb1',H⟩:=H.dP
 have hbl:aI Ga b1 0=some (.slice A l.length c):=by unfold aI;rw [hb1'];rfl
 have hcb:=akn hbl (hv.mono hma) hl ht;refine dI hmx [[],[0],[0,1],[0,1,2],[],[4],[4,5],[],(ra 0 8),(ra 0 9),(ra 0 10),(ra 0 11)] [9,10,11] (by kernel_rfl) [_,_,_,vi (bV (decide (128 < (l.length:Int))) 9),_,_,vi ((min l.length 128:Nat):Int),.func (.func 123) #[] #[(aJ b1 0)],vi (ko (FU l) (min l.length 128))] H (aF (X0 rfl fun hG=>Rg wG rfl (aK hG hbl)) (Z1 0 3 rfl (Rl yx rfl)) (Z1 1 4 rfl (Rc rfl)) ?_ (aF (X0 rfl fun hG=>Rg wG rfl (aK hG hbl)) (Z1 4 7 rfl (Rl yx rfl)) ?_ ?_ (aF ?_ (bK rfl) (bK rfl) (bK rfl) bX))) ?_
 ·refine dR 2 5 rfl rfl fun _ a w G1 hG HT H fin=>?_;refine s_call iW H wn rfl (iZ _ _ H.ro _ 9) rfl ?_;clear H;rintro v6 G6 a w ⟨rfl,-⟩ gJ H;exact fin H gJ (rfl)
 ·refine dR 5 8 rfl rfl fun _ a w G1 hG HT H fin=>?_;refine La H wn rfl rfl rfl ?_;clear H;intro a H;exact fin H iJ (ay vi (by omega))
 ·refine wM rfl fun _ a w G1 hG HT H fin=>?_;refine pY H wn rfl rfl ?_;clear H;intro a H;exact fin H iJ rfl
 ·refine dG 6 9 7 10 rfl rfl fun _ a w G1 hG HT H fin=>?_;refine s_call EO H wn rfl (Gf _ _ H.ro (min l.length 128) (FU l) _ (by omega) ((hcb.mono hG).le (Nat.min_le_left _ _))) rfl ?_;clear H;rintro v11 tL a w rfl iY H;exact fin H iY (rfl)
 clear H;intro a w G nu H hv;have H:=H.aR (hv 3 6 rfl rfl) rfl;have H:=H.aR (hv 8 11 rfl rfl) rfl;clear hv;refine gQ oF gK [_,_] [_,_] H wn rfl rfl rfl rfl rfl (by intro i q h;match i,h with|0,h=>exact h|1,h=>exact h|n+2,h=>simp at h) rfl rfl ?_;clear H;intro b12 a w Aw H;obtain ⟨BA,DC,Dy,H⟩:=H.dP;refine s_call pI H wn rfl (pJ _ _ H.ro _ _ (wE Dy)) rfl ?_;clear H;rintro v13 _ a w ⟨rfl,rfl⟩ - H;refine kH H (Ra rfl ?_);clear H;intro a H;refine aH ⟨rfl,?_⟩;refine K2 _ _ ?_;clear K2;refine lr H results83 rfl ?_;exact H.rt rfl
structure zS where
 styles:List bL
 lists:List fU
 comments:List eO
 vars:List lV
structure EB (G:GH) (s:zS) (a b c d:aj):Prop where
 st:av G (.sl 6 (s.styles.map bL.dat)) a
 li:av G (.sl 2 (s.lists.map fU.dat)) b
 cm:av G (.sl 6 (s.comments.map eO.dat)) c
 va:av G (.sl 2 (s.vars.map lV.dat)) d
structure Mw (s:zS):Prop where
 sn:∀ x∈s.styles,x.name.size≤4611686018427387904
 ln:s.lists.length≤4294967296
 lt:∀ x∈s.lists,∀ y∈x.levels,y.yj.size < 4611686018427387904
 cn:s.comments.length≤4294967296
 ct:∀ x∈s.comments,x.author.size < 4611686018427387904∧x.text.size < 4611686018427387904
 vn:s.vars.length≤4294967296
 vt:∀ x∈s.vars,x.name.size < 4611686018427387904∧x.value.size < 4611686018427387904
def Jw (s:zS):Int:=dH [gF s.styles,Gn s.lists,Jv s.comments,Jy s.vars]
theorem aaQ (G:GH) (w0:World) (hG:Hold G w0) (s:zS) (a b c d:aj) (hR:EB G s a b c d) (hz:Mw s) :
  Calls prog 55 #[.agg #[a,b,c,d]] w0 (bE w0 G fun u G'=>u=vi (Jw s)):=by
 obtain ⟨sA,sn,sc,rfl⟩:=hR.st.form;obtain ⟨lA,ln,lc,rfl⟩:=hR.li.form;obtain ⟨cA,cn,cc,rfl⟩:=hR.cm.form;obtain ⟨vA,vn,vc,rfl⟩:=hR.va.form;refine eN [(0,_)] func55 rfl ntmps55 rfl rfl hG ?_;intro a H;refine dB (fun _ K1=>?_);refine eU (cs:=[_,_,_,_]) H wn rfl rfl rfl ?_;clear H;intro b1 a w hb1 H;refine kH H (ak K1 rfl (SQ fun _ K2=>?_));clear H K1;intro a H;have H:=H.sub (T':=[(1,_)]) ⟨rfl,aD⟩;obtain ⟨Ga,hma,hb1',H⟩:=H.dP
 have hc0:aI Ga b1 0=some (.slice sA sn sc):=by unfold aI;rw [hb1'];rfl
 have hc1:aI Ga b1 1=some (.slice lA ln lc):=by unfold aI;rw [hb1'];rfl
 have hc2:aI Ga b1 2=some (.slice cA cn cc):=by unfold aI;rw [hb1'];rfl
 have hc3:aI Ga b1 3=some (.slice vA vn vc):=by unfold aI;rw [hb1'];rfl
 refine dI hmx [[],[0],[0,1],[],[3],(ra 0 5),[],[6],(ra 0 8),[],[9],(ra 0 11),(ra 0 12),(ra 0 13),(ra 0 14)] [12,13,14] (by kernel_rfl) [_,_,vi (gF s.styles),_,_,vi (Gn s.lists),_,_,vi (Jv s.comments),_,_,vi (Jy s.vars)] H (aF (Z0 rfl (Rf Nw rfl)) (X1 0 3 rfl fun hG=>Rg sD rfl (aK hG hc0)) ?_ (Z0 rfl (Rf Ny rfl)) (aF (X1 3 6 rfl fun hG=>Rg Eo rfl (aK hG hc1)) ?_ (Z0 rfl (Rf Ad rfl)) (X1 6 9 rfl fun hG=>Rg uI rfl (aK hG hc2)) (aF ?_ (Z0 rfl (Rf Uu rfl)) (X1 9 12 rfl fun hG=>Rg wG rfl (aK hG hc3)) ?_ (aS (bK rfl) (aS (bK rfl) (aS (bK rfl) bX)))))) ?_
 ·refine dR 1 4 rfl rfl fun _ a w G1 hG HT H fin=>?_;refine s_call ads H wn rfl (aaU _ _ H.ro s.styles _ ((hR.st.mono hma).mono hG) hz.sn) rfl ?_;clear H;rintro v5 G5 a w rfl Cb H;exact fin H Cb (rfl)
 ·refine dR 4 7 rfl rfl fun _ a w G1 hG HT H fin=>?_;refine s_call adt H wn rfl (aaO _ _ H.ro s.lists _ ((hR.li.mono hma).mono hG) hz.ln hz.lt) rfl ?_;clear H;rintro v8 G8 a w rfl qp H;exact fin H qp (rfl)
 ·refine dR 7 10 rfl rfl fun _ a w G1 hG HT H fin=>?_;refine s_call adu H wn rfl (aaM _ _ H.ro s.comments _ ((hR.cm.mono hma).mono hG) hz.cn hz.ct) rfl ?_;clear H;rintro v11 tL a w rfl iY H;exact fin H iY (rfl)
 ·refine dR 10 13 rfl rfl fun _ a w G1 hG HT H fin=>?_;refine s_call adv H wn rfl (aaR _ _ H.ro s.vars _ ((hR.va.mono hma).mono hG) hz.vn hz.vt) rfl ?_;clear H;rintro v14 FY a w rfl GX H;exact fin H GX (rfl)
 clear H;intro a w G nu H hv;have H:=H.aR (hv 2 5 rfl rfl) rfl;have H:=H.aR (hv 5 8 rfl rfl) rfl;have H:=H.aR (hv 8 11 rfl rfl) rfl;have H:=H.aR (hv 11 14 rfl rfl) rfl;clear hv;refine gQ oF gK [_,_,_,_] [_,_,_,_] H wn rfl rfl rfl rfl rfl (by intro i q h;match i,h with|0,h=>exact h|1,h=>exact h|2,h=>exact h|3,h=>exact h|n+4,h=>simp at h) rfl rfl ?_;clear H;intro b15 a w afm H;obtain ⟨BD,oM,afn,H⟩:=H.dP;refine s_call pI H wn rfl (pJ _ _ H.ro _ _ (DV [gF s.styles,Gn s.lists,Jv s.comments,Jy s.vars] afn (show 4≤maxLen by decide))) rfl ?_;clear H;rintro v16 _ a w ⟨rfl,rfl⟩ - H;refine kH H (Ra rfl ?_);clear H;intro a H;refine aH ⟨rfl,?_⟩;refine K2 _ _ ?_;clear K2;refine lr H results55 rfl ?_;exact H.rt rfl
end
section
open Go.RowKit
def uG:Nat→List (Int × aj)→List MapEntry
 | _,[]=>[]
 | i,(k,v) :: r=>⟨.int .i64 k,v,i⟩ :: uG (i+1) r
theorem Wu (x:Int × aj):∀ (i:Nat) (l:List (Int × aj)),uG i (l++[x])=uG i l++[⟨.int .i64 x.1,x.2,i+l.length⟩]
 | _,[]=>rfl
 | i,k :: r=>by
  rw [mW,uG,Wu x (i+1) r,uG,mW,nL,show i+1+r.length=i+(r.length+1) by omega]
def qW (x:Int):List (Int × aj)→Option aj
 | []=>none
 | (k,v) :: r=>if k=x then some v else qW x r
theorem Kv {x:Int}:∀ {l:List (Int × aj)},x∉l.map (·.1)→qW x l=none
 | [],_=>rfl
 | (k,v) :: r,h=>by
  rw [qW,ah (fun e=>h (by simp [e])),Kv (fun hm=>h (jN _ hm))]
theorem ND (x:Int):∀ (i j:Nat) (l:List (Int × aj)),∃ an,Instr.findNow (.int .i64) (.int .i64 x) (uG i l) j=some an∧an.map (·.2)=qW x l
 | _,_,[]=>⟨none,rfl,rfl⟩
 | i,j,(k,v) :: r=>by
  obtain ⟨an,h1,h2⟩:=ND x (i+1) (j+1) r
  by_cases e:k=x
  ·subst e
   exact ⟨some (j,v),by simp only [uG,Instr.findNow,Instr.sameNow,au,beq_self_eq_true],by rw [qW,au rfl];rfl⟩
  ·have hb:(x == k)=false:=by simp;exact fun h=>e h.symm
   exact ⟨an,by simpa only [uG,Instr.findNow,Instr.sameNow,au,hb] using h1,by rw [qW,ah e];exact h2⟩
abbrev fK (l:List (Int × aj)):Obj:=.map (uG 0 l).toArray l.length
section
variable {N:Nat} {D:List Deferred} {w0:World} {F:Nat→Prop} {G0 G:GH} {L:OL} {T:List (Nat × aj)}
variable {r:Option Nat} {P:Program} {ops:Array Oper} {Q:Exit→Act→World→Prop} {rest:List Oper} {a:Act} {w:World}
variable {d:Nat} {ty:TypeId} {pos:String} {aN:Array Edge} {g:Option (Nat × Bool)}
theorem yh {t kt et:TypeId} {x y:Operand} {b:Nat} {l:List (Int × aj)} {ky:Int} {zv:aj} (hm:P.underlying t=some (.map kt et)) (hk:P.underlying kt=some (.int .i64)) (hz:(P.info? et).map (fun i=>i.zero)=some (some zv)) (H:St N D w0 F G0 G L T a w)
  (hw:Region.wanted ⟨some d,.lookup t x y false,ty,pos,aN,g⟩ (yielded ops a.tmps)=true) (hx:ev T x=some (.map (some b))) (hy:ev T y=some (.int .i64 ky)) (hb:w.heap[b]?=some (fK l)) (hd:Nat.blt d N=true)
  (k:∀ a',St N D w0 F G0 G L ((d,(qW ky l).getD zv) :: T) a' w→WL r P ops Q rest a' w):WL r P ops Q (⟨some d,.lookup t x y false,ty,pos,aN,g⟩ :: rest) a w:=by
 obtain ⟨an,hf,han⟩:=ND ky 0 0 l
 obtain ⟨inf,hi1,hi2⟩:=lK.1 hz
 refine fM (v:=(qW ky l).getD zv) (w':=w) hw rfl ?_ (k _ (H.put hd _ H.hp))
 have hkey:MapKept.IsKey (.int .i64) (.int .i64 ky):=by trivial
 have hf2:Instr.findNow (.int .i64) (.int .i64 ky) (uG 0 l).toArray.toList 0=some an:=by simpa using hf
 replace hb:w.heap[b]?=some (.map (uG 0 l).toArray l.length):=hb
 generalize (uG 0 l).toArray=es at hb hf2
 have h1:=MapKept.run_checkKey (P:=P) (w:=w) hk hkey es.isEmpty 9999
 have h2:=MapKept.run_findKey (P:=P) (w:=w) hk hf2
 rw [← han]
 cases an with
 | none=>simp [execOp,Instr.lookup,H.ev hx,H.ev hy,bZ,kM hm,MapKept.run_getObj_map hb,h1,h2,Result.andThen,zeroValue,zx hi1,hi2]
 | some q=>simp [execOp,Instr.lookup,H.ev hx,H.ev hy,bZ,kM hm,MapKept.run_getObj_map hb,h1,h2,Result.andThen]
theorem Le {t kt et:TypeId} {x y z:Operand} {b i:Nat} {l:List (Int × aj)} {ky:Int} {v:aj} (hm:P.underlying t=some (.map kt et)) (hk:P.underlying kt=some (.int .i64)) (H:St N D w0 F G0 G L T a w)
  (hw:Region.wanted ⟨none,.mapUpdate t x y z,ty,pos,aN,g⟩ (yielded ops a.tmps)=true) (hx:ev T x=some (.map (some b))) (hy:ev T y=some (.int .i64 ky)) (hzv:ev T z=some v) (hi:L[i]?=some (b,fK l)) (hn:qW ky l=none)
  (k:∀ w',St N D w0 F G0 G (L.set i (b,fK (l++[(ky,v)]))) T a w'→WL r P ops Q rest a w'):WL r P ops Q (⟨none,.mapUpdate t x y z,ty,pos,aN,g⟩ :: rest) a w:=by
 obtain ⟨an,hf,han⟩:=ND ky 0 0 l
 have hnone:an=none:=by
  rw [hn] at han
  cases an with
  | none=>rfl
  | some q=>cases han
 subst hnone
 refine Qp (i:=i) hm hk H hw hx hy hzv hi (by trivial) (by simpa using hf) ?_
 intro w' H'
 have e:(uG 0 l).toArray.push ⟨.int .i64 ky,v,l.length⟩=(uG 0 (l++[(ky,v)])).toArray:=by
  rw [Wu,List.push_toArray,kR]
 refine k w' ?_
 rw [e] at H'
 rw [fK,iA]
 exact H'
end
end
end Go.Proofs.YteopmoocmoigcaaGreat
