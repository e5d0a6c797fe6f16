/-
  What the claim stands on, part 3: Lfl Dv Lpc Scn By Lps Lcl Dst Sty Mk Stz Dsc Mi Ro Ri Chn Chk Dsv Mq.
-/
import Derived.Test.YteopmoocmoigcaaGreatWqb
import Derived.Lib.ConvBytes
import Derived.Laws.MakeOwn
namespace Go.Proofs.YteopmoocmoigcaaGreat
open Go.Proofs.Tryz
section
open Go.RowKit
theorem abJ:∀ args w,(callFunc 164 args).run prog w=.ok (.enter 164 args) w:=enters func164 rfl (by kernel_rfl)
theorem Hl:Ty prog 242 1 24 [.slice none 0 0] false:=⟨by kernel_rfl,by kernel_rfl⟩
theorem SI:∀ args w,(callFunc 49 args).run prog w=.ok (.enter 49 args) w:=enters func49 rfl (by kernel_rfl)
theorem EX:prog.underlying 242=some (.slice 247):=by kernel_rfl
theorem ET:Ty prog 247 3 32 [.string ⟨#[]⟩,.int .i64 0,.bool false] true:=⟨by kernel_rfl,by kernel_rfl⟩
theorem abK:∀ args w,(callFunc 165 args).run prog w=.ok (.enter 165 args) w:=enters func165 rfl (by kernel_rfl)
theorem FT:bV prog 259 2 2:=⟨by kernel_rfl⟩
theorem FU:bV prog 259 3 4:=⟨by kernel_rfl⟩
theorem Xe:oU prog 247 [(0,1),(1,1),(2,1)] [.string ⟨#[]⟩,.int .i64 0,.bool false]:=⟨by kernel_rfl,by kernel_rfl⟩
theorem Mj:∀ args w,(callFunc 160 args).run prog w=.ok (.enter 160 args) w:=enters func160 rfl (by kernel_rfl)
theorem IZ:bV prog 259 4 5:=⟨by kernel_rfl⟩
structure iH where
 lit:ByteArray
 level:Int
 plain:Bool
def iH.dat (x:iH):List Dat:=[.lf (.string x.lit),li x.level,.lf (.bool x.plain)]
abbrev iH.cells (x:iH):List aj:=[.string x.lit,vi x.level,.bool x.plain]
theorem Vv (G:GH) (x:iH):aY G x.dat x.cells:=by
 simp only [iH.dat,iH.cells,aY]
 exact ⟨_,_,rfl,by simp [av,Value.oneCell'],_,_,rfl,by simp [av,Value.oneCell'],_,_,rfl,by simp [av,Value.oneCell'],rfl⟩
theorem Vu {G:GH} {x:iH} {cs:List aj} (h:aY G x.dat cs):cs=x.cells:=by
 simp only [iH.dat,aY,av] at h
 obtain ⟨_,_,rfl,⟨rfl,_⟩,_,_,rfl,⟨rfl,_⟩,_,_,rfl,⟨rfl,_⟩,rfl⟩:=h
 rfl
def Bn (l:List iH):List aj:=(l.map iH.cells).flatten
theorem Vt (l:List iH) (x:iH):Bn (l++[x])=Bn l++x.cells:=by simp [Bn]
structure xG (b:Nat) (lit:List UInt8) (parts:List iH) (p v q:aj) (Lp Lo:OL):Prop where
 ptr:p=.pointer none∨p=(aI b 2)
 buf:dD 5 1 v lit.length (Lib.byteCells lit) Lo
 prt:dD 247 3 q parts.length (Bn parts) Lp
def rQ (lit:List UInt8) (parts:List iH):List iH:=if lit=[] then parts else parts++[⟨⟨lit.toArray⟩,0,false⟩]
set_option maxHeartbeats 1000000 in
theorem ML (G:GH) (Lp Lo:OL) (w0:World) (b:Nat) (s:ByteArray) (i:Int) (p v q:aj) (pl e:Int) (lit:List UInt8) (parts:List iH) (hR:xG b lit parts p v q Lp Lo) (hO:gW G (fU b s i p v q pl e :: (Lp++Lo)) w0) (hl:lit.length≤4294967296) (hp:parts.length≤4294967296) :
  Calls prog 160 #[(aI b 0)] w0 (gF w0 G (fU b s i p v q pl e :: (Lp++Lo)) fun u G' L'=>∃ p' v' q' om eO,L'=fU b s i p' v' q' pl e :: (om++eO)∧xG b [] (rQ lit parts) p' v' q' om eO):=by
 obtain ⟨UH,hbuf,JA⟩:=hR;have hml:maxLen=9223372036854775807:=rfl;obtain ⟨A,c,rfl,U1,U2⟩:=hbuf.shape;obtain ⟨B,d,rfl,UJ,UK⟩:=JA.shape;obtain ⟨Lt,nH⟩:∃ x,x=Lp++Lo:=⟨_,rfl⟩;rw [← nH] at hO ⊢;refine jN (N:=25) (T:=[(0,_)]) func160 rfl ntmps160 rfl rfl hO ?_;intro a H;refine kP H (SR fun _ K1=>Rm rfl (Rk rfl (Rf FT rfl ?_)));clear H;intro a H;refine gN abJ (Li:=[]) (L:=fU b s i p (.slice A lit.length c) (.slice B parts.length d) pl e :: Lt) H wn rfl (aik _ _ _ b s i p A lit.length c B parts.length d pl e (Hp.owns (Li:=[]) H.hp)) rfl ?_;clear H;rintro v5 _ L5 a w ⟨rfl,rfl,rfl⟩ NP H;dsimp only [List.nil_append] at H;refine kH H (Rc rfl (Kz K1 (Cd rfl ?_ ?_))) <;> clear H K1
 ·intro h6 a H
  try have p6:=dT h6
  have hne:lit≠[]:=fun e=>by rw [e] at p6;simp at p6
  subst nH;refine bq (fun _ K2=>?_)
  have iI:∀ (dK:Nat) (gL:(Option Addr × Nat) × OL) (bS:Nat) (v:aj) (G G':GH),(∀ k o,G k=some o→G' k=some o)→(fun (dK:Nat) (gL:(Option Addr × Nat) × OL) (bS:Nat) (v:aj) (G:GH)=>match bS with|0=>v=(aI b 0)|1=>v=(aI b 0)|2=>v=(aI b 0)|3=>v=(aI b 4)|4=>v=.slice B parts.length d|5=>v=(aI b 0)|6=>v=(aI b 0)|7=>v=(aI b 2)|8=>v=.string ⟨lit.toArray⟩|9=>v=.agg (iH.cells ⟨⟨lit.toArray⟩,0,false⟩).toArray|10=>v=.slice (some ⟨dK,0,none⟩) 1 1|11=>v=.slice gL.1.1 (parts.length+1) gL.1.2∧dD 247 3 v (parts.length+1) (Bn (parts++[⟨⟨lit.toArray⟩,0,false⟩])) gL.2|_=>True) dK gL bS v G→(fun (dK:Nat) (gL:(Option Addr × Nat) × OL) (bS:Nat) (v:aj) (G:GH)=>match bS with|0=>v=(aI b 0)|1=>v=(aI b 0)|2=>v=(aI b 0)|3=>v=(aI b 4)|4=>v=.slice B parts.length d|5=>v=(aI b 0)|6=>v=(aI b 0)|7=>v=(aI b 2)|8=>v=.string ⟨lit.toArray⟩|9=>v=.agg (iH.cells ⟨⟨lit.toArray⟩,0,false⟩).toArray|10=>v=.slice (some ⟨dK,0,none⟩) 1 1|11=>v=.slice gL.1.1 (parts.length+1) gL.1.2∧dD 247 3 v (parts.length+1) (Bn (parts++[⟨⟨lit.toArray⟩,0,false⟩])) gL.2|_=>True) dK gL bS v G':=by
   intro dK gL bS v G G' hm h
   match bS,h with
   | 0,h=>exact h
   | 1,h=>exact h
   | 2,h=>exact h
   | 3,h=>exact h
   | 4,h=>exact h
   | 5,h=>exact h
   | 6,h=>exact h
   | 7,h=>exact h
   | 8,h=>exact h
   | 9,h=>exact h
   | 10,h=>exact h
   | 11,h=>exact h
   | 12,h=>exact trivial
   | 13,h=>exact trivial
   | 14,h=>exact trivial
   | _+15,h=>exact trivial
  refine Zw (κ:=(Option Addr × Nat) × OL) (((none,0),[])) (hmx) [[],[],[1],[1,2],[1,2,3],[],[5],[5,6],[5,6,7],(ra 5 4),(ra 5 5),(ra 1 10),(ra 0 12),(ra 0 13),(ra 0 14)] [12,13,14] (by kernel_rfl) (by kernel_rfl) 8 10 11 (by decide) (by decide) (by decide) (by decide) (by decide) (by decide) (by decide) (by decide) (by decide) [fU b s i p (.slice A lit.length c) (.slice B parts.length d) pl e] (fU b s i p (.slice A lit.length c) (.slice B parts.length d) pl e :: Lp) (.cells (iH.cells ⟨⟨lit.toArray⟩,0,false⟩).toArray 247 (0,0)) (fun b_ k_=>(b_,.cells (iH.cells ⟨⟨lit.toArray⟩,0,false⟩).toArray 247 (0,0)) :: fU b s i p (.slice A lit.length c) (.slice B parts.length d) pl e :: k_.2) (fun x hx=>by rw [rG.1 hx];exact iB) (fun x hx=>by rw [rG.1 hx];exact iB) (fun _ _ x hx=>by rw [rG.1 hx];exact jU _ iB) (fun (dK:Nat) (gL:(Option Addr × Nat) × OL) (bS:Nat) (v:aj) (G:GH)=>match bS with|0=>v=(aI b 0)|1=>v=(aI b 0)|2=>v=(aI b 0)|3=>v=(aI b 4)|4=>v=.slice B parts.length d|5=>v=(aI b 0)|6=>v=(aI b 0)|7=>v=(aI b 2)|8=>v=.string ⟨lit.toArray⟩|9=>v=.agg (iH.cells ⟨⟨lit.toArray⟩,0,false⟩).toArray|10=>v=.slice (some ⟨dK,0,none⟩) 1 1|11=>v=.slice gL.1.1 (parts.length+1) gL.1.2∧dD 247 3 v (parts.length+1) (Bn (parts++[⟨⟨lit.toArray⟩,0,false⟩])) gL.2|_=>True) (fun b b' k i v G hi hc h=>by match i,hi,hc,h with|0,_,_,h=>exact h|1,_,_,h=>exact h|2,_,_,h=>exact h|3,_,_,h=>exact h|4,_,_,h=>exact h|5,_,_,h=>exact h|6,_,_,h=>exact h|7,_,_,h=>exact h|8,_,_,h=>exact h|9,_,_,h=>exact h|10,hi,_,_=>exact absurd hi (by decide)|11,_,hc,_=>exact absurd hc (by decide)|12,_,hc,_=>exact absurd hc (by decide)|13,_,hc,_=>exact absurd hc (by decide)|14,_,hc,_=>exact absurd hc (by decide)|_+15,_,_,_=>exact trivial) (fun b k k' i v G hi hc h=>by match i,hi,hc,h with|0,_,_,h=>exact h|1,_,_,h=>exact h|2,_,_,h=>exact h|3,_,_,h=>exact h|4,_,_,h=>exact h|5,_,_,h=>exact h|6,_,_,h=>exact h|7,_,_,h=>exact h|8,_,_,h=>exact h|9,_,_,h=>exact h|10,_,_,h=>exact h|11,hi,_,_=>exact absurd hi (by decide)|12,_,hc,_=>exact absurd hc (by decide)|13,_,hc,_=>exact absurd hc (by decide)|14,_,hc,_=>exact absurd hc (by decide)|_+15,_,_,_=>exact trivial) H ?_ ?_ ?_ ?_ ?_ (by kernel_rfl) (by kernel_rfl)
  ·clear H;refine aD ?_ ?_ ?_ ?_ (aD ?_ ?_ ?_ ?_ (aD ?_ ?_ ?_ ?_ (aW ?_ (aW ?_ (aW ?_ bY)))))
   ·intro dK gL lV bQ a w G1 lJ _ _ _ _ bH hc hG HT hv;have H:=HT;clear bH;have Hb:=H.full;have H:=Hb;clear hc;refine kH H (Rm rfl ?_);clear H;intro a H;refine aH ⟨rfl,?_⟩;exact jo (by kernel_rfl) (iI dK gL) rfl rfl HT Hb hG hv (fun _ _ h=>h) (rfl) H
   ·intro dK gL lV bQ a w G1 lJ _ _ _ _ bH hc hG HT hv;have H:=HT;clear bH;have Hb:=H.full;have H:=Hb;clear hc;refine kH H (Rm rfl ?_);clear H;intro a H;refine aH ⟨rfl,?_⟩;exact jo (by kernel_rfl) (iI dK gL) rfl rfl HT Hb hG hv (fun _ _ h=>h) (rfl) H
   ·intro dK gL lV bQ a w G1 lJ _ _ _ _ bH hc hG HT hv;have H:=HT;clear bH;have H:=H.aQ (hv 1 8 (hc 1 (by decide)) rfl) rfl;have Hb:=H.full;have H:=Hb;clear hc;refine kH H (Rk rfl ?_);clear H;intro a H;refine aH ⟨rfl,?_⟩;exact jo (by kernel_rfl) (iI dK gL) rfl rfl HT Hb hG hv (fun _ _ h=>h) (rfl) H
   ·intro dK gL lV bQ a w G1 lJ _ _ _ _ bH hc hG HT hv;have H:=HT;clear bH;have H:=H.aQ (hv 2 9 (hc 2 (by decide)) rfl) rfl;have Hb:=H.full;have H:=Hb;clear hc;refine kH H (Rf FU rfl ?_);clear H;intro a H;refine aH ⟨rfl,?_⟩;exact jo (by kernel_rfl) (iI dK gL) rfl rfl HT Hb hG hv (fun _ _ h=>h) (rfl) H
   ·intro dK gL lV bQ a w G1 lJ _ _ _ _ bH hc hG HT hv;have H:=HT;clear bH;have H:=H.aQ (hv 3 10 (hc 3 (by decide)) rfl) rfl;have Hb:=H.full;have H:=Hb;clear hc;refine uM Hl H wn rfl (H.hp.VB (lJ _ iB) rfl) rfl ?_;clear H;intro a H;refine aH ⟨rfl,?_⟩;exact jo (by kernel_rfl) (iI dK gL) rfl rfl HT Hb hG hv (fun _ _ h=>h) (rfl) H
   ·intro dK gL lV bQ a w G1 lJ _ _ _ _ bH hc hG HT hv;have H:=HT;clear bH;have Hb:=H.full;have H:=Hb;clear hc;refine kH H (Rm rfl ?_);clear H;intro a H;refine aH ⟨rfl,?_⟩;exact jo (by kernel_rfl) (iI dK gL) rfl rfl HT Hb hG hv (fun _ _ h=>h) (rfl) H
   ·intro dK gL lV bQ a w G1 lJ _ _ _ _ bH hc hG HT hv;have H:=HT;clear bH;have H:=H.aQ (hv 5 12 (hc 5 (by decide)) rfl) rfl;have Hb:=H.full;have H:=Hb;clear hc;refine kH H (Rk rfl ?_);clear H;intro a H;refine aH ⟨rfl,?_⟩;exact jo (by kernel_rfl) (iI dK gL) rfl rfl HT Hb hG hv (fun _ _ h=>h) (rfl) H
   ·intro dK gL lV bQ a w G1 lJ _ _ _ _ bH hc hG HT hv;have H:=HT;clear bH;have H:=H.aQ (hv 6 13 (hc 6 (by decide)) rfl) rfl;have Hb:=H.full;have H:=Hb;clear hc;refine kH H (Rf FT rfl ?_);clear H;intro a H;refine aH ⟨rfl,?_⟩;exact jo (by kernel_rfl) (iI dK gL) rfl rfl HT Hb hG hv (fun _ _ h=>h) (rfl) H
   ·intro _ _ _ _ _ _ _ _ _ hB;exact absurd hB (by decide)
   ·intro dK gL lV bQ a w G1 lJ _ _ _ _ bH hc hG HT hv;have H:=HT;clear bH;have H:=H.aQ (hv 8 15 (hc 8 (by decide)) rfl) rfl;have Hb:=H.full;have H:=Hb;clear hc;refine jJ Xe [_,_,_] H wn rfl rfl rfl rfl ?_;clear H;intro a H;refine aH ⟨rfl,?_⟩;exact jo (by kernel_rfl) (iI dK gL) rfl rfl HT Hb hG hv (fun _ _ h=>h) (rfl) H
   ·intro _ _ _ _ _ _ _ _ _ _ hB;exact absurd hB (by decide)
   ·intro _ _ _ _ _ _ _ _ _ _ _ hB;exact absurd hB (by decide)
   ·intro _ _ _ _ _ _ _ _ hB;exact absurd hB (by decide)
   ·intro _ _ _ _ _ _ _ _ hB;exact absurd hB (by decide)
   intro _ _ _ _ _ _ _ _ hB;exact absurd hB (by decide)
  ·clear H;intro o_ dK gL bQ a w G1 tF _ hc hG HT hv;obtain rfl:_=o_:=Option.some.inj tF;clear tF;have H:=HT;have H:=H.aQ (hv 7 14 (by decide) (hc 7 (by decide)) rfl) rfl;have Hb:=H.full;have H:=Hb;clear hc;refine gN SI (Li:=[]) (L:=fU b s i p (.slice A lit.length c) (.slice B parts.length d) pl e :: (Lp++Lo)) H wn rfl (aix _ _ _ _ b s i p _ B parts.length d pl e lit (Hp.owns (Li:=[]) H.hp) hbuf hne) rfl ?_;clear H;rintro v15 BP L15 a w ⟨rfl,rfl⟩ zG H;dsimp only [List.nil_append] at H;refine aH ⟨rfl,?_⟩;exact aaI (by kernel_rfl) (iI dK gL) rfl HT Hb hG (fun j e h1 h2 h3=>hv j e h1 h2 h3) zG (rfl) H
  ·clear H;intro o_ gL bQ a w G1 tF _ hc hG HT hv;obtain rfl:_=o_:=Option.some.inj tF;clear tF;have H:=HT;have H:=H.aQ (hv 0 9 16 (by decide) (hc 9 (by decide)) rfl) rfl;have Hb:=H.full;have H:=Hb;clear hc;refine gQ EX ET [_,_,_] [_,_,_] H wn rfl rfl rfl rfl rfl (by intro i q h;match i,h with|0,h=>exact h|n+1,h=>simp at h) rfl rfl ?_;clear H;intro b17 a w ajz H;refine aH ⟨rfl,b17,?_⟩;exact LZ (by kernel_rfl) rfl HT Hb hG (fun j e h1 h2 h3=>hv _ j e h1 h2 h3) (rfl) H
  ·clear H;intro o_ dK bQ a w G1 tF _ hc hG HT hv;obtain rfl:_=o_:=Option.some.inj tF;clear tF;have H:=HT;have H:=H.aQ (hv (((none,0),[])) 4 11 (by decide) (hc 4 (by decide)) rfl) rfl;have H:=H.aQ (hv (((none,0),[])) 10 17 (by decide) (hc 10 (by decide)) rfl) rfl;have Hb:=H.full;have H:=Hb;clear hc;refine oL (Li:=[_,_]) (Lo:=Lp) (news:=iH.cells ⟨⟨lit.toArray⟩,0,false⟩) EX ET rfl rfl H wn rfl rfl JA rfl (H.hp.dY 0 rfl rfl) rfl (by omega) (by omega) rfl ?_;clear H;intro v18 YK a w EB H;obtain ⟨X5,c18,rfl,-,-⟩:=EB.shape;rw [← Vt] at EB;refine aH ⟨rfl,((X5,c18),YK),?_⟩;exact LZ (by kernel_rfl) rfl HT Hb hG (fun j e h1 h2 h3=>hv _ j e h1 h2 h3) (⟨rfl,EB⟩) H
  clear H;intro b17 gL a w G mJ H hv;have H:=H.aQ (hv 0 7 rfl rfl) rfl;obtain ⟨u18,Od,ku⟩:=hv 11 18 (by decide) rfl;(try dsimp only at ku);obtain ⟨rfl,EB⟩:=ku;have H:=H.jS Od;clear hv;refine kH H (Rk rfl (Rf FU rfl ?_));clear H;intro a H;refine bF Hl 1 (vs:=[_]) _ H wn rfl rfl rfl rfl rfl rfl rfl rfl ?_;clear H;intro w H;dsimp only [List.set,setRow] at H;refine aH ⟨rfl,?_⟩;refine K2 _ _ ?_;clear K2;refine kP H (SC (Rm rfl (Rk rfl (Rf FT rfl ?_))));clear H;intro a H;refine gN abK (Li:=[_]) (L:=fU b s i p (.slice A lit.length c) (.slice gL.1.1 (parts.length+1) gL.1.2) pl e :: gL.2) H wn rfl (aiw _ _ _ b s i p A lit.length c gL.1.1 (parts.length+1) gL.1.2 pl e (Hp.owns (Li:=[_]) H.hp)) rfl ?_;clear H;rintro v24 _ L24 a w ⟨rfl,rfl⟩ qN H;dsimp only [lca,aZ] at H;refine aH ?_;refine (leave0 H results160 ?_).2
  first
   | exact H.hp.gM (L':=fU b s i _ _ _ pl e :: gL.2) (yV _ _) ⟨_,_,_,gL.2,[],by rw [oW],⟨.inl rfl,dD.nil,by rw [rQ,ah hne];simpa using EB⟩⟩
   | exact H.hp.eB ⟨_,_,_,Lp,Lo,by rw [nH],by
     have h0:lit=[]:=by
      cases lit with
      | nil=>rfl
      | cons x r=>simp at p6
     subst h0;exact ⟨UH,hbuf,by rw [rQ,au rfl];exact JA⟩⟩
 intro h6 a H
 try have p6:=dF h6
 refine fO ?_;refine (leave0 H results160 ?_).2
 first
  | exact H.hp.gM (L':=fU b s i _ _ _ pl e :: gL.2) (yV _ _) ⟨_,_,_,gL.2,[],by rw [oW],⟨.inl rfl,dD.nil,by rw [rQ,ah hne];simpa using EB⟩⟩
  | exact H.hp.eB ⟨_,_,_,Lp,Lo,by rw [nH],by
    have h0:lit=[]:=by
     cases lit with
     | nil=>rfl
     | cons x r=>simp at p6
    subst h0;exact ⟨UH,hbuf,by rw [rQ,au rfl];exact JA⟩⟩
theorem V6 (G:GH) (Lp Lo:OL) (w0:World) (b:Nat) (s:ByteArray) (i:Int) (p v q:aj) (pl e:Int) (lit:List UInt8) (parts:List iH) (ch:Int) (plain:Bool) (hR:xG b lit parts p v q Lp Lo) (hO:gW G (fU b s i p v q pl e :: (Lp++Lo)) w0) (hl:lit.length≤4294967296) (hp:parts.length≤4294967290) (hc:49≤ch∧ch≤57) (hpl:0≤pl∧pl≤4294967296) :
  Calls prog 163 #[(aI b 0),.int .u8 ch,.bool plain] w0 (gF w0 G (fU b s i p v q pl e :: (Lp++Lo)) fun u G' L'=>∃ p' v' q' om eO,L'=fU b s i p' v' q' (pl+1) e :: (om++eO)∧xG b [] (rQ lit parts++[⟨⟨#[]⟩,ch - 48,plain⟩]) p' v' q' om eO):=by
 have hml:maxLen=9223372036854775807:=rfl
 have hfl:(rQ lit parts).length≤parts.length+1:=by unfold rQ;split <;> simp
 obtain ⟨A,c,rfl,U1,U2⟩:=hR.buf.shape;obtain ⟨B,d,rfl,UJ,UK⟩:=hR.prt.shape;obtain ⟨Lt,nH⟩:∃ x,x=Lp++Lo:=⟨_,rfl⟩;rw [← nH] at hO ⊢;refine jN (N:=29) (T:=[(0,_),(1,_),(2,_)]) func163 rfl ntmps163 rfl rfl hO ?_;intro a H;refine kP H (SR fun _ K1=>Rm rfl ?_);clear H;intro a H;refine gN Mj (Li:=[]) (L:=fU b s i p (.slice A lit.length c) (.slice B parts.length d) pl e :: Lt) H wn rfl (by subst nH;exact ML _ Lp Lo _ b s i p _ _ pl e lit parts hR (Hp.owns (Li:=[]) H.hp) hl (by omega)) rfl ?_;clear H;rintro v7 G7 L7 a w ⟨p',v',q',om,eO,rfl,F6⟩ zP H;dsimp only [List.nil_append] at H;obtain ⟨A7,c7,rfl,-,-⟩:=F6.buf.shape;obtain ⟨B7,d7,rfl,-,-⟩:=F6.prt.shape;refine K1 _ _ ?_;clear K1;refine kP H (SR fun _ K2=>Rm rfl (Rm rfl (Rk rfl (aR FU Hl 0 rfl rfl (Rm rfl ?_)))));clear H;intro a H;refine ahN H wn rfl rfl (by omega) (by omega) rfl ?_;clear H;intro a H;refine EN _ mU Hr H wn rfl rfl rfl ?_;clear H;intro a H;rw [GI (by omega) (by omega)] at H;refine kH H (Rm rfl ?_);clear H;intro a H;refine jJ Xe [_,_,_] H wn rfl rfl rfl rfl ?_;clear H;intro a H;refine gQ EX ET [_,_,_] [_,_,_] H wn rfl rfl rfl rfl rfl (by intro i q h;match i,h with|0,h=>exact h|n+1,h=>simp at h) rfl rfl ?_;clear H;intro b18 a w Jg H;have H:=(St.cast H (show _=[_,_]++(om++eO) from rfl)).perm (List.Perm.append_left _ yX);have H:=St.un H;refine oL (Li:=[_,_]++eO) (Lo:=om) (news:=iH.cells ⟨⟨#[]⟩,ch - 48,plain⟩) EX ET rfl rfl H wn rfl rfl F6.prt rfl (H.hp.dY 0 rfl rfl) rfl (by omega) (by omega) rfl ?_;clear H;intro v19 QT a w vI H;obtain ⟨H7,c19,rfl,-,-⟩:=vI.shape;rw [← Vt] at vI;have H:=H.assoc.perm (List.Perm.append_left _ yX);dsimp only [lca,aZ] at H;refine kH H (Rk rfl (Rf FU rfl ?_));clear H;intro a H;refine bF Hl 1 (vs:=[_]) _ H wn rfl rfl rfl rfl rfl rfl rfl rfl ?_;clear H;intro w H;dsimp only [List.set,setRow] at H;refine K2 _ _ ?_;clear K2;refine kP H (SC (Rm rfl (Rk rfl (aR IZ aG 1 rfl rfl (Rd rfl (Rk rfl (Rf IZ rfl ?_)))))));clear H;intro a H;refine bF aG 1 (vs:=[_]) _ H wn rfl rfl rfl rfl rfl rfl rfl rfl ?_;clear H;intro w H;dsimp only [List.set,setRow] at H;refine aH ?_;refine (leave0 H results163 ?_).2;exact H.hp.gM (L':=fU b s i _ _ _ (pl+1) e :: (QT++eO)) (yV _ _) ⟨_,_,_,QT,eO,rfl,F6.ptr,F6.buf,by simpa using vI⟩
end
section
open Go.RowKit
section
variable {N:Nat} {D:List Deferred} {w0:World} {F:Nat→Prop} {G0 G:GH} {L:OL} {T Xs:List (Nat × aj)}
variable {r:Option Nat} {P:Program} {Q:Exit→Act→World→Prop} {l:List Oper} {a a':Act} {w w':World}
abbrev Qh:Type:=Nat × aj × Nat × Bool
def Qi (ent:List Qh) (S:Nat→Bool) (a:Act):Prop:=∀ e∈ent,S e.2.2.1=e.2.2.2→a.tmps[e.1]?=some e.2.1
theorem Qi.at {ent:List Qh} {S:Nat→Bool} {a:Act} (h:Qi ent S a) (k:Nat) {t:Nat} {v:aj} {j:Nat} {b:Bool} (hk:ent[k]?=some (t,v,j,b)) (hS:S j=b):a.tmps[t]?=some v:=h _ (kT hk) hS
theorem ahM {ops:Array Oper} {rest:List Oper} {d:Nat} {ty:TypeId} {pos:String} {aM:Array Edge} {g:Option (Nat × Bool)} {t:TypeId} {x y:Operand} {s:ByteArray} {ky:IntKind} {p:Int} (hi:Nat) (ht:P.underlying t=some .string) (H:St N D w0 F G0 G L T a w) (hw:Region.wanted ⟨some d,.slice t x none (some y) none,ty,pos,aM,g⟩ (yielded ops a.tmps)=true) (hx:ev T x=some (.string s)) (hy:ev T y=some (.int ky p)) (hp:p=(hi:Int)) (h1:hi≤s.size) (hd:Nat.blt d N=true)
  (k:∀ a',St N D w0 F G0 G L ((d,.string (s.extract 0 hi)) :: T) a' w→WL r P ops Q rest a' w):WL r P ops Q (⟨some d,.slice t x none (some y) none,ty,pos,aM,g⟩ :: rest) a w:=by
 subst hp
 have hr:=run_slice_string_h (P:=P) w t s ht ky (hi:Int) (by omega) (by omega)
 rw [Int.toNat_natCast] at hr
 refine fF (v:=.string (s.extract 0 hi)) (w':=w) hw rfl ?_ (k _ (H.put hd _ H.hp))
 simp only [execOp,H.ev hx,Option.map_some,Option.map_none,H.ev hy,bX,run_sliceAt_string w t _ _ _ _ ht,hr,jD,oV]
end
end
section
open Go.RowKit
theorem abL:∀ args w,(callFunc 166 args).run prog w=.ok (.enter 166 args) w:=enters func166 rfl (by kernel_rfl)
theorem uo:bV prog 259 0 0:=⟨by kernel_rfl⟩
theorem Sr:∀ args w,(callFunc 159 args).run prog w=.ok (.enter 159 args) w:=enters func159 rfl (by kernel_rfl)
theorem Sw:∀ args w,(callFunc 162 args).run prog w=.ok (.enter 162 args) w:=enters func162 rfl (by kernel_rfl)
theorem Sy:∀ args w,(callFunc 163 args).run prog w=.ok (.enter 163 args) w:=enters func163 rfl (by kernel_rfl)
theorem nO:bV prog 259 1 1:=⟨by kernel_rfl⟩
theorem Mk:∀ args w,(callFunc 161 args).run prog w=.ok (.enter 161 args) w:=enters func161 rfl (by kernel_rfl)
theorem xP:bV prog 259 5 6:=⟨by kernel_rfl⟩
def pG (s p:ByteArray):Bool:=decide (p.size≤s.size) && ((s.extract 0 p.size).toList == p.toList)
theorem aei (G:GH) (w0:World) (hG:Hold G w0) (s p:ByteArray) (hs:s.size≤4611686018427387904) (hp:p.size≤4611686018427387904):Calls prog 166 #[.string s,.string p] w0 (bC w0 G fun u G'=>u=.bool (pG s p)∧G=G'):=by
 refine eN [(0,_),(1,_)] func166 rfl ntmps166 rfl rfl hG ?_;intro a H;refine kP H (SR fun _ K1=>ak K1 rfl (SR fun _ K2=>Rm rfl (Rv fP rfl (Rm rfl (Rv fP rfl (Rc rfl (Rm rfl (Sp 10 rfl ?_ ?_)))))))) <;> clear H K1
 ·intro h10 a H
  try have lg:=dT h10
  refine kH H (YM h10 rfl (YM h10 rfl ?_));clear H;intro a H;refine Bv fP H (wg H rfl rfl h10) rfl rfl ?_;clear H;intro a H;refine ahM p.size fP H (wg H rfl rfl h10) rfl rfl rfl (by omega) rfl ?_;clear H;intro a H;refine kH H (YM h10 rfl ?_);clear H;intro a H;refine Bt H (wg H rfl rfl h10) rfl rfl rfl ?_;clear H;intro a H;exact kH H (Pt h10 rfl (ak K2 rfl (LR results166 rfl fun H=>H.rt ⟨aF (by unfold pG;first|(simp_all;done)|(simp_all;omega)),rfl⟩)))
 intro h10 a H
 try have lg:=dF h10
 exact kH H (aX h10 rfl (aX h10 rfl (Pf h10 rfl (ak K2 rfl (LR results166 rfl fun H=>H.rt ⟨aF (by unfold pG;first|(simp_all;done)|(simp_all;omega)),rfl⟩)))))
theorem Nr (G:GH) (w0:World) (hG:Hold G w0) (s p:ByteArray) (hs:s.size≤4611686018427387904) (hp:p.size≤4611686018427387904):Calls prog 161 #[.string s,.string p] w0 (bC w0 G fun u G'=>u=.bool (pG s p)∧G=G'):=by
 refine eN [(0,_),(1,_)] func161 rfl ntmps161 rfl rfl hG ?_;intro a H;refine kP H (SR fun _ K1=>ak K1 rfl (SR fun _ K2=>Rm rfl (Rm rfl ?_)));clear H K1;intro a H;refine s_call abL H wn rfl (aei _ _ H.ro s p hs hp) rfl ?_;clear H;rintro v7 _ a w ⟨rfl,rfl⟩ - H;exact kH H (ak K2 rfl (LR results161 rfl fun H=>H.rt ⟨rfl,rfl⟩))
def rO (s:ByteArray) (k:Nat):Bool:=decide (k < s.size) && decide (49≤gG s k) && decide (gG s k≤57)
theorem R9 (G:GH) (L:OL) (w0:World) (b:Nat) (s:ByteArray) (i:Int) (p v q:aj) (pl e:Int) (k:Nat) (hs:s.size≤4611686018427387904) (hO:gW G (fU b s i p v q pl e :: L) w0) :
  Calls prog 162 #[(aI b 0),vi k] w0 (gF w0 G (fU b s i p v q pl e :: L) fun u G' L'=>u=.bool (rO s k)∧L'=fU b s i p v q pl e :: L∧G'=G):=by
 refine jN (N:=30) (T:=[(0,_),(1,_)]) func162 rfl ntmps162 rfl rfl hO ?_;intro a H;refine kP H (SR fun _ K1=>ak K1 rfl (SR fun _ K2=>Rm rfl (Rm rfl (Rk rfl (aR uo fZ 0 rfl rfl (Rv fP rfl (Rc rfl (Rm rfl (Sp 12 rfl ?_ ?_))))))))) <;> clear H K1
 ·intro h12 a H
  try have oJ:=dT h12
  refine kH H (YM h12 rfl ?_);clear H;intro a H;refine qR H (wg H rfl rfl h12) rfl rfl ?_;clear H;intro a H;refine kH H (YF uo h12 rfl (YO fZ 0 h12 rfl (YM h12 rfl ?_)));clear H;intro a H;refine nk k fP H (wg H rfl rfl h12) rfl rfl rfl (by omega) rfl ?_;clear H;intro a H;rw [← kU] at H;refine kH H (YC h12 rfl (Pt h12 rfl (Rm rfl (Sp 21 rfl ?_ ?_)))) <;> clear H
  ·intro h21 a H
   try have oK:=dT h21
   refine kH H (YM h21 rfl ?_);clear H;intro a H;refine qR H (wg H rfl rfl h21) rfl rfl ?_;clear H;intro a H;refine kH H (YF uo h21 rfl (YO fZ 0 h21 rfl (YM h21 rfl ?_)));clear H;intro a H;refine nk k fP H (wg H rfl rfl h21) rfl rfl rfl (by omega) rfl ?_;clear H;intro a H;rw [← kU] at H;exact kH H (YC h21 rfl (Pt h21 rfl (ak K2 rfl (LR results162 rfl fun H=>H.hp.eB ⟨aF (by unfold rO;first|(simp_all;done)|(simp_all;omega)),rfl,rfl⟩))))
  intro h21 a H
  try have oK:=dF h21
  exact kH H (aX h21 rfl (aP h21 rfl (aP h21 rfl (Pf h21 rfl (ak K2 rfl (LR results162 rfl fun H=>H.hp.eB ⟨aF (by unfold rO;first|(simp_all;done)|(simp_all;omega)),rfl,rfl⟩))))))
 intro h12 a H
 try have oJ:=dF h12
 exact kH H (aX h12 rfl (aP h12 rfl (aP h12 rfl (Pf h12 rfl (Rm rfl (aX rfl rfl (aP rfl rfl (aP rfl rfl (Pf rfl rfl (ak K2 rfl (LR results162 rfl fun H=>H.hp.eB ⟨aF (by unfold rO;first|(simp_all;done)|(simp_all;omega)),rfl,rfl⟩)))))))))))
structure rF where
 i:Nat
 lit:List UInt8
 parts:List iH
 pl:Nat
 e:Int
def ng (s:ByteArray) (x:rF):rF :=
 if pG (s.extract x.i s.size) ⟨#[37,37]⟩=true then ⟨x.i+2,x.lit++[37],x.parts,x.pl,x.e⟩
 else if rO s (x.i+1)=true then ⟨x.i+2,[],rQ x.lit x.parts++[⟨⟨#[]⟩,gG s (x.i+1) - 48,false⟩],x.pl+1,x.e⟩
 else if pG (s.extract x.i s.size) ⟨#[37,100]⟩=true∧rO s (x.i+2)=true then ⟨x.i+3,[],rQ x.lit x.parts++[⟨⟨#[]⟩,gG s (x.i+2) - 48,true⟩],x.pl+1,x.e⟩
 else ⟨x.i,x.lit,x.parts,x.pl,14⟩
abbrev tL (b:Nat) (s:ByteArray) (x:rF) (p v q:aj):Nat × Obj:=fU b s x.i p v q x.pl x.e
theorem R8 {s:ByteArray} {k:Nat} (h:rO s k=true):k < s.size∧49≤gG s k∧gG s k≤57:=by
 simpa [rO,and_assoc] using h
set_option maxHeartbeats 1000000 in
theorem agX (G:GH) (Lp Lo:OL) (w0:World) (b:Nat) (s:ByteArray) (x:rF) (p v q:aj) (hR:xG b x.lit x.parts p v q Lp Lo) (hO:gW G (tL b s x p v q :: (Lp++Lo)) w0) (hs:s.size≤4294967290) (hi:x.i < s.size) (hl:x.lit.length≤4294967290) (hp:x.parts.length≤4294967290) (hpl:x.pl≤4294967290) :
    Calls prog 158 #[(aI b 0)] w0 (gF w0 G (tL b s x p v q :: (Lp++Lo)) fun u G' L'=>∃ p' v' q' om eO,L'=tL b s (ng s x) p' v' q' :: (om++eO)∧xG b (ng s x).lit (ng s x).parts p' v' q' om eO):=by
  obtain ⟨i,lit,parts,pl,e⟩:=x;dsimp only [tL] at *
  have hex:(s.extract i s.size).size≤4611686018427387904:=by rw [ByteArray.size_extract];omega
  obtain ⟨A,c,rfl,U1,U2⟩:=hR.buf.shape;obtain ⟨B,d,rfl,UJ,UK⟩:=hR.prt.shape;obtain ⟨Lt,nH⟩:∃ x,x=Lp++Lo:=⟨_,rfl⟩;rw [← nH] at hO ⊢;refine jN (N:=93) (T:=[(0,_)]) func158 rfl ntmps158 rfl rfl hO ?_;intro a H;refine xK ?_;refine bq (fun _ K1=>?_);refine dI hmx [[],[0],[0,1],[0,1,2],[],[4],[4,5],[4,5,6],(ra 0 8),(ra 0 9),(ra 0 10)] [] (by kernel_rfl) [_,_,_,.string s,_,_,_,vi i,.string (s.extract i s.size),.bool (pG (s.extract i s.size) ⟨#[37,37]⟩),_] H (aD (Z0 rfl (Rm rfl)) (Z1 0 6 rfl (Rk rfl)) (Z1 1 7 rfl (Rf uo rfl)) (Z1 2 8 rfl (Ro fZ 0 rfl)) (aD (Z0 rfl (Rm rfl)) (Z1 4 10 rfl (Rk rfl)) (Z1 5 11 rfl (Rf nO rfl)) (Z1 6 12 rfl (Ro aG 0 rfl)) (aW ?_ (aW ?_ (aW (Z1 9 15 rfl (Ra rfl)) bY))))) ?_
  · refine dz 3 9 7 13 rfl rfl fun _ a w G1 hG HT H fin=>?_;refine Pv i fP H wn rfl rfl rfl (by omega) rfl ?_;clear H;intro a H;exact fin H iJ rfl
  · refine dL 8 14 rfl rfl fun _ a w G1 hG HT H fin=>?_;refine s_call Mk H wn rfl (Nr _ _ H.ro _ _ hex (by decide)) rfl ?_;clear H;rintro v15 BP a w ⟨rfl,rfl⟩ zG H;exact fin H zG (rfl)
  clear H;intro a w G mJ H hv;have H:=H.aQ (hv 10 5 rfl rfl) rfl;clear hv;refine aH ⟨rfl,?_⟩;refine K1 _ _ ?_;clear K1;refine kV H rfl ?_ ?_
  · intro h5
    try have p5:=dT h5
    refine kP H (SR fun _ K2=>Rm rfl (Rk rfl (Rf FT rfl ?_)));clear H;intro a H;refine gN Sr (Li:=[]) (L:=fU b s i p (.slice A lit.length c) (.slice B parts.length d) pl e :: Lt) H wn rfl (by subst nH;exact XF _ Lp Lo _ b s i p _ B parts.length d pl e lit.length _ 37 hR.ptr (Hp.owns (Li:=[]) H.hp) hR.buf (by omega)) rfl ?_;clear H;rintro v19 _ L19 a w ⟨akv,BZ,rfl,vI,rfl⟩ rU H;dsimp only [List.nil_append] at H;obtain ⟨H7,c19,rfl,-,-⟩:=vI.shape;refine K2 _ _ ?_;clear K2;refine kP H (SC (Rm rfl (Rk rfl (aR nO aG 0 rfl rfl (Rd rfl (Rk rfl (Rf nO rfl ?_)))))));clear H;intro a H;refine bF aG 0 (vs:=[_]) _ H wn rfl rfl rfl rfl rfl rfl rfl rfl ?_;clear H;intro w H;dsimp only [List.set,setRow] at H;refine aH ?_;refine (leave0 H results158 ?_).2;exact H.hp.eB ⟨_,_,_,Lp,BZ,by rw [ng,au h5];rfl,by rw [ng,au h5];exact ⟨.inr rfl,by simpa [Lib.byteCells] using vI,hR.prt⟩⟩
  intro h5
  try have p5:=dF h5
  refine kP H (SR fun _ K3=>Rm rfl (Rm rfl (Rk rfl (aR nO aG 0 rfl rfl (Rd rfl ?_)))));clear H;intro a H;rw [show ((i:Int)+1)=((i+1:Nat):Int) from rfl] at H;refine gN Sw (Li:=[]) (L:=fU b s i p (.slice A lit.length c) (.slice B parts.length d) pl e :: Lt) H wn rfl (R9 _ Lt _ b s i p _ _ pl e (i+1) (by omega) (Hp.owns (Li:=[]) H.hp)) rfl ?_;clear H;rintro v34 _ L34 a w ⟨rfl,rfl,rfl⟩ Ur H;dsimp only [List.nil_append] at H;refine kH H (ak K3 rfl (Cd rfl ?_ ?_)) <;> clear H K3
  · intro h27 a H
    try have p27:=dT h27
    have hd1:=R8 h27;refine bq (fun _ K4=>?_);refine dI hmx [[],[],[1],[1,2],[1,2,3],[],[5],[5,6],[5,6,7],(ra 5 4),(ra 1 9),(ra 0 11)] [11] (by kernel_rfl) [_,_,_,_,.string s,_,_,_,vi i,_,.int .u8 (gG s (i+1))] H (aD (Z0 rfl (Rm rfl)) (Z0 rfl (Rm rfl)) (Z1 1 36 rfl (Rk rfl)) (Z1 2 37 rfl (Rf uo rfl)) (aD (Z1 3 38 rfl (Ro fZ 0 rfl)) (Z0 rfl (Rm rfl)) (Z1 5 40 rfl (Rk rfl)) (Z1 6 41 rfl (Rf nO rfl)) (aD (Z1 7 42 rfl (Ro aG 0 rfl)) (Z1 8 43 rfl (Rd rfl)) ?_ (bL rfl) bY))) ?_
    · refine dz 4 39 9 44 rfl rfl fun _ a w G1 hG HT H fin=>?_;refine nk (i+1) fP H wn rfl rfl rfl hd1.1 rfl ?_;clear H;intro a H;rw [← kU] at H;exact fin H iJ rfl
    clear H;intro a w G AZ H hv;have H:=H.aQ (hv 0 35 rfl rfl) rfl;have H:=H.aQ (hv 10 45 rfl rfl) rfl;clear hv;refine gN Sy (Li:=[]) (L:=fU b s i p (.slice A lit.length c) (.slice B parts.length d) pl e :: Lt) H wn rfl (by subst nH;exact V6 _ Lp Lo _ b s i p _ _ pl e lit parts (gG s (i+1)) false hR (Hp.owns (Li:=[]) H.hp) (by omega) (by omega) hd1.2 (by omega)) rfl ?_;clear H;rintro v46 Qm L46 a w ⟨p46,aiT,q46,Fh,Cb,rfl,zK⟩ Gm H;dsimp only [List.nil_append] at H;obtain ⟨X7,c46,rfl,-,-⟩:=zK.buf.shape;obtain ⟨Yb,d46,rfl,-,-⟩:=zK.prt.shape;refine aH ⟨rfl,?_⟩;refine K4 _ _ ?_;clear K4;refine kP H (SC (Rm rfl (Rk rfl (aR nO aG 0 rfl rfl (Rd rfl (Rk rfl (Rf nO rfl ?_)))))));clear H;intro a H;refine bF aG 0 (vs:=[_]) _ H wn rfl rfl rfl rfl rfl rfl rfl rfl ?_;clear H;intro w H;dsimp only [List.set,setRow] at H;refine aH ?_;refine (leave0 H results158 ?_).2;exact H.hp.eB ⟨_,_,_,Fh,Cb,by rw [ng,ah (by simp [h5]),au h27];rfl,by rw [ng,ah (by simp [h5]),au h27];exact zK⟩
  intro h27 a H
  try have p27:=dF h27
  refine bq (fun _ K5=>?_)
  by_cases c1:pG (s.extract i s.size) ⟨#[37,100]⟩=true
  · skip;refine dI hmx [[],[0],[0,1],[0,1,2],[],[4],[4,5],[4,5,6],(ra 0 8),(ra 0 9),(ra 0 10),(ra 0 11),(ra 0 11),(ra 0 11++[12]),(ra 0 11++[12,13]),(ra 0 11++[12,13,14]),(ra 0 11++ra 12 4),(ra 0 17),(ra 0 18),(ra 0 19)] [] (by kernel_rfl) [_,_,_,.string s,_,_,_,vi i,.string (s.extract i s.size),.bool (pG (s.extract i s.size) ⟨#[37,100]⟩),.bool (decide (pG (s.extract i s.size) ⟨#[37,100]⟩=true)),_,_,(aI b 0),_,vi i,vi ((i+2:Nat):Int),.bool (rO s (i+2)),_,_] H (aD (Z0 rfl (Rm rfl)) (Z1 0 55 rfl (Rk rfl)) (Z1 1 56 rfl (Rf uo rfl)) (Z1 2 57 rfl (Ro fZ 0 rfl)) (aD (Z0 rfl (Rm rfl)) (Z1 4 59 rfl (Rk rfl)) (Z1 5 60 rfl (Rf nO rfl)) (Z1 6 61 rfl (Ro aG 0 rfl)) (aD ?_ ?_ ?_ (Z1 10 65 rfl (YM (aC c1) rfl)) (aD (Z1 10 65 rfl (YM (aC c1) rfl)) ?_ (Z2 13 68 10 65 rfl (YF nO (aC c1) rfl)) (Z2 14 69 10 65 rfl (YO aG 0 (aC c1) rfl)) (aD ?_ ?_ (Z2 10 65 17 72 rfl (Pt (aC c1) rfl)) (Z1 18 73 rfl (Ra rfl)) bY))))) ?_
    · refine dz 3 58 7 62 rfl rfl fun _ a w G1 hG HT H fin=>?_;refine Pv i fP H wn rfl rfl rfl (by omega) rfl ?_;clear H;intro a H;exact fin H iJ rfl
    · refine dL 8 63 rfl rfl fun _ a w G1 hG HT H fin=>?_;refine s_call Mk H wn rfl (Nr _ _ H.ro _ _ hex (by decide)) rfl ?_;clear H;rintro v64 Yt a w ⟨rfl,rfl⟩ Ni H;exact fin H Ni (rfl)
    · refine dL 9 64 rfl rfl fun _ a w G1 hG HT H fin=>?_;refine kH H (Rm rfl ?_);clear H;intro a H;exact fin H iJ (by show _=_;simp)
    · refine dz 12 67 10 65 rfl rfl fun _ a w G1 hG HT H fin=>?_;refine qR H (wg H rfl rfl (aC c1)) rfl rfl ?_;clear H;intro a H;exact fin H iJ rfl
    · refine dz 15 70 10 65 rfl rfl fun _ a w G1 hG HT H fin=>?_;refine J3 _ H (wg H rfl rfl (aC c1)) rfl rfl rfl (by omega) (by omega) rfl ?_;clear H;intro a H;exact fin H iJ rfl
    · refine qF 11 66 16 71 10 65 rfl rfl fun _ a w G1 hG HT H fin=>?_;refine gN Sw (Li:=[]) (L:=fU b s i p (.slice A lit.length c) (.slice B parts.length d) pl e :: Lt) H (wg H rfl rfl (aC c1)) rfl (R9 _ Lt _ b s i p _ _ pl e (i+2) (by omega) (Hp.owns (Li:=[]) H.hp)) rfl ?_;clear H;rintro v72 G72 L72 a w ⟨rfl,rfl,rfl⟩ adU H;dsimp only [List.nil_append] at H;exact fin H adU (rfl)
    clear H;intro a w G zJ H hv;have H:=H.aQ (hv 19 54 rfl rfl) rfl;clear hv;refine aH ⟨rfl,?_⟩;refine K5 _ _ ?_;clear K5;refine kV H rfl ?_ ?_
    · intro gU
      try have p54:=dT gU
      have hd2:=R8 gU;refine bq (fun _ K6=>?_);refine dI hmx [[],[],[1],[1,2],[1,2,3],[],[5],[5,6],[5,6,7],(ra 5 4),(ra 1 9),(ra 0 11)] [11] (by kernel_rfl) [_,_,_,_,.string s,_,_,_,vi i,_,.int .u8 (gG s (i+2))] H (aD (Z0 rfl (Rm rfl)) (Z0 rfl (Rm rfl)) (Z1 1 75 rfl (Rk rfl)) (Z1 2 76 rfl (Rf uo rfl)) (aD (Z1 3 77 rfl (Ro fZ 0 rfl)) (Z0 rfl (Rm rfl)) (Z1 5 79 rfl (Rk rfl)) (Z1 6 80 rfl (Rf nO rfl)) (aD (Z1 7 81 rfl (Ro aG 0 rfl)) (Z1 8 82 rfl (Rd rfl)) ?_ (bL rfl) bY))) ?_
      · refine dz 4 78 9 83 rfl rfl fun _ a w G1 hG HT H fin=>?_;refine nk (i+2) fP H wn rfl rfl rfl hd2.1 rfl ?_;clear H;intro a H;rw [← kU] at H;exact fin H iJ rfl
      clear H;intro a w G qK H hv;have H:=H.aQ (hv 0 74 rfl rfl) rfl;have H:=H.aQ (hv 10 84 rfl rfl) rfl;clear hv;refine gN Sy (Li:=[]) (L:=fU b s i p (.slice A lit.length c) (.slice B parts.length d) pl e :: Lt) H wn rfl (by subst nH;exact V6 _ Lp Lo _ b s i p _ _ pl e lit parts (gG s (i+2)) true hR (Hp.owns (Li:=[]) H.hp) (by omega) (by omega) hd2.2 (by omega)) rfl ?_;clear H;rintro v85 G85 L85 a w ⟨p46,aiT,q46,Fh,Cb,rfl,zK⟩ ajX H;dsimp only [List.nil_append] at H;obtain ⟨X7,c46,rfl,-,-⟩:=zK.buf.shape;obtain ⟨Yb,d46,rfl,-,-⟩:=zK.prt.shape;refine aH ⟨rfl,?_⟩;refine K6 _ _ ?_;clear K6;refine kP H (SC (Rm rfl (Rk rfl (aR nO aG 0 rfl rfl (Rd rfl (Rk rfl (Rf nO rfl ?_)))))));clear H;intro a H;refine bF aG 0 (vs:=[_]) _ H wn rfl rfl rfl rfl rfl rfl rfl rfl ?_;clear H;intro w H;dsimp only [List.set,setRow] at H;refine aH ?_;refine (leave0 H results158 ?_).2
      have tC:¬ pG (s.extract i s.size) ⟨#[37,37]⟩=true:=by simp [h5]
      have tu:¬ rO s (i+1)=true:=by simp [h27]
      first
        | exact H.hp.eB ⟨_,_,_,Fh,Cb,by rw [ng,ah tC,ah tu,au ⟨c1,gU⟩];rfl,by rw [ng,ah tC,ah tu,au ⟨c1,gU⟩];exact zK⟩
        | (have wJ:¬ (pG (s.extract i s.size) ⟨#[37,100]⟩=true∧rO s (i+2)=true):=by simp_all
           exact H.hp.eB ⟨_,_,_,Lp,Lo,by rw [ng,ah tC,ah tu,ah wJ,nH],by rw [ng,ah tC,ah tu,ah wJ];exact hR⟩)
    intro gU
    try have p54:=dF gU
    refine kP H (SC (Rm rfl (Rk rfl (Rf xP rfl ?_))));clear H;intro a H;refine bF fV 0 (vs:=[_]) _ H wn rfl rfl rfl rfl rfl rfl rfl rfl ?_;clear H;intro w H;dsimp only [List.set,setRow] at H;refine aH ?_;refine (leave0 H results158 ?_).2
    have tC:¬ pG (s.extract i s.size) ⟨#[37,37]⟩=true:=by simp [h5]
    have tu:¬ rO s (i+1)=true:=by simp [h27]
    first
      | exact H.hp.eB ⟨_,_,_,Fh,Cb,by rw [ng,ah tC,ah tu,au ⟨c1,gU⟩];rfl,by rw [ng,ah tC,ah tu,au ⟨c1,gU⟩];exact zK⟩
      | (have wJ:¬ (pG (s.extract i s.size) ⟨#[37,100]⟩=true∧rO s (i+2)=true):=by simp_all
         exact H.hp.eB ⟨_,_,_,Lp,Lo,by rw [ng,ah tC,ah tu,ah wJ,nH],by rw [ng,ah tC,ah tu,ah wJ];exact hR⟩)
  skip;refine dI hmx [[],[0],[0,1],[0,1,2],[],[4],[4,5],[4,5,6],(ra 0 8),(ra 0 9),(ra 0 10),(ra 0 11),(ra 0 11),(ra 0 11++[12]),(ra 0 11++[12,13]),(ra 0 11++[12,13,14]),(ra 0 11++ra 12 4),(ra 0 17),(ra 0 18),(ra 0 19)] [] (by kernel_rfl) [_,_,_,.string s,_,_,_,vi i,.string (s.extract i s.size),.bool (pG (s.extract i s.size) ⟨#[37,100]⟩),.bool (decide (pG (s.extract i s.size) ⟨#[37,100]⟩=true)),undef,undef,undef,undef,undef,undef,undef,_,_] H (aD (Z0 rfl (Rm rfl)) (Z1 0 55 rfl (Rk rfl)) (Z1 1 56 rfl (Rf uo rfl)) (Z1 2 57 rfl (Ro fZ 0 rfl)) (aD (Z0 rfl (Rm rfl)) (Z1 4 59 rfl (Rk rfl)) (Z1 5 60 rfl (Rf nO rfl)) (Z1 6 61 rfl (Ro aG 0 rfl)) (aD ?_ ?_ ?_ (aL (j:=10) (by kernel_rfl) (fun _ _ _ _ _ h=>h) rfl rfl rfl rfl rfl (fun _ _ h=>aN h (aF (aO c1))) rfl (fun _=>rfl)) (aD (aL (j:=10) (by kernel_rfl) (fun _ _ _ _ _ h=>h) rfl rfl rfl rfl rfl (fun _ _ h=>aN h (aF (aO c1))) rfl (fun _=>rfl)) (aL (j:=10) (by kernel_rfl) (fun _ _ _ _ _ h=>h) rfl rfl rfl rfl rfl (fun _ _ h=>aN h (aF (aO c1))) rfl (fun _=>rfl)) (aL (j:=10) (by kernel_rfl) (fun _ _ _ _ _ h=>h) rfl rfl rfl rfl rfl (fun _ _ h=>aN h (aF (aO c1))) rfl (fun _=>rfl)) (aL (j:=10) (by kernel_rfl) (fun _ _ _ _ _ h=>h) rfl rfl rfl rfl rfl (fun _ _ h=>aN h (aF (aO c1))) rfl (fun _=>rfl)) (aD (aL (j:=10) (by kernel_rfl) (fun _ _ _ _ _ h=>h) rfl rfl rfl rfl rfl (fun _ _ h=>aN h (aF (aO c1))) rfl (fun _=>rfl)) (aL (j:=10) (by kernel_rfl) (fun _ _ _ _ _ h=>h) rfl rfl rfl rfl rfl (fun _ _ h=>aN h (aF (aO c1))) rfl (fun _=>rfl)) (Z2 10 65 17 72 rfl (Pf (aO c1) rfl)) (Z1 18 73 rfl (Ra rfl)) bY))))) ?_
  · refine dz 3 58 7 62 rfl rfl fun _ a w G1 hG HT H fin=>?_;refine Pv i fP H wn rfl rfl rfl (by omega) rfl ?_;clear H;intro a H;exact fin H iJ rfl
  · refine dL 8 63 rfl rfl fun _ a w G1 hG HT H fin=>?_;refine s_call Mk H wn rfl (Nr _ _ H.ro _ _ hex (by decide)) rfl ?_;clear H;rintro v64 Yt a w ⟨rfl,rfl⟩ Ni H;exact fin H Ni (rfl)
  · refine dL 9 64 rfl rfl fun _ a w G1 hG HT H fin=>?_;refine kH H (Rm rfl ?_);clear H;intro a H;exact fin H iJ (by show _=_;simp)
  clear H;intro a w G zJ H hv;have H:=H.aQ (hv 19 54 rfl rfl) rfl;clear hv;refine aH ⟨rfl,?_⟩;refine K5 _ _ ?_;clear K5;refine kW H rfl rfl ?_;refine kP H (SC (Rm rfl (Rk rfl (Rf xP rfl ?_))));clear H;intro a H;refine bF fV 0 (vs:=[_]) _ H wn rfl rfl rfl rfl rfl rfl rfl rfl ?_;clear H;intro w H;dsimp only [List.set,setRow] at H;refine aH ?_;refine (leave0 H results158 ?_).2
  have tC:¬ pG (s.extract i s.size) ⟨#[37,37]⟩=true:=by simp [h5]
  have tu:¬ rO s (i+1)=true:=by simp [h27]
  first
    | exact H.hp.eB ⟨_,_,_,Fh,Cb,by rw [ng,ah tC,ah tu,au ⟨c1,gU⟩];rfl,by rw [ng,ah tC,ah tu,au ⟨c1,gU⟩];exact zK⟩
    | (have wJ:¬ (pG (s.extract i s.size) ⟨#[37,100]⟩=true∧rO s (i+2)=true):=by simp_all
       exact H.hp.eB ⟨_,_,_,Lp,Lo,by rw [ng,ah tC,ah tu,ah wJ,nH],by rw [ng,ah tC,ah tu,ah wJ];exact hR⟩)
end
section
open Go.RowKit
theorem abI:∀ args w,(callFunc 158 args).run prog w=.ok (.enter 158 args) w:=enters func158 rfl (by kernel_rfl)
def IC (s:ByteArray) (i:Nat):UInt8:=if h:i < s.size then s[i] else 0
theorem Zn (s:ByteArray) (i:Nat):gG s i=((IC s i).toNat:Int):=by
 unfold gG IC;split <;> rfl
def mO (s:ByteArray) (x:rF):rF:=if gG s x.i=37 then ng s x else ⟨x.i+1,x.lit++[IC s x.i],x.parts,x.pl,x.e⟩
def Ac (s:ByteArray):Nat→rF→rF
 | 0,x=>x
 | f+1,x=>if x.i < s.size∧x.e=0 then Ac s f (mO s x) else x
def mS (s:ByteArray) (x:rF):Nat:=if x.e=0 then s.size - x.i else 0
theorem WR {s:ByteArray} {f:Nat} {x:rF} (h:¬ (x.i < s.size∧x.e=0)):Ac s f x=x:=by
 cases f with
 | zero=>rfl
 | succ f=>rw [Ac,ah h]
theorem ady (lit:List UInt8) (parts:List iH):(rQ lit parts).length≤parts.length+1:=by unfold rQ;split <;> simp
theorem Xi (s:ByteArray) (x:rF) (h:x.i < s.size∧x.e=0) (h1:x.lit.length≤x.i) (h2:x.parts.length≤2*x.i) (h3:x.pl≤x.i) :
  (mO s x).i≤x.i+3∧(mO s x).lit.length≤(mO s x).i∧(mO s x).parts.length≤2*(mO s x).i∧(mO s x).pl≤(mO s x).i∧mS s (mO s x) < mS s x∧mS s x≤s.size:=by
 have hf:=ady x.lit x.parts;have hm:mS s x=s.size - x.i:=au h.2
 unfold mO ng
 split
 ·split
  ·refine ⟨?_,?_,?_,?_,?_,?_⟩ <;> simp only [mS,lH,nA,List.length_nil] at*<;> simp only [h.2,if_true] at*<;> omega
  split
  ·refine ⟨?_,?_,?_,?_,?_,?_⟩ <;> simp only [mS,lH,nA,List.length_nil] at*<;> simp only [h.2,if_true] at*<;> omega
  split
  ·refine ⟨?_,?_,?_,?_,?_,?_⟩ <;> simp only [mS,lH,nA,List.length_nil] at*<;> simp only [h.2,if_true] at*<;> omega
  refine ⟨?_,?_,?_,?_,?_,?_⟩ <;> simp only [mS,lH,nA,List.length_nil] at*<;> simp only [h.2,if_true] at*<;> (try omega) <;> (simp;omega)
 refine ⟨?_,?_,?_,?_,?_,?_⟩ <;> simp only [mS,lH,nA,List.length_nil] at*<;> simp only [h.2,if_true] at*<;> omega
def yx:rF:=⟨0,[],[],0,0⟩
def jw (s:ByteArray):rF:=Ac s s.size yx
def qU (x:rF):Int:=if x.e=0∧9 < (x.pl:Int) then 9 else x.e
set_option maxHeartbeats 1000000 in
theorem ahO (G:GH) (Ir Ip:OL) (w0:World) (b:Nat) (s:ByteArray) (p0 v0 q0:aj) (hR:xG b [] [] p0 v0 q0 Ir Ip) (hO:gW G (tL b s yx p0 v0 q0 :: (Ir++Ip)) w0) (hs:s.size≤1073741824) :
  Calls prog 154 #[(aI b 0)] w0 (gF w0 G (tL b s yx p0 v0 q0 :: (Ir++Ip)) fun u G' L'=>∃ p' v' q' om eO,L'=fU b s (jw s).i p' v' q' (jw s).pl (qU (jw s)) :: (om++eO)∧xG b [] (rQ (jw s).lit (jw s).parts) p' v' q' om eO):=by
 obtain ⟨A0,c0,rfl,-,-⟩:=hR.buf.shape;obtain ⟨B0,d0,rfl,-,-⟩:=hR.prt.shape;refine jN (N:=68) (T:=[(0,_)]) func154 rfl ntmps154 rfl rfl hO ?_;intro a H;refine bq (fun _ K1=>?_);refine xK ?_;skip;refine eZ (ι:=Nat × rF × aj × Option Addr × Nat × Option Addr × Nat × OL × OL × GH) (Tc:=[(0,_)]) (Lc:=[]) (fun gh=>[]) (fun gh=>[tL b s gh.2.1 gh.2.2.1 (.slice gh.2.2.2.1 gh.2.1.lit.length gh.2.2.2.2.1) (.slice gh.2.2.2.2.2.1 gh.2.1.parts.length gh.2.2.2.2.2.2.1)]++(gh.2.2.2.2.2.2.2.1++gh.2.2.2.2.2.2.2.2.1)) (fun gh=>gh.2.2.2.2.2.2.2.2.2) (fun gh=>xG b gh.2.1.lit gh.2.1.parts gh.2.2.1 (.slice gh.2.2.2.1 gh.2.1.lit.length gh.2.2.2.2.1) (.slice gh.2.2.2.2.2.1 gh.2.1.parts.length gh.2.2.2.2.2.2.1) gh.2.2.2.2.2.2.2.1 gh.2.2.2.2.2.2.2.2.1∧Ac s gh.1 gh.2.1=jw s∧mS s gh.2.1≤gh.1∧gh.1≤s.size∧gh.2.1.i≤s.size+3∧gh.2.1.lit.length≤gh.2.1.i∧gh.2.1.parts.length≤2*gh.2.1.i∧gh.2.1.pl≤gh.2.1.i) (fun gh=>gh.1) ((s.size,yx,p0,A0,c0,B0,d0,Ir,Ip,G)) (by exact (H).sub ⟨rfl,aB⟩) ?_ ?_
 ·exact ⟨hR,rfl,by simp [mS,yx],bU _,by simp [yx],by simp [yx],by simp [yx],by simp [yx]⟩
 clear H;intro gh a w hI H;obtain ⟨k,x,p,vA,vc,qA,qc,Lp,Lo,g⟩:=gh;dsimp only at hI H;obtain ⟨hR,hsc,hmk,hks,hxi,hx1,hx2,hx3⟩:=hI;dsimp only [lca,aZ] at H;refine bq (fun _ K2=>?_);refine bq (fun _ K3=>?_)
 by_cases c0:(x.i:Int) < (s.size:Int)
 ·skip
  by_cases c1:x.e=0
  ·skip;refine dI hmx [[],[0],[0,1],[0,1,2],[],[4],[4,5],[4,5,6],(ra 4 4),(ra 0 9),(ra 0 10),(ra 0 11),(ra 0 12),(ra 0 13),(ra 0 14),(ra 0 15),(ra 0 16)] [] (by kernel_rfl) [_,_,_,vi x.i,_,_,_,.string s,_,_,_,_,(aI b 0),_,vi x.e,_,_] H (aD (Z0 rfl (Rm rfl)) (Z1 0 2 rfl (Rk rfl)) (Z1 1 3 rfl (Rf nO rfl)) (Z1 2 4 rfl (Ro aG 0 rfl)) (aD (Z0 rfl (Rm rfl)) (Z1 4 6 rfl (Rk rfl)) (Z1 5 7 rfl (Rf uo rfl)) (Z1 6 8 rfl (Ro fZ 0 rfl)) (aD (Z1 7 9 rfl (Rv fP rfl)) (Z2 3 5 8 10 rfl (Rc rfl)) (Z1 9 11 rfl (Rm rfl)) (Z1 10 12 rfl (YM (aC c0) rfl)) (aD ?_ (Z2 12 14 10 12 rfl (YF xP (aC c0) rfl)) (Z2 13 15 10 12 rfl (YO fV 0 (aC c0) rfl)) (Z2 14 16 10 12 rfl (YC (aC c0) rfl)) (aW (Z2 10 12 15 17 rfl (Pt (aC c0) rfl)) bY))))) ?_
   ·refine dz 11 13 10 12 rfl rfl fun _ a w G1 hG HT H fin=>?_;refine qR H (wg H rfl rfl (aC c0)) rfl rfl ?_;clear H;intro a H;exact fin H iJ rfl
   clear H;intro a w G T9 H hv;have H:=H.aQ (hv 16 18 rfl rfl) rfl;clear hv;refine aH ⟨rfl,?_⟩;refine K3 _ _ ?_;clear K3;refine vX H rfl (aC c1) ?_;refine kP H (Kc K2 (SB (SQ fun _ K4=>SQ fun _ K5=>?_)));clear H K2;intro a H;refine dI hmx [[],[0],[0,1],[0,1,2],[],[4],[4,5],[4,5,6],(ra 0 8),(ra 0 9)] [] (by kernel_rfl) [_,_,_,.string s,_,_,_,vi x.i,.int .u8 (gG s x.i),_] H (aD (Z0 rfl (Rm rfl)) (Z1 0 19 rfl (Rk rfl)) (Z1 1 20 rfl (Rf uo rfl)) (Z1 2 21 rfl (Ro fZ 0 rfl)) (aD (Z0 rfl (Rm rfl)) (Z1 4 23 rfl (Rk rfl)) (Z1 5 24 rfl (Rf nO rfl)) (Z1 6 25 rfl (Ro aG 0 rfl)) (aW ?_ (aW (Z1 8 27 rfl (Rc rfl)) bY)))) ?_
   ·refine dz 3 22 7 26 rfl rfl fun _ a w G1 hG HT H fin=>?_;refine nk x.i fP H wn rfl rfl rfl (by omega) rfl ?_;clear H;intro a H;rw [← kU] at H;exact fin H iJ rfl
   clear H;intro a w G mJ H hv;have H:=H.aQ (hv 9 28 rfl rfl) rfl;clear hv;refine aH ⟨rfl,?_⟩;refine K5 _ _ ?_;clear K5;refine kV H rfl ?_ ?_
   ·intro eP
    try have p28:=dT eP
    refine kP H (SR fun _ K6=>Rm rfl ?_);clear H;intro a H;refine gN abI (Li:=[]) (L:=tL b s x p (.slice vA x.lit.length vc) (.slice qA x.parts.length qc) :: (Lp++Lo)) H wn rfl (agX _ Lp Lo _ b s x p _ _ hR (Hp.owns (Li:=[]) H.hp) (by omega) (by omega) (by omega) (by omega) (by omega)) rfl ?_;clear H;rintro v30 BQ L30 a w ⟨p',v',q',om,eO,rfl,Je⟩ CU H;dsimp only [List.nil_append] at H;have hst:mO s x=ng s x:=au p28;have hok:=Xi s x ⟨by omega,c1⟩ hx1 hx2 hx3
    have hkk:k=(k - 1)+1:=by omega
    have N9:Ac s (k - 1) (mO s x)=jw s:=by rw [hkk,Ac,au ⟨by omega,c1⟩] at hsc;exact hsc
    rw [← hst] at H Je;obtain ⟨X6,Zu,rfl,-,-⟩:=Je.buf.shape;obtain ⟨Ya,d30,rfl,-,-⟩:=Je.prt.shape;refine K6 _ _ ?_;clear K6;refine dW ?_;refine dw ((k - 1,mO s x,p',X6,Zu,Ya,d30,om,eO,BQ)) (by exact (H).sub ⟨rfl,aB⟩) ?_ ?_
    ·(try dsimp only);exact ⟨Je,N9,by omega,by omega,by omega,by omega,by omega,by omega⟩
    first|omega|(dsimp only;omega)
   intro eP
   try have p28:=dF eP
   refine fO ?_;refine K4 _ _ ?_;clear K4;refine bq (fun _ K7=>?_);refine dI hmx [[],[0],[0,1],[],[3],[3,4],[3,4,5],[],[7],[7,8],[7,8,9],(ra 3 8),(ra 0 12)] [12] (by kernel_rfl) [_,_,_,_,_,_,.string s,_,_,_,vi x.i,.int .u8 (gG s x.i)] H (aD (Z0 rfl (Rm rfl)) (Z1 0 31 rfl (Rk rfl)) (Z1 1 32 rfl (Rf FT rfl)) (Z0 rfl (Rm rfl)) (aD (Z1 3 34 rfl (Rk rfl)) (Z1 4 35 rfl (Rf uo rfl)) (Z1 5 36 rfl (Ro fZ 0 rfl)) (Z0 rfl (Rm rfl)) (aD (Z1 7 38 rfl (Rk rfl)) (Z1 8 39 rfl (Rf nO rfl)) (Z1 9 40 rfl (Ro aG 0 rfl)) ?_ (aW (bL rfl) bY)))) ?_
   ·refine dz 6 37 10 41 rfl rfl fun _ a w G1 hG HT H fin=>?_;refine nk x.i fP H wn rfl rfl rfl (by omega) rfl ?_;clear H;intro a H;rw [← kU] at H;exact fin H iJ rfl
   clear H;intro a w G Jd H hv;have H:=H.aQ (hv 2 33 rfl rfl) rfl;have H:=H.aQ (hv 11 42 rfl rfl) rfl;clear hv;refine gN Sr (Li:=[]) (L:=tL b s x p (.slice vA x.lit.length vc) (.slice qA x.parts.length qc) :: (Lp++Lo)) H wn rfl (XF _ Lp Lo _ b s x.i p _ qA x.parts.length qc x.pl x.e x.lit.length _ (gG s x.i) hR.ptr (Hp.owns (Li:=[]) H.hp) hR.buf (by omega)) rfl ?_;clear H;rintro v43 _ L43 a w ⟨akw,KR,rfl,UO,rfl⟩ vG H;dsimp only [List.nil_append] at H;obtain ⟨KG,LB,rfl,-,-⟩:=UO.shape;have hst:mO s x=⟨x.i+1,x.lit++[IC s x.i],x.parts,x.pl,x.e⟩:=ah p28;have hok:=Xi s x ⟨by omega,c1⟩ hx1 hx2 hx3
   have hkk:k=(k - 1)+1:=by omega
   have N9:Ac s (k - 1) (mO s x)=jw s:=by rw [hkk,Ac,au ⟨by omega,c1⟩] at hsc;exact hsc
   have aee:xG b (mO s x).lit (mO s x).parts (aI b 2) (.slice KG (mO s x).lit.length LB) (.slice qA (mO s x).parts.length qc) Lp KR:=by
    rw [hst];exact ⟨.inr rfl,by simpa [Lib.byteCells,Zn] using UO,hR.prt⟩
   refine aH ⟨rfl,?_⟩;refine K7 _ _ ?_;clear K7;refine kP H (SC (Rm rfl (Rk rfl (aR nO aG 0 rfl rfl (Rd rfl (Rk rfl (Rf nO rfl ?_)))))));clear H;intro a H;refine bF aG 0 (vs:=[_]) _ H wn rfl rfl rfl rfl rfl rfl rfl rfl ?_;clear H;intro w H;dsimp only [List.set,setRow] at H;replace H:St _ _ _ _ _ _ (tL b s (mO s x) (aI b 2) (.slice KG (mO s x).lit.length LB) (.slice qA (mO s x).parts.length qc) :: (Lp++KR)) _ _ _:=H.cast (by rw [hst];simp [tL,fU]);refine aH ?_;refine dw ((k - 1,mO s x,(aI b 2),KG,LB,qA,qc,Lp,KR,_)) (by exact (H).sub ⟨rfl,aB⟩) ?_ ?_
   ·(try dsimp only);exact ⟨aee,N9,by omega,by omega,by omega,by omega,by omega,by omega⟩
   first|omega|(dsimp only;omega)
  skip;refine dI hmx [[],[0],[0,1],[0,1,2],[],[4],[4,5],[4,5,6],(ra 4 4),(ra 0 9),(ra 0 10),(ra 0 11),(ra 0 12),(ra 0 13),(ra 0 14),(ra 0 15),(ra 0 16)] [] (by kernel_rfl) [_,_,_,vi x.i,_,_,_,.string s,_,_,_,_,(aI b 0),_,vi x.e,_,_] H (aD (Z0 rfl (Rm rfl)) (Z1 0 2 rfl (Rk rfl)) (Z1 1 3 rfl (Rf nO rfl)) (Z1 2 4 rfl (Ro aG 0 rfl)) (aD (Z0 rfl (Rm rfl)) (Z1 4 6 rfl (Rk rfl)) (Z1 5 7 rfl (Rf uo rfl)) (Z1 6 8 rfl (Ro fZ 0 rfl)) (aD (Z1 7 9 rfl (Rv fP rfl)) (Z2 3 5 8 10 rfl (Rc rfl)) (Z1 9 11 rfl (Rm rfl)) (Z1 10 12 rfl (YM (aC c0) rfl)) (aD ?_ (Z2 12 14 10 12 rfl (YF xP (aC c0) rfl)) (Z2 13 15 10 12 rfl (YO fV 0 (aC c0) rfl)) (Z2 14 16 10 12 rfl (YC (aC c0) rfl)) (aW (Z2 10 12 15 17 rfl (Pt (aC c0) rfl)) bY))))) ?_
  ·refine dz 11 13 10 12 rfl rfl fun _ a w G1 hG HT H fin=>?_;refine qR H (wg H rfl rfl (aC c0)) rfl rfl ?_;clear H;intro a H;exact fin H iJ rfl
  clear H;intro a w G T9 H hv;have H:=H.aQ (hv 16 18 rfl rfl) rfl;clear hv;refine aH ⟨rfl,?_⟩;refine K3 _ _ ?_;clear K3;refine kW H rfl (aO c1) ?_;refine dW ?_;refine K1 _ _ ?_;clear K1;refine bq (fun _ K8=>?_)
  have Oi:x=jw s:=by
   rw [WR (by first|exact fun h=>c0 (by omega)|exact fun h=>c1 h.2)] at hsc;exact hsc
  subst Oi;refine kP H (SC (Rm rfl ?_));clear H;intro a H;refine gN Mj (Li:=[]) (L:=tL b s (jw s) p (.slice vA (jw s).lit.length vc) (.slice qA (jw s).parts.length qc) :: (Lp++Lo)) H wn rfl (ML _ Lp Lo _ b s (jw s).i p _ _ (jw s).pl (jw s).e (jw s).lit (jw s).parts hR (Hp.owns (Li:=[]) H.hp) (by omega) (by omega)) rfl ?_;clear H;rintro v52 Ym Yz a w ⟨p52,aiU,q52,YP,YE,rfl,qm⟩ aeN H;dsimp only [List.nil_append] at H;obtain ⟨X8,Zv,rfl,-,-⟩:=qm.buf.shape;obtain ⟨Yc,d52,rfl,-,-⟩:=qm.prt.shape;refine kH H (Kn K8 (SR fun _ K9=>Rm rfl (Rk rfl (aR xP fV 0 rfl rfl (Rc rfl (Rm rfl (Sp 58 rfl ?_ ?_))))))) <;> clear H K8
  ·intro jr a H
   try have p58:=dT jr
   refine kH H (YM jr rfl ?_);clear H;intro a H;refine qR H (wg H rfl rfl jr) rfl rfl ?_;clear H;intro a H;refine kH H (YF IZ jr rfl (YO aG 0 jr rfl (YC jr rfl (Pt jr rfl (Kz K9 (Cd rfl ?_ ?_)))))) <;> clear H K9
   ·intro h64 a H
    try have p64:=dT h64
    refine kP H (SC (Rm rfl (Rk rfl (Rf xP rfl ?_))));clear H;intro a H;refine bF fV 0 (vs:=[_]) _ H wn rfl rfl rfl rfl rfl rfl rfl rfl ?_;clear H;intro w H;dsimp only [List.set,setRow] at H;refine aH ?_;refine (leave0 H results154 ?_).2
    first
     | exact H.hp.eB ⟨_,_,_,_,_,by rw [qU,au ⟨by assumption,by assumption⟩],qm⟩
     | exact H.hp.eB ⟨_,_,_,_,_,by rw [qU,ah (by first|exact fun h=>p58 h.1|exact fun h=>p64 h.2)],qm⟩
   intro h64 a H
   try have p64:=dF h64
   refine fO ?_;refine (leave0 H results154 ?_).2
   first
    | exact H.hp.eB ⟨_,_,_,_,_,by rw [qU,au ⟨by assumption,by assumption⟩],qm⟩
    | exact H.hp.eB ⟨_,_,_,_,_,by rw [qU,ah (by first|exact fun h=>p58 h.1|exact fun h=>p64 h.2)],qm⟩
  intro jr a H
  try have p58:=dF jr
  refine kH H (aX jr rfl (aP jr rfl (Pf jr rfl (Kz K9 (Cf rfl rfl ?_)))));clear H K9;intro a H;refine fO ?_;refine (leave0 H results154 ?_).2
  first
   | exact H.hp.eB ⟨_,_,_,_,_,by rw [qU,au ⟨by assumption,by assumption⟩],qm⟩
   | exact H.hp.eB ⟨_,_,_,_,_,by rw [qU,ah (by first|exact fun h=>p58 h.1|exact fun h=>p64 h.2)],qm⟩
 skip;refine dI hmx [[],[0],[0,1],[0,1,2],[],[4],[4,5],[4,5,6],(ra 4 4),(ra 0 9),(ra 0 10),(ra 0 11),(ra 0 12),(ra 0 13),(ra 0 14),(ra 0 15),(ra 0 16)] [] (by kernel_rfl) [_,_,_,vi x.i,_,_,_,.string s,_,_,_,undef,undef,undef,undef,undef,_] H (aD (Z0 rfl (Rm rfl)) (Z1 0 2 rfl (Rk rfl)) (Z1 1 3 rfl (Rf nO rfl)) (Z1 2 4 rfl (Ro aG 0 rfl)) (aD (Z0 rfl (Rm rfl)) (Z1 4 6 rfl (Rk rfl)) (Z1 5 7 rfl (Rf uo rfl)) (Z1 6 8 rfl (Ro fZ 0 rfl)) (aD (Z1 7 9 rfl (Rv fP rfl)) (Z2 3 5 8 10 rfl (Rc rfl)) (Z1 9 11 rfl (Rm rfl)) (aL (j:=10) (by kernel_rfl) (fun _ _ _ _ _ h=>h) rfl rfl rfl rfl rfl (fun _ _ h=>aN h (aF (aO c0))) rfl (fun _=>rfl)) (aD (aL (j:=10) (by kernel_rfl) (fun _ _ _ _ _ h=>h) rfl rfl rfl rfl rfl (fun _ _ h=>aN h (aF (aO c0))) rfl (fun _=>rfl)) (aL (j:=10) (by kernel_rfl) (fun _ _ _ _ _ h=>h) rfl rfl rfl rfl rfl (fun _ _ h=>aN h (aF (aO c0))) rfl (fun _=>rfl)) (aL (j:=10) (by kernel_rfl) (fun _ _ _ _ _ h=>h) rfl rfl rfl rfl rfl (fun _ _ h=>aN h (aF (aO c0))) rfl (fun _=>rfl)) (aL (j:=10) (by kernel_rfl) (fun _ _ _ _ _ h=>h) rfl rfl rfl rfl rfl (fun _ _ h=>aN h (aF (aO c0))) rfl (fun _=>rfl)) (aW (Z2 10 12 15 17 rfl (Pf (aO c0) rfl)) bY))))) ?_
 clear H;intro a w G T9 H hv;have H:=H.aQ (hv 16 18 rfl rfl) rfl;clear hv;refine aH ⟨rfl,?_⟩;refine K3 _ _ ?_;clear K3;refine kW H rfl rfl ?_;refine dW ?_;refine K1 _ _ ?_;clear K1;refine bq (fun _ aS=>?_)
 have Oi:x=jw s:=by
  rw [WR (by first|exact fun h=>c0 (by omega)|exact fun h=>c1 h.2)] at hsc;exact hsc
 subst Oi;refine kP H (SC (Rm rfl ?_));clear H;intro a H;refine gN Mj (Li:=[]) (L:=tL b s (jw s) p (.slice vA (jw s).lit.length vc) (.slice qA (jw s).parts.length qc) :: (Lp++Lo)) H wn rfl (ML _ Lp Lo _ b s (jw s).i p _ _ (jw s).pl (jw s).e (jw s).lit (jw s).parts hR (Hp.owns (Li:=[]) H.hp) (by omega) (by omega)) rfl ?_;clear H;rintro v52 Ym Yz a w ⟨p52,aiU,q52,YP,YE,rfl,qm⟩ aeN H;dsimp only [List.nil_append] at H;obtain ⟨X8,Zv,rfl,-,-⟩:=qm.buf.shape;obtain ⟨Yc,d52,rfl,-,-⟩:=qm.prt.shape;refine kH H (Kn aS (SR fun _ bA=>Rm rfl (Rk rfl (aR xP fV 0 rfl rfl (Rc rfl (Rm rfl (Sp 58 rfl ?_ ?_))))))) <;> clear H aS
 ·intro jr a H
  try have p58:=dT jr
  refine kH H (YM jr rfl ?_);clear H;intro a H;refine qR H (wg H rfl rfl jr) rfl rfl ?_;clear H;intro a H;refine kH H (YF IZ jr rfl (YO aG 0 jr rfl (YC jr rfl (Pt jr rfl (Kz bA (Cd rfl ?_ ?_)))))) <;> clear H bA
  ·intro h64 a H
   try have p64:=dT h64
   refine kP H (SC (Rm rfl (Rk rfl (Rf xP rfl ?_))));clear H;intro a H;refine bF fV 0 (vs:=[_]) _ H wn rfl rfl rfl rfl rfl rfl rfl rfl ?_;clear H;intro w H;dsimp only [List.set,setRow] at H;refine aH ?_;refine (leave0 H results154 ?_).2
   first
    | exact H.hp.eB ⟨_,_,_,_,_,by rw [qU,au ⟨by assumption,by assumption⟩],qm⟩
    | exact H.hp.eB ⟨_,_,_,_,_,by rw [qU,ah (by first|exact fun h=>p58 h.1|exact fun h=>p64 h.2)],qm⟩
  intro h64 a H
  try have p64:=dF h64
  refine fO ?_;refine (leave0 H results154 ?_).2
  first
   | exact H.hp.eB ⟨_,_,_,_,_,by rw [qU,au ⟨by assumption,by assumption⟩],qm⟩
   | exact H.hp.eB ⟨_,_,_,_,_,by rw [qU,ah (by first|exact fun h=>p58 h.1|exact fun h=>p64 h.2)],qm⟩
 intro jr a H
 try have p58:=dF jr
 refine kH H (aX jr rfl (aP jr rfl (Pf jr rfl (Kz bA (Cf rfl rfl ?_)))));clear H bA;intro a H;refine fO ?_;refine (leave0 H results154 ?_).2
 first
  | exact H.hp.eB ⟨_,_,_,_,_,by rw [qU,au ⟨by assumption,by assumption⟩],qm⟩
  | exact H.hp.eB ⟨_,_,_,_,_,by rw [qU,ah (by first|exact fun h=>p58 h.1|exact fun h=>p64 h.2)],qm⟩
end
section
open Go.RowKit
def xk (c:Int):List Dat:=[.lf (.int .u8 c)]
theorem Xp {G:GH} {c:Int} {cs:List aj} (h:aY G (xk c) cs):cs=[.int .u8 c]:=by
 simp only [xk,aY,av] at h
 obtain ⟨_,_,rfl,⟨rfl,_⟩,rfl⟩:=h
 rfl
def D6 (s:ByteArray):List Int:=s.data.toList.map fun b=>(b.toNat:Int)
theorem Zt (G:GH) (l:List Int):fH G 1 (l.map xk) (l.map fun c=>Value.int .u8 c):=by
 refine ⟨l.map fun c=>[.int .u8 c],by induction l with|nil=>rfl|cons x r ih=>simp [ih],by simp,fun j r cs hr hc=>?_⟩
 rw [pY] at hr hc
 obtain ⟨x,hx,rfl⟩:=lD.1 hr
 rw [hx] at hc
 cases hc
 exact ⟨by simp only [xk,aY];exact ⟨_,_,rfl,by simp [av,Value.oneCell'],rfl⟩,rfl⟩
theorem ahn {G:GH} {sz b o n cap:Nat} {cur:Array aj} {e:TypeId} {fz:Nat × Nat} {rows:List (List Dat)} (hb:G b=some (.cells cur e fz)) (h:av (fun k=>if k=b then some (.cells cur e (0,0)) else G k) (.sl sz rows) (.slice (some ⟨b,o,none⟩) n cap)) (hr:∀ r∈rows,∃ c,r=xk c):av G (.sl sz rows) (.slice (some ⟨b,o,none⟩) n cap):=by
 simp only [av] at h ⊢
 obtain ⟨A,c,h1,h2,h3,h4⟩:=h
 refine ⟨A,c,h1,h2,h3,fun hn=>?_⟩
 obtain ⟨b',o',e',hrr⟩:=h4 hn
 injection h1 with e1
 subst e1
 injection e' with e2
 injection e2 with e3 e4
 subst e3;subst e4
 refine ⟨_,_,rfl,kG.mk fun k r hk=>?_⟩
 obtain ⟨cs,g1,g2,g3⟩:=hrr.get hk
 refine ⟨cs,g1,fun j u hj=>?_,?_⟩
 ·have:=g2 j u hj
  unfold aJ at this ⊢
  simp only [if_true] at this
  rw [hb];exact this
 ·obtain ⟨c,rfl⟩:=hr r (kT hk)
  have:=Xp g3
  subst this
  simp only [xk,aY];exact ⟨_,_,rfl,by simp [av,Value.oneCell'],rfl⟩
section
variable {N:Nat} {D:List Deferred} {w0:World} {F:Nat→Prop} {G0 G:GH} {L:OL} {T:List (Nat × aj)}
variable {r:Option Nat} {P:Program} {ops:Array Oper} {Q:Exit→Act→World→Prop} {rest:List Oper} {a:Act} {w:World}
variable {d:Nat} {ty:TypeId} {pos:String} {aM:Array Edge} {g:Option (Nat × Bool)}
theorem aiQ {w:World} {b o n:Nat} {c:Array aj} {e:TypeId} {fz:Nat × Nat} (h:w.heap[b]?=some (.cells c e fz)) (hn:n≠0):∃ Cx,sH b (.cells c e Cx) w (w.freeze ⟨b,o,none⟩ n):=by
 unfold World.freeze
 rw [ah hn]
 refine ⟨if fz.1 == fz.2 then (o,o+n) else (min fz.1 o,max fz.2 (o+n)),rfl,rfl,rfl,by simp,?_,fun k hk=>?_⟩
 ·simp [Array.getElem?_modify,h]
 ·simp [Array.getElem?_modify,Ne.symm hk]
theorem ahC {t u e:TypeId} {x:Operand} {s:ByteArray} (ht:P.underlying t=some .string) (hu:P.underlying u=some (.slice e)) (he:P.underlying e=some (.int .u8)) (H:St N D w0 F G0 G L T a w) (hw:Region.wanted ⟨some d,.convert t u x,ty,pos,aM,g⟩ (yielded ops a.tmps)=true) (hx:ev T x=some (.string s)) (hz:s.size≤4294967296) (hd:Nat.blt d N=true)
  (k:∀ v G' a' w',(∀ k o,G k=some o→G' k=some o)→av G' (.sl 1 ((D6 s).map xk)) v→St N D w0 F G0 G' L ((d,v) :: T) a' w'→WL r P ops Q rest a' w'):WL r P ops Q (⟨some d,.convert t u x,ty,pos,aM,g⟩ :: rest) a w:=by
 have hc:=Lib.run_convert_string_bytes (P:=P) w t u e s ht hu he
 have hge:=grownCap_ge w s.size 0 e
 have hml:s.size≤maxLen:=by
  have:maxLen=9223372036854775807:=rfl
  omega
 have hgm:=grownCap_le_maxLen w s.size 0 e hml
 have H1:=H.hp.drew.alloc (.cells (Lib.bytesCells w e s) e)
 have hw1:(w.drew.alloc (.cells (Lib.bytesCells w e s) e)).heap[w.drew.heap.size]?=some (.cells (Lib.bytesCells w e s) e (0,0)):=H1.own _ iB
 obtain ⟨fz,hu2⟩:=aiQ (o:=(Lib.bytesCells w e s).size) (n:=1) hw1 (by decide)
 have H2:=H1.upd (i:=0) rfl hu2
 have H3:St N D w0 F G0 G ((w.heap.size,.cells (Lib.bytesCells w e s) e fz) :: L) ((d,.slice (some ⟨w.heap.size,0,none⟩) s.size (grownCap w s.size 0 e)) :: T) (a.put (some d) (.slice (some ⟨w.heap.size,0,none⟩) s.size (grownCap w s.size 0 e))) (Lib.bytesWorld w e s):=H.put hd _ H2
 obtain ⟨G',hm,hb,H4⟩:=H3.dP
 have hlen:(D6 s).length=s.size:=by rw [D6,bT,tX];rfl
 have hrep:av G' (.sl 1 ((D6 s).map xk)) (.slice (some ⟨w.heap.size,0,none⟩) s.size (grownCap w s.size 0 e)):=by
  refine ahn hb ?_ (fun r hr=>by obtain ⟨c,-,rfl⟩:=List.mem_map.1 hr;exact ⟨c,rfl⟩)
  refine av.dZ (cur:=Lib.bytesCells w e s) (e:=e) (n:=s.size) (cap:=grownCap w s.size 0 e) (by simp) (by rw [bT,hlen]) hge hgm ?_ (Zt _ _)
  rw [Lib.bytesCells,Array.toList_append,Nat.mul_one,List.take_left' (by rw [Array.toList_map,bT,tX];rfl)]
  simp [D6]
 have k2:=k _ _ _ _ hm hrep H4
 refine fF (v:=.slice (some ⟨w.heap.size,0,none⟩) s.size (grownCap w s.size 0 e)) (w':=Lib.bytesWorld w e s) hw rfl ?_ k2
 simp only [execOp,H.ev hx,bX,hc,jD,oV]
theorem ahG {t yt:TypeId} {x y:Operand} {p q:ByteArray} (H:St N D w0 F G0 G L T a w) (hw:Region.wanted ⟨some d,.binOp .lss t x y yt,ty,pos,aM,g⟩ (yielded ops a.tmps)=true) (hx:ev T x=some (.string p)) (hy:ev T y=some (.string q)) (hd:Nat.blt d N=true)
  (k:∀ a',St N D w0 F G0 G L ((d,.bool (Op.bytesLess p.toList q.toList)) :: T) a' w→WL r P ops Q rest a' w):WL r P ops Q (⟨some d,.binOp .lss t x y yt,ty,pos,aM,g⟩ :: rest) a w:=by
 refine fF (v:=.bool (Op.bytesLess p.toList q.toList)) (w':=w) hw rfl ?_ (k _ (H.put hd _ H.hp))
 simp [execOp,H.ev hx,H.ev hy,bX,eqGuard,binOp,Op.stringOp]
end
end
section
open Go.RowKit
theorem abH:∀ args w,(callFunc 157 args).run prog w=.ok (.enter 157 args) w:=enters func157 rfl (by kernel_rfl)
theorem abF:∀ args w,(callFunc 154 args).run prog w=.ok (.enter 154 args) w:=enters func154 rfl (by kernel_rfl)
theorem abD:∀ args w,(callFunc 152 args).run prog w=.ok (.enter 152 args) w:=enters func152 rfl (by kernel_rfl)
theorem air:oU prog 259 [(0,1),(1,1),(2,2),(4,1),(5,1),(6,1)] [.string ⟨#[]⟩,.int .i64 0,.pointer none,.slice none 0 0,.slice none 0 0,.int .i64 0,.int .i64 0]:=⟨by kernel_rfl,by kernel_rfl⟩
theorem abG:∀ args w,(callFunc 155 args).run prog w=.ok (.enter 155 args) w:=enters func155 rfl (by kernel_rfl)
theorem adh:bV prog 247 1 1:=⟨by kernel_rfl⟩
theorem abv:∀ args w,(callFunc 144 args).run prog w=.ok (.enter 144 args) w:=enters func144 rfl (by kernel_rfl)
theorem abw:∀ args w,(callFunc 145 args).run prog w=.ok (.enter 145 args) w:=enters func145 rfl (by kernel_rfl)
theorem abE:∀ args w,(callFunc 153 args).run prog w=.ok (.enter 153 args) w:=enters func153 rfl (by kernel_rfl)
theorem abx:∀ args w,(callFunc 146 args).run prog w=.ok (.enter 146 args) w:=enters func146 rfl (by kernel_rfl)
def KY (fv:aj) (G:GH) (c:Int) (b:Bool):Prop:=∀ (G1:GH) (w1:World),(∀ b o,G b=some o→G1 b=some o)→Hold G1 w1→sD prog fv [.int .u8 c] w1 (bC w1 G1 fun u G'=>u=.bool b)
theorem afG (G:GH) (w0:World) (hG:Hold G w0) (l:List Int) (p:Int→Bool) (v fv:aj) (hv:av G (.sl 1 (l.map xk)) v) (hf:∀ c∈l,KY fv G c (p c)) :
  Calls prog 157 #[v,fv] w0 (bC w0 G fun u G'=>u=vi (mX (l.findIdx? p))):=by
 obtain ⟨A,c,rfl,hc1,hc2,hg⟩:=hv.slice;have hml:maxLen=9223372036854775807:=rfl;rw [bT] at *;refine eN [(0,_),(1,_)] func157 rfl ntmps157 rfl rfl hG ?_;intro a H;refine kP H (SR fun _ K1=>ak K1 rfl (SQ fun _ K2=>SR fun _ K3=>Rm rfl (Rl Aj rfl (Rm rfl (Kz K3 (SB ?_))))));clear H K1 K3;intro a H;skip;refine eZ (ι:=Nat × GH) (Tc:=[(0,_),(1,_),(7,_)]) (Lc:=[]) (fun gh=>[(8,vi gh.1)]) (fun gh=>[]) (fun gh=>gh.2) (fun gh=>gh.1≤l.length∧(l.take gh.1).findIdx? p=none∧(∀ b o,G b=some o→gh.2 b=some o)) (fun gh=>l.length - gh.1) ((0,G)) (by exact (H).sub ⟨rfl,rfl,rfl,rfl,aB⟩) ?_ ?_
 ·exact ⟨by omega,rfl,fun _ _ h=>h⟩
 clear H;intro gh a w hI H;obtain ⟨k,g⟩:=gh;dsimp only at hI H;obtain ⟨hk,hno,hgm⟩:=hI;dsimp only [lca,aZ] at H;refine kP H (SR fun _ K4=>Rc rfl (Kz K4 (SQ fun _ K5=>Cd rfl ?_ ?_))) <;> clear H K4
 ·intro h9 a H
  try have p9:=dT h9
  have hk2:k < l.length:=by omega
  obtain ⟨b,o,cs,rfl,hcl,hrow,hr⟩:=hg k (xk l[k]) (by simp [hk2]);obtain rfl:=Xp hr
  have hcell:aJ G b (o+k*1)=some (.int .u8 l[k]):=by simpa using hrow 0 _ rfl
  refine kP H (Kc K5 (SQ fun _ K6=>SB (SR fun _ K7=>Rm rfl (ak K7 rfl (SR fun _ K8=>Rm rfl (Rm rfl (Rm rfl (Ri Aj Kt rfl rfl (Rg Kt rfl (aK hgm hcell) ?_)))))))));clear H K5 K7;intro a H;refine oM H wn rfl rfl (hf _ (iQ hk2) _ _ hgm H.ro) rfl ?_;clear H;rintro v16 qC a w rfl qM H;refine K8 _ _ ?_;clear K8;refine kV H rfl ?_ ?_
  ·intro h16
   try have p16:=dT h16
   refine kP H (SR fun _ K9=>Rm rfl (ak K9 rfl ?_));clear H K9;intro a H;refine lr H results157 rfl ?_
   first
    | exact H.rt (by rw [tJ hk2 hno h16];rfl)
    | exact H.rt (by rw [show l.take k=l from jA (by omega)] at hno;rw [hno];rfl)
  intro h16
  try have p16:=dF h16
  refine kP H (Kc K6 (SC (Rd rfl (Rm rfl ?_))));clear H K6;intro a H;refine aH ?_;refine dw ((k+1,qC)) (by exact (H).sub ⟨rfl,rfl,rfl,rfl,aB⟩) ?_ ?_
  ·(try dsimp only);exact ⟨by omega,zV hk2 hno h16,fun b o h=>qM b o (hgm b o h)⟩
  first|omega|(dsimp only;omega)
 intro h9 a H
 try have p9:=dF h9
 refine dW ?_;refine K2 _ _ ?_;clear K2;refine kP H (SR fun _ aS=>ak aS rfl ?_);clear H aS;intro a H;refine lr H results157 rfl ?_
 first
  | exact H.rt (by rw [tJ hk2 hno h16];rfl)
  | exact H.rt (by rw [show l.take k=l from jA (by omega)] at hno;rw [hno];rfl)
theorem Ou (o:Option Nat):decide (0≤mX o)=o.isSome:=by cases o <;> simp [mX]
theorem aaw (G:GH) (w0:World) (hG:Hold G w0) (l:List Int) (p:Int→Bool) (v fv:aj) (hv:av G (.sl 1 (l.map xk)) v) (hf:∀ c∈l,KY fv G c (p c)) :
  Calls prog 152 #[v,fv] w0 (bC w0 G fun u G'=>u=.bool (l.findIdx? p).isSome):=by
 obtain ⟨A,c,rfl,hc1,hc2,-⟩:=hv.slice;rw [bT] at *;refine eN [(0,_),(1,_)] func152 rfl ntmps152 rfl rfl hG ?_;intro a H;refine kP H (SR fun _ K1=>ak K1 rfl (SR fun _ K2=>Rm rfl (Rm rfl ?_)));clear H K1;intro a H;refine s_call abH H wn rfl (afG _ _ H.ro l p _ _ hv hf) rfl ?_;clear H;rintro v7 G7 a w rfl zP H;exact kH H (Rc rfl (ak K2 rfl (LR results152 rfl fun H=>H.rt (aF (Ou _)))))
def FI (c:Int):Bool:=decide (c < 32) || decide (c=127)
theorem aaC (G:GH) (c:Int):KY (.func (.func 153) #[] #[]) G c (FI c):=by
 intro G1 w0 hm hG;refine lZ (caps:=[]) abE ?_;refine eN [(0,_)] func153 rfl ntmps153 rfl rfl hG ?_;intro a H;refine kP H (SR fun _ K1=>ak K1 rfl (SR fun _ K2=>Rm rfl (Rc rfl (Rm rfl (Sp 5 rfl ?_ ?_))))) <;> clear H K1
 ·intro h5 a H
  try have p5:=dT h5
  exact kH H (aP h5 rfl (Pt h5 rfl (ak K2 rfl (LR results153 rfl fun H=>H.rt (aF (by unfold FI;first|(simp_all;done)|(simp_all;omega)))))))
 intro h5 a H
 try have p5:=dF h5
 exact kH H (YM h5 rfl (YC h5 rfl (Pf h5 rfl (ak K2 rfl (LR results153 rfl fun H=>H.rt (aF (by unfold FI;first|(simp_all;done)|(simp_all;omega))))))))
def uL (t:ByteArray):Int:=if 64 < t.size then 10 else if oN t=false then 12 else if ((D6 t).findIdx? FI).isSome=true then 5 else qU (jw t)
def vM (t:ByteArray):List iH:=if uL t=0 then rQ (jw t).lit (jw t).parts else []
theorem agj (G:GH) (l:List iH):fH G 3 (l.map iH.dat) (Bn l):=by
 refine ⟨l.map iH.cells,rfl,by simp,fun j r cs hr hc=>?_⟩;rw [pY] at hr hc;obtain ⟨x,hx,rfl⟩:=lD.1 hr;rw [hx] at hc
 cases hc
 exact ⟨Vv G x,rfl⟩
theorem agW (G:GH) (w0:World) (hG:Hold G w0) (t:ByteArray) (ht:t.size < 4611686018427387904) :
  Calls prog 144 #[.string t] w0 (bC w0 G fun u G'=>∃ x,u=.tuple #[x,vi (uL t)]∧av G' (.sl 3 ((vM t).map iH.dat)) x):=by
 refine eN [(0,_)] func144 rfl ntmps144 rfl rfl hG ?_;intro a H;refine kP H (SR fun _ K1=>Ra rfl (ak K1 rfl (SQ fun _ K2=>SB (SR fun _ K3=>Rm rfl (Rv fP rfl (Rc rfl (ak K3 rfl (Cd rfl ?_ ?_)))))))) <;> clear H K1 K3
 ·intro h5 a H
  try have p5:=dT h5
  refine bq (fun _ K4=>?_)
  have he:uL t=10:=by rw [uL,au (by omega)]
  refine kP H (SC (Ra rfl (aV K4 rfl ?_)));clear H K4;intro a H;refine cu ?_;refine (eT H results144 (.cons (aU H rfl) (.cons (aU H rfl) .nil)) ?_).1
  first
   | exact H.rt ⟨_,by rw [he0],by rw [vM,au he0];exact hrep⟩
   | exact H.rt ⟨_,by rw [he],by rw [vM,ah (by rw [he];first|decide|assumption)];exact av.jf rfl (by decide)⟩
 intro h5 a H
 try have p5:=dF h5
 refine kP H (SR fun _ K5=>Rm rfl ?_);clear H;intro a H;refine s_call FM H wn rfl (Hw _ _ H.ro t ht) rfl ?_;clear H;rintro v11 _ a w ⟨rfl,rfl⟩ - H;refine kH H (Rn rfl (ak K5 rfl (Cd rfl ?_ ?_))) <;> clear H K5
 ·intro h9 a H
  try have p9:=dT h9
  refine bq (fun _ K6=>?_)
  have he:uL t=12:=by rw [uL,ah (by omega),au (by simpa using h9)]
  refine kP H (SC (Ra rfl (aV K6 rfl ?_)));clear H K6;intro a H;refine cu ?_;refine (eT H results144 (.cons (aU H rfl) (.cons (aU H rfl) .nil)) ?_).1
  first
   | exact H.rt ⟨_,by rw [he0],by rw [vM,au he0];exact hrep⟩
   | exact H.rt ⟨_,by rw [he],by rw [vM,ah (by rw [he];first|decide|assumption)];exact av.jf rfl (by decide)⟩
 intro h9 a H
 try have p9:=dF h9
 refine kP H (SR fun _ K7=>Rm rfl ?_);clear H;intro a H;refine ahC fP Aj Hr H wn rfl (by omega) rfl ?_;clear H;intro v15 BP a w qL UZ H;obtain ⟨XZ,c15,rfl,-,-,-⟩:=UZ.slice;refine s_call abD H wn rfl (aaw _ _ H.ro _ FI _ _ UZ (fun c _=>aaC _ c)) rfl ?_;clear H;rintro v16 qC a w rfl qM H;refine kH H (ak K7 rfl (Cd rfl ?_ ?_)) <;> clear H K7
 ·intro fK a H
  try have pK:=dT fK
  refine bq (fun _ K8=>?_)
  have he:uL t=5:=by rw [uL,ah (by omega),ah (by simpa using h9),au fK]
  refine kP H (SC (Ra rfl (aV K8 rfl ?_)));clear H K8;intro a H;refine cu ?_;refine (eT H results144 (.cons (aU H rfl) (.cons (aU H rfl) .nil)) ?_).1
  first
   | exact H.rt ⟨_,by rw [he0],by rw [vM,au he0];exact hrep⟩
   | exact H.rt ⟨_,by rw [he],by rw [vM,ah (by rw [he];first|decide|assumption)];exact av.jf rfl (by decide)⟩
 intro fK a H
 try have pK:=dF fK
 refine kP H (Kc K2 (SR fun _ K9=>Rm rfl ?_));clear H K2;intro a H;refine jJ air [_,_,_,_,_,_,_] H wn rfl rfl rfl rfl ?_;clear H;intro a H;refine fC (cs:=[_,_,_,_,_,_,_]) H wn rfl rfl rfl ?_;clear H;intro b19 a w ajA H;refine kH H (ak K9 rfl (SQ fun _ aS=>SR fun _ bA=>Rm rfl ?_));clear H K9;intro a H;refine gN abF (Li:=[]) (L:=[tL b19 t yx (.pointer none) (.slice none 0 0) (.slice none 0 0)]) H wn rfl (ahO _ [] [] _ b19 t _ _ _ ⟨.inl rfl,dD.nil,dD.nil⟩ (Hp.owns (Li:=[]) H.hp) (by omega)) rfl ?_;clear H;rintro v21 KJ L21 a w ⟨p',v',q',om,eO,rfl,Nq⟩ wH H;dsimp only [List.nil_append] at H;obtain ⟨A21,c21,rfl,-,-⟩:=Nq.buf.shape;obtain ⟨X9,d21,rfl,-,-⟩:=Nq.prt.shape;refine bA _ _ ?_;clear bA;refine bq (fun _ bK=>?_)
 have he:uL t=qU (jw t):=by rw [uL,ah (by omega),ah (by simpa using h9),ah (by simp [fK])]
 refine kP H (SC (Rm rfl (Rk rfl (aR xP fV 0 rfl rfl (Rc rfl (Kn bK (Cd rfl ?_ ?_))))))) <;> clear H bK
 ·intro gK a H
  try have p26:=dT gK
  refine bq (fun _ bR=>?_);have H:=H.sub (T':=[(4,_)]) ⟨rfl,aB⟩;refine dI hmx [[],[0],[0,1],[0,1,2],[],(ra 0 5)] [] (by kernel_rfl) [_,_,_,vi (qU (jw t)),_,_] H (aD (Z0 rfl (Rm rfl)) (Z1 0 27 rfl (Rk rfl)) (Z1 1 28 rfl (Rf xP rfl)) (Z1 2 29 rfl (Ro fV 0 rfl)) (aW (Z0 rfl (Ra rfl)) (aW (Z1 3 30 rfl (Ra rfl)) bY))) ?_
  clear H;intro a w G mK H hv;have H:=H.aQ (hv 4 2 rfl rfl) rfl;have H:=H.aQ (hv 5 3 rfl rfl) rfl;clear hv;refine aH ⟨rfl,?_⟩;refine bR _ _ ?_;clear bR;refine cu ?_;refine (eT H results144 (.cons (aU H rfl) (.cons (aU H rfl) .nil)) ?_).1
  first
   | exact H.rt ⟨_,by rw [he0],by rw [vM,au he0];exact hrep⟩
   | exact H.rt ⟨_,by rw [he],by rw [vM,ah (by rw [he];first|decide|assumption)];exact av.jf rfl (by decide)⟩
 intro gK a H
 try have p26:=dF gK
 refine fO ?_;refine aS _ _ ?_;clear aS;refine bq (fun _ bP=>?_)
 have he0:uL t=0:=by rw [he];omega
 have H:=(St.cast H (show _=[_]++(om++eO) from rfl)).perm (List.Perm.append_left _ yX);have H:=St.un H;obtain ⟨Gr,hmr,hrep,H⟩:=St.sV (Li:=[_]++eO) (Lo:=om) H Nq.prt (rows:=(rQ (jw t).lit (jw t).parts).map iH.dat) (by simp) (agj _ _);dsimp only [lca,aZ] at H;refine kP H (SC (Rm rfl (Rk rfl (aR FU Hl 0 rfl rfl (Ra rfl (aV bP rfl ?_))))));clear H bP;intro a H;refine cu ?_;refine (eT H results144 (.cons (aU H rfl) (.cons (aU H rfl) .nil)) ?_).1
 first
  | exact H.rt ⟨_,by rw [he0],by rw [vM,au he0];exact hrep⟩
  | exact H.rt ⟨_,by rw [he],by rw [vM,ah (by rw [he];first|decide|assumption)];exact av.jf rfl (by decide)⟩
structure nM where
 fmt:Int
 start:Int
 wZ:ByteArray
 restart:Int
def nM.dat (x:nM):List Dat:=[li x.fmt,li x.start,.lf (.string x.wZ),li x.restart]
abbrev nM.cells (x:nM):List aj:=[vi x.fmt,vi x.start,.string x.wZ,vi x.restart]
theorem agl {G:GH} {x:nM} {cs:List aj} (h:aY G x.dat cs):cs=x.cells:=by
 simp only [nM.dat,aY,av] at h
 obtain ⟨_,_,rfl,⟨rfl,_⟩,_,_,rfl,⟨rfl,_⟩,_,_,rfl,⟨rfl,_⟩,_,_,rfl,⟨rfl,_⟩,rfl⟩:=h
 rfl
theorem afE (G:GH) (w0:World) (hG:Hold G w0) (l:List iH) (p:iH→Bool) (v fv:aj) (hv:av G (.sl 3 (l.map iH.dat)) v) (hf:∀ x∈l,uT fv G x.dat (p x)) :
  Calls prog 155 #[v,fv] w0 (bC w0 G fun u G'=>u=vi (mX (l.findIdx? p))):=by
 obtain ⟨A,c,rfl,hc1,hc2,hg⟩:=hv.slice;have hml:maxLen=9223372036854775807:=rfl;rw [bT] at *;refine eN [(0,_),(1,_)] func155 rfl ntmps155 rfl rfl hG ?_;intro a H;refine kP H (SR fun _ K1=>ak K1 rfl (SQ fun _ K2=>SR fun _ K3=>Rm rfl (Rl EX rfl (Rm rfl (Kz K3 (SB ?_))))));clear H K1 K3;intro a H;skip;refine eZ (ι:=Nat × GH) (Tc:=[(0,_),(1,_),(7,_)]) (Lc:=[]) (fun gh=>[(8,vi gh.1)]) (fun gh=>[]) (fun gh=>gh.2) (fun gh=>gh.1≤l.length∧(l.take gh.1).findIdx? p=none∧(∀ b o,G b=some o→gh.2 b=some o)) (fun gh=>l.length - gh.1) ((0,G)) (by exact (H).sub ⟨rfl,rfl,rfl,rfl,aB⟩) ?_ ?_
 ·exact ⟨by omega,rfl,fun _ _ h=>h⟩
 clear H;intro gh a w hI H;obtain ⟨k,g⟩:=gh;dsimp only at hI H;obtain ⟨hk,hno,hgm⟩:=hI;dsimp only [lca,aZ] at H;refine kP H (SR fun _ K4=>Rc rfl (Kz K4 (SQ fun _ K5=>Cd rfl ?_ ?_))) <;> clear H K4
 ·intro h9 a H
  try have p9:=dT h9
  have hk2:k < l.length:=by omega
  obtain ⟨b,o,cs,rfl,hcl,hrow,hr⟩:=hg k l[k].dat (by simp [hk2]);obtain rfl:=Vu hr;refine kP H (Kc K5 (SQ fun _ K6=>SB (SR fun _ K7=>Rm rfl (ak K7 rfl (SR fun _ K8=>Rm rfl (Rm rfl (Rm rfl (Ri EX ET rfl rfl ?_))))))));clear H K5 K7;intro a H;refine bD ET (cs:=l[k].cells) H wn rfl rfl (fun j v hj=>H.hp.aJ (aK hgm (hrow j v hj))) rfl ?_;clear H;intro a H;refine oM H wn rfl rfl (hf _ (iQ hk2) _ _ _ hgm H.ro (Vv _ l[k])) rfl ?_;clear H;rintro v16 qC a w rfl qM H;refine K8 _ _ ?_;clear K8;refine kV H rfl ?_ ?_
  ·intro h16
   try have p16:=dT h16
   refine kP H (SR fun _ K9=>Rm rfl (ak K9 rfl ?_));clear H K9;intro a H;refine lr H results155 rfl ?_
   first
    | exact H.rt (by rw [tJ hk2 hno h16];rfl)
    | exact H.rt (by rw [show l.take k=l from jA (by omega)] at hno;rw [hno];rfl)
  intro h16
  try have p16:=dF h16
  refine kP H (Kc K6 (SC (Rd rfl (Rm rfl ?_))));clear H K6;intro a H;refine aH ?_;refine dw ((k+1,qC)) (by exact (H).sub ⟨rfl,rfl,rfl,rfl,aB⟩) ?_ ?_
  ·(try dsimp only);exact ⟨by omega,zV hk2 hno h16,fun b o h=>qM b o (hgm b o h)⟩
  first|omega|(dsimp only;omega)
 intro h9 a H
 try have p9:=dF h9
 refine dW ?_;refine K2 _ _ ?_;clear K2;refine kP H (SR fun _ aS=>ak aS rfl ?_);clear H aS;intro a H;refine lr H results155 rfl ?_
 first
  | exact H.rt (by rw [tJ hk2 hno h16];rfl)
  | exact H.rt (by rw [show l.take k=l from jA (by omega)] at hno;rw [hno];rfl)
theorem aav (G:GH) (w0:World) (hG:Hold G w0) (l:List iH) (p:iH→Bool) (v fv:aj) (hv:av G (.sl 3 (l.map iH.dat)) v) (hf:∀ x∈l,uT fv G x.dat (p x)) :
  Calls prog 145 #[v,fv] w0 (bC w0 G fun u G'=>u=.bool (l.findIdx? p).isSome):=by
 obtain ⟨A,c,rfl,hc1,hc2,-⟩:=hv.slice;rw [bT] at *;refine eN [(0,_),(1,_)] func145 rfl ntmps145 rfl rfl hG ?_;intro a H;refine kP H (SR fun _ K1=>ak K1 rfl (SR fun _ K2=>Rm rfl (Rm rfl ?_)));clear H K1;intro a H;refine s_call abG H wn rfl (afE _ _ H.ro l p _ _ hv hf) rfl ?_;clear H;rintro v7 G7 a w rfl zP H;exact kH H (Rc rfl (ak K2 rfl (LR results145 rfl fun H=>H.rt (aF (Ou _)))))
theorem agm {G:GH} {bl:Nat} {k:Int} (hb:aJ G bl 0=some (vi k)) (x:iH):uT (.func (.func 146) #[] #[(aI bl 0)]) G x.dat (decide (k < x.level)):=by
 intro G1 w0 cs hm hG hr;refine lZ (caps:=[(aI bl 0)]) abx ?_;obtain rfl:=Vu hr;replace hb:=aK hm hb;refine eN [(0,_),(1,_)] func146 rfl ntmps146 rfl rfl hG ?_;intro a H;refine cO (fun _ K1=>?_);refine fC (cs:=[_,_,_]) H wn rfl rfl rfl ?_;clear H;intro b2 a w hb2 H;refine kH H (ak K1 rfl (SR fun _ K2=>aR adh aG 0 rfl rfl (Rg aG rfl (by assumption) ?_)));clear H K1;intro a H;exact kH H (Rc rfl (ak K2 rfl (LR results146 rfl fun H=>H.rt rfl)))
def yh (t:ByteArray) (k:Int):Int:=if k < 1∨9 < k then 2 else if uL t=0∧((vM t).findIdx? fun x=>decide (k < x.level)).isSome=true then 6 else uL t
theorem agk (G:GH) (w0:World) (hG:Hold G w0) (t:ByteArray) (k:Int) (ht:t.size < 4611686018427387904) :
  Calls prog 136 #[.string t,vi k] w0 (bC w0 G fun u G'=>u=vi (yh t k)):=by
 refine eN [(0,_),(1,_)] func136 rfl ntmps136 rfl rfl hG ?_;intro a H;refine cO (fun _ K1=>?_);refine fC (cs:=[_]) H wn rfl rfl rfl ?_;clear H;intro b3 a w hb3 H;refine kH H (ak K1 rfl (SQ fun _ K2=>SR fun _ K3=>Ro aG 0 rfl (Rc rfl (Rm rfl (Sp 9 rfl ?_ ?_))))) <;> clear H K1
 ·intro h9 a H
  try have p9:=dT h9
  refine kH H (aP h9 rfl (Pt h9 rfl (Kz K3 (Ct rfl rfl (SR fun _ K4=>ak K4 rfl ?_)))));clear H K3 K4;intro a H;refine lr H results136 rfl ?_
  exact H.rt (aA vi (by unfold yh;(repeat' split) <;> first|rfl|(exfalso;simp_all;done)|(exfalso;simp_all;omega)|(simp_all;done)))
 intro h9 a H
 try have p9:=dF h9
 refine kH H (YO aG 0 h9 rfl (YC h9 rfl (Pf h9 rfl (Kz K3 (Cd rfl ?_ ?_))))) <;> clear H K3
 ·intro h12 a H
  try have oJ:=dT h12
  refine kP H (SR fun _ K5=>ak K5 rfl ?_);clear H K5;intro a H;refine lr H results136 rfl ?_
  exact H.rt (aA vi (by unfold yh;(repeat' split) <;> first|rfl|(exfalso;simp_all;done)|(exfalso;simp_all;omega)|(simp_all;done)))
 intro h12 a H
 try have oJ:=dF h12
 refine fO ?_;refine K2 _ _ ?_;clear K2;refine bq (fun _ K6=>?_);obtain ⟨Ga,hma,zL,H⟩:=H.dP
 have hbk:aJ Ga b3 0=some (vi k):=by unfold aJ;rw [zL];rfl
 refine kP H (SC (Rm rfl ?_));clear H;intro a H;refine s_call abv H wn rfl (agW _ _ H.ro t ht) rfl ?_;clear H;rintro v15 BP a w ⟨x15,rfl,U3⟩ qL H;obtain ⟨XZ,c15,rfl,-,-,-⟩:=U3.slice;replace hbk:=aK qL hbk;refine kH H (Rm rfl ?_);clear H;intro a H;(iterate 2 refine lu H wn rfl rfl rfl ?_;clear H;intro a H);refine kH H (Ra rfl (aV K6 rfl (SQ fun _ K7=>SR fun _ K8=>Rm rfl (Rc rfl (Rm rfl (Sp 20 rfl ?_ ?_)))))) <;> clear H K6
 ·intro h20 a H
  try have Dp:=dT h20
  refine kH H (YM h20 rfl ?_);clear H;intro a H;refine pO H (wg H rfl rfl h20) rfl rfl ?_;clear H;intro a H;refine s_call abw H (wg H rfl rfl h20) rfl (aav _ _ H.ro _ (fun x=>decide (k < x.level)) _ _ U3 (fun x _=>agm hbk x)) rfl ?_;clear H;rintro v23 KL a w rfl pI H;refine kH H (Pt h20 rfl (Kz K8 (Cd rfl ?_ ?_))) <;> clear H K8
  ·intro dQ a H
   try have jO:=dT dQ
   refine kP H (SC (aV K7 rfl (SR fun _ K9=>Rm rfl (ak K9 rfl ?_))));clear H K7 K9;intro a H;refine lr H results136 rfl ?_
   exact H.rt (aA vi (by unfold yh;(repeat' split) <;> first|rfl|(exfalso;simp_all;done)|(exfalso;simp_all;omega)|(simp_all;done)))
  intro dQ a H
  try have jO:=dF dQ
  refine kP H (Kc K7 (SR fun _ aS=>Rm rfl (ak aS rfl ?_)));clear H K7 aS;intro a H;refine lr H results136 rfl ?_
  exact H.rt (aA vi (by unfold yh;(repeat' split) <;> first|rfl|(exfalso;simp_all;done)|(exfalso;simp_all;omega)|(simp_all;done)))
 intro h20 a H
 try have Dp:=dF h20
 refine kH H (aX h20 rfl (Pf h20 rfl (Kz K8 (Cf rfl rfl (Kc K7 (SR fun _ bA=>Rm rfl (ak bA rfl ?_)))))));clear H K8 K7 bA;intro a H;refine lr H results136 rfl ?_
 exact H.rt (aA vi (by unfold yh;(repeat' split) <;> first|rfl|(exfalso;simp_all;done)|(exfalso;simp_all;omega)|(simp_all;done)))
end
section
open Go.RowKit
theorem Ko:Ty prog 230 4 40 [.int .i64 0,.int .i64 0,.string ⟨#[]⟩,.int .i64 0] true:=⟨by kernel_rfl,by kernel_rfl⟩
theorem Kw:prog.underlying 182=some (.slice 230):=by kernel_rfl
theorem Tx:bV prog 230 0 0:=⟨by kernel_rfl⟩
theorem Tz:bV prog 230 1 1:=⟨by kernel_rfl⟩
theorem ada:bV prog 230 2 2:=⟨by kernel_rfl⟩
theorem abo:∀ args w,(callFunc 136 args).run prog w=.ok (.enter 136 args) w:=enters func136 rfl (by kernel_rfl)
theorem TA:bV prog 230 3 3:=⟨by kernel_rfl⟩
def Cm:Nat→List nM→Int
 | _,[]=>0
 | i,x :: r=>if x.fmt < 1∨7 < x.fmt then 3 else if x.start < 0∨32767 < x.start then 2 else if yh x.wZ ((i+1:Nat):Int)≠0 then yh x.wZ ((i+1:Nat):Int) else if x.restart < 0∨(i:Int) < x.restart then 5 else Cm (i+1) r
def dH (l:List nM):Int:=if l.length=0 then 11 else if 9 < l.length then 9 else Cm 0 l
theorem iE {l:List nM} {k:Nat} (h:k < l.length):Cm k (l.drop k)=if l[k].fmt < 1∨7 < l[k].fmt then 3 else if l[k].start < 0∨32767 < l[k].start then 2 else if yh l[k].wZ ((k+1:Nat):Int)≠0 then yh l[k].wZ ((k+1:Nat):Int) else if l[k].restart < 0∨(k:Int) < l[k].restart then 5 else Cm (k+1) (l.drop (k+1)):=by
 rw [lG h,Cm]
theorem ZX (G:GH) (w0:World) (hG:Hold G w0) (l:List nM) (v:aj) (hv:av G (.sl 4 (l.map nM.dat)) v) (ht:∀ x∈l,x.wZ.size < 4611686018427387904) :
  Calls prog 118 #[v] w0 (bC w0 G fun u G'=>u=vi (dH l)):=by
 obtain ⟨A,c,rfl,hc1,hc2,hg⟩:=hv.slice;have hml:maxLen=9223372036854775807:=rfl;rw [bT] at *;refine eN [(0,_)] func118 rfl ntmps118 rfl rfl hG ?_;intro a H;refine kP H (SR fun _ K1=>ak K1 rfl (SQ fun _ K2=>SB (SR fun _ K3=>Rm rfl (Rl Kw rfl (Rc rfl (ak K3 rfl (Cd rfl ?_ ?_))))))) <;> clear H K1 K3
 ·intro h6 a H
  try have p6:=dT h6
  refine kP H (SR fun _ K4=>ak K4 rfl ?_);clear H K4;intro a H;refine lr H results118 rfl ?_
  first
   | exact H.rt (aA vi (by rw [dH,au (by omega)]))
   | exact H.rt (aA vi (by rw [dH,ah (by omega),au (by omega)]))
   | exact H.rt (aA vi (by rw [dH,ah (by omega),ah (by omega),← he,iE hk2,au (by omega)]))
   | exact H.rt (aA vi (by rw [dH,ah (by omega),ah (by omega),← he,iE hk2,ah (by omega),au (by omega)]))
   | exact H.rt (aA vi (by rw [dH,ah (by omega),ah (by omega),← he,iE hk2,ah (by omega),ah (by omega),au p45]))
   | exact H.rt (aA vi (by rw [dH,ah (by omega),ah (by omega),← he,iE hk2,ah (by omega),ah (by omega),ah p45,au (by omega)]))
   | exact H.rt (aA vi (by rw [dH,ah (by omega),ah (by omega),← he,iC (by omega)];rfl))
 intro h6 a H
 try have p6:=dF h6
 refine kP H (SR fun _ K5=>Rm rfl (Rl Kw rfl (Rc rfl (ak K5 rfl (Cd rfl ?_ ?_))))) <;> clear H K5
 ·intro h10 a H
  try have lg:=dT h10
  refine kP H (SR fun _ K6=>ak K6 rfl ?_);clear H K6;intro a H;refine lr H results118 rfl ?_
  first
   | exact H.rt (aA vi (by rw [dH,au (by omega)]))
   | exact H.rt (aA vi (by rw [dH,ah (by omega),au (by omega)]))
   | exact H.rt (aA vi (by rw [dH,ah (by omega),ah (by omega),← he,iE hk2,au (by omega)]))
   | exact H.rt (aA vi (by rw [dH,ah (by omega),ah (by omega),← he,iE hk2,ah (by omega),au (by omega)]))
   | exact H.rt (aA vi (by rw [dH,ah (by omega),ah (by omega),← he,iE hk2,ah (by omega),ah (by omega),au p45]))
   | exact H.rt (aA vi (by rw [dH,ah (by omega),ah (by omega),← he,iE hk2,ah (by omega),ah (by omega),ah p45,au (by omega)]))
   | exact H.rt (aA vi (by rw [dH,ah (by omega),ah (by omega),← he,iC (by omega)];rfl))
 intro h10 a H
 try have lg:=dF h10
 refine kP H (Kc K2 (SQ fun _ K7=>SR fun _ K8=>Rm rfl (Rl Kw rfl (Rm rfl (Kz K8 (SB ?_))))));clear H K2 K8;intro a H;skip;refine eZ (ι:=Nat × GH) (Tc:=[(14,_),(15,_)]) (Lc:=[]) (fun gh=>[(16,vi gh.1)]) (fun gh=>[]) (fun gh=>gh.2) (fun gh=>gh.1≤l.length∧Cm gh.1 (l.drop gh.1)=Cm 0 l∧(∀ b o,G b=some o→gh.2 b=some o)) (fun gh=>l.length - gh.1) ((0,G)) (by exact (H).sub ⟨rfl,rfl,rfl,aB⟩) ?_ ?_
 ·exact ⟨iK _,rfl,fun _ _ h=>h⟩
 clear H;intro gh a w hI H;obtain ⟨k,g⟩:=gh;dsimp only at hI H;obtain ⟨hk,he,hgm⟩:=hI;dsimp only [lca,aZ] at H;refine kP H (SR fun _ K9=>Rc rfl (Kz K9 (SQ fun _ aS=>Cd rfl ?_ ?_))) <;> clear H K9
 ·intro dS a H
  try have lS:=dT dS
  have hk2:k < l.length:=by omega
  obtain ⟨b,o,cs,rfl,hcl,hrow,hr⟩:=hg k l[k].dat (by simp [hk2]);obtain rfl:=agl hr;refine kP H (Kc aS (SQ fun _ bA=>SB (SR fun _ bK=>Rm rfl (Ri Kw Ko rfl rfl ?_))));clear H aS;intro a H;refine bD Ko (cs:=l[k].cells) H wn rfl rfl (fun j v hj=>H.hp.aJ (aK hgm (hrow j v hj))) rfl ?_;clear H;intro a H;refine eU Ko H wn rfl ?_;clear H;intro b4 a w hb4 H;refine kH H (Ra rfl ?_);clear H;intro a H;refine bF Ko 0 (vs:=[_,_,_,_]) _ H wn rfl rfl rfl rfl rfl rfl rfl rfl ?_;clear H;intro w H;dsimp only [List.set,setRow] at H;refine bK _ _ ?_;clear bK;refine kP H (SQ fun _ bR=>SB (SR fun _ bP=>aR Tx aG 0 rfl rfl (Rc rfl (Rm rfl (Sp 25 rfl ?_ ?_))))) <;> clear H
  ·intro kY a H
   try have p25:=dT kY
   refine kH H (aX kY rfl (Pt kY rfl (ak bP rfl (Ct rfl rfl (SR fun _ dJ=>ak dJ rfl ?_)))));clear H bP dJ;intro a H;refine lr H results118 rfl ?_
   first
    | exact H.rt (aA vi (by rw [dH,au (by omega)]))
    | exact H.rt (aA vi (by rw [dH,ah (by omega),au (by omega)]))
    | exact H.rt (aA vi (by rw [dH,ah (by omega),ah (by omega),← he,iE hk2,au (by omega)]))
    | exact H.rt (aA vi (by rw [dH,ah (by omega),ah (by omega),← he,iE hk2,ah (by omega),au (by omega)]))
    | exact H.rt (aA vi (by rw [dH,ah (by omega),ah (by omega),← he,iE hk2,ah (by omega),ah (by omega),au p45]))
    | exact H.rt (aA vi (by rw [dH,ah (by omega),ah (by omega),← he,iE hk2,ah (by omega),ah (by omega),ah p45,au (by omega)]))
    | exact H.rt (aA vi (by rw [dH,ah (by omega),ah (by omega),← he,iC (by omega)];rfl))
  intro kY a H
  try have p25:=dF kY
  refine kH H (YF Tx kY rfl (YO aG 0 kY rfl (YC kY rfl (Pf kY rfl (ak bP rfl (Cd rfl ?_ ?_)))))) <;> clear H bP
  ·intro h21 a H
   try have oK:=dT h21
   refine kP H (SR fun _ dN=>ak dN rfl ?_);clear H dN;intro a H;refine lr H results118 rfl ?_
   first
    | exact H.rt (aA vi (by rw [dH,au (by omega)]))
    | exact H.rt (aA vi (by rw [dH,ah (by omega),au (by omega)]))
    | exact H.rt (aA vi (by rw [dH,ah (by omega),ah (by omega),← he,iE hk2,au (by omega)]))
    | exact H.rt (aA vi (by rw [dH,ah (by omega),ah (by omega),← he,iE hk2,ah (by omega),au (by omega)]))
    | exact H.rt (aA vi (by rw [dH,ah (by omega),ah (by omega),← he,iE hk2,ah (by omega),ah (by omega),au p45]))
    | exact H.rt (aA vi (by rw [dH,ah (by omega),ah (by omega),← he,iE hk2,ah (by omega),ah (by omega),ah p45,au (by omega)]))
    | exact H.rt (aA vi (by rw [dH,ah (by omega),ah (by omega),← he,iC (by omega)];rfl))
  intro h21 a H
  try have oK:=dF h21
  refine kP H (SR fun _ dx=>aR Tz aG 0 rfl rfl (Rc rfl (Rm rfl (Sp 34 rfl ?_ ?_)))) <;> clear H
  ·intro fM a H
   try have p34:=dT fM
   refine kH H (aX fM rfl (Pt fM rfl (ak dx rfl (Ct rfl rfl (SR fun _ eu=>ak eu rfl ?_)))));clear H dx eu;intro a H;refine lr H results118 rfl ?_
   first
    | exact H.rt (aA vi (by rw [dH,au (by omega)]))
    | exact H.rt (aA vi (by rw [dH,ah (by omega),au (by omega)]))
    | exact H.rt (aA vi (by rw [dH,ah (by omega),ah (by omega),← he,iE hk2,au (by omega)]))
    | exact H.rt (aA vi (by rw [dH,ah (by omega),ah (by omega),← he,iE hk2,ah (by omega),au (by omega)]))
    | exact H.rt (aA vi (by rw [dH,ah (by omega),ah (by omega),← he,iE hk2,ah (by omega),ah (by omega),au p45]))
    | exact H.rt (aA vi (by rw [dH,ah (by omega),ah (by omega),← he,iE hk2,ah (by omega),ah (by omega),ah p45,au (by omega)]))
    | exact H.rt (aA vi (by rw [dH,ah (by omega),ah (by omega),← he,iC (by omega)];rfl))
  intro fM a H
  try have p34:=dF fM
  refine kH H (YF Tz fM rfl (YO aG 0 fM rfl (YC fM rfl (Pf fM rfl (ak dx rfl (Cd rfl ?_ ?_)))))) <;> clear H dx
  ·intro qh a H
   try have p30:=dT qh
   refine kP H (SR fun _ gy=>ak gy rfl ?_);clear H gy;intro a H;refine lr H results118 rfl ?_
   first
    | exact H.rt (aA vi (by rw [dH,au (by omega)]))
    | exact H.rt (aA vi (by rw [dH,ah (by omega),au (by omega)]))
    | exact H.rt (aA vi (by rw [dH,ah (by omega),ah (by omega),← he,iE hk2,au (by omega)]))
    | exact H.rt (aA vi (by rw [dH,ah (by omega),ah (by omega),← he,iE hk2,ah (by omega),au (by omega)]))
    | exact H.rt (aA vi (by rw [dH,ah (by omega),ah (by omega),← he,iE hk2,ah (by omega),ah (by omega),au p45]))
    | exact H.rt (aA vi (by rw [dH,ah (by omega),ah (by omega),← he,iE hk2,ah (by omega),ah (by omega),ah p45,au (by omega)]))
    | exact H.rt (aA vi (by rw [dH,ah (by omega),ah (by omega),← he,iC (by omega)];rfl))
  intro qh a H
  try have p30:=dF qh
  refine kP H (Kc bR (SQ fun _ fu=>SR fun _ gD=>aR ada fZ 0 rfl rfl (Rm rfl (Rd rfl ?_))));clear H bR;intro a H;rw [show ((k:Int)+1)=((k+1:Nat):Int) from rfl] at H;refine s_call abo H wn rfl (agk _ _ H.ro l[k].wZ ((k+1:Nat):Int) (ht _ (iQ hk2))) rfl ?_;clear H;rintro v43 E9 a w rfl vG H;refine kH H (ak gD rfl (SR fun _ jc=>Rm rfl (Rc rfl (Kz jc (Cd rfl ?_ ?_))))) <;> clear H gD jc
  ·intro h45 a H
   try have p45:=dT h45
   refine kP H (SR fun _ kg=>Rm rfl (ak kg rfl ?_));clear H kg;intro a H;refine lr H results118 rfl ?_
   first
    | exact H.rt (aA vi (by rw [dH,au (by omega)]))
    | exact H.rt (aA vi (by rw [dH,ah (by omega),au (by omega)]))
    | exact H.rt (aA vi (by rw [dH,ah (by omega),ah (by omega),← he,iE hk2,au (by omega)]))
    | exact H.rt (aA vi (by rw [dH,ah (by omega),ah (by omega),← he,iE hk2,ah (by omega),au (by omega)]))
    | exact H.rt (aA vi (by rw [dH,ah (by omega),ah (by omega),← he,iE hk2,ah (by omega),ah (by omega),au p45]))
    | exact H.rt (aA vi (by rw [dH,ah (by omega),ah (by omega),← he,iE hk2,ah (by omega),ah (by omega),ah p45,au (by omega)]))
    | exact H.rt (aA vi (by rw [dH,ah (by omega),ah (by omega),← he,iC (by omega)];rfl))
  intro h45 a H
  try have p45:=dF h45
  refine kP H (Kc fu (SR fun _ jR=>aR TA aG 0 rfl rfl (Rc rfl (Rm rfl (Sp 50 rfl ?_ ?_))))) <;> clear H fu
  ·intro h50 a H
   try have p50:=dT h50
   refine kH H (aP h50 rfl (aP h50 rfl (Pt h50 rfl (Kz jR (Ct rfl rfl (SR fun _ jy=>ak jy rfl ?_))))));clear H jR jy;intro a H;refine lr H results118 rfl ?_
   first
    | exact H.rt (aA vi (by rw [dH,au (by omega)]))
    | exact H.rt (aA vi (by rw [dH,ah (by omega),au (by omega)]))
    | exact H.rt (aA vi (by rw [dH,ah (by omega),ah (by omega),← he,iE hk2,au (by omega)]))
    | exact H.rt (aA vi (by rw [dH,ah (by omega),ah (by omega),← he,iE hk2,ah (by omega),au (by omega)]))
    | exact H.rt (aA vi (by rw [dH,ah (by omega),ah (by omega),← he,iE hk2,ah (by omega),ah (by omega),au p45]))
    | exact H.rt (aA vi (by rw [dH,ah (by omega),ah (by omega),← he,iE hk2,ah (by omega),ah (by omega),ah p45,au (by omega)]))
    | exact H.rt (aA vi (by rw [dH,ah (by omega),ah (by omega),← he,iC (by omega)];rfl))
  intro h50 a H
  try have p50:=dF h50
  refine kH H (YF TA h50 rfl (YO aG 0 h50 rfl (YM h50 rfl (YC h50 rfl (Pf h50 rfl (Kz jR (Cd rfl ?_ ?_))))))) <;> clear H jR
  ·intro kN a H
   try have p55:=dT kN
   refine kP H (SR fun _ kE=>ak kE rfl ?_);clear H kE;intro a H;refine lr H results118 rfl ?_
   first
    | exact H.rt (aA vi (by rw [dH,au (by omega)]))
    | exact H.rt (aA vi (by rw [dH,ah (by omega),au (by omega)]))
    | exact H.rt (aA vi (by rw [dH,ah (by omega),ah (by omega),← he,iE hk2,au (by omega)]))
    | exact H.rt (aA vi (by rw [dH,ah (by omega),ah (by omega),← he,iE hk2,ah (by omega),au (by omega)]))
    | exact H.rt (aA vi (by rw [dH,ah (by omega),ah (by omega),← he,iE hk2,ah (by omega),ah (by omega),au p45]))
    | exact H.rt (aA vi (by rw [dH,ah (by omega),ah (by omega),← he,iE hk2,ah (by omega),ah (by omega),ah p45,au (by omega)]))
    | exact H.rt (aA vi (by rw [dH,ah (by omega),ah (by omega),← he,iC (by omega)];rfl))
  intro kN a H
  try have p55:=dF kN
  refine kP H (Kc bA (SC (Rd rfl (Rm rfl ?_))));clear H bA;intro a H;refine aH ?_;refine dw ((k+1,E9)) (by exact (H.dU (Pl:=[_]) (cK:=[]) [] (by decide) rfl).sub ⟨rfl,rfl,rfl,aB⟩) ?_ ?_
  ·(try dsimp only);exact ⟨by omega,by rw [iE hk2,ah (by omega),ah (by omega),ah p45,ah (by omega)] at he;exact he,fun b o h=>vG b o (hgm b o h)⟩
  first|omega|(dsimp only;omega)
 intro dS a H
 try have lS:=dF dS
 refine dW ?_;refine K7 _ _ ?_;clear K7;refine kP H (SR fun _ kF=>ak kF rfl ?_);clear H kF;intro a H;refine lr H results118 rfl ?_
 first
  | exact H.rt (aA vi (by rw [dH,au (by omega)]))
  | exact H.rt (aA vi (by rw [dH,ah (by omega),au (by omega)]))
  | exact H.rt (aA vi (by rw [dH,ah (by omega),ah (by omega),← he,iE hk2,au (by omega)]))
  | exact H.rt (aA vi (by rw [dH,ah (by omega),ah (by omega),← he,iE hk2,ah (by omega),au (by omega)]))
  | exact H.rt (aA vi (by rw [dH,ah (by omega),ah (by omega),← he,iE hk2,ah (by omega),ah (by omega),au p45]))
  | exact H.rt (aA vi (by rw [dH,ah (by omega),ah (by omega),← he,iE hk2,ah (by omega),ah (by omega),ah p45,au (by omega)]))
  | exact H.rt (aA vi (by rw [dH,ah (by omega),ah (by omega),← he,iC (by omega)];rfl))
end
section
open Go.RowKit
theorem Dy:Ty prog 32 1 24 [.slice none 0 0] false:=⟨by kernel_rfl,by kernel_rfl⟩
theorem DF:prog.underlying 32=some (.slice 184):=by kernel_rfl
theorem ES:Ty prog 184 2 32 [.int .i64 0,.slice none 0 0] true:=⟨by kernel_rfl,by kernel_rfl⟩
theorem Tn:bV prog 184 0 0:=⟨by kernel_rfl⟩
theorem aiI:Ty prog 182 1 24 [.slice none 0 0] false:=⟨by kernel_rfl,by kernel_rfl⟩
theorem Mv:∀ args w,(callFunc 86 args).run prog w=.ok (.enter 86 args) w:=enters func86 rfl (by kernel_rfl)
theorem acY:bV prog 184 1 1:=⟨by kernel_rfl⟩
theorem abb:∀ args w,(callFunc 118 args).run prog w=.ok (.enter 118 args) w:=enters func118 rfl (by kernel_rfl)
theorem Ec:∀ args w,(callFunc 84 args).run prog w=.ok (.enter 84 args) w:=enters func84 rfl (by kernel_rfl)
theorem aaZ:∀ args w,(callFunc 117 args).run prog w=.ok (.enter 117 args) w:=enters func117 rfl (by kernel_rfl)
theorem aaY:∀ args w,(callFunc 116 args).run prog w=.ok (.enter 116 args) w:=enters func116 rfl (by kernel_rfl)
structure fI where
 id:Int
 levels:List nM
def fI.dat (x:fI):List Dat:=[li x.id,.sl 4 (x.levels.map nM.dat)]
structure iA where
 id:Int
 parent:Int
 author:ByteArray
 time:Int
 text:ByteArray
 done:Bool
def iA.dat (x:iA):List Dat:=[li x.id,li x.parent,.lf (.string x.author),li x.time,.lf (.string x.text),.lf (.bool x.done)]
abbrev iA.cells (x:iA):List aj:=[vi x.id,vi x.parent,.string x.author,vi x.time,.string x.text,.bool x.done]
structure lC where
 name:ByteArray
 value:ByteArray
def lC.dat (x:lC):List Dat:=[.lf (.string x.name),.lf (.string x.value)]
abbrev lC.cells (x:lC):List aj:=[.string x.name,.string x.value]
theorem RU {G:GH} {x:iA} {cs:List aj} (h:aY G x.dat cs):cs=x.cells:=by
 simp only [iA.dat,aY,av] at h
 obtain ⟨_,_,rfl,⟨rfl,_⟩,_,_,rfl,⟨rfl,_⟩,_,_,rfl,⟨rfl,_⟩,_,_,rfl,⟨rfl,_⟩,_,_,rfl,⟨rfl,_⟩,_,_,rfl,⟨rfl,_⟩,rfl⟩:=h
 rfl
theorem aiW {G:GH} {x:lC} {cs:List aj} (h:aY G x.dat cs):cs=x.cells:=by
 simp only [lC.dat,aY,av] at h
 obtain ⟨_,_,rfl,⟨rfl,_⟩,_,_,rfl,⟨rfl,_⟩,rfl⟩:=h
 rfl
theorem Oz {G:GH} {l:List fI} {A:Option Addr} {n c k:Nat} (hv:av G (.sl 2 (l.map fI.dat)) (.slice A n c)) (hk:k < l.length):∃ b o B d,A=some ⟨b,o,none⟩∧(∀ j u,[vi l[k].id,.slice B l[k].levels.length d][j]?=some u→aJ G b (o+k*2+j)=some u)∧av G (.sl 4 (l[k].levels.map nM.dat)) (.slice B l[k].levels.length d):=by
 obtain ⟨A',c',he,_,_,hg⟩:=hv.slice
 injection he with e1 e2 e3
 subst e1;obtain ⟨b,o,cs,h1,h2,h3,h4⟩:=hg k l[k].dat (by simp [hk])
 simp only [fI.dat,aY] at h4
 obtain ⟨v1,_,rfl,⟨rfl,-⟩,v2,_,rfl,hl,rfl⟩:∃ v vs,cs=v :: vs∧av G (li l[k].id) v∧∃ v2 vs2,vs=v2 :: vs2∧av G (.sl 4 (l[k].levels.map nM.dat)) v2∧vs2=[]:=h4;obtain ⟨B,d,rfl,-,-,-⟩:=hl.slice;rw [bT] at *;exact ⟨b,o,B,d,h1,h3,hl⟩
theorem aga {G:GH} {bl:Nat} {l:List fI} {A:Option Addr} {n c:Nat} (hb:aJ G bl 0=some (.slice A n c)) (hv:av G (.sl 2 (l.map fI.dat)) (.slice A n c)):qD (.func (.func 117) #[] #[(aI bl 0)]) G l.length fun k=>(l[k]?.map fI.id).getD 0:=by
 intro k hk G1 w0 hm hG;refine lZ (caps:=[(aI bl 0)]) aaZ ?_;replace hb:=aK hm hb
 obtain rfl:n=l.length:=by have:=hv.len;simpa using this
 obtain ⟨b,o,B,d,rfl,hrow,-⟩:=Oz (hv.mono hm) hk;have hq:=hrow 0 _ rfl;refine eN [(0,_),(1,_)] func117 rfl ntmps117 rfl rfl hG ?_;intro a H;refine kP H (SR fun _ K1=>ak K1 rfl (SR fun _ K2=>Rg Dy rfl (by assumption) ?_));clear H K1;intro a H;refine kH H (Rm rfl (Ri DF ES rfl rfl (Rf Tn rfl (Rg aG rfl (by assumption) ?_))));clear H;intro a H;exact kH H (ak K2 rfl (LR results117 rfl fun H=>H.rt (by dsimp only;rw [gP hk];rfl)))
def Dg (l:List fI) (i:Nat):Int:=cZ [nT (fun k=>(l[k]?.map fI.id).getD 0) i,dH ((l[i]?.map fI.levels).getD [])]
theorem agd {G:GH} {bl:Nat} {l:List fI} {A:Option Addr} {n c:Nat} (hb:aJ G bl 0=some (.slice A n c)) (hv:av G (.sl 2 (l.map fI.dat)) (.slice A n c)) (hl:l.length≤4294967296) (ht:∀ x∈l,∀ y∈x.levels,y.wZ.size < 4611686018427387904):qD (.func (.func 116) #[] #[(aI bl 0)]) G l.length (Dg l):=by
 intro k hk G1 w0 hm hG;refine lZ (caps:=[(aI bl 0)]) aaY ?_;replace hb:=aK hm hb;replace hv:=hv.mono hm;have hcb:=aga hb hv
 obtain rfl:n=l.length:=by have:=hv.len;simpa using this
 obtain ⟨b,o,B,d,rfl,hrow,hlv⟩:=Oz hv hk;have hq:=hrow 1 _ rfl
 have he:Dg l k=cZ [nT (fun k=>(l[k]?.map fI.id).getD 0) k,dH l[k].levels]:=by unfold Dg;rw [gP hk];rfl
 refine eN [(0,_),(1,_)] func116 rfl ntmps116 rfl rfl hG ?_;intro a H;refine kP H (SR fun _ K1=>ak K1 rfl (SQ fun _ K2=>?_));clear H K1;intro a H;have H:=H.sub (T':=[(0,_),(1,_)]) ⟨rfl,rfl,aB⟩;refine dI hmx [[],[],[0,1],[],[],[3,4],[3,4,5],(ra 3 4),(ra 0 8),(ra 0 9),(ra 0 10),(ra 0 11)] [9,10,11] (by kernel_rfl) [_,.func (.func 117) #[] #[(aI bl 0)],vi (nT (fun k=>(l[k]?.map fI.id).getD 0) k),_,_,_,_,_,vi (dH l[k].levels)] H (aD (Z0 rfl (Rm rfl)) ?_ ?_ (X0 rfl fun hG=>Rg Dy rfl (aK hG hb)) (aD (Z0 rfl (Rm rfl)) (Z2 3 7 4 8 rfl (Ri DF ES rfl rfl)) (Z1 5 9 rfl (Rf acY rfl)) (X1 6 10 rfl fun hG=>Rg aiI rfl (aK hG hq)) (aD ?_ (bL rfl) (bL rfl) (bL rfl) bY))) ?_
 ·refine yO rfl fun _ a w G1 hG HT H fin=>?_;refine pO H wn rfl rfl ?_;clear H;intro a H;exact fin H iJ rfl
 ·refine dz 0 4 1 5 rfl rfl fun _ a w G1 hG HT H fin=>?_;refine s_call Mv H wn rfl (Ol _ _ H.ro k _ _ (by omega) (fun i hi=>(hcb.mono hG) i (by omega))) rfl ?_;clear H;rintro v6 G6 a w rfl gH H;exact fin H gH (rfl)
 ·refine dL 7 11 rfl rfl fun _ a w G1 hG HT H fin=>?_;refine s_call abb H wn rfl (ZX _ _ H.ro _ _ (hlv.mono hG) (ht _ (iQ hk))) rfl ?_;clear H;rintro v12 Au a w rfl pF H;exact fin H pF (rfl)
 clear H;intro a w G mJ H hv;have H:=H.aQ (hv 2 6 rfl rfl) rfl;have H:=H.aQ (hv 8 12 rfl rfl) rfl;clear hv;refine gQ nJ fV [_,_] [_,_] H wn rfl rfl rfl rfl rfl (by intro i q h;match i,h with|0,h=>exact h|1,h=>exact h|n+2,h=>simp at h) rfl rfl ?_;clear H;intro b13 a w Ns H;obtain ⟨DJ,Gg,aej,H⟩:=H.dP;refine s_call oD H wn rfl (oF _ _ H.ro _ _ (vN aej)) rfl ?_;clear H;rintro v14 _ a w ⟨rfl,rfl⟩ - H;refine kH H (Ra rfl ?_);clear H;intro a H;refine aH ⟨rfl,?_⟩;refine K2 _ _ ?_;clear K2;refine lr H results116 rfl ?_;exact H.rt (by rw [he])
def FC (l:List fI):Int:=cZ [bW (decide (64 < (l.length:Int))) 9,jM (Dg l) (min l.length 64)]
theorem qD.le {fv:aj} {G:GH} {n m:Nat} {E:Nat→Int} (h:qD fv G n E) (hm:m≤n):qD fv G m E:=fun i hi=>h i (by omega)
theorem ZY (G:GH) (w0:World) (hG:Hold G w0) (l:List fI) (v:aj) (hv:av G (.sl 2 (l.map fI.dat)) v) (hl:l.length≤4294967296) (ht:∀ x∈l,∀ y∈x.levels,y.wZ.size < 4611686018427387904) :
  Calls prog 81 #[v] w0 (bC w0 G fun u G'=>u=vi (FC l)):=by
 obtain ⟨A,c,rfl,hc1,hc2,-⟩:=hv.slice;rw [bT] at *;refine eN [(0,_)] func81 rfl ntmps81 rfl rfl hG ?_;intro a H;refine cO (fun _ K1=>?_);refine fC (cs:=[_]) H wn rfl rfl rfl ?_;clear H;intro b1 a w hb1 H;refine kH H (ak K1 rfl (SQ fun _ K2=>?_));clear H K1;intro a H;have H:=H.sub (T':=[(1,_)]) ⟨rfl,aB⟩;obtain ⟨Ga,hma,hb1',H⟩:=H.dP
 have hbl:aJ Ga b1 0=some (.slice A l.length c):=by unfold aJ;rw [hb1'];rfl
 have hcb:=agd hbl (hv.mono hma) hl ht;refine dI hmx [[],[0],[0,1],[0,1,2],[],[4],[4,5],[],(ra 0 8),(ra 0 9),(ra 0 10),(ra 0 11)] [9,10,11] (by kernel_rfl) [_,_,_,vi (bW (decide (64 < (l.length:Int))) 9),_,_,vi ((min l.length 64:Nat):Int),.func (.func 116) #[] #[(aI b1 0)],vi (jM (Dg l) (min l.length 64))] H (aD (X0 rfl fun hG=>Rg Dy rfl (aK hG hbl)) (Z1 0 3 rfl (Rl DF rfl)) (Z1 1 4 rfl (Rc rfl)) ?_ (aD (X0 rfl fun hG=>Rg Dy rfl (aK hG hbl)) (Z1 4 7 rfl (Rl DF rfl)) ?_ ?_ (aD ?_ (bL rfl) (bL rfl) (bL rfl) bY))) ?_
 ·refine dL 2 5 rfl rfl fun _ a w G1 hG HT H fin=>?_;refine s_call iL H wn rfl (iN _ _ H.ro _ 9) rfl ?_;clear H;rintro v6 G6 a w ⟨rfl,-⟩ gH H;exact fin H gH (rfl)
 ·refine dL 5 8 rfl rfl fun _ a w G1 hG HT H fin=>?_;refine J8 H wn rfl rfl rfl ?_;clear H;intro a H;exact fin H iJ (aA vi (by omega))
 ·refine yO rfl fun _ a w G1 hG HT H fin=>?_;refine pO H wn rfl rfl ?_;clear H;intro a H;exact fin H iJ rfl
 ·refine dz 6 9 7 10 rfl rfl fun _ a w G1 hG HT H fin=>?_;refine s_call Ec H wn rfl (Fx _ _ H.ro (min l.length 64) (Dg l) _ (by omega) ((hcb.mono hG).le (Nat.min_le_left _ _))) rfl ?_;clear H;rintro v11 vS a w rfl jH H;exact fin H jH (rfl)
 clear H;intro a w G mJ H hv;have H:=H.aQ (hv 3 6 rfl rfl) rfl;have H:=H.aQ (hv 8 11 rfl rfl) rfl;clear hv;refine gQ nJ fV [_,_] [_,_] H wn rfl rfl rfl rfl rfl (by intro i q h;match i,h with|0,h=>exact h|1,h=>exact h|n+2,h=>simp at h) rfl rfl ?_;clear H;intro b12 a w Bc H;obtain ⟨Au,CP,CK,H⟩:=H.dP;refine s_call oD H wn rfl (oF _ _ H.ro _ _ (vN CK)) rfl ?_;clear H;rintro v13 _ a w ⟨rfl,rfl⟩ - H;refine kH H (Ra rfl ?_);clear H;intro a H;refine aH ⟨rfl,?_⟩;refine K2 _ _ ?_;clear K2;refine lr H results81 rfl ?_;exact H.rt rfl
end
section
open Go.RowKit
theorem mR:prog.underlying 31=some (.slice 181):=by kernel_rfl
theorem jK:Ty prog 181 6 72 [.int .i64 0,.int .i64 0,.string ⟨#[]⟩,.int .i64 0,.int .i64 0,.slice none 0 0] true:=⟨by kernel_rfl,by kernel_rfl⟩
theorem vk:bV prog 181 1 1:=⟨by kernel_rfl⟩
theorem Ee:bV prog 181 2 2:=⟨by kernel_rfl⟩
theorem sP:bV prog 181 0 0:=⟨by kernel_rfl⟩
theorem Sn:∀ args w,(callFunc 141 args).run prog w=.ok (.enter 141 args) w:=enters func141 rfl (by kernel_rfl)
theorem abn:∀ args w,(callFunc 134 args).run prog w=.ok (.enter 134 args) w:=enters func134 rfl (by kernel_rfl)
theorem abt:∀ args w,(callFunc 142 args).run prog w=.ok (.enter 142 args) w:=enters func142 rfl (by kernel_rfl)
theorem abu:∀ args w,(callFunc 143 args).run prog w=.ok (.enter 143 args) w:=enters func143 rfl (by kernel_rfl)
structure bM where
 id:Int
 kind:Int
 name:ByteArray
 base:Int
 next:Int
 props:List iq
def bM.dat (x:bM):List Dat:=[li x.id,li x.kind,.lf (.string x.name),li x.base,li x.next,.sl 2 (x.props.map iq.dat)]
theorem PG {G:GH} {x:bM} {cs:List aj} (h:aY G x.dat cs):∃ A c,cs=[vi x.id,vi x.kind,.string x.name,vi x.base,vi x.next,.slice A x.props.length c]∧av G (.sl 2 (x.props.map iq.dat)) (.slice A x.props.length c):=by
 simp only [bM.dat,aY] at h
 obtain ⟨v1,_,rfl,h1,v2,_,rfl,h2,v3,_,rfl,h3,v4,_,rfl,h4,v5,_,rfl,h5,v6,_,rfl,h6,rfl⟩:=h
 simp only [av] at h1 h2 h3 h4 h5
 obtain ⟨rfl,-⟩:=h1;obtain ⟨rfl,-⟩:=h2;obtain ⟨rfl,-⟩:=h3;obtain ⟨rfl,-⟩:=h4;obtain ⟨rfl,-⟩:=h5;obtain ⟨A,c,rfl,-,-,-⟩:=h6.slice;rw [bT] at *;exact ⟨A,c,rfl,h6⟩
theorem Ae {G:GH} {l:List bM} {A:Option Addr} {n c k:Nat} (hv:av G (.sl 6 (l.map bM.dat)) (.slice A n c)) (hk:k < l.length):∃ b o pA pc,A=some ⟨b,o,none⟩∧(∀ j u,[vi l[k].id,vi l[k].kind,.string l[k].name,vi l[k].base,vi l[k].next,.slice pA l[k].props.length pc][j]?=some u→aJ G b (o+k*6+j)=some u)∧av G (.sl 2 (l[k].props.map iq.dat)) (.slice pA l[k].props.length pc) ∧
  aY G l[k].dat [vi l[k].id,vi l[k].kind,.string l[k].name,vi l[k].base,vi l[k].next,.slice pA l[k].props.length pc]:=by
 obtain ⟨A',c',he,_,_,hg⟩:=hv.slice
 injection he with e1 e2 e3
 subst e1;obtain ⟨b,o,cs,h1,h2,h3,h4⟩:=hg k l[k].dat (by simp [hk]);obtain ⟨pA,pc,rfl,hp⟩:=PG h4;exact ⟨b,o,pA,pc,h1,h3,hp,h4⟩
def okB (x:Int):Bool:=decide (32≤x∧x≤126)
def Dl (s:ByteArray) (k:Nat):Bool:=(List.range k).all fun i=>okB (gG s i)
def mD (s:ByteArray):Bool:=decide (s.size≠0∧s.size≤40∧gG s 0≠32∧gG s (s.size - 1)≠32) && Dl s s.size
theorem agx (s:ByteArray) (k:Nat):Dl s (k+1)=(Dl s k && okB (gG s k)):=by simp [Dl,List.range_succ]
theorem Dm {s:ByteArray} {k:Nat} (hk:k < s.size) (h:okB (gG s k)=false):Dl s s.size=false:=by
 rw [Dl,List.all_eq_false];exact ⟨k,by simpa using hk,by simp [h]⟩
theorem JF (G:GH) (w0:World) (hG:Hold G w0) (s:ByteArray) (hs:s.size≤4611686018427387904):Calls prog 131 #[.string s] w0 (bC w0 G fun u G'=>u=.bool (mD s)):=by
 refine eN [(0,_)] func131 rfl ntmps131 rfl rfl hG ?_;intro a H;refine kP H (SR fun _ K1=>ak K1 rfl (SQ fun _ K2=>SR fun _ K3=>Rm rfl (Rv fP rfl (Rc rfl (Rm rfl (Sp 7 rfl ?_ ?_)))))) <;> clear H K1
 ·intro h7 a H
  try have p7:=dT h7
  refine kH H (aX h7 rfl (Pt h7 rfl (Rm rfl (aX rfl rfl (Pt rfl rfl (Rm rfl (aX rfl rfl (aX rfl rfl (Pt rfl rfl (Kz K3 (Ct rfl rfl (SR fun _ K4=>ak K4 rfl ?_))))))))))));clear H K3 K4;intro a H;refine lr H results131 rfl ?_
  first
   | exact H.rt (aF (by rw [mD,jm (by omega),tY]))
   | exact H.rt (aF (by rw [mD,jT (by omega),show s.size=k by omega,hno];rfl))
   | exact H.rt (aF (by rw [mD,Dm (k:=k) (by omega) (jm (by omega)),Bool.and_false]))
 intro h7 a H
 try have p7:=dF h7
 refine kH H (YM h7 rfl ?_);clear H;intro a H;refine Bv fP H (wg H rfl rfl h7) rfl rfl ?_;clear H;intro a H;refine kH H (YC h7 rfl (Pf h7 rfl (Rm rfl (Sp 12 rfl ?_ ?_)))) <;> clear H
 ·intro h12 a H
  try have oJ:=dT h12
  refine kH H (aX h12 rfl (Pt h12 rfl (Rm rfl (aX rfl rfl (aX rfl rfl (Pt rfl rfl (Kz K3 (Ct rfl rfl (SR fun _ K5=>ak K5 rfl ?_)))))))));clear H K3 K5;intro a H;refine lr H results131 rfl ?_
  first
   | exact H.rt (aF (by rw [mD,jm (by omega),tY]))
   | exact H.rt (aF (by rw [mD,jT (by omega),show s.size=k by omega,hno];rfl))
   | exact H.rt (aF (by rw [mD,Dm (k:=k) (by omega) (jm (by omega)),Bool.and_false]))
 intro h12 a H
 try have oJ:=dF h12
 refine kH H (YM h12 rfl ?_);clear H;intro a H;refine nk 0 fP H (wg H rfl rfl h12) rfl rfl rfl (by omega) rfl ?_;clear H;intro a H;rw [← kU] at H;refine kH H (YC h12 rfl (Pf h12 rfl (Rm rfl (Sp 17 rfl ?_ ?_)))) <;> clear H
 ·intro dS a H
  try have lS:=dT dS
  refine kH H (aX dS rfl (aX dS rfl (Pt dS rfl (Kz K3 (Ct rfl rfl (SR fun _ K6=>ak K6 rfl ?_))))));clear H K3 K6;intro a H;refine lr H results131 rfl ?_
  first
   | exact H.rt (aF (by rw [mD,jm (by omega),tY]))
   | exact H.rt (aF (by rw [mD,jT (by omega),show s.size=k by omega,hno];rfl))
   | exact H.rt (aF (by rw [mD,Dm (k:=k) (by omega) (jm (by omega)),Bool.and_false]))
 intro dS a H
 try have lS:=dF dS
 refine kH H (YM dS rfl (YM dS rfl ?_));clear H;intro a H;refine Bv fP H (wg H rfl rfl dS) rfl rfl ?_;clear H;intro a H;refine mF _ H (wg H rfl rfl dS) rfl rfl rfl (by omega) (by omega) rfl ?_;clear H;intro a H;refine nk (s.size - 1) fP H (wg H rfl rfl dS) rfl rfl (by omega) (by omega) rfl ?_;clear H;intro a H;rw [← kU] at H;refine kH H (YC dS rfl (Pf dS rfl (Kz K3 (Cd rfl ?_ ?_)))) <;> clear H K3
 ·intro dQ a H
  try have jO:=dT dQ
  refine kP H (SR fun _ K7=>ak K7 rfl ?_);clear H K7;intro a H;refine lr H results131 rfl ?_
  first
   | exact H.rt (aF (by rw [mD,jm (by omega),tY]))
   | exact H.rt (aF (by rw [mD,jT (by omega),show s.size=k by omega,hno];rfl))
   | exact H.rt (aF (by rw [mD,Dm (k:=k) (by omega) (jm (by omega)),Bool.and_false]))
 intro dQ a H
 try have jO:=dF dQ
 refine kP H (Kc K2 (SQ fun _ K8=>SR fun _ K9=>Rm rfl (Rv fP rfl (Rm rfl (Kz K9 (SB ?_))))));clear H K2 K9;intro a H;skip;refine eZ (ι:=Nat) (Tc:=[(0,_),(26,_)]) (Lc:=[]) (fun gh=>[(27,vi gh)]) (fun gh=>[]) (fun gh=>G) (fun gh=>gh≤s.size∧Dl s gh=true) (fun gh=>s.size - gh) (0) (by exact (H).sub ⟨rfl,rfl,rfl,aB⟩) ?_ ?_
 ·exact ⟨iK _,rfl⟩
 clear H;intro gh a w hI H;obtain ⟨k,hgh⟩:∃ x,x=gh:=⟨_,rfl⟩;subst hgh;obtain ⟨hk,hno⟩:=hI;dsimp only [lca,aZ] at H;refine kP H (SR fun _ aS=>Rc rfl (Kz aS (SQ fun _ bA=>Cd rfl ?_ ?_))) <;> clear H aS
 ·intro eP a H
  try have p28:=dT eP
  refine kP H (Kc bA (SQ fun _ bK=>SB (SR fun _ bR=>Rm rfl (ak bR rfl (SR fun _ bP=>Rm rfl (Rm rfl ?_))))));clear H bA bR;intro a H;refine nk k fP H wn rfl rfl rfl (by omega) rfl ?_;clear H;intro a H;rw [← kU] at H;refine kH H (Rc rfl (Rm rfl (Sp 34 rfl ?_ ?_))) <;> clear H
  ·intro fM a H
   try have p34:=dT fM
   refine kH H (aP fM rfl (aP fM rfl (Pt fM rfl (Kz bP (Ct rfl rfl (SR fun _ dJ=>ak dJ rfl ?_))))));clear H bP dJ;intro a H;refine lr H results131 rfl ?_
   first
    | exact H.rt (aF (by rw [mD,jm (by omega),tY]))
    | exact H.rt (aF (by rw [mD,jT (by omega),show s.size=k by omega,hno];rfl))
    | exact H.rt (aF (by rw [mD,Dm (k:=k) (by omega) (jm (by omega)),Bool.and_false]))
  intro fM a H
  try have p34:=dF fM
  refine kH H (YM fM rfl (YM fM rfl ?_));clear H;intro a H;refine nk k fP H (wg H rfl rfl fM) rfl rfl rfl (by omega) rfl ?_;clear H;intro a H;rw [← kU] at H;refine kH H (YC fM rfl (Pf fM rfl (Kz bP (Cd rfl ?_ ?_)))) <;> clear H bP
  ·intro kr a H
   try have p39:=dT kr
   refine kP H (SR fun _ dN=>ak dN rfl ?_);clear H dN;intro a H;refine lr H results131 rfl ?_
   first
    | exact H.rt (aF (by rw [mD,jm (by omega),tY]))
    | exact H.rt (aF (by rw [mD,jT (by omega),show s.size=k by omega,hno];rfl))
    | exact H.rt (aF (by rw [mD,Dm (k:=k) (by omega) (jm (by omega)),Bool.and_false]))
  intro kr a H
  try have p39:=dF kr
  refine kP H (Kc bK (SC (Rd rfl (Rm rfl ?_))));clear H bK;intro a H;refine aH ?_;refine dw ((k+1)) (by exact (H).sub ⟨rfl,rfl,rfl,aB⟩) ?_ ?_
  ·exact ⟨by omega,by rw [agx,hno];simp [okB];omega⟩
  first|omega|(dsimp only;omega)
 intro eP a H
 try have p28:=dF eP
 refine dW ?_;refine K8 _ _ ?_;clear K8;refine kP H (SR fun _ dx=>ak dx rfl ?_);clear H dx;intro a H;refine lr H results131 rfl ?_
 first
  | exact H.rt (aF (by rw [mD,jm (by omega),tY]))
  | exact H.rt (aF (by rw [mD,jT (by omega),show s.size=k by omega,hno];rfl))
  | exact H.rt (aF (by rw [mD,Dm (k:=k) (by omega) (jm (by omega)),Bool.and_false]))
theorem Vd (G:GH) (w0:World) (hG:Hold G w0) (l:List bM) (p:bM→Bool) (v fv:aj) (hv:av G (.sl 6 (l.map bM.dat)) v) (hf:∀ x∈l,uT fv G x.dat (p x)) :
  Calls prog 141 #[v,fv] w0 (bC w0 G fun u G'=>u=vi (mX (l.findIdx? p))):=by
 obtain ⟨A,c,rfl,hc1,hc2,-⟩:=hv.slice;have hml:maxLen=9223372036854775807:=rfl;rw [bT] at *;refine eN [(0,_),(1,_)] func141 rfl ntmps141 rfl rfl hG ?_;intro a H;refine kP H (SR fun _ K1=>ak K1 rfl (SQ fun _ K2=>SR fun _ K3=>Rm rfl (Rl mR rfl (Rm rfl (Kz K3 (SB ?_))))));clear H K1 K3;intro a H;skip;refine eZ (ι:=Nat × GH) (Tc:=[(0,_),(1,_),(7,_)]) (Lc:=[]) (fun gh=>[(8,vi gh.1)]) (fun gh=>[]) (fun gh=>gh.2) (fun gh=>gh.1≤l.length∧(l.take gh.1).findIdx? p=none∧(∀ b o,G b=some o→gh.2 b=some o)) (fun gh=>l.length - gh.1) ((0,G)) (by exact (H).sub ⟨rfl,rfl,rfl,rfl,aB⟩) ?_ ?_
 ·exact ⟨by omega,rfl,fun _ _ h=>h⟩
 clear H;intro gh a w hI H;obtain ⟨k,g⟩:=gh;dsimp only at hI H;obtain ⟨hk,hno,hgm⟩:=hI;dsimp only [lca,aZ] at H;refine kP H (SR fun _ K4=>Rc rfl (Kz K4 (SQ fun _ K5=>Cd rfl ?_ ?_))) <;> clear H K4
 ·intro h9 a H
  try have p9:=dT h9
  have hk2:k < l.length:=by omega
  obtain ⟨b,o,pA,pc,rfl,hrow,hp,hrep⟩:=Ae (hv.mono hgm) hk2;refine kP H (Kc K5 (SQ fun _ K6=>SB (SR fun _ K7=>Rm rfl (ak K7 rfl (SR fun _ K8=>Rm rfl (Rm rfl (Rm rfl (Ri mR jK rfl rfl ?_))))))));clear H K5 K7;intro a H;refine bD jK (cs:=[_,_,_,_,_,_]) H wn rfl rfl (fun j v hj=>H.hp.aJ (hrow j v hj)) rfl ?_;clear H;intro a H;refine oM H wn rfl rfl (hf _ (iQ hk2) _ _ _ hgm H.ro hrep) rfl ?_;clear H;rintro v16 qC a w rfl qM H;refine K8 _ _ ?_;clear K8;refine kV H rfl ?_ ?_
  ·intro h16
   try have p16:=dT h16
   refine kP H (SR fun _ K9=>Rm rfl (ak K9 rfl ?_));clear H K9;intro a H;refine lr H results141 rfl ?_
   first
    | exact H.rt (by rw [tJ hk2 hno h16];rfl)
    | exact H.rt (by rw [show l.take k=l from jA (by omega)] at hno;rw [hno];rfl)
  intro h16
  try have p16:=dF h16
  refine kP H (Kc K6 (SC (Rd rfl (Rm rfl ?_))));clear H K6;intro a H;refine aH ?_;refine dw ((k+1,qC)) (by exact (H).sub ⟨rfl,rfl,rfl,rfl,aB⟩) ?_ ?_
  ·(try dsimp only);exact ⟨by omega,zV hk2 hno h16,fun b o h=>qM b o (hgm b o h)⟩
  first|omega|(dsimp only;omega)
 intro h9 a H
 try have p9:=dF h9
 refine dW ?_;refine K2 _ _ ?_;clear K2;refine kP H (SR fun _ aS=>ak aS rfl ?_);clear H aS;intro a H;refine lr H results141 rfl ?_
 first
  | exact H.rt (by rw [tJ hk2 hno h16];rfl)
  | exact H.rt (by rw [show l.take k=l from jA (by omega)] at hno;rw [hno];rfl)
def GR (p q:ByteArray):Bool:=p.toList == q.toList
theorem ado {G:GH} {bk bn:Nat} {kind:Int} {name:ByteArray} (hk:aJ G bk 0=some (vi kind)) (hn:aJ G bn 0=some (.string name)) (x:bM):uT (.func (.func 142) #[] #[(aI bk 0),(aI bn 0)]) G x.dat (decide (x.kind=kind) && GR x.name name):=by
 intro G1 w0 cs hm hG hr;refine lZ (caps:=[(aI bk 0),(aI bn 0)]) abt ?_;obtain ⟨pA,pc,rfl,-⟩:=PG hr;replace hk:=aK hm hk;replace hn:=aK hm hn;refine eN [(0,_),(1,_),(2,_)] func142 rfl ntmps142 rfl rfl hG ?_;intro a H;refine cO (fun _ K1=>?_);refine fC (cs:=[_,_,_,_,_,_]) H wn rfl rfl rfl ?_;clear H;intro b3 a w hb3 H;refine kH H (ak K1 rfl (SR fun _ K2=>aR vk aG 0 rfl rfl (Rg aG rfl (by assumption) ?_)));clear H K1;intro a H;refine kH H (Rc rfl (Rm rfl (Sp 9 rfl ?_ ?_))) <;> clear H
 ·intro h9 a H
  try have p9:=dT h9
  refine kH H (YF Ee h9 rfl (YO fZ 0 h9 rfl (YR fZ h9 rfl (by assumption) ?_)));clear H;intro a H;refine Bt H (wg H rfl rfl h9) rfl rfl rfl ?_;clear H;intro a H;exact kH H (Pt h9 rfl (ak K2 rfl (LR results142 rfl fun H=>H.rt (by unfold GR;simp_all))))
 intro h9 a H
 try have p9:=dF h9
 exact kH H (aP h9 rfl (aP h9 rfl (Pf h9 rfl (ak K2 rfl (LR results142 rfl fun H=>H.rt (by unfold GR;simp_all))))))
theorem adn {G:GH} {bi:Nat} {id:Int} (hb:aJ G bi 0=some (vi id)) (x:bM):uT (.func (.func 143) #[] #[(aI bi 0)]) G x.dat (decide (x.id=id)):=by
 intro G1 w0 cs hm hG hr;refine lZ (caps:=[(aI bi 0)]) abu ?_;obtain ⟨pA,pc,rfl,-⟩:=PG hr;replace hb:=aK hm hb;refine eN [(0,_),(1,_)] func143 rfl ntmps143 rfl rfl hG ?_;intro a H;refine cO (fun _ K1=>?_);refine fC (cs:=[_,_,_,_,_,_]) H wn rfl rfl rfl ?_;clear H;intro b2 a w hb2 H;refine kH H (ak K1 rfl (SR fun _ K2=>aR sP aG 0 rfl rfl (Rg aG rfl (by assumption) ?_)));clear H K1;intro a H;exact kH H (Rc rfl (ak K2 rfl (LR results143 rfl fun H=>H.rt rfl)))
def AO (l:List bM) (kind:Int) (name:ByteArray):Option Nat:=l.findIdx? fun x=>decide (x.kind=kind) && GR x.name name
def I6 (l:List bM) (id:Int):Option Nat:=l.findIdx? fun x=>decide (x.id=id)
theorem Vi (o:Option Nat):decide (0≤mX o)=o.isSome:=by cases o <;> simp [mX]
theorem adp (G:GH) (w0:World) (hG:Hold G w0) (l:List bM) (kind:Int) (name:ByteArray) (v:aj) (hv:av G (.sl 6 (l.map bM.dat)) v) :
  Calls prog 132 #[v,vi kind,.string name] w0 (bC w0 G fun u G'=>u=.tuple #[vi (max (mX (AO l kind name)) 0),.bool (AO l kind name).isSome]):=by
 obtain ⟨A,c,rfl,hc1,hc2,-⟩:=hv.slice;rw [bT] at *;refine eN [(0,_),(1,_),(2,_)] func132 rfl ntmps132 rfl rfl hG ?_;intro a H;refine cO (fun _ K1=>?_);refine fC (cs:=[_]) H wn rfl rfl rfl ?_;clear H;intro b4 a w hb4 H;refine fC (cs:=[_]) H wn rfl rfl rfl ?_;clear H;intro b5 a w hb5 H;refine kH H (Ra rfl (ak K1 rfl (SQ fun _ K2=>?_)));clear H K1;intro a H;obtain ⟨Ga,hma,xV,H⟩:=H.dP;obtain ⟨Gb,hmb,wF,H⟩:=H.dP
 have q4:aJ Gb b4 0=some (vi kind):=by unfold aJ;rw [wF];rfl
 have q5:aJ Gb b5 0=some (.string name):=by unfold aJ;rw [hmb _ _ xV];rfl
 refine kP H (SC (Rm rfl ?_));clear H;intro a H;refine pO H wn rfl rfl ?_;clear H;intro a H;refine s_call Sn H wn rfl (Vd _ _ H.ro l (fun x=>decide (x.kind=kind) && GR x.name name) _ _ ((hv.mono hma).mono hmb) (fun x _=>ado q4 q5 x)) rfl ?_;clear H;rintro v11 vS a w rfl Jm H;refine kH H (aV K2 rfl (SR fun _ K3=>Rm rfl ?_));clear H K2;intro a H;refine J7 H wn rfl rfl rfl ?_;clear H;intro a H;refine kH H (Rm rfl (Rc rfl (Ra rfl (ak K3 rfl ?_))));clear H K3;intro a H;refine cu ?_;refine (eT H results132 (.cons (aU H rfl) (.cons (aU H rfl) .nil)) ?_).1;exact H.rt (by rw [← Vi];rfl)
theorem ads (G:GH) (w0:World) (hG:Hold G w0) (l:List bM) (id:Int) (v:aj) (hv:av G (.sl 6 (l.map bM.dat)) v) :
  Calls prog 134 #[v,vi id] w0 (bC w0 G fun u G'=>u=.tuple #[vi (max (mX (I6 l id)) 0),.bool (I6 l id).isSome]):=by
 obtain ⟨A,c,rfl,hc1,hc2,-⟩:=hv.slice;rw [bT] at *;refine eN [(0,_),(1,_)] func134 rfl ntmps134 rfl rfl hG ?_;intro a H;refine cO (fun _ K1=>?_);refine fC (cs:=[_]) H wn rfl rfl rfl ?_;clear H;intro b3 a w hb3 H;refine kH H (Ra rfl (ak K1 rfl (SQ fun _ K2=>?_)));clear H K1;intro a H;obtain ⟨Ga,hma,zL,H⟩:=H.dP
 have q3:aJ Ga b3 0=some (vi id):=by unfold aJ;rw [zL];rfl
 refine kP H (SC (Rm rfl ?_));clear H;intro a H;refine pO H wn rfl rfl ?_;clear H;intro a H;refine s_call Sn H wn rfl (Vd _ _ H.ro l (fun x=>decide (x.id=id)) _ _ (hv.mono hma) (fun x _=>adn q3 x)) rfl ?_;clear H;rintro v9 G9 a w rfl wI H;refine kH H (aV K2 rfl (SR fun _ K3=>Rm rfl ?_));clear H K2;intro a H;refine J7 H wn rfl rfl rfl ?_;clear H;intro a H;refine kH H (Rm rfl (Rc rfl (Ra rfl (ak K3 rfl ?_))));clear H K3;intro a H;refine cu ?_;refine (eT H results134 (.cons (aU H rfl) (.cons (aU H rfl) .nil)) ?_).1;exact H.rt (by rw [← Vi];rfl)
def Da (l:List bM) (kind id:Int):Bool:=match I6 l id with|some i=>decide ((l[i]?.map bM.kind)=some kind)|none=>false
theorem Om (G:GH) (w0:World) (hG:Hold G w0) (l:List bM) (kind id:Int) (v:aj) (hv:av G (.sl 6 (l.map bM.dat)) v) :
  Calls prog 114 #[v,vi kind,vi id] w0 (bC w0 G fun u G'=>u=.bool (Da l kind id)):=by
 obtain ⟨A,c,rfl,hc1,hc2,-⟩:=hv.slice;rw [bT] at *;refine eN [(0,_),(1,_),(2,_)] func114 rfl ntmps114 rfl rfl hG ?_;intro a H;refine kP H (SR fun _ K1=>ak K1 rfl (SR fun _ K2=>Rm rfl (Rm rfl ?_)));clear H K1;intro a H;refine s_call abn H wn rfl (ads _ _ H.ro l id _ hv) rfl ?_;clear H;rintro v12 Au a w rfl CP H;obtain ⟨o,ho⟩:∃ o,o=I6 l id:=⟨_,rfl⟩;rw [← ho] at H;refine kH H (Rm rfl ?_);clear H;intro a H;(iterate 2 refine lu H wn rfl rfl rfl ?_;clear H;intro a H);refine kH H (Ra rfl (ak K2 rfl (SR fun _ K3=>Rm rfl (Rm rfl (Sp 16 rfl ?_ ?_))))) <;> clear H K2
 ·intro h16 a H
  try have p16:=dT h16
  obtain ⟨i,rfl⟩:=Option.isSome_iff_exists.1 h16
  have hil:i < l.length:=by
   obtain ⟨hi,-⟩:=List.findIdx?_eq_some_iff_getElem.1 ho.symm;exact hi
  rw [show max (mX (some i)) 0=(i:Int) by simp [mX]] at H;obtain ⟨b,o',pA,pc,rfl,hrow,hp,hrep⟩:=Ae (hv.mono CP) hil;have r1:aJ Au b (o'+i*6+1)=some (vi l[i].kind):=hrow 1 _ rfl;refine kH H (YM h16 rfl (YM h16 rfl (YI mR jK h16 rfl rfl (YF vk h16 rfl (YR aG h16 rfl (by assumption) ?_)))));clear H;intro a H;refine kH H (YM h16 rfl (YC h16 rfl (Pt h16 rfl (ak K3 rfl ?_))));clear H K3;intro a H;refine lr H results114 rfl ?_
  first
   | exact H.rt (aF (by rw [Da,← ho];dsimp only;rw [gP hil];simp))
   | exact H.rt (aF (by rw [Da,← ho];cases o <;> simp_all))
 intro h16 a H
 try have p16:=dF h16
 refine kH H (aX h16 rfl (aP h16 rfl (aP h16 rfl (Pf h16 rfl (ak K3 rfl ?_)))));clear H K3;intro a H;refine lr H results114 rfl ?_
 first
  | exact H.rt (aF (by rw [Da,← ho];dsimp only;rw [gP hil];simp))
  | exact H.rt (aF (by rw [Da,← ho];cases o <;> simp_all))
end
section
open Go.RowKit
section
variable {N:Nat} {D:List Deferred} {w0:World} {F:Nat→Prop} {G0 G:GH} {L Li Lo:OL} {T:List (Nat × aj)}
variable {r:Option Nat} {P:Program} {ops:Array Oper} {Q:Exit→Act→World→Prop} {rest:List Oper} {a:Act} {w:World}
variable {d:Nat} {ty:TypeId} {pos:String} {aM:Array Edge} {g:Option (Nat × Bool)}
theorem WK {t e:TypeId} {sz bytes:Nat} {zero:List aj} {agg:Bool} (hs:P.underlying t=some (.slice e)) (ht:Ty P e sz bytes zero agg) {x z:Operand} {A:Option Addr} {n c:Nat} (hi:Nat) {q:Int} (H:St N D w0 F G0 G L T a w)
  (hw:Region.wanted ⟨some d,.slice t x none (some z) none,ty,pos,aM,g⟩ (yielded ops a.tmps)=true) (hx:ev T x=some (.slice A n c)) (hz:ev T z=some (.int .i64 q)) (hq:q=(hi:Int)) (h2:hi≤c) (hd:Nat.blt d N=true)
  (k:∀ a',St N D w0 F G0 G L ((d,.slice A hi c) :: T) a' w→WL r P ops Q rest a' w):WL r P ops Q (⟨some d,.slice t x none (some z) none,ty,pos,aM,g⟩ :: rest) a w:=by
 subst hq
 refine fF (v:=.slice A hi c) (w':=w) hw rfl ?_ (k _ (H.put hd _ H.hp))
 simp [execOp,H.ev hx,H.ev hz,Instr.sliceAt,Instr.slice,Instr.sliceBounds,Instr.sliceBound,bX,lq hs,ht.Aa,asIntOf,h2]
 intro _
 cases A with
 | none=>rfl
 | some p=>simp [Addr.add]
end
end
section
open Go.RowKit
theorem IU:∀ args w,(callFunc 131 args).run prog w=.ok (.enter 131 args) w:=enters func131 rfl (by kernel_rfl)
theorem abl:∀ args w,(callFunc 132 args).run prog w=.ok (.enter 132 args) w:=enters func132 rfl (by kernel_rfl)
theorem Tm:bV prog 181 5 5:=⟨by kernel_rfl⟩
theorem abm:∀ args w,(callFunc 133 args).run prog w=.ok (.enter 133 args) w:=enters func133 rfl (by kernel_rfl)
theorem SS:∀ args w,(callFunc 90 args).run prog w=.ok (.enter 90 args) w:=enters func90 rfl (by kernel_rfl)
theorem av.pre {G:GH} {sz:Nat} {rows:List (List Dat)} {A:Option Addr} {n c:Nat} (h:av G (.sl sz rows) (.slice A n c)) (k:Nat) (hk:k≤rows.length):av G (.sl sz (rows.take k)) (.slice A k c):=by
 have h:=h.part 0 k (iK _) hk
 have e:(if c=0 then A else A.map (·.add (0*sz)))=A:=by
  split
  ·rfl
  cases A <;> simp [Addr.add]
 rw [e] at h
 simpa using h
theorem aaL (G:GH) (w0:World) (hG:Hold G w0) (kind:Int):Calls prog 133 #[vi kind] w0 (bC w0 G fun u G'=>u=vi (if kind=1 then 2 else 1)):=by
 refine eN [(0,_)] func133 rfl ntmps133 rfl rfl hG ?_;intro a H;refine kP H (SR fun _ K1=>ak K1 rfl (SQ fun _ K2=>SR fun _ K3=>Rm rfl (Rc rfl (Kz K3 (Cd rfl ?_ ?_))))) <;> clear H K1 K3
 ·intro h4 a H
  try have p4:=dT h4
  exact kP H (SR fun _ K4=>ak K4 rfl (LR results133 rfl fun H=>H.rt (by first|(rw [au (by omega)];done)|rw [ah (by omega)])))
 intro h4 a H
 try have p4:=dF h4
 exact kP H (Kc K2 (SR fun _ K5=>ak K5 rfl (LR results133 rfl fun H=>H.rt (by first|(rw [au (by omega)];done)|rw [ah (by omega)]))))
def vL (l:List bM) (k:Nat):Option Int:=if k=0 then none else l[k - 1]?.map bM.id
theorem JV {l:List bM} {k:Nat} (h:k=0):vL l k=none:=au h
def DZ (k:Int):Bool:=decide (k=20) || decide (k=1)
def kD (q:Option Int) (dup:Bool) (s:bM):Int :=
 if s.id < 1∨1073741824 < s.id then 18 else if q=some s.id then 7 else if EG q s.id=true then 6 else if s.kind≠1∧s.kind≠2 then 3 else if mD s.name=false then 13 else if dup=true then 7
 else if s.props.any (fun p=>DZ p.key)=true then 4 else gq (if s.kind=1 then 2 else 1) s.props
def iy (l:List bM) (k:Nat) (s:bM):Int:=kD (vL l k) (AO (l.take k) s.kind s.name).isSome s
set_option maxHeartbeats 1000000 in
theorem agM (G:GH) (w0:World) (hG:Hold G w0) (l:List bM) (k:Nat) (v:aj) (hv:av G (.sl 6 (l.map bM.dat)) v) (hk:k < l.length) (hs:l[k].name.size≤4611686018427387904) :
  Calls prog 113 #[v,vi k] w0 (bC w0 G fun u G'=>u=vi (iy l k l[k])):=by
 obtain ⟨A,c,rfl,hc1,hc2,-⟩:=hv.slice;have hml:maxLen=9223372036854775807:=rfl;rw [bT] at *;obtain ⟨b,o,pA,pc,rfl,hrow,hp,hrep⟩:=Ae hv hk;obtain ⟨x,hx⟩:∃ x,x=l[k]:=⟨_,rfl⟩;rw [← hx] at hs hrow hp hrep ⊢;have hdp:∀ j v,[vi x.id,vi x.kind,.string x.name,vi x.base,vi x.next,.slice pA x.props.length pc][j]?=some v→aJ G b (o+k*6+j)=some v:=hrow;obtain ⟨_,_,he0,ajZ,akb,-⟩:=hp.slice
 injection he0 with _ he1 he2
 rw [bT] at *;subst he2
 obtain ⟨pk,hpk⟩:∃ pk,0 < k→aJ G b (o+(k - 1)*6+0)=some (vi pk)∧vL l k=some pk:=by
  by_cases h0:0 < k
  ·obtain ⟨b',o',_,_,he,hr',-,-⟩:=Ae hv (show k - 1 < l.length by omega)
   injection he with he
   injection he with e1 e2 e3
   subst e1;subst e2;exact ⟨_,fun _=>⟨hr' 0 _ rfl,by rw [vL,ah (by omega),gP (by omega)];rfl⟩⟩
  exact ⟨0,fun h=>absurd h h0⟩
 refine eN [(0,_),(1,_)] func113 rfl ntmps113 rfl rfl hG ?_;intro a H;refine kP H (SR fun _ K1=>ak K1 rfl (SR fun _ K2=>Rm rfl (Rm rfl (Ri mR jK rfl rfl ?_))));clear H K1;intro a H;refine bD jK (cs:=[_,_,_,_,_,_]) H wn rfl rfl (fun j v hj=>H.hp.aJ (hrow j v hj)) rfl ?_;clear H;intro a H;refine eU jK H wn rfl ?_;clear H;intro b5 a w hb5 H;refine bF jK 0 (vs:=[_,_,_,_,_,_]) _ H wn rfl rfl rfl rfl rfl rfl rfl rfl ?_;clear H;intro w H;dsimp only [List.set,setRow] at H;refine K2 _ _ ?_;clear K2;refine qd (ι:=GH) (Tc:=[(0,_),(1,_),(5,_)]) (Lc:=[(_,_)]) (fun gh=>[]) (fun gh=>[]) (fun gh=>gh) (fun gh=>¬ (x.id < 1∨1073741824 < x.id)∧¬ vL l k=some x.id∧¬ EG (vL l k) x.id=true∧¬ (x.kind≠1∧x.kind≠2)∧¬ mD x.name=false∧(∀ b o,G b=some o→gh b=some o)) (by exact (H).sub ⟨rfl,rfl,rfl,aB⟩) ?_ ?_
 ·skip;refine kP H (SB (SR fun _ K3=>aR sP aG 0 rfl rfl (Rc rfl (Rm rfl (Sp 18 rfl ?_ ?_))))) <;> clear H
  ·intro h18 a H
   try have vK:=dT h18
   refine kH H (aX h18 rfl (Pt h18 rfl (ak K3 rfl (Ct rfl rfl (SR fun _ K4=>ak K4 rfl ?_)))));clear H K3 K4;intro a H;refine lr H results113 rfl ?_
   first
    | exact H.rt (aA vi e0.symm)
    | exact H.rt (aA vi e4.symm)
    | exact H.rt (aA vi e7.symm)
    | exact H.rt (aA vi e13.symm)
    | exact H.rt (aA vi e3.symm)
    | exact H.rt (aA vi e6.symm)
    | exact H.rt (aA vi (by rw [iy,kD,au (by omega)]))
  intro h18 a H
  try have vK:=dF h18
  refine kH H (YF sP h18 rfl (YO aG 0 h18 rfl (YC h18 rfl (Pf h18 rfl (ak K3 rfl (Cd rfl ?_ ?_)))))) <;> clear H K3
  ·intro dO a H
   try have lQ:=dT dO
   refine kP H (SR fun _ K5=>ak K5 rfl ?_);clear H K5;intro a H;refine lr H results113 rfl ?_
   first
    | exact H.rt (aA vi e0.symm)
    | exact H.rt (aA vi e4.symm)
    | exact H.rt (aA vi e7.symm)
    | exact H.rt (aA vi e13.symm)
    | exact H.rt (aA vi e3.symm)
    | exact H.rt (aA vi e6.symm)
    | exact H.rt (aA vi (by rw [iy,kD,au (by omega)]))
  intro dO a H
  try have lQ:=dF dO
  refine bq (fun _ K6=>?_)
  by_cases c0:0 < (k:Int)
  ·skip
   by_cases c1:x.id=pk
   ·skip;refine dI hmx [[],[0],[0,1],[0,1,2],(ra 0 4),[0,1,2],[0,1,2],[0,1,2,6],[0,1,2,5,6,7],[0,1,2,5,6,7,8],[0,1,2,5,6,7,8,9],(ra 0 11),(ra 0 12),(ra 0 13)] [13] (by kernel_rfl) [_,_,_,_,vi x.id,_,_,vi ((k - 1:Nat):Int),_,_,_,_,_] H (aD (Z0 rfl (Rm rfl)) (Z1 0 24 rfl (Rc rfl)) (Z1 1 25 rfl (Rm rfl)) (Z1 2 26 rfl (YF sP (aC c0) rfl)) (aD (Z2 3 27 2 26 rfl (YO aG 0 (aC c0) rfl)) (Z1 2 26 rfl (YM (aC c0) rfl)) (Z1 2 26 rfl (YM (aC c0) rfl)) ?_ (aD (Z3 5 29 7 31 2 26 rfl (YI mR jK (aC c0) rfl rfl)) (Z2 8 32 2 26 rfl (YF sP (aC c0) rfl)) (X2 9 33 2 26 rfl fun hG=>YR aG (aC c0) rfl (aK hG (hpk (by omega)).1)) (Z3 4 28 10 34 2 26 rfl (YC (aC c0) rfl)) (aW (Z2 2 26 11 35 rfl (Pt (aC c0) rfl)) (aW (bL rfl) bY))))) ?_
    ·refine dz 6 30 2 26 rfl rfl fun _ a w G1 hG HT H fin=>?_;refine mF _ H (wg H rfl rfl (aC c0)) rfl rfl rfl (by omega) (by omega) rfl ?_;clear H;intro a H;exact fin H iJ (by show _=_;first|rfl|exact aA vi (by omega))
    clear H;intro a w G zI H hv;have H:=H.aQ (hv 12 36 rfl rfl) rfl;clear hv;refine kH H (Ra rfl ?_);clear H;intro a H;refine aH ⟨rfl,?_⟩;refine K6 _ _ ?_;clear K6;refine vX H rfl (aC c1) ?_;refine bq (fun _ K7=>?_)
    have e7:iy l k x=7:=by rw [iy,kD,ah (by omega),au (by rw [(hpk (by omega)).2,c1])]
    refine kP H (SC (aV K7 rfl ?_));clear H K7;intro a H;refine lr H results113 rfl ?_
    first
     | exact H.rt (aA vi e0.symm)
     | exact H.rt (aA vi e4.symm)
     | exact H.rt (aA vi e7.symm)
     | exact H.rt (aA vi e13.symm)
     | exact H.rt (aA vi e3.symm)
     | exact H.rt (aA vi e6.symm)
     | exact H.rt (aA vi (by rw [iy,kD,au (by omega)]))
   skip;refine dI hmx [[],[0],[0,1],[0,1,2],(ra 0 4),[0,1,2],[0,1,2],[0,1,2,6],[0,1,2,5,6,7],[0,1,2,5,6,7,8],[0,1,2,5,6,7,8,9],(ra 0 11),(ra 0 12),(ra 0 13)] [13] (by kernel_rfl) [_,_,_,_,vi x.id,_,_,vi ((k - 1:Nat):Int),_,_,_,_,_] H (aD (Z0 rfl (Rm rfl)) (Z1 0 24 rfl (Rc rfl)) (Z1 1 25 rfl (Rm rfl)) (Z1 2 26 rfl (YF sP (aC c0) rfl)) (aD (Z2 3 27 2 26 rfl (YO aG 0 (aC c0) rfl)) (Z1 2 26 rfl (YM (aC c0) rfl)) (Z1 2 26 rfl (YM (aC c0) rfl)) ?_ (aD (Z3 5 29 7 31 2 26 rfl (YI mR jK (aC c0) rfl rfl)) (Z2 8 32 2 26 rfl (YF sP (aC c0) rfl)) (X2 9 33 2 26 rfl fun hG=>YR aG (aC c0) rfl (aK hG (hpk (by omega)).1)) (Z3 4 28 10 34 2 26 rfl (YC (aC c0) rfl)) (aW (Z2 2 26 11 35 rfl (Pt (aC c0) rfl)) (aW (bL rfl) bY))))) ?_
   ·refine dz 6 30 2 26 rfl rfl fun _ a w G1 hG HT H fin=>?_;refine mF _ H (wg H rfl rfl (aC c0)) rfl rfl rfl (by omega) (by omega) rfl ?_;clear H;intro a H;exact fin H iJ (by show _=_;first|rfl|exact aA vi (by omega))
   clear H;intro a w G zI H hv;have H:=H.aQ (hv 12 36 rfl rfl) rfl;clear hv;refine kH H (Ra rfl ?_);clear H;intro a H;refine aH ⟨rfl,?_⟩;refine K6 _ _ ?_;clear K6;refine kW H rfl (aO c1) ?_;refine bq (fun _ K8=>?_)
   have q1:¬ (0 < (k:Int)∧x.id=pk):=by first|exact fun h=>c1 h.2|exact fun h=>c0 h.1
   have q1':¬ vL l k=some x.id:=fun h=>q1 (by
    by_cases h0:0 < k
    ·rw [(hpk h0).2] at h
     injection h with h
     exact ⟨by omega,h.symm⟩
    rw [JV (by omega)] at h
    cases h)
   by_cases c3:x.id < pk
   ·skip;refine dI hmx [[],[0],[0,1],[0,1,2],(ra 0 4),[0,1,2],[0,1,2],[0,1,2,6],[0,1,2,5,6,7],[0,1,2,5,6,7,8],[0,1,2,5,6,7,8,9],(ra 0 11),(ra 0 12),(ra 0 13)] [13] (by kernel_rfl) [_,_,_,_,vi x.id,_,_,vi ((k - 1:Nat):Int),_,_,_,_,_] H (aD (Z0 rfl (Rm rfl)) (Z1 0 38 rfl (Rc rfl)) (Z1 1 39 rfl (Rm rfl)) (Z1 2 40 rfl (YF sP (aC c0) rfl)) (aD (Z2 3 41 2 40 rfl (YO aG 0 (aC c0) rfl)) (Z1 2 40 rfl (YM (aC c0) rfl)) (Z1 2 40 rfl (YM (aC c0) rfl)) ?_ (aD (Z3 5 43 7 45 2 40 rfl (YI mR jK (aC c0) rfl rfl)) (Z2 8 46 2 40 rfl (YF sP (aC c0) rfl)) (X2 9 47 2 40 rfl fun hG=>YR aG (aC c0) rfl (aK hG (aK zI (hpk (by omega)).1))) (Z3 4 42 10 48 2 40 rfl (YC (aC c0) rfl)) (aW (Z2 2 40 11 49 rfl (Pt (aC c0) rfl)) (aW (bL rfl) bY))))) ?_
    ·refine dz 6 44 2 40 rfl rfl fun _ a w G1 hG HT H fin=>?_;refine mF _ H (wg H rfl rfl (aC c0)) rfl rfl rfl (by omega) (by omega) rfl ?_;clear H;intro a H;exact fin H iJ (by show _=_;first|rfl|exact aA vi (by omega))
    clear H;intro a w G gH H hv;have H:=H.aQ (hv 12 50 rfl rfl) rfl;clear hv;refine kH H (Ra rfl ?_);clear H;intro a H;refine aH ⟨rfl,?_⟩;refine K8 _ _ ?_;clear K8;refine vX H rfl (aC c3) ?_;refine bq (fun _ K9=>?_)
    have e6:iy l k x=6:=by rw [iy,kD,ah (by omega),ah q1',au (by rw [(hpk (by omega)).2];exact aC c3)]
    refine kP H (SC (aV K9 rfl ?_));clear H K9;intro a H;refine lr H results113 rfl ?_
    first
     | exact H.rt (aA vi e0.symm)
     | exact H.rt (aA vi e4.symm)
     | exact H.rt (aA vi e7.symm)
     | exact H.rt (aA vi e13.symm)
     | exact H.rt (aA vi e3.symm)
     | exact H.rt (aA vi e6.symm)
     | exact H.rt (aA vi (by rw [iy,kD,au (by omega)]))
   skip;refine dI hmx [[],[0],[0,1],[0,1,2],(ra 0 4),[0,1,2],[0,1,2],[0,1,2,6],[0,1,2,5,6,7],[0,1,2,5,6,7,8],[0,1,2,5,6,7,8,9],(ra 0 11),(ra 0 12),(ra 0 13)] [13] (by kernel_rfl) [_,_,_,_,vi x.id,_,_,vi ((k - 1:Nat):Int),_,_,_,_,_] H (aD (Z0 rfl (Rm rfl)) (Z1 0 38 rfl (Rc rfl)) (Z1 1 39 rfl (Rm rfl)) (Z1 2 40 rfl (YF sP (aC c0) rfl)) (aD (Z2 3 41 2 40 rfl (YO aG 0 (aC c0) rfl)) (Z1 2 40 rfl (YM (aC c0) rfl)) (Z1 2 40 rfl (YM (aC c0) rfl)) ?_ (aD (Z3 5 43 7 45 2 40 rfl (YI mR jK (aC c0) rfl rfl)) (Z2 8 46 2 40 rfl (YF sP (aC c0) rfl)) (X2 9 47 2 40 rfl fun hG=>YR aG (aC c0) rfl (aK hG (aK zI (hpk (by omega)).1))) (Z3 4 42 10 48 2 40 rfl (YC (aC c0) rfl)) (aW (Z2 2 40 11 49 rfl (Pt (aC c0) rfl)) (aW (bL rfl) bY))))) ?_
   ·refine dz 6 44 2 40 rfl rfl fun _ a w G1 hG HT H fin=>?_;refine mF _ H (wg H rfl rfl (aC c0)) rfl rfl rfl (by omega) (by omega) rfl ?_;clear H;intro a H;exact fin H iJ (by show _=_;first|rfl|exact aA vi (by omega))
   clear H;intro a w G gH H hv;have H:=H.aQ (hv 12 50 rfl rfl) rfl;clear hv;refine kH H (Ra rfl ?_);clear H;intro a H;refine aH ⟨rfl,?_⟩;refine K8 _ _ ?_;clear K8;refine kW H rfl (aO c3) ?_;refine bq (fun _ aS=>?_)
   have q2:¬ (0 < (k:Int)∧x.id < pk):=by first|exact fun h=>c3 h.2|exact fun h=>c0 h.1
   have q2':¬ EG (vL l k) x.id=true:=fun h=>q2 (by
    by_cases h0:0 < k
    ·rw [(hpk h0).2] at h;exact ⟨by omega,rH h⟩
    rw [JV (by omega)] at h
    cases h)
   refine kP H (SC (aR vk aG 0 rfl rfl (Rc rfl (Rm rfl (Sp 55 rfl ?_ ?_))))) <;> clear H
   ·intro kN a H
    try have p55:=dT kN
    refine kH H (YF vk kN rfl (YO aG 0 kN rfl (YC kN rfl (Pt kN rfl (aV aS rfl (Cd rfl ?_ ?_)))))) <;> clear H aS
    ·intro iT a H
     try have p51:=dT iT
     refine bq (fun _ bA=>?_)
     have e3:iy l k x=3:=by rw [iy,kD,ah (by omega),ah q1',ah q2',au (by omega)]
     refine kP H (SC (aV bA rfl ?_));clear H bA;intro a H;refine lr H results113 rfl ?_
     first
      | exact H.rt (aA vi e0.symm)
      | exact H.rt (aA vi e4.symm)
      | exact H.rt (aA vi e7.symm)
      | exact H.rt (aA vi e13.symm)
      | exact H.rt (aA vi e3.symm)
      | exact H.rt (aA vi e6.symm)
      | exact H.rt (aA vi (by rw [iy,kD,au (by omega)]))
    intro iT a H
    try have p51:=dF iT
    refine kP H (SR fun _ bK=>aR Ee fZ 0 rfl rfl ?_);clear H;intro a H;refine s_call IU H wn rfl (JF _ _ H.ro x.name hs) rfl ?_;clear H;rintro v63 BR a w rfl hm63 H;refine kH H (Rn rfl (ak bK rfl (Cd rfl ?_ ?_))) <;> clear H bK
    ·intro iU a H
     try have p60:=dT iU
     refine bq (fun _ bR=>?_)
     have e13:iy l k x=13:=by rw [iy,kD,ah (by omega),ah q1',ah q2',ah (by omega),au (by simpa using iU)]
     refine kP H (SC (aV bR rfl ?_));clear H bR;intro a H;refine lr H results113 rfl ?_
     first
      | exact H.rt (aA vi e0.symm)
      | exact H.rt (aA vi e4.symm)
      | exact H.rt (aA vi e7.symm)
      | exact H.rt (aA vi e13.symm)
      | exact H.rt (aA vi e3.symm)
      | exact H.rt (aA vi e6.symm)
      | exact H.rt (aA vi (by rw [iy,kD,au (by omega)]))
    intro iU a H
    try have p60:=dF iU
    refine fO ?_;refine ⟨BR,by exact (H).sub ⟨rfl,rfl,rfl,aB⟩,?_⟩;exact ⟨by omega,q1',q2',by omega,by simpa using iU,fun b o h=>hm63 b o (gH b o (zI b o h))⟩
   intro kN a H
   try have p55:=dF kN
   refine kH H (aX kN rfl (Pf kN rfl (aV aS rfl (Cf rfl rfl (SR fun _ bP=>aR Ee fZ 0 rfl rfl ?_)))));clear H aS;intro a H;refine s_call IU H wn rfl (JF _ _ H.ro x.name hs) rfl ?_;clear H;rintro v63 BR a w rfl hm63 H;refine kH H (Rn rfl (ak bP rfl (Cd rfl ?_ ?_))) <;> clear H bP
   ·intro iU a H
    try have p60:=dT iU
    refine bq (fun _ dJ=>?_)
    have e13:iy l k x=13:=by rw [iy,kD,ah (by omega),ah q1',ah q2',ah (by omega),au (by simpa using iU)]
    refine kP H (SC (aV dJ rfl ?_));clear H dJ;intro a H;refine lr H results113 rfl ?_
    first
     | exact H.rt (aA vi e0.symm)
     | exact H.rt (aA vi e4.symm)
     | exact H.rt (aA vi e7.symm)
     | exact H.rt (aA vi e13.symm)
     | exact H.rt (aA vi e3.symm)
     | exact H.rt (aA vi e6.symm)
     | exact H.rt (aA vi (by rw [iy,kD,au (by omega)]))
   intro iU a H
   try have p60:=dF iU
   refine fO ?_;refine ⟨BR,by exact (H).sub ⟨rfl,rfl,rfl,aB⟩,?_⟩;exact ⟨by omega,q1',q2',by omega,by simpa using iU,fun b o h=>hm63 b o (gH b o (zI b o h))⟩
  skip;refine dI hmx [[],[0],[0,1],[0,1,2],(ra 0 4),[0,1,2],[0,1,2],[0,1,2,6],[0,1,2,5,6,7],[0,1,2,5,6,7,8],[0,1,2,5,6,7,8,9],(ra 0 11),(ra 0 12),(ra 0 13)] [13] (by kernel_rfl) [_,_,_,undef,undef,undef,undef,undef,undef,undef,undef,undef,_] H (aD (Z0 rfl (Rm rfl)) (Z1 0 24 rfl (Rc rfl)) (Z1 1 25 rfl (Rm rfl)) (aL (j:=2) (by kernel_rfl) (fun _ _ _ _ _ h=>h) rfl rfl rfl rfl rfl (fun _ _ h=>aN h (aF (aO c0))) rfl (fun _=>rfl)) (aD (aL (j:=2) (by kernel_rfl) (fun _ _ _ _ _ h=>h) rfl rfl rfl rfl rfl (fun _ _ h=>aN h (aF (aO c0))) rfl (fun _=>rfl)) (aL (j:=2) (by kernel_rfl) (fun _ _ _ _ _ h=>h) rfl rfl rfl rfl rfl (fun _ _ h=>aN h (aF (aO c0))) rfl (fun _=>rfl)) (aL (j:=2) (by kernel_rfl) (fun _ _ _ _ _ h=>h) rfl rfl rfl rfl rfl (fun _ _ h=>aN h (aF (aO c0))) rfl (fun _=>rfl)) (aL (j:=2) (by kernel_rfl) (fun _ _ _ _ _ h=>h) rfl rfl rfl rfl rfl (fun _ _ h=>aN h (aF (aO c0))) rfl (fun _=>rfl)) (aD (aL (j:=2) (by kernel_rfl) (fun _ _ _ _ _ h=>h) rfl rfl rfl rfl rfl (fun _ _ h=>aN h (aF (aO c0))) rfl (fun _=>rfl)) (aL (j:=2) (by kernel_rfl) (fun _ _ _ _ _ h=>h) rfl rfl rfl rfl rfl (fun _ _ h=>aN h (aF (aO c0))) rfl (fun _=>rfl)) (aL (j:=2) (by kernel_rfl) (fun _ _ _ _ _ h=>h) rfl rfl rfl rfl rfl (fun _ _ h=>aN h (aF (aO c0))) rfl (fun _=>rfl)) (aL (j:=2) (by kernel_rfl) (fun _ _ _ _ _ h=>h) rfl rfl rfl rfl rfl (fun _ _ h=>aN h (aF (aO c0))) rfl (fun _=>rfl)) (aW (Z2 2 26 11 35 rfl (Pf (aO c0) rfl)) (aW (bL rfl) bY))))) ?_
  clear H;intro a w G zI H hv;have H:=H.aQ (hv 12 36 rfl rfl) rfl;clear hv;refine kH H (Ra rfl ?_);clear H;intro a H;refine aH ⟨rfl,?_⟩;refine K6 _ _ ?_;clear K6;refine kW H rfl rfl ?_;refine bq (fun _ dN=>?_)
  have q1:¬ (0 < (k:Int)∧x.id=pk):=by first|exact fun h=>c1 h.2|exact fun h=>c0 h.1
  have q1':¬ vL l k=some x.id:=fun h=>q1 (by
   by_cases h0:0 < k
   ·rw [(hpk h0).2] at h
    injection h with h
    exact ⟨by omega,h.symm⟩
   rw [JV (by omega)] at h
   cases h)
  refine dI hmx [[],[0],[0,1],[0,1,2],(ra 0 4),[0,1,2],[0,1,2],[0,1,2,6],[0,1,2,5,6,7],[0,1,2,5,6,7,8],[0,1,2,5,6,7,8,9],(ra 0 11),(ra 0 12),(ra 0 13)] [13] (by kernel_rfl) [_,_,_,undef,undef,undef,undef,undef,undef,undef,undef,undef,_] H (aD (Z0 rfl (Rm rfl)) (Z1 0 38 rfl (Rc rfl)) (Z1 1 39 rfl (Rm rfl)) (aL (j:=2) (by kernel_rfl) (fun _ _ _ _ _ h=>h) rfl rfl rfl rfl rfl (fun _ _ h=>aN h (aF (aO c0))) rfl (fun _=>rfl)) (aD (aL (j:=2) (by kernel_rfl) (fun _ _ _ _ _ h=>h) rfl rfl rfl rfl rfl (fun _ _ h=>aN h (aF (aO c0))) rfl (fun _=>rfl)) (aL (j:=2) (by kernel_rfl) (fun _ _ _ _ _ h=>h) rfl rfl rfl rfl rfl (fun _ _ h=>aN h (aF (aO c0))) rfl (fun _=>rfl)) (aL (j:=2) (by kernel_rfl) (fun _ _ _ _ _ h=>h) rfl rfl rfl rfl rfl (fun _ _ h=>aN h (aF (aO c0))) rfl (fun _=>rfl)) (aL (j:=2) (by kernel_rfl) (fun _ _ _ _ _ h=>h) rfl rfl rfl rfl rfl (fun _ _ h=>aN h (aF (aO c0))) rfl (fun _=>rfl)) (aD (aL (j:=2) (by kernel_rfl) (fun _ _ _ _ _ h=>h) rfl rfl rfl rfl rfl (fun _ _ h=>aN h (aF (aO c0))) rfl (fun _=>rfl)) (aL (j:=2) (by kernel_rfl) (fun _ _ _ _ _ h=>h) rfl rfl rfl rfl rfl (fun _ _ h=>aN h (aF (aO c0))) rfl (fun _=>rfl)) (aL (j:=2) (by kernel_rfl) (fun _ _ _ _ _ h=>h) rfl rfl rfl rfl rfl (fun _ _ h=>aN h (aF (aO c0))) rfl (fun _=>rfl)) (aL (j:=2) (by kernel_rfl) (fun _ _ _ _ _ h=>h) rfl rfl rfl rfl rfl (fun _ _ h=>aN h (aF (aO c0))) rfl (fun _=>rfl)) (aW (Z2 2 40 11 49 rfl (Pf (aO c0) rfl)) (aW (bL rfl) bY))))) ?_
  clear H;intro a w G gH H hv;have H:=H.aQ (hv 12 50 rfl rfl) rfl;clear hv;refine kH H (Ra rfl ?_);clear H;intro a H;refine aH ⟨rfl,?_⟩;refine dN _ _ ?_;clear dN;refine kW H rfl rfl ?_;refine bq (fun _ dx=>?_)
  have q2:¬ (0 < (k:Int)∧x.id < pk):=by first|exact fun h=>c3 h.2|exact fun h=>c0 h.1
  have q2':¬ EG (vL l k) x.id=true:=fun h=>q2 (by
   by_cases h0:0 < k
   ·rw [(hpk h0).2] at h;exact ⟨by omega,rH h⟩
   rw [JV (by omega)] at h
   cases h)
  refine kP H (SC (aR vk aG 0 rfl rfl (Rc rfl (Rm rfl (Sp 55 rfl ?_ ?_))))) <;> clear H
  ·intro kN a H
   try have p55:=dT kN
   refine kH H (YF vk kN rfl (YO aG 0 kN rfl (YC kN rfl (Pt kN rfl (aV dx rfl (Cd rfl ?_ ?_)))))) <;> clear H dx
   ·intro iT a H
    try have p51:=dT iT
    refine bq (fun _ eu=>?_)
    have e3:iy l k x=3:=by rw [iy,kD,ah (by omega),ah q1',ah q2',au (by omega)]
    refine kP H (SC (aV eu rfl ?_));clear H eu;intro a H;refine lr H results113 rfl ?_
    first
     | exact H.rt (aA vi e0.symm)
     | exact H.rt (aA vi e4.symm)
     | exact H.rt (aA vi e7.symm)
     | exact H.rt (aA vi e13.symm)
     | exact H.rt (aA vi e3.symm)
     | exact H.rt (aA vi e6.symm)
     | exact H.rt (aA vi (by rw [iy,kD,au (by omega)]))
   intro iT a H
   try have p51:=dF iT
   refine kP H (SR fun _ gy=>aR Ee fZ 0 rfl rfl ?_);clear H;intro a H;refine s_call IU H wn rfl (JF _ _ H.ro x.name hs) rfl ?_;clear H;rintro v63 BR a w rfl hm63 H;refine kH H (Rn rfl (ak gy rfl (Cd rfl ?_ ?_))) <;> clear H gy
   ·intro iU a H
    try have p60:=dT iU
    refine bq (fun _ fu=>?_)
    have e13:iy l k x=13:=by rw [iy,kD,ah (by omega),ah q1',ah q2',ah (by omega),au (by simpa using iU)]
    refine kP H (SC (aV fu rfl ?_));clear H fu;intro a H;refine lr H results113 rfl ?_
    first
     | exact H.rt (aA vi e0.symm)
     | exact H.rt (aA vi e4.symm)
     | exact H.rt (aA vi e7.symm)
     | exact H.rt (aA vi e13.symm)
     | exact H.rt (aA vi e3.symm)
     | exact H.rt (aA vi e6.symm)
     | exact H.rt (aA vi (by rw [iy,kD,au (by omega)]))
   intro iU a H
   try have p60:=dF iU
   refine fO ?_;refine ⟨BR,by exact (H).sub ⟨rfl,rfl,rfl,aB⟩,?_⟩;exact ⟨by omega,q1',q2',by omega,by simpa using iU,fun b o h=>hm63 b o (gH b o (zI b o h))⟩
  intro kN a H
  try have p55:=dF kN
  refine kH H (aX kN rfl (Pf kN rfl (aV dx rfl (Cf rfl rfl (SR fun _ gD=>aR Ee fZ 0 rfl rfl ?_)))));clear H dx;intro a H;refine s_call IU H wn rfl (JF _ _ H.ro x.name hs) rfl ?_;clear H;rintro v63 BR a w rfl hm63 H;refine kH H (Rn rfl (ak gD rfl (Cd rfl ?_ ?_))) <;> clear H gD
  ·intro iU a H
   try have p60:=dT iU
   refine bq (fun _ jc=>?_)
   have e13:iy l k x=13:=by rw [iy,kD,ah (by omega),ah q1',ah q2',ah (by omega),au (by simpa using iU)]
   refine kP H (SC (aV jc rfl ?_));clear H jc;intro a H;refine lr H results113 rfl ?_
   first
    | exact H.rt (aA vi e0.symm)
    | exact H.rt (aA vi e4.symm)
    | exact H.rt (aA vi e7.symm)
    | exact H.rt (aA vi e13.symm)
    | exact H.rt (aA vi e3.symm)
    | exact H.rt (aA vi e6.symm)
    | exact H.rt (aA vi (by rw [iy,kD,au (by omega)]))
  intro iU a H
  try have p60:=dF iU
  refine fO ?_;refine ⟨BR,by exact (H).sub ⟨rfl,rfl,rfl,aB⟩,?_⟩;exact ⟨by omega,q1',q2',by omega,by simpa using iU,fun b o h=>hm63 b o (gH b o (zI b o h))⟩
 clear H;intro gh a w hI H;obtain ⟨g,hgh⟩:∃ x,x=gh:=⟨_,rfl⟩;subst hgh;obtain ⟨q0,q1',q2',q3,q4,hgm⟩:=hI;dsimp only [lca,aZ] at H;refine bq (fun _ kg=>?_);refine bq (fun _ jR=>?_);have UY:=(hv.mono hgm).pre k (by rw [bT];omega);rw [← List.map_take] at UY;have afc:=hp.mono hgm;refine dI hmx [[],[],[0,1],[],[3],[],[5],(ra 0 7),(ra 0 8),(ra 0 9),(ra 0 9),(ra 0 10),(ra 0 12)] [12] (by kernel_rfl) [_,_,.slice (some ⟨b,o,none⟩) k c,_,vi x.kind,_,.string x.name,.tuple #[vi (max (mX (AO (l.take k) x.kind x.name)) 0),.bool (AO (l.take k) x.kind x.name).isSome],_,vi (max (mX (AO (l.take k) x.kind x.name)) 0),.bool (AO (l.take k) x.kind x.name).isSome,_] H (aD (Z0 rfl (Rm rfl)) (Z0 rfl (Rm rfl)) ?_ (Z0 rfl (Rf vk rfl)) (aD (Z1 3 69 rfl (Ro aG 0 rfl)) (Z0 rfl (Rf Ee rfl)) (Z1 5 71 rfl (Ro fZ 0 rfl)) ?_ (aD (Z1 7 73 rfl (Rm rfl)) ?_ ?_ (Z1 9 74 rfl (Ra rfl)) (aW (bL rfl) bY)))) ?_
 ·refine dz 0 66 1 67 rfl rfl fun _ a w G1 hG HT H fin=>?_;refine WK mR jK k H wn rfl rfl rfl (by omega) rfl ?_;clear H;intro a H;exact fin H iJ rfl
 ·refine qF 2 68 4 70 6 72 rfl rfl fun _ a w G1 hG HT H fin=>?_;refine s_call abl H wn rfl (adp _ _ H.ro (l.take k) x.kind x.name _ (UY.mono hG)) rfl ?_;clear H;rintro v73 G73 a w rfl adV H;exact fin H adV (rfl)
 ·refine dL 8 65 rfl rfl fun _ a w G1 hG HT H fin=>?_;refine lu H wn rfl rfl rfl ?_;clear H;intro a H;exact fin H iJ rfl
 ·refine dL 8 65 rfl rfl fun _ a w G1 hG HT H fin=>?_;refine lu H wn rfl rfl rfl ?_;clear H;intro a H;exact fin H iJ rfl
 clear H;intro a w G pF H hv;have H:=H.aQ (hv 10 75 rfl rfl) rfl;clear hv;refine kH H (Ra rfl ?_);clear H;intro a H;refine aH ⟨rfl,?_⟩;refine jR _ _ ?_;clear jR;refine kP H (SR fun _ jy=>Rm rfl (Kz jy (Cd rfl ?_ ?_))) <;> clear H jy
 ·intro zC a H
  try have OU:=dT zC
  refine bq (fun _ kE=>?_)
  have e7:iy l k x=7:=by rw [iy,kD,ah (by omega),ah q1',ah q2',ah q3,ah q4,au zC]
  refine kP H (SC (aV kE rfl ?_));clear H kE;intro a H;refine lr H results113 rfl ?_
  first
   | exact H.rt (aA vi e0.symm)
   | exact H.rt (aA vi e4.symm)
   | exact H.rt (aA vi e7.symm)
   | exact H.rt (aA vi e13.symm)
   | exact H.rt (aA vi e3.symm)
   | exact H.rt (aA vi e6.symm)
   | exact H.rt (aA vi (by rw [iy,kD,au (by omega)]))
 intro zC a H
 try have OU:=dF zC
 refine kP H (Kc kg (SQ fun _ kF=>SQ fun _ jd=>?_));clear H kg;intro a H
 have q5:¬ (AO (l.take k) x.kind x.name).isSome=true:=by simpa using zC
 have nS:=afc.mono pF;refine kP H (SC (aR Tm Ah 0 rfl rfl (Rl nY rfl (Rm rfl (Kn jd (SB ?_))))));clear H jd;intro a H;skip;refine eZ (ι:=Nat) (Tc:=[(5,_),(78,_),(79,_)]) (Lc:=[(_,_)]) (fun gh=>[(80,vi gh)]) (fun gh=>[]) (fun gh=>G) (fun gh=>gh≤x.props.length∧(x.props.take gh).any (fun p=>DZ p.key)=false) (fun gh=>x.props.length - gh) (0) (by exact (H).sub ⟨rfl,rfl,rfl,rfl,aB⟩) ?_ ?_
 ·exact ⟨iK _,rfl⟩
 clear H;intro gh a w hI H;obtain ⟨n,hgh⟩:∃ x,x=gh:=⟨_,rfl⟩;subst hgh;obtain ⟨hn,hno⟩:=hI;dsimp only [lca,aZ] at H;refine kP H (SR fun _ nL=>Rc rfl (Kz nL (SQ fun _ og=>Cd rfl ?_ ?_))) <;> clear H nL
 ·intro MX a H
  try have p81:=dT MX
  have hn2:n < x.props.length:=by omega
  obtain ⟨pb,po,rfl,hrow2⟩:=JW nS hn2;have hrow:=hrow2;refine kP H (Kc og (SQ fun _ oP=>SB (SR fun _ pW=>Ri nY mQ rfl rfl ?_)));clear H og;intro a H;refine bD mQ (cs:=[_,_]) H wn rfl rfl (fun j v hj=>H.hp.aJ (hrow j v hj)) rfl ?_;clear H;intro a H;refine eU mQ H wn rfl ?_;clear H;intro b9 a w xW H;refine bF mQ 0 (vs:=[_,_]) _ H wn rfl rfl rfl rfl rfl rfl rfl rfl ?_;clear H;intro w H;dsimp only [List.set,setRow] at H;refine pW _ _ ?_;clear pW;refine kP H (SR fun _ oQ=>aR um aG 0 rfl rfl (Rc rfl (Rm rfl (Sp 87 rfl ?_ ?_)))) <;> clear H
  ·intro h87 a H
   try have OX:=dT h87
   refine kH H (aX h87 rfl (Pt h87 rfl (Kz oQ (Ct rfl rfl (SQ fun _ rE=>?_)))));clear H oQ;intro a H
   have e4:iy l k x=4:=by
    rw [iy,kD,ah (by omega),ah q1',ah q2',ah q3,ah q4,ah q5,au];rw [List.any_eq_true];exact ⟨x.props[n],iQ hn2,by simp [DZ];omega⟩
   refine kP H (SC (aV rE rfl ?_));clear H rE;intro a H;refine lr H results113 rfl ?_
   first
    | exact H.rt (aA vi e0.symm)
    | exact H.rt (aA vi e4.symm)
    | exact H.rt (aA vi e7.symm)
    | exact H.rt (aA vi e13.symm)
    | exact H.rt (aA vi e3.symm)
    | exact H.rt (aA vi e6.symm)
    | exact H.rt (aA vi (by rw [iy,kD,au (by omega)]))
  intro h87 a H
  try have OX:=dF h87
  refine kH H (YF um h87 rfl (YO aG 0 h87 rfl (YC h87 rfl (Pf h87 rfl (Kz oQ (Cd rfl ?_ ?_)))))) <;> clear H oQ
  ·intro M0 a H
   try have p91:=dT M0
   refine bq (fun _ tV=>?_)
   have e4:iy l k x=4:=by
    rw [iy,kD,ah (by omega),ah q1',ah q2',ah q3,ah q4,ah q5,au];rw [List.any_eq_true];exact ⟨x.props[n],iQ hn2,by simp [DZ];omega⟩
   refine kP H (SC (aV tV rfl ?_));clear H tV;intro a H;refine lr H results113 rfl ?_
   first
    | exact H.rt (aA vi e0.symm)
    | exact H.rt (aA vi e4.symm)
    | exact H.rt (aA vi e7.symm)
    | exact H.rt (aA vi e13.symm)
    | exact H.rt (aA vi e3.symm)
    | exact H.rt (aA vi e6.symm)
    | exact H.rt (aA vi (by rw [iy,kD,au (by omega)]))
  intro M0 a H
  try have p91:=dF M0
  refine kP H (Kc oP (SC (Rd rfl (Rm rfl ?_))));clear H oP;intro a H;refine aH ?_;refine dw ((n+1)) (by exact (H.dU (Pl:=[_,_]) (cK:=[_]) [1] (by decide) rfl).sub ⟨rfl,rfl,rfl,rfl,aB⟩) ?_ ?_
  ·exact ⟨by omega,by rw [jE hn2,List.any_append,hno];simp [DZ];omega⟩
  first|omega|(dsimp only;omega)
 intro MX a H
 try have p81:=dF MX
 refine dW ?_;refine kF _ _ ?_;clear kF;refine bq (fun _ qE=>?_)
 have q6:¬ x.props.any (fun p=>DZ p.key)=true:=by
  rw [show x.props.take n=x.props from jA (by omega)] at hno;rw [hno];decide
 have e0:iy l k x=gq (if x.kind=1 then 2 else 1) x.props:=by rw [iy,kD,ah (by omega),ah q1',ah q2',ah q3,ah q4,ah q5,ah q6]
 refine dI hmx [[],[0],[0,1],[],[3],(ra 0 5),(ra 0 6)] [5,6] (by kernel_rfl) [_,vi x.kind,vi (if x.kind=1 then 2 else 1),_,.slice pA x.props.length pc] H (aD (Z0 rfl (Rf vk rfl)) (Z1 0 93 rfl (Ro aG 0 rfl)) ?_ (Z0 rfl (Rf Tm rfl)) (aW (Z1 3 96 rfl (Ro Ah 0 rfl)) (aW (bL rfl) (aW (bL rfl) bY)))) ?_
 ·refine dL 1 94 rfl rfl fun _ a w G1 hG HT H fin=>?_;refine s_call abm H wn rfl (aaL _ _ H.ro x.kind) rfl ?_;clear H;rintro v95 G95 a w rfl adY H;exact fin H adY (rfl)
 clear H;intro a w G El H hv;have H:=H.aQ (hv 2 95 rfl rfl) rfl;have H:=H.aQ (hv 4 97 rfl rfl) rfl;clear hv;refine s_call SS H wn rfl (V9 _ _ H.ro _ x.props _ (nS.mono El)) rfl ?_;clear H;rintro v98 G98 a w rfl ajY H;refine kH H (Ra rfl ?_);clear H;intro a H;refine aH ⟨rfl,?_⟩;refine qE _ _ ?_;clear qE;refine lr H results113 rfl ?_
 first
  | exact H.rt (aA vi e0.symm)
  | exact H.rt (aA vi e4.symm)
  | exact H.rt (aA vi e7.symm)
  | exact H.rt (aA vi e13.symm)
  | exact H.rt (aA vi e3.symm)
  | exact H.rt (aA vi e6.symm)
  | exact H.rt (aA vi (by rw [iy,kD,au (by omega)]))
end
section
open Go.RowKit
theorem Dz:Ty prog 33 1 24 [.slice none 0 0] false:=⟨by kernel_rfl,by kernel_rfl⟩
theorem BH:prog.underlying 33=some (.slice 67):=by kernel_rfl
theorem BD:Ty prog 67 6 64 [.int .i64 0,.int .i64 0,.string ⟨#[]⟩,.int .i64 0,.string ⟨#[]⟩,.bool false] true:=⟨by kernel_rfl,by kernel_rfl⟩
theorem TG:bV prog 67 0 0:=⟨by kernel_rfl⟩
theorem TH:bV prog 67 1 1:=⟨by kernel_rfl⟩
theorem aaV:∀ args w,(callFunc 112 args).run prog w=.ok (.enter 112 args) w:=enters func112 rfl (by kernel_rfl)
theorem acr:∀ args w,(callFunc 78 args).run prog w=.ok (.enter 78 args) w:=enters func78 rfl (by kernel_rfl)
theorem adj:bV prog 67 2 2:=⟨by kernel_rfl⟩
theorem SN:∀ args w,(callFunc 88 args).run prog w=.ok (.enter 88 args) w:=enters func88 rfl (by kernel_rfl)
theorem adk:bV prog 67 3 3:=⟨by kernel_rfl⟩
theorem adl:bV prog 67 4 4:=⟨by kernel_rfl⟩
theorem Md:∀ args w,(callFunc 122 args).run prog w=.ok (.enter 122 args) w:=enters func122 rfl (by kernel_rfl)
theorem abf:∀ args w,(callFunc 121 args).run prog w=.ok (.enter 121 args) w:=enters func121 rfl (by kernel_rfl)
theorem abe:∀ args w,(callFunc 120 args).run prog w=.ok (.enter 120 args) w:=enters func120 rfl (by kernel_rfl)
theorem abd:∀ args w,(callFunc 119 args).run prog w=.ok (.enter 119 args) w:=enters func119 rfl (by kernel_rfl)
theorem C9 {G:GH} {b:Nat} (l:List Int) (h:G b=some (.cells (l.map vi).toArray 56 (0,0))) (hl:l.length≤maxLen):av G (.sl 1 (l.map fun k=>[li k])) (.slice (some ⟨b,0,none⟩) l.length l.length) :=
 av.dZ h (by simp) (bU _) hl (jA (by simp)) (eG G l)
theorem LP {G:GH} {l:List iA} {A:Option Addr} {n c k:Nat} (hv:av G (.sl 6 (l.map iA.dat)) (.slice A n c)) (hk:k < l.length):∃ b o,A=some ⟨b,o,none⟩∧(∀ j u,l[k].cells[j]?=some u→aJ G b (o+k*6+j)=some u)∧aY G l[k].dat l[k].cells:=by
 obtain ⟨A',c',he,_,_,hg⟩:=hv.slice
 injection he with e1 e2 e3
 subst e1;obtain ⟨b,o,cs,h1,h2,h3,h4⟩:=hg k l[k].dat (by simp [hk]);have:=RU h4;subst this;exact ⟨b,o,h1,h3,h4⟩
theorem aao {G:GH} {bl:Nat} {l:List iA} {A:Option Addr} {n c:Nat} (hb:aJ G bl 0=some (.slice A n c)) (hv:av G (.sl 6 (l.map iA.dat)) (.slice A n c)):qD (.func (.func 121) #[] #[(aI bl 0)]) G l.length fun k=>(l[k]?.map iA.id).getD 0:=by
 intro k hk G1 w0 hm hG;refine lZ (caps:=[(aI bl 0)]) abf ?_;replace hb:=aK hm hb
 obtain rfl:n=l.length:=by have:=hv.len;simpa using this
 obtain ⟨b,o,rfl,hrow,-⟩:=LP (hv.mono hm) hk;have hq:=hrow 0 _ rfl;refine eN [(0,_),(1,_)] func121 rfl ntmps121 rfl rfl hG ?_;intro a H;refine kP H (SR fun _ K1=>ak K1 rfl (SR fun _ K2=>Rg Dz rfl (by assumption) ?_));clear H K1;intro a H;refine kH H (Rm rfl (Ri BH BD rfl rfl (Rf TG rfl (Rg aG rfl (by assumption) ?_))));clear H;intro a H;exact kH H (ak K2 rfl (LR results121 rfl fun H=>H.rt (by dsimp only;rw [gP hk];rfl)))
theorem aaq {G:GH} {bc:Nat} {x:iA} (hb:aJ G bc 1=some (vi x.parent)) (y:iA):uT (.func (.func 120) #[] #[(aI bc 0)]) G y.dat (decide (y.id=x.parent)):=by
 intro G1 w0 cs hm hG hr;refine lZ (caps:=[(aI bc 0)]) abe ?_;obtain rfl:=RU hr;replace hb:=aK hm hb;refine eN [(0,_),(1,_)] func120 rfl ntmps120 rfl rfl hG ?_;intro a H;refine cO (fun _ K1=>?_);refine fC (cs:=[_,_,_,_,_,_]) H wn rfl rfl rfl ?_;clear H;intro b2 a w hb2 H;refine kH H (ak K1 rfl (SR fun _ K2=>aR TG aG 0 rfl rfl (Rf TH rfl (Rg aG rfl (by assumption) ?_))));clear H K1;intro a H;exact kH H (Rc rfl (ak K2 rfl (LR results120 rfl fun H=>H.rt rfl)))
theorem afB (G:GH) (w0:World) (hG:Hold G w0) (l:List iA) (p:iA→Bool) (v fv:aj) (hv:av G (.sl 6 (l.map iA.dat)) v) (hf:∀ x∈l,uT fv G x.dat (p x)) :
  Calls prog 112 #[v,fv] w0 (bC w0 G fun u G'=>u=vi (mX (l.findIdx? p))):=by
 obtain ⟨A,c,rfl,hc1,hc2,hg⟩:=hv.slice;have hml:maxLen=9223372036854775807:=rfl;rw [bT] at *;refine eN [(0,_),(1,_)] func112 rfl ntmps112 rfl rfl hG ?_;intro a H;refine kP H (SR fun _ K1=>ak K1 rfl (SQ fun _ K2=>SR fun _ K3=>Rm rfl (Rl BH rfl (Rm rfl (Kz K3 (SB ?_))))));clear H K1 K3;intro a H;skip;refine eZ (ι:=Nat × GH) (Tc:=[(0,_),(1,_),(7,_)]) (Lc:=[]) (fun gh=>[(8,vi gh.1)]) (fun gh=>[]) (fun gh=>gh.2) (fun gh=>gh.1≤l.length∧(l.take gh.1).findIdx? p=none∧(∀ b o,G b=some o→gh.2 b=some o)) (fun gh=>l.length - gh.1) ((0,G)) (by exact (H).sub ⟨rfl,rfl,rfl,rfl,aB⟩) ?_ ?_
 ·exact ⟨by omega,rfl,fun _ _ h=>h⟩
 clear H;intro gh a w hI H;obtain ⟨k,g⟩:=gh;dsimp only at hI H;obtain ⟨hk,hno,hgm⟩:=hI;dsimp only [lca,aZ] at H;refine kP H (SR fun _ K4=>Rc rfl (Kz K4 (SQ fun _ K5=>Cd rfl ?_ ?_))) <;> clear H K4
 ·intro h9 a H
  try have p9:=dT h9
  have hk2:k < l.length:=by omega
  obtain ⟨b,o,rfl,hrow,hrep⟩:=LP hv hk2;refine kP H (Kc K5 (SQ fun _ K6=>SB (SR fun _ K7=>Rm rfl (ak K7 rfl (SR fun _ K8=>Rm rfl (Rm rfl (Rm rfl (Ri BH BD rfl rfl ?_))))))));clear H K5 K7;intro a H;refine bD BD (cs:=l[k].cells) H wn rfl rfl (fun j v hj=>H.hp.aJ (aK hgm (hrow j v hj))) rfl ?_;clear H;intro a H;refine oM H wn rfl rfl (hf _ (iQ hk2) _ _ _ hgm H.ro (hrep.mono hgm)) rfl ?_;clear H;rintro v16 qC a w rfl qM H;refine K8 _ _ ?_;clear K8;refine kV H rfl ?_ ?_
  ·intro h16
   try have p16:=dT h16
   refine kP H (SR fun _ K9=>Rm rfl (ak K9 rfl ?_));clear H K9;intro a H;refine lr H results112 rfl ?_
   first
    | exact H.rt (by rw [tJ hk2 hno h16];rfl)
    | exact H.rt (by rw [show l.take k=l from jA (by omega)] at hno;rw [hno];rfl)
  intro h16
  try have p16:=dF h16
  refine kP H (Kc K6 (SC (Rd rfl (Rm rfl ?_))));clear H K6;intro a H;refine aH ?_;refine dw ((k+1,qC)) (by exact (H).sub ⟨rfl,rfl,rfl,rfl,aB⟩) ?_ ?_
  ·(try dsimp only);exact ⟨by omega,zV hk2 hno h16,fun b o h=>qM b o (hgm b o h)⟩
  first|omega|(dsimp only;omega)
 intro h9 a H
 try have p9:=dF h9
 refine dW ?_;refine K2 _ _ ?_;clear K2;refine kP H (SR fun _ aS=>ak aS rfl ?_);clear H aS;intro a H;refine lr H results112 rfl ?_
 first
  | exact H.rt (by rw [tJ hk2 hno h16];rfl)
  | exact H.rt (by rw [show l.take k=l from jA (by omega)] at hno;rw [hno];rfl)
theorem aat (G:GH) (w0:World) (hG:Hold G w0) (l:List iA) (p:iA→Bool) (v fv:aj) (hv:av G (.sl 6 (l.map iA.dat)) v) (hf:∀ x∈l,uT fv G x.dat (p x)) :
  Calls prog 78 #[v,fv] w0 (bC w0 G fun u G'=>u=.bool (l.findIdx? p).isSome):=by
 obtain ⟨A,c,rfl,hc1,hc2,-⟩:=hv.slice;rw [bT] at *;refine eN [(0,_),(1,_)] func78 rfl ntmps78 rfl rfl hG ?_;intro a H;refine kP H (SR fun _ K1=>ak K1 rfl (SR fun _ K2=>Rm rfl (Rm rfl ?_)));clear H K1;intro a H;refine s_call aaV H wn rfl (afB _ _ H.ro l p _ _ hv hf) rfl ?_;clear H;rintro v7 G7 a w rfl zP H;exact kH H (Rc rfl (ak K2 rfl (LR results78 rfl fun H=>H.rt (aF (Ou _)))))
def D5 (l:List iA) (i:Nat) (x:iA):Bool:=decide (x.parent=0) || ((l.take i).findIdx? fun y=>decide (y.id=x.parent)).isSome
def LM (l:List iA) (i:Nat) (x:iA):Int:=cZ [nT (fun k=>(l[k]?.map iA.id).getD 0) i,bW (!D5 l i x) 8,bW (!uW x.author) 39,bW (!decide (0≤x.time∧x.time≤1099511627776)) 40,Af x.text]
def D9 (l:List iA) (i:Nat):Int:=match l[i]? with|some x=>LM l i x|none=>0
theorem aan {G:GH} {bl:Nat} {l:List iA} {A:Option Addr} {n c:Nat} (hb:aJ G bl 0=some (.slice A n c)) (hv:av G (.sl 6 (l.map iA.dat)) (.slice A n c)) (hl:l.length≤4294967296) (ht:∀ x∈l,x.author.size < 4611686018427387904∧x.text.size < 4611686018427387904):qD (.func (.func 119) #[] #[(aI bl 0)]) G l.length (D9 l):=by
 intro k hk G1 w0 hm hG;refine lZ (caps:=[(aI bl 0)]) abd ?_;replace hb:=aK hm hb;replace hv:=hv.mono hm;have hcb:=aao hb hv;obtain ⟨_,_,hee,hvc,-,-⟩:=hv.slice
 injection hee with _ _ hcc
 subst hcc;rw [bT] at hvc
 obtain rfl:n=l.length:=by have:=hv.len;simpa using this
 obtain ⟨b,o,rfl,hrow,hrep⟩:=LP hv hk;have hte:=ht _ (iQ hk);obtain ⟨x,hx⟩:∃ x,x=l[k]:=⟨_,rfl⟩;rw [← hx] at hrow hte
 have he:D9 l k=LM l k x:=by unfold D9;rw [gP hk,hx]
 refine eN [(0,_),(1,_)] func119 rfl ntmps119 rfl rfl hG ?_;intro a H;refine kP H (SR fun _ K1=>ak K1 rfl (SR fun _ K2=>Rg Dz rfl (by assumption) ?_));clear H K1;intro a H;refine kH H (Rm rfl (Ri BH BD rfl rfl ?_));clear H;intro a H;refine bD BD (cs:=x.cells) H wn rfl rfl (fun j v hj=>H.hp.aJ (hrow j v hj)) rfl ?_;clear H;intro a H;refine eU BD H wn rfl ?_;clear H;intro b4 a w hb4 H;refine bF BD 0 (vs:=[_,_,_,_,_,_]) _ H wn rfl rfl rfl rfl rfl rfl rfl rfl ?_;clear H;intro w H;dsimp only [List.set,setRow] at H;obtain ⟨Ga,hma,wF,H⟩:=H.dP
 have hcell:∀ (j:Nat) (u:aj),x.cells[j]?=some u→aJ Ga b4 j=some u:=fun j u hj=>by unfold aJ;rw [wF];simpa using hj
 have q1:=hcell 1 _ rfl;have hbA:=aK hma hb;have U0:=(hv.mono hma).pre k (by rw [bT];omega);rw [← List.map_take] at U0;refine K2 _ _ ?_;clear K2;refine qd (ι:=Bool × GH) (Tc:=[(0,_),(1,_),(4,_)]) (Lc:=[]) (fun gh=>[(5,.bool gh.1)]) (fun gh=>[]) (fun gh=>gh.2) (fun gh=>gh.1=D5 l k x∧(∀ b o,Ga b=some o→gh.2 b=some o)) (by exact (H).sub ⟨rfl,rfl,rfl,aB⟩) ?_ ?_
 ·skip;refine kP H (SC (Rf TH rfl (Rg aG rfl (by assumption) ?_)));clear H;intro a H;refine kH H (Rc rfl (Rm rfl (Sp 13 rfl ?_ ?_))) <;> clear H
  ·intro fK a H
   try have pK:=dT fK
   refine kH H (aX fK rfl (aP fK rfl (Pt fK rfl (Ra rfl ?_))));clear H;intro a H;refine aH ?_;refine ⟨(_,_),by exact (H).sub ⟨rfl,rfl,rfl,rfl,aB⟩,?_⟩;(try dsimp only)
   first
   | exact ⟨by unfold D5;rw [jT (by assumption)];rfl,fun _ _ h=>h⟩
   | exact ⟨by unfold D5;rw [jm (by assumption)];rfl,hm18⟩
  intro fK a H
  try have pK:=dF fK
  refine kH H (YR Dz fK rfl (by assumption) ?_);clear H;intro a H;refine kH H (YM fK rfl ?_);clear H;intro a H;refine WK BH BD k H (wg H rfl rfl fK) rfl rfl rfl (by omega) rfl ?_;clear H;intro a H;refine pO H (wg H rfl rfl fK) rfl rfl ?_;clear H;intro a H;refine s_call acr H (wg H rfl rfl fK) rfl (aat _ _ H.ro (l.take k) (fun y=>decide (y.id=x.parent)) _ _ U0 (fun y _=>aaq q1 y)) rfl ?_;clear H;rintro v18 KI a w rfl hm18 H;refine kH H (Pf fK rfl (Ra rfl ?_));clear H;intro a H;refine aH ?_;refine ⟨(_,_),by exact (H).sub ⟨rfl,rfl,rfl,rfl,aB⟩,?_⟩;(try dsimp only)
  first
  | exact ⟨by unfold D5;rw [jT (by assumption)];rfl,fun _ _ h=>h⟩
  | exact ⟨by unfold D5;rw [jm (by assumption)];rfl,hm18⟩
 clear H;intro gh a w hI H;obtain ⟨bf,g⟩:=gh;dsimp only at hI H;obtain ⟨hbf,hgm⟩:=hI;replace hcell:=fun j u hj=>aK hgm (hcell j u hj);replace hcb:=(hcb.mono hma).mono hgm;dsimp only [lca,aZ] at H;refine bq (fun _ K3=>?_);have H:=H.sub (T':=[(0,_),(1,_),(4,_),(5,_)]) ⟨rfl,rfl,rfl,rfl,aB⟩;refine dI hmx [[],[],[0,1],[],[3],(ra 0 5),[],[6],(ra 0 8),(ra 0 9),(ra 0 10),[],[11],(ra 0 13),(ra 0 14),(ra 0 15),[],[16],(ra 0 18),(ra 0 19),(ra 0 20),(ra 0 21)] [19,20,21] (by kernel_rfl) [_,.func (.func 121) #[] #[(aI bl 0)],vi (nT (fun k=>(l[k]?.map iA.id).getD 0) k),_,_,vi (bW (!bf) 8),_,_,.bool (uW x.author),_,vi (bW (!uW x.author) 39),_,_,.bool (decide (0≤x.time∧x.time≤1099511627776)),_,vi (bW (!decide (0≤x.time∧x.time≤1099511627776)) 40),_,_,vi (Af x.text)] H (aD (Z0 rfl (Rm rfl)) ?_ ?_ (Z0 rfl (Rm rfl)) (aD (Z1 3 23 rfl (Rn rfl)) ?_ (Z0 rfl (Rf adj rfl)) (X1 6 26 rfl fun hG=>Rg fZ rfl (aK hG (hcell 2 _ rfl))) (aD ?_ (Z1 8 28 rfl (Rn rfl)) ?_ (Z0 rfl (Rf adk rfl)) (aD (X1 11 31 rfl fun hG=>Rg aG rfl (aK hG (hcell 3 _ rfl))) ?_ (Z1 13 33 rfl (Rn rfl)) ?_ (aD (Z0 rfl (Rf adl rfl)) (X1 16 36 rfl fun hG=>Rg fZ rfl (aK hG (hcell 4 _ rfl))) ?_ (bL rfl) (aW (bL rfl) (aW (bL rfl) bY))))))) ?_
 ·refine yO rfl fun _ a w G1 hG HT H fin=>?_;refine pO H wn rfl rfl ?_;clear H;intro a H;exact fin H iJ rfl
 ·refine dz 0 20 1 21 rfl rfl fun _ a w G1 hG HT H fin=>?_;refine s_call Mv H wn rfl (Ol _ _ H.ro k _ _ (by omega) (fun i hi=>(hcb.mono hG) i (by omega))) rfl ?_;clear H;rintro v22 Yf a w rfl M8 H;exact fin H M8 (rfl)
 ·refine dL 4 24 rfl rfl fun _ a w G1 hG HT H fin=>?_;refine s_call iL H wn rfl (iN _ _ H.ro _ 8) rfl ?_;clear H;rintro v25 Yg a w ⟨rfl,-⟩ adP H;exact fin H adP (rfl)
 ·refine dL 7 27 rfl rfl fun _ a w G1 hG HT H fin=>?_;refine s_call SN H wn rfl (Rt _ _ H.ro x.author hte.1) rfl ?_;clear H;rintro v28 Yh a w ⟨rfl,-⟩ adQ H;exact fin H adQ (rfl)
 ·refine dL 9 29 rfl rfl fun _ a w G1 hG HT H fin=>?_;refine s_call iL H wn rfl (iN _ _ H.ro _ 39) rfl ?_;clear H;rintro v30 BQ a w ⟨rfl,-⟩ Na H;exact fin H Na (rfl)
 ·refine dL 12 32 rfl rfl fun _ a w G1 hG HT H fin=>?_;refine s_call uj H wn rfl (uF _ _ H.ro x.time 0 1099511627776) rfl ?_;clear H;rintro v33 Yi a w ⟨rfl,-⟩ adR H;exact fin H adR (rfl)
 ·refine dL 14 34 rfl rfl fun _ a w G1 hG HT H fin=>?_;refine s_call iL H wn rfl (iN _ _ H.ro _ 40) rfl ?_;clear H;rintro v35 Qk a w ⟨rfl,-⟩ Nb H;exact fin H Nb (rfl)
 ·refine dL 17 37 rfl rfl fun _ a w G1 hG HT H fin=>?_;refine s_call Md H wn rfl (PS _ _ H.ro x.text hte.2) rfl ?_;clear H;rintro v38 KM a w rfl adS H;exact fin H adS (rfl)
 clear H;intro a w G Jd H hv;have H:=H.aQ (hv 2 22 rfl rfl) rfl;have H:=H.aQ (hv 5 25 rfl rfl) rfl;have H:=H.aQ (hv 10 30 rfl rfl) rfl;have H:=H.aQ (hv 15 35 rfl rfl) rfl;have H:=H.aQ (hv 18 38 rfl rfl) rfl;clear hv;refine gQ nJ fV [_,_,_,_,_] [_,_,_,_,_] H wn rfl rfl rfl rfl rfl (by intro i q h;match i,h with|0,h=>exact h|1,h=>exact h|2,h=>exact h|3,h=>exact h|4,h=>exact h|n+5,h=>simp at h) rfl rfl ?_;clear H;intro b39 a w ajF H;obtain ⟨Ql,aeM,aeo,H⟩:=H.dP;refine s_call oD H wn rfl (oF _ _ H.ro _ _ (C9 [nT (fun k=>(l[k]?.map iA.id).getD 0) k,bW (!bf) 8,bW (!uW x.author) 39,bW (!decide (0≤x.time∧x.time≤1099511627776)) 40,Af x.text] aeo (show 5≤maxLen by decide))) rfl ?_;clear H;rintro v40 _ a w ⟨rfl,rfl⟩ - H;refine kH H (Ra rfl ?_);clear H;intro a H;refine aH ⟨rfl,?_⟩;refine K3 _ _ ?_;clear K3;refine lr H results119 rfl ?_;exact H.rt (by rw [he,LM,← hbf])
def IG (l:List iA):Int:=cZ [bW (decide (1024 < (l.length:Int))) 9,jM (D9 l) (min l.length 1024)]
theorem ZW (G:GH) (w0:World) (hG:Hold G w0) (l:List iA) (v:aj) (hv:av G (.sl 6 (l.map iA.dat)) v) (hl:l.length≤4294967296) (ht:∀ x∈l,x.author.size < 4611686018427387904∧x.text.size < 4611686018427387904) :
  Calls prog 82 #[v] w0 (bC w0 G fun u G'=>u=vi (IG l)):=by
 obtain ⟨A,c,rfl,hc1,hc2,-⟩:=hv.slice;rw [bT] at *;refine eN [(0,_)] func82 rfl ntmps82 rfl rfl hG ?_;intro a H;refine cO (fun _ K1=>?_);refine fC (cs:=[_]) H wn rfl rfl rfl ?_;clear H;intro b1 a w hb1 H;refine kH H (ak K1 rfl (SQ fun _ K2=>?_));clear H K1;intro a H;have H:=H.sub (T':=[(1,_)]) ⟨rfl,aB⟩;obtain ⟨Ga,hma,hb1',H⟩:=H.dP
 have hbl:aJ Ga b1 0=some (.slice A l.length c):=by unfold aJ;rw [hb1'];rfl
 have hcb:=aan hbl (hv.mono hma) hl ht;refine dI hmx [[],[0],[0,1],[0,1,2],[],[4],[4,5],[],(ra 0 8),(ra 0 9),(ra 0 10),(ra 0 11)] [9,10,11] (by kernel_rfl) [_,_,_,vi (bW (decide (1024 < (l.length:Int))) 9),_,_,vi ((min l.length 1024:Nat):Int),.func (.func 119) #[] #[(aI b1 0)],vi (jM (D9 l) (min l.length 1024))] H (aD (X0 rfl fun hG=>Rg Dz rfl (aK hG hbl)) (Z1 0 3 rfl (Rl BH rfl)) (Z1 1 4 rfl (Rc rfl)) ?_ (aD (X0 rfl fun hG=>Rg Dz rfl (aK hG hbl)) (Z1 4 7 rfl (Rl BH rfl)) ?_ ?_ (aD ?_ (bL rfl) (bL rfl) (bL rfl) bY))) ?_
 ·refine dL 2 5 rfl rfl fun _ a w G1 hG HT H fin=>?_;refine s_call iL H wn rfl (iN _ _ H.ro _ 9) rfl ?_;clear H;rintro v6 G6 a w ⟨rfl,-⟩ gH H;exact fin H gH (rfl)
 ·refine dL 5 8 rfl rfl fun _ a w G1 hG HT H fin=>?_;refine J8 H wn rfl rfl rfl ?_;clear H;intro a H;exact fin H iJ (aA vi (by omega))
 ·refine yO rfl fun _ a w G1 hG HT H fin=>?_;refine pO H wn rfl rfl ?_;clear H;intro a H;exact fin H iJ rfl
 ·refine dz 6 9 7 10 rfl rfl fun _ a w G1 hG HT H fin=>?_;refine s_call Ec H wn rfl (Fx _ _ H.ro (min l.length 1024) (D9 l) _ (by omega) ((hcb.mono hG).le (Nat.min_le_left _ _))) rfl ?_;clear H;rintro v11 vS a w rfl jH H;exact fin H jH (rfl)
 clear H;intro a w G mJ H hv;have H:=H.aQ (hv 3 6 rfl rfl) rfl;have H:=H.aQ (hv 8 11 rfl rfl) rfl;clear hv;refine gQ nJ fV [_,_] [_,_] H wn rfl rfl rfl rfl rfl (by intro i q h;match i,h with|0,h=>exact h|1,h=>exact h|n+2,h=>simp at h) rfl rfl ?_;clear H;intro b12 a w Bc H;obtain ⟨Au,CP,CK,H⟩:=H.dP;refine s_call oD H wn rfl (oF _ _ H.ro _ _ (vN CK)) rfl ?_;clear H;rintro v13 _ a w ⟨rfl,rfl⟩ - H;refine kH H (Ra rfl ?_);clear H;intro a H;refine aH ⟨rfl,?_⟩;refine K2 _ _ ?_;clear K2;refine lr H results82 rfl ?_;exact H.rt rfl
end
section
open Go.RowKit
def uI:Nat→List Int→List MapEntry
 | _,[]=>[]
 | i,k :: r=>⟨.int .i64 k,.int .i64 (i:Int),i⟩ :: uI (i+1) r
theorem Vy (x:Int):∀ (i:Nat) (l:List Int),uI i (l++[x])=uI i l++[⟨.int .i64 x,.int .i64 ((i+l.length:Nat):Int),i+l.length⟩]
 | _,[]=>rfl
 | i,k :: r=>by
  rw [nC,uI,Vy x (i+1) r,uI,nC,nA,show i+1+r.length=i+(r.length+1) by omega]
def rW (x:Int):Nat→List Int→Option Nat
 | _,[]=>none
 | i,k :: r=>if k=x then some i else rW x (i+1) r
theorem U5 {x:Int}:∀ {l:List Int} {i n:Nat},rW x i l=some n→i≤n
 | [],_,_,h=>by cases h
 | k :: r,i,n,h=>by
  rw [rW] at h;split at h
  ·cases h;exact bU _
  ·have:=U5 h;omega
theorem U7 {x:Int}:∀ {l:List Int} {i:Nat},x∉l→rW x i l=none
 | [],_,_=>rfl
 | k :: r,i,h=>by
  rw [rW,ah (fun e=>h (by simp [e])),U7 (fun hm=>h (jU _ hm))]
theorem MH (x:Int):∀ (i j:Nat) (l:List Int),Instr.findNow (.int .i64) (.int .i64 x) (uI i l) j=some ((rW x i l).map fun n=>(j+(n - i),.int .i64 (n:Int)))
 | _,_,[]=>rfl
 | i,j,k :: r=>by
  have ih:=MH x (i+1) (j+1) r
  by_cases e:k=x
  ·subst e
   simp only [uI,Instr.findNow,Instr.sameNow,au,rW,beq_self_eq_true]
   simp
  ·have hb:(x == k)=false:=by simp;exact fun h=>e h.symm
   simp only [uI,Instr.findNow,Instr.sameNow,au,hb,rW,ah e,ih]
   cases h:rW x (i+1) r with
   | none=>rfl
   | some n =>
    have:=U5 h
    simp only [Option.map_some,mV,gB,and_true]
    omega
abbrev Zo (b:Nat) (l:List Int):Nat × Obj:=(b,.map (uI 0 l).toArray l.length)
theorem agr (l:List Int) (x:Int):(uI 0 l).toArray.push ⟨.int .i64 x,.int .i64 (l.length:Int),l.length⟩=(uI 0 (l++[x])).toArray:=by
 rw [Vy,List.push_toArray,kK]
end
section
open Go.RowKit
section
variable {P:Program} {N:Nat} {D:List Deferred} {w0 w w':World} {F:Nat→Prop} {G0 G G':GH} {L L' Li Lo:OL} {T:List (Nat × aj)} {a a':Act} {Q:Exit→Act→World→Prop}
variable {r:Option Nat} {ops:Array Oper} {rest:List Oper}
def KQ (P:Program) (Gi:GH) (B:OL) (gv:aj) (xs:List AP):Prop :=
 ∀ (J:Nat→GH→OL→Prop) (Jx:GH→OL→Prop) (fv:aj) (G:GH) (L:OL) (w:World),fv.cells=#[fv]→(∀ b o,Gi b=some o→G b=some o)→BS J→DW Jx→J 0 G L→gW G (B++L) w→E5 P fv G xs J Jx →
  sD P gv [fv] w (gF w G (B++L) fun _ G' L'=>J xs.length G' L'∨Jx G' L')
theorem KQ.mono {Gi Av:GH} {B:OL} {gv:aj} {xs:List AP} (h:KQ P Gi B gv xs) (hm:∀ b o,Gi b=some o→Av b=some o):KQ P Av B gv xs :=
 fun J Jx fv G L w h0 h1=>h J Jx fv G L w h0 fun b o hb=>h1 b o (hm b o hb)
end
end
section
open Go.RowKit
section
variable {P:Program} {N:Nat} {D:List Deferred} {w0 w w':World} {F:Nat→Prop} {G0 G G':GH} {L L' Li Lo:OL} {T:List (Nat × aj)} {a a':Act} {Q:Exit→Act→World→Prop}
variable {r:Option Nat} {ops:Array Oper} {rest:List Oper}
def DN (P:Program) (Gi:GH) (B:OL) (gv:aj) (xs:List AP) (fin:Bool):Prop :=
 ∀ (J:Nat→GH→OL→Prop) (Jx:GH→OL→Prop) (fv:aj) (G:GH) (L:OL) (w:World),fv.cells=#[fv]→(∀ b o,Gi b=some o→G b=some o)→BS J→DW Jx→J 0 G L→gW G (B++L) w→E5 P fv G xs J Jx→(fin=false→∀ g l,¬ J xs.length g l) →
  sD P gv [fv] w (gF w G (B++L) fun _ G' L'=>J xs.length G' L'∨Jx G' L')
theorem DN.mono {Gi Av:GH} {B:OL} {gv:aj} {xs:List AP} {fin:Bool} (h:DN P Gi B gv xs fin) (hm:∀ b o,Gi b=some o→Av b=some o):DN P Av B gv xs fin :=
 fun J Jx fv G L w h0 h1=>h J Jx fv G L w h0 fun b o hb=>h1 b o (hm b o hb)
theorem ZC {fin:Bool} {B:OL} {wu:Operand} {ps:List Nat} {assign body:Code} {gf:FuncId} {caps:List aj} {xs:List AP} {Gi:GH}
  (H:St N D w0 F G0 G (B++L) T a w) (hg:ev T wu=some (.func (.func gf) #[] caps.toArray)) (en:∀ args w,(callFunc gf args).run P w=.ok (.enter gf args) w) (hit:DN P Gi B (.func (.func gf) #[] caps.toArray) xs fin) (hGi:∀ b o,Gi b=some o→G b=some o)
  (hps:ps.all (Nat.blt · N)=true) (hlen:∀ k args g,tQ xs k args g→args.length=ps.length)
  (J:Nat→GH→OL→Prop) (Jx:Code→GH→OL→Prop) (hno:fin=false→∀ g l,¬ J xs.length g l) (uz:BS J) (hJx:∀ c,DW (Jx c)) (h0:J 0 G L) (N8:KU P N ps assign body T G J Jx xs)
  (hdone:∀ Dk G1 L1 a1 w1,(∀ b o,G b=some o→G1 b=some o)→J xs.length G1 L1→St N ({ target:=.collected Dk,args:=#[] } :: D) w0 F G0 G1 ((Dk,.deferred (some [])) :: L1) T a1 w1→Q .normal a1 w1)
  (hstop:∀ Dk c G1 L1 a1 w1,(∀ b o,G b=some o→G1 b=some o)→Jx c G1 L1→St N ({ target:=.collected Dk,args:=#[] } :: D) w0 F G0 G1 ((Dk,.deferred (some [])) :: L1) T a1 w1→WP none P c Q a1 w1) :
  WP none P (.rangeFunc wu ps.toArray assign body) Q a w:=by
 refine wpIn_rangeFunc ?_
 intro fn _
 have hev:=H.ev hg
 let q:Rec:=⟨fn,a.tmps,ps.toArray,assign,body,w.heap.size⟩
 obtain ⟨W1,hW1⟩:∃ W1,W1=(w.alloc (.deferred (some []))).alloc (q.at .ready none):=⟨_,rfl⟩
 have H1:Hp w0 F G0 G (B++((w.heap.size+1,q.at .ready none) :: (w.heap.size,.deferred (some [])) :: L)) W1:=by
  have:=(H.hp.alloc (.deferred (some []))).alloc (q.at .ready none)
  rw [World.size_alloc] at this
  rw [hW1]
  refine this.perm ?_
  have e:=yX (l₁:=[(w.heap.size+1,q.at .ready none),(w.heap.size,Obj.deferred (some []))]) (l₂:=B)
  have e2:=List.Perm.append_right L e
  rw [ou,ou] at e2
  exact e2
 refine ⟨w.heap.size+1,[{ target:=.collected w.heap.size,args:=#[] }],W1,{ target:=.fn (.func gf) caps.toArray,args:=#[.func (.yield (w.heap.size+1)) #[] #[]] },W1,gf,
  #[.func (.yield (w.heap.size+1)) #[] #[]]++caps.toArray,W1,by rw [hW1];exact run_enterLoop_outer fn a.tmps ps.toArray assign body,?_,fun _ _=>trivial,?_,Ie none,?_⟩
 ·simp only [resolve,rangeCall,hev]
  simp [Deferred.ofValue,Act.eval]
 ·simp [invoke,en]
 ·have hcv:=hit (fun k=>Jr (w.heap.size+1) q [(w.heap.size,.deferred (some []))] (J k)) (Ij (w.heap.size+1) q [(w.heap.size,.deferred (some []))] Jx) (.func (.yield (w.heap.size+1)) #[] #[]) G
   ((w.heap.size+1,q.at .ready none) :: (w.heap.size,.deferred (some [])) :: L) W1 rfl hGi (fun k G G' L hm ⟨Lu,e,h⟩=>⟨Lu,e,uz k G G' Lu hm h⟩) (fun G G' L hm ⟨c,Lu,e,h⟩=>⟨c,Lu,e,hJx c G G' Lu hm h⟩) ⟨L,rfl,h0⟩ (Hp.owns (Li:=[]) H1) (RJ H.kL H.get hps hlen N8) (fun e g l ⟨Lu,_,h⟩=>hno e g Lu h)
  replace hcv:=hcv.go
  have e:(do let d ← Deferred.ofValue (.func (.func gf) #[] caps.toArray) [Value.func (.yield (w.heap.size+1)) #[] #[]].toArray;invoke d.target d.args:Sem Next).run P W1=.ok (.enter gf (#[.func (.yield (w.heap.size+1)) #[] #[]]++caps.toArray)) W1:=by
   simp [Deferred.ofValue,invoke,en]
  rw [e] at hcv
  refine (LD hcv).mono ?_
  rintro e w2 ⟨v,G2,L2,rfl,hch,hJ⟩
  have H2:=Hp.change (Li:=[]) H1 hch
  rcases hJ with ⟨Lu,rfl,hJ⟩|⟨c,Lu,rfl,hJ⟩
  ·have hl:=H2.own _ (iB)
   have H3:=(H2.upd (i:=0) rfl (BI (q.at .exhausted none) hl)).drop (yV _ _)
   exact ⟨none,_,run_endLoop hl (by simp),hdone _ G2 Lu _ _ hch.gm hJ ⟨H.kL,H.get,by simp [H.pz],H3⟩⟩
  ·have hl:=H2.own _ (iB)
   have H3:=(H2.upd (i:=0) rfl (BI (q.at .exhausted (some c)) hl)).drop (yV _ _)
   exact ⟨some c,_,run_endLoop hl (by simp),hstop _ c G2 Lu _ _ hch.gm hJ ⟨H.kL,H.get,by simp [H.pz],H3⟩⟩
theorem ZE {fin:Bool} {B:OL} {ι κ:Type} {Lc:OL} {wu:Operand} {ps:List Nat} {assign body:Code} {gf:FuncId} {caps:List aj} {xs:List AP} {Gi:GH}
  (Lv:Nat→ι→OL) (Lt:Nat→ι→OL) (inv:Nat→ι→GH→Prop) (cx:κ→Code) (Lx Cc:κ→OL) (wQ:κ→GH→Prop) (i0:ι)
  (H:St N D w0 F G0 G (B++(Lc++Lv 0 i0++Lt 0 i0)) T a w) (hg:ev T wu=some (.func (.func gf) #[] caps.toArray)) (en:∀ args w,(callFunc gf args).run P w=.ok (.enter gf args) w) (hit:DN P Gi B (.func (.func gf) #[] caps.toArray) xs fin) (hGi:∀ b o,Gi b=some o→G b=some o)
  (hno:fin=false→∀ i g,¬ inv xs.length i g) (hps:ps.all (Nat.blt · N)=true) (hlen:∀ k args g,tQ xs k args g→args.length=ps.length) (hinv:∀ k i (G G':GH),(∀ b o,G b=some o→G' b=some o)→inv k i G→inv k i G') (NH:∀ x (G G':GH),(∀ b o,G b=some o→G' b=some o)→wQ x G→wQ x G') (h0:inv 0 i0 G)
  (round:∀ (l:Nat) (Bp xJ:Obj) (bk:OL) (k:Nat) (args:List aj) (i:ι) (G1:GH) (w1:World) (F1:Nat→Prop) (B1:Code→Exit→Act→World→Prop) (a1:Act),tQ xs k args G1→(∀ b o,G b=some o→G1 b=some o)→inv k i G1 →
   (∀ T' G2 L2 a2 w2 c,St N [] w1 F1 G1 G2 ((l,Bp) :: L2) T' a2 w2→(∀ w3,St N [] w1 F1 G1 G2 ((l,xJ) :: L2) T' a2 w3→WP (some l) P c (B1 c) a2 w3)→Exit.then (fun a2 w2=>∃ w3,(Instr.beginRound l).run P w2=.ok () w3∧c.wpIn (FW (some l)) 0 P (B1 c) a2 w3) (fun _ _ _=>False) .normal a2 w2) →
   (∀ i' T' G2 a2 w2 c,St N [] w1 F1 G1 G2 ((l,xJ) :: (Lc++Lv (k+1) i'++(bk++Lt (k+1) i'))) T' a2 w2→inv (k+1) i' G2→B1 c .normal a2 w2) →
   (∀ x T' G2 a2 w2 c,St N [] w1 F1 G1 G2 ((l,xJ) :: (Lc++Lx x++(bk++Cc x))) T' a2 w2→wQ x G2→(cx x=.ret→B1 c .ret a2 w2)∧∀ n,cx x=.exit n→B1 c (.exit n) a2 w2) →
   St N [] w1 F1 G1 G1 ((l,Bp) :: (Lc++Lv k i++(bk++Lt k i))) (vW ps args T) a1 w1 →
   WP (some l) P assign (Exit.then (fun a2 w2=>∃ w3,(Instr.beginRound l).run P w2=.ok () w3∧body.wpIn (FW (some l)) 0 P (B1 body) a2 w3) (fun _ _ _=>False)) a1 w1)
  (hdone:∀ Dk i G1 a1 w1,(∀ b o,G b=some o→G1 b=some o)→inv xs.length i G1→St N ({ target:=.collected Dk,args:=#[] } :: D) w0 F G0 G1 ((Dk,.deferred (some [])) :: (Lc++Lv xs.length i++Lt xs.length i)) T a1 w1→Q .normal a1 w1)
  (hstop:∀ Dk x G1 a1 w1,(∀ b o,G b=some o→G1 b=some o)→wQ x G1→St N ({ target:=.collected Dk,args:=#[] } :: D) w0 F G0 G1 ((Dk,.deferred (some [])) :: (Lc++Lx x++Cc x)) T a1 w1→WP none P (cx x) Q a1 w1) :
  WP none P (.rangeFunc wu ps.toArray assign body) Q a w:=by
 refine ZC (J:=fun k g L=>∃ i,L=Lc++Lv k i++Lt k i∧inv k i g) (Jx:=fun c g L=>∃ x,c=cx x∧L=Lc++Lx x++Cc x∧wQ x g) H hg en hit hGi hps hlen (hno:=fun e g l ⟨i,_,h⟩=>hno e i g h) (fun k G G' L hm ⟨i,e,h⟩=>⟨i,e,hinv k i G G' hm h⟩) (fun c G G' L hm ⟨x,e1,e2,h⟩=>⟨x,e1,e2,NH x G G' hm h⟩) ⟨i0,rfl,h0⟩ ?_ ?_ ?_
 ·rintro l q bk k args G1 L1 w1 a1 hk hm ⟨i,rfl,hi⟩ H1
  have pm:∀ A B:OL,(bk++(A++B)).Perm (A++(bk++B)):=fun A B=>by
   rw [← ou,← ou]
   exact List.Perm.append_right B yX
  refine round l (q.at .ready none) (q.at .busy none) bk k args i G1 w1 _ (fun _=>roundPost P l _) a1 hk hm hi ?_ ?_ ?_ (H1.perm (List.Perm.cons _ (pm _ _)))
  ·intro T' G2 L2 a2 w2 c H2 h
   exact RF H2 h
  ·intro i' T' G2 a2 w2 c H2 h2
   exact EJ none (H2.perm (List.Perm.cons _ (pm _ _).symm)) ⟨_,rfl,i',rfl,h2⟩
  ·intro x T' G2 a2 w2 c H2 h2
   have H3:=H2.perm (List.Perm.cons _ (pm _ _).symm)
   refine ⟨fun e=>?_,fun n e=>?_⟩
   ·exact EJ (some .ret) H3 ⟨_,_,rfl,x,e.symm,rfl,h2⟩
   ·exact EJ (some (.exit n)) H3 ⟨_,_,rfl,x,e.symm,rfl,h2⟩
 ·rintro Dk G1 L1 a1 w1 hm ⟨i,rfl,hi⟩ H1
  exact hdone Dk i G1 a1 w1 hm hi H1
 ·rintro Dk c G1 L1 a1 w1 hm ⟨x,rfl,rfl,hx⟩ H1
  exact hstop Dk x G1 a1 w1 hm hx H1
end
end
section
open Go.RowKit
theorem DC:prog.underlying 114=some (.map 3 3):=by kernel_rfl
theorem qZ:Ty prog 31 1 24 [.slice none 0 0] false:=⟨by kernel_rfl,by kernel_rfl⟩
theorem MC:bV prog 181 3 3:=⟨by kernel_rfl⟩
theorem Sk:∀ args w,(callFunc 135 args).run prog w=.ok (.enter 135 args) w:=enters func135 rfl (by kernel_rfl)
theorem U6 {x:Int}:∀ {l:List Int} {i n:Nat},rW x i l=some n→n < i+l.length
 | [],_,_,h=>by cases h
 | k :: r,i,n,h=>by
  rw [rW] at h;split at h
  ·cases h;simp
  have:=U6 h;simp only [nA];omega
def uY (l:List bM):Nat→Int→List bM
 | 0,_=>[]
 | f+1,id=>if id=0 then [] else match rW id 0 (l.map bM.id) with|none=>[]|some i=>match l[i]? with|none=>[]|some s=>s :: uY l f s.base
def D8 (l:List bM) (id:Int):List bM:=uY l (l.length+1) id
theorem ZT {l:List bM} {f:Nat} {id:Int} (h:id=0):uY l f id=[]:=by
 cases f with
 | zero=>rfl
 | succ f=>rw [uY,au h]
theorem ZQ {l:List bM} {f:Nat} {id:Int} (h0:¬ id=0) (h:rW id 0 (l.map bM.id)=none):uY l f id=[]:=by
 cases f with
 | zero=>rfl
 | succ f=>rw [uY,ah h0,h]
theorem ZR {l:List bM} {f i:Nat} {id:Int} (h0:¬ id=0) (h:rW id 0 (l.map bM.id)=some i) (hi:i < l.length):uY l (f+1) id=l[i] :: uY l f l[i].base:=by
 rw [uY,ah h0,h];dsimp only;rw [gP hi]
def stP (x:bM):AP:=fun args g=>∃ cs,args=[.agg cs.toArray]∧aY g x.dat cs
theorem Xh {A:List bM} {k:Nat} {args:List aj} {g:GH} (h:tQ (A.map stP) k args g):∃ (hk:k < A.length) (cs:List aj),args=[.agg cs.toArray]∧aY g A[k].dat cs:=by
 obtain ⟨p,hp,hargs⟩:=h;rw [pY] at hp;obtain ⟨q,hq,rfl⟩:=lD.1 hp;obtain ⟨hk,rfl⟩:=iX.1 hq;obtain ⟨cs,h1,h2⟩:=hargs;exact ⟨hk,cs,h1,h2⟩
abbrev bI (b:Nat) (n:Int):Nat × Obj:=(b,.cells #[vi n] 3 (0,0))
set_option maxHeartbeats 1000000 in
theorem ZU {G:GH} {bl bi:Nat} {l:List bM} {id:Int} {v:aj} (hb:aJ G bl 0=some v) (hv:av G (.sl 6 (l.map bM.dat)) v) (hnd:∀ (k:Nat) (h:k < l.length),l[k].id∉(l.take k).map bM.id) :
  DN prog G [bI bi id] (.func (.func 135) #[] #[(aI bl 0),(aI bi 0)]) ((D8 l id).map stP) (decide ((D8 l id).length≤l.length)):=by
 intro J Jx fv G1 L w0 Uk hGi uz hJx hJ hO hcb hfin;refine lZ (caps:=[(aI bl 0),(aI bi 0)]) Sk ?_;obtain ⟨A,c,rfl,hc1,hc2,-⟩:=hv.slice;have hml:maxLen=9223372036854775807:=rfl;rw [bT] at *;replace hb:=aK hGi hb;replace hv:=hv.mono hGi;refine jN (N:=46) (T:=[(0,_),(1,_),(2,_)]) func135 rfl ntmps135 rfl rfl hO ?_;intro a H;refine cO (fun _ K1=>?_);refine Dt H wn rfl ?_;clear H;intro bm a w Jh H;refine kH H (ak K1 rfl (SQ fun _ K2=>SR fun _ K3=>Rg qZ rfl (by assumption) ?_));clear H K1;intro a H;refine kH H (Rl mR rfl (Rm rfl (Kz K3 (SB ?_))));clear H K3;intro a H;skip;refine eZ (ι:=Nat) (Tc:=[(0,_),(1,_),(2,_),(4,_),(10,_),(11,_)]) (Lc:=[(_,_)]) (fun gh=>[(12,vi gh)]) (fun gh=>[Zo bm ((l.take gh).map bM.id)]++L) (fun gh=>G1) (fun gh=>gh≤l.length) (fun gh=>l.length - gh) (0) (by exact (H.dU (Pl:=[_,_]) (cK:=[_,_]) [1,0] (by decide) rfl).sub ⟨rfl,rfl,rfl,rfl,rfl,rfl,rfl,aB⟩) ?_ ?_
 ·exact iK _
 clear H;intro gh a w hI H;obtain ⟨k,hgh⟩:∃ x,x=gh:=⟨_,rfl⟩;subst hgh;have hk:=hI;dsimp only [lca,aZ] at H;refine kP H (SR fun _ K4=>Rc rfl (Kz K4 (SQ fun _ K5=>Cd rfl ?_ ?_))) <;> clear H K4
 ·intro fK a H
  try have pK:=dT fK
  have hk2:k < l.length:=by omega
  obtain ⟨b,o,pA,pc,rfl,hrow,hp,hrep⟩:=Ae hv hk2;have aeX:=hnd k hk2
  have hlk:((l.take k).map bM.id).length=k:=by rw [bT,List.length_take];omega
  have hnx:(l.take k).map bM.id++[l[k].id]=(l.take (k+1)).map bM.id:=by rw [jE hk2,nD];rfl
  refine kP H (Kc K5 (SQ fun _ K6=>SB (SR fun _ K7=>Rm rfl (Ri mR jK rfl rfl ?_))));clear H K5;intro a H;refine bD jK (cs:=[_,_,_,_,_,_]) H wn rfl rfl (fun j v hj=>H.hp.aJ (hrow j v hj)) rfl ?_;clear H;intro a H;refine eU jK H wn rfl ?_;clear H;intro b6 a w hb6 H;refine kH H (Ra rfl ?_);clear H;intro a H;refine bF jK 0 (vs:=[_,_,_,_,_,_]) _ H wn rfl rfl rfl rfl rfl rfl rfl rfl ?_;clear H;intro w H;dsimp only [List.set,setRow] at H;refine K7 _ _ ?_;clear K7;refine kP H (SC (Rm rfl (aR sP aG 0 rfl rfl (Rm rfl ?_))));clear H;intro a H;refine WB (i:=2) (ky:=vi l[k].id) (v:=vi k) DC mU H wn rfl rfl rfl rfl (by trivial) (by rw [List.toList_toArray,MH,U7 aeX];rfl) ?_;clear H;intro w H
  have hpush:((uI 0 ((l.take k).map bM.id)).toArray.push ⟨vi l[k].id,vi k,((l.take k).map bM.id).length⟩)=(uI 0 ((l.take (k+1)).map bM.id)).toArray:=by rw [← hnx,← agr,hlk]
  rw [hpush,show ((l.take k).map bM.id).length+1=((l.take (k+1)).map bM.id).length by rw [← hnx];simp] at H;refine kH H (Kn K6 (SC (Rd rfl (Rm rfl ?_))));clear H K6;intro a H;refine aH ?_;refine dw ((k+1)) (by exact (H.dU (Pl:=[_,_,_]) (cK:=[_,_]) [1,2] (by decide) rfl).sub ⟨rfl,rfl,rfl,rfl,rfl,rfl,rfl,aB⟩) ?_ ?_
  ·exact by omega
  first|omega|(dsimp only;omega)
 intro fK a H
 try have pK:=dF fK
 obtain rfl:k=l.length:=by omega
 rw [yY] at H;refine dW ?_;refine K2 _ _ ?_;clear K2;refine xK ?_;skip;refine eZ (ι:=Int × Nat × Nat × OL × GH) (Tc:=[(0,_),(1,_),(2,_),(4,_)]) (Lc:=[(_,_)]) (fun gh=>[]) (fun gh=>[bI bi gh.1]++gh.2.2.2.1) (fun gh=>gh.2.2.2.2) (fun gh=>(∀ b o,G1 b=some o→gh.2.2.2.2 b=some o)∧Now ((D8 l id).map stP) stP J (D8 l id).length gh.2.2.1 (uY l gh.2.1 gh.1) gh.2.2.2.2 gh.2.2.2.1∧gh.2.2.1+gh.2.1=l.length+1) (fun gh=>gh.2.1) ((id,l.length+1,0,L,G1)) (by exact (H.dU (Pl:=[_,_]) (cK:=[_,_]) [1,0] (by decide) rfl).sub ⟨rfl,rfl,rfl,rfl,aB⟩) ?_ ?_
 ·exact ⟨fun _ _ h=>h,⟨hJ,fun i a h=>by rw [kK,pY];rw [show uY l (l.length+1) id=D8 l id from rfl] at h;rw [h];rfl,kK _⟩,kK _⟩
 clear H;intro gh a w hI H;obtain ⟨i,f,j1,Lt,g⟩:=gh;dsimp only at hI H;obtain ⟨hgm,dX,hjf⟩:=hI;have hbg:=aK hgm hb;dsimp only [lca,aZ] at H;refine kP H (SQ fun _ K8=>SR fun _ K9=>Ro aG 1 rfl (Rc rfl (Kz K9 (Cd rfl ?_ ?_)))) <;> clear H K9
 ·intro h23 a H
  try have rY:=dT h23
  have h0:¬ i=0:=by simpa using h23
  obtain ⟨an,han⟩:∃ an,an=rW i 0 (l.map bM.id):=⟨_,rfl⟩;have hfn:=MH i 0 0 (l.map bM.id);rw [← han] at hfn;refine kP H (Kc K8 (SB (SR fun _ aS=>Rm rfl (Ro aG 1 rfl ?_))));clear H K8;intro a H;refine ahE (i:=0) (zv:=vi 0) _ DC mU (by kernel_rfl) H wn rfl rfl rfl (by trivial) (by simpa using hfn) rfl ?_;clear H;intro a H;refine kH H (Rm rfl ?_);clear H;intro a H;(iterate 2 refine lu H wn rfl rfl rfl ?_;clear H;intro a H);refine kH H (Ra rfl (ak aS rfl (SQ fun _ bA=>SR fun _ bK=>Rm rfl (Rn rfl (Rm rfl (Sp 32 rfl ?_ ?_)))))) <;> clear H aS
  ·intro h32 a H
   try have p32:=dT h32
   obtain rfl:an=none:=by
    cases an with
    | none=>rfl
    | some n=>simp [zX] at h32
   rw [ZQ h0 han.symm] at dX;refine kH H (aX h32 rfl (aP h32 rfl (aP h32 rfl (Pt h32 rfl (Kz bK (Ct rfl rfl ?_))))));clear H bK;intro a H;refine cu ?_;refine (leave0 H results135 ?_).1;refine H.hp.gM (L':=Lt) (by repeat (first|exact iD _|apply List.Sublist.cons)) (.inl ?_);have h:=dX.len
   simp only [List.length_nil,sJ] at h
   rw [← h];exact dX.now
  intro h32 a H
  try have p32:=dF h32
  obtain ⟨n,rfl⟩:∃ n,an=some n:=by
   cases an with
   | none=>simp [zX] at h32
   | some n=>exact ⟨n,rfl⟩
  have hnl:n < l.length:=by have:=U6 han.symm;simpa using this
  obtain ⟨f',rfl⟩:∃ f',f=f'+1:=by
   cases f with
   | succ f'=>exact ⟨f',rfl⟩
   | zero =>
    exfalso
    have hl:=dX.len
    simp only [uY,List.length_nil,sJ] at hl
    refine hfin (jm (by omega)) g Lt ?_;rw [← hl];exact dX.now
  rw [ZR h0 han.symm hnl] at dX;dsimp only [zX,Option.map_some] at H;obtain ⟨b,o,pA,pc,rfl,hrow,hp,hrep⟩:=Ae (hv.mono hgm) hnl;refine kH H (YM h32 rfl (YR qZ h32 rfl (by assumption) ?_));clear H;intro a H;refine kH H (YM h32 rfl (YI mR jK h32 rfl rfl ?_));clear H;intro a H;refine bD jK (cs:=[_,_,_,_,_,_]) H (wg H rfl rfl h32) rfl rfl (fun j v hj=>H.hp.aJ (hrow j v hj)) rfl ?_;clear H;intro a H;refine EM (Li:=[_,_]) (L:=Lt) H (wg H rfl rfl h32) rfl rfl (hcb j1 _ _ _ _ ⟨_,dX.head,_,rfl,hrep⟩ hgm dX.now (Hp.owns (Li:=[_,_]) H.hp)) rfl ?_;clear H;rintro v38 KM QV a w ⟨Zk,rfl,hb1,hb2⟩ Eu H;have hbg:=aK Eu hbg;have r3:=aK Eu (hrow 3 _ rfl);refine kH H (YN h32 rfl (Pf h32 rfl (Kz bK (Cd rfl ?_ ?_)))) <;> clear H bK
  ·intro kM a H
   try have p40:=dT kM
   refine cu ?_;refine (leave0 H results135 ?_).1;exact H.hp.gM (L':=QV) (by repeat (first|exact iD _|apply List.Sublist.cons)) (.inr (hb2 (by simpa using kM)))
  intro kM a H
  try have p40:=dF kM
  refine kP H (Kc bA (SC (Rg qZ rfl (by assumption) ?_)));clear H bA;intro a H;refine kH H (Rm rfl (Ri mR jK rfl rfl (Rf MC rfl (Rg aG rfl (by assumption) ?_))));clear H;intro a H;refine bF aG 1 (vs:=[_]) _ H wn rfl rfl rfl rfl rfl rfl rfl rfl ?_;clear H;intro w H;dsimp only [List.set,setRow] at H;refine aH ?_;refine dw ((l[n].base,f',j1+1,QV,KM)) (by exact (H).sub ⟨rfl,rfl,rfl,rfl,aB⟩) ?_ ?_
  ·(try dsimp only);exact ⟨fun b o h=>Eu b o (hgm b o h),dX.step (hb1 (by simpa using kM)),by omega⟩
  first|omega|(dsimp only;omega)
 intro h23 a H
 try have rY:=dF h23
 refine dW ?_;refine (leave0 H results135 ?_).2;rw [ZT (by simpa using h23)] at dX;refine H.hp.gM (L':=Lt) (by repeat (first|exact iD _|apply List.Sublist.cons)) (.inl ?_);have h:=dX.len
 simp only [List.length_nil,sJ] at h
 rw [← h];exact dX.now
end
section
open Go.RowKit
theorem aaX:∀ args w,(callFunc 115 args).run prog w=.ok (.enter 115 args) w:=enters func115 rfl (by kernel_rfl)
theorem aaW:∀ args w,(callFunc 113 args).run prog w=.ok (.enter 113 args) w:=enters func113 rfl (by kernel_rfl)
theorem Mc:∀ args w,(callFunc 114 args).run prog w=.ok (.enter 114 args) w:=enters func114 rfl (by kernel_rfl)
theorem IY:bV prog 181 4 4:=⟨by kernel_rfl⟩
theorem ZV {G:GH} {w0:World} (hO:gW G [] w0) (l:List bM) (id:Int) (v:aj) (hv:av G (.sl 6 (l.map bM.dat)) v) :
  Calls prog 115 #[v,vi id] w0 (gF w0 G [] fun u G' L'=>∃ bl bi,u=.func (.func 135) #[] #[(aI bl 0),(aI bi 0)]∧L'=[bI bi id]∧aJ G' bl 0=some v):=by
 obtain ⟨A,c,rfl,hc1,hc2,-⟩:=hv.slice;refine jN (N:=6) (T:=[(0,_),(1,_)]) func115 rfl ntmps115 rfl rfl hO ?_;intro a H;refine cO (fun _ K1=>?_);refine fC (cs:=[_]) H wn rfl rfl rfl ?_;clear H;intro b2 a w hb2 H;refine fC (cs:=[_]) H wn rfl rfl rfl ?_;clear H;intro b3 a w hb3 H;refine kH H (ak K1 rfl (SR fun _ K2=>?_));clear H K1;intro a H;refine pO H wn rfl rfl ?_;clear H;intro a H;refine kH H (ak K2 rfl ?_);clear H K2;intro a H;refine lr H results115 rfl ?_;have H:=H.dU (Pl:=[_,_]) (cK:=[_,_]) [1,0] (by decide) rfl;obtain ⟨Ga,hma,hb2',H⟩:=H.dP;exact H.hp.eB ⟨b2,b3,rfl,rfl,by unfold aJ;rw [hb2'];rfl⟩
def qJ (p:Nat→Int):Nat→Nat→Int
 | _,0=>0
 | k,n+1=>if p k=0 then qJ p (k+1) n else p k
theorem acP {p:Nat→Int} {k m:Nat} (h:k < m):qJ p k (m - k)=if p k=0 then qJ p (k+1) (m - (k+1)) else p k:=by
 obtain ⟨n,hn⟩:∃ n,m - k=n+1:=⟨m - k - 1,by omega⟩;rw [hn,qJ,show m - (k+1)=n by omega]
theorem acO {p:Nat→Int} {k m:Nat} (h:m≤k):qJ p k (m - k)=0:=by rw [show m - k=0 by omega];rfl
theorem Td {p:Nat→Int}:∀ {n k:Nat},qJ p k n=0→∀ j,k≤j→j < k+n→p j=0
 | 0,k,_,j,h1,h2=>by omega
 | n+1,k,h,j,h1,h2=>by
  rw [qJ] at h;split at h
  ·rename_i hp
   by_cases e:j=k
   ·rw [e];exact hp
   exact Td h j (by omega) (by omega)
  rename_i hp;exact absurd h hp
def wU (l:List bM) (k:Nat):Int:=match l[k]? with|some s=>iy l k s|none=>0
theorem VY {l:List bM} {k:Nat} (h:k < l.length):wU l k=iy l k l[k]:=by unfold wU;rw [gP h]
def qH (l:List bM) (s:bM):Bool:=(decide (s.base≠0) && !Da l s.kind s.base) || (decide (s.next≠0) && (decide (s.kind=2) || !Da l 1 s.next))
def LW (l:List bM) (s:bM):Bool:=decide (l.length < (D8 l s.id).length)
def fT (l:List bM):Int:=if 128 < l.length then 9 else if qJ (wU l) 0 l.length≠0 then qJ (wU l) 0 l.length else if l.any (qH l)=true then 25 else if l.any (LW l)=true then 16 else 0
theorem agL {l:List bM} (h:qJ (wU l) 0 l.length=0) {k:Nat} (hk:k+1 < l.length):l[k].id < l[k+1].id:=by
 have h1:=Td h (k+1) (iK _) (by omega);rw [VY hk,iy,kD] at h1
 have hp:vL l (k+1)=some l[k].id:=by rw [vL,ah (by omega),Nat.add_sub_cancel,gP (by omega)];rfl
 rw [hp] at h1
 split at h1
 ·cases h1
 split at h1
 ·cases h1
 split at h1
 ·cases h1
 rename_i _ h2 h3
 have h2':¬ l[k].id=l[k+1].id:=fun e=>h2 (by rw [e]);have h3':¬ l[k+1].id < l[k].id:=fun e=>h3 (aC e)
 omega
theorem VZ {l:List bM} (h:qJ (wU l) 0 l.length=0):∀ {k j:Nat} (hk:k < l.length) (hj:j < k),l[j].id < l[k].id
 | k+1,j,hk,hj=>by
  have h1:=agL h hk
  by_cases e:j=k
  ·subst e;exact h1
  have:=VZ h (k:=k) (j:=j) (by omega) (by omega)
  omega
theorem V3 {l:List bM} (h:qJ (wU l) 0 l.length=0) (k:Nat) (hk:k < l.length):l[k].id∉(l.take k).map bM.id:=by
 intro hm;obtain ⟨x,hx1,hx2⟩:=List.mem_map.1 hm;obtain ⟨j,hj,rfl⟩:=List.getElem_of_mem hx1;rw [List.getElem_take] at hx2;rw [List.length_take] at hj;have:=VZ h hk (j:=j) (by omega)
 omega
theorem Fz {α:Type} {p:α→Bool} {l:List α} {k:Nat} (hk:k < l.length) (h:(l.take k).any p=false) (hp:p l[k]=false):(l.take (k+1)).any p=false:=by
 rw [jE hk,List.any_append,h];simp [hp]
theorem sK {α:Type} {p:α→Bool} {l:List α} {k:Nat} (hk:k < l.length) (hp:p l[k]=true):l.any p=true:=List.any_eq_true.2 ⟨_,iQ hk,hp⟩
theorem xH {α:Type} {p:α→Bool} {l:List α} {k:Nat} (hk:l.length≤k) (h:(l.take k).any p=false):¬ l.any p=true:=by
 rw [jA hk] at h;rw [h];decide
set_option maxHeartbeats 1000000 in
theorem Z9 (G:GH) (w0:World) (hG:Hold G w0) (l:List bM) (v:aj) (hv:av G (.sl 6 (l.map bM.dat)) v) (hN:∀ s∈l,s.name.size≤4611686018427387904) :
  Calls prog 80 #[v] w0 (bC w0 G fun u G'=>u=vi (fT l)):=by
 obtain ⟨A,c,rfl,hc1,hc2,-⟩:=hv.slice;have hml:maxLen=9223372036854775807:=rfl;rw [bT] at *;refine eN [(0,_)] func80 rfl ntmps80 rfl rfl hG ?_;intro a H;refine cO (fun _ K1=>?_);refine fC (cs:=[_]) H wn rfl rfl rfl ?_;clear H;intro b1 a w hb1 H;refine eU fV H wn rfl ?_;clear H;intro b2 a w hb2 H;refine K1 _ _ ?_;clear K1;refine kP H (SQ fun _ K2=>SR fun _ K3=>Ro qZ 1 rfl (Rl mR rfl (Rc rfl (Kz K3 (Cd rfl ?_ ?_))))) <;> clear H K3
 ·intro h12 a H
  try have oJ:=dT h12
  refine cO (fun _ K4=>?_);refine bF fV 0 (vs:=[_]) _ H wn rfl rfl rfl rfl rfl rfl rfl rfl ?_;clear H;intro w H;dsimp only [List.set,setRow] at H;refine K4 _ _ ?_;clear K4;refine cu ?_;refine (leave1 H results80 (.cons (sj fV H rfl (H.hp.mY 0 rfl rfl)) .nil) ?_).1
  first
   | exact H.rt (aA vi (by rw [fT,au (by omega)]))
   | exact H.rt (aA vi (by rw [ah (by simpa using gV)] at heq;rw [fT,ah (by omega),← heq,au (by simpa using gV)]))
   | exact H.rt (aA vi (by rw [fT,ah (by omega),ah (by rw [hok];decide),au hbad]))
   | exact H.rt (aA vi (by rw [fT,ah (by omega),ah (by rw [hok];decide),ah hbad,au (sK hj2 hI)]))
   | exact H.rt (aA vi (by rw [fT,ah (by omega),ah (by rw [hok];decide),ah hbad,ah (xH (by omega) hnc)]))
 intro h12 a H
 try have oJ:=dF h12
 refine kP H (Kc K2 (SQ fun _ K5=>SR fun _ K6=>Ro qZ 1 rfl (Rl mR rfl (Rm rfl (Kz K6 (SB ?_))))));clear H K2 K6;intro a H;skip;refine eZ (ι:=Nat × GH) (Tc:=[(1,_),(2,_),(14,_)]) (Lc:=[(_,_),(_,_)]) (fun gh=>[(15,vi gh.1)]) (fun gh=>[]) (fun gh=>gh.2) (fun gh=>gh.1≤l.length∧qJ (wU l) gh.1 (l.length - gh.1)=qJ (wU l) 0 l.length∧(∀ b o,G b=some o→gh.2 b=some o)) (fun gh=>l.length - gh.1) ((0,G)) (by exact (H).sub ⟨rfl,rfl,rfl,rfl,aB⟩) ?_ ?_
 ·exact ⟨iK _,rfl,fun _ _ h=>h⟩
 clear H;intro gh a w hI H;obtain ⟨k,g⟩:=gh;dsimp only at hI H;obtain ⟨hk,heq,hgm⟩:=hI;dsimp only [lca,aZ] at H;refine kP H (SR fun _ K7=>Rc rfl (Kz K7 (SQ fun _ K8=>Cd rfl ?_ ?_))) <;> clear H K7
 ·intro h16 a H
  try have p16:=dT h16
  have hk2:k < l.length:=by omega
  rw [acP hk2,VY hk2] at heq;refine kP H (Kc K8 (SQ fun _ K9=>SB (SR fun _ aS=>Rm rfl (ak aS rfl (SR fun _ bA=>Ro qZ 1 rfl (Rm rfl ?_))))));clear H K8 aS;intro a H;refine s_call aaW H wn rfl (agM _ _ H.ro l k _ (hv.mono hgm) hk2 (hN _ (iQ hk2))) rfl ?_;clear H;rintro v20 DK a w rfl Bf H;refine kH H (ak bA rfl (SR fun _ bK=>Rm rfl (Rc rfl (Kz bK (Cd rfl ?_ ?_))))) <;> clear H bA bK
  ·intro h22 a H
   try have gV:=dT h22
   refine kP H (SR fun _ bR=>Rm rfl ?_);clear H;intro a H;refine bF fV 0 (vs:=[_]) _ H wn rfl rfl rfl rfl rfl rfl rfl rfl ?_;clear H;intro w H;dsimp only [List.set,setRow] at H;refine bR _ _ ?_;clear bR;refine cu ?_;refine (leave1 H results80 (.cons (sj fV H rfl (H.hp.mY 0 rfl rfl)) .nil) ?_).1
   first
    | exact H.rt (aA vi (by rw [fT,au (by omega)]))
    | exact H.rt (aA vi (by rw [ah (by simpa using gV)] at heq;rw [fT,ah (by omega),← heq,au (by simpa using gV)]))
    | exact H.rt (aA vi (by rw [fT,ah (by omega),ah (by rw [hok];decide),au hbad]))
    | exact H.rt (aA vi (by rw [fT,ah (by omega),ah (by rw [hok];decide),ah hbad,au (sK hj2 hI)]))
    | exact H.rt (aA vi (by rw [fT,ah (by omega),ah (by rw [hok];decide),ah hbad,ah (xH (by omega) hnc)]))
  intro h22 a H
  try have gV:=dF h22
  refine kP H (Kc K9 (SC (Rd rfl (Rm rfl ?_))));clear H K9;intro a H;refine aH ?_;refine dw ((k+1,DK)) (by exact (H).sub ⟨rfl,rfl,rfl,rfl,aB⟩) ?_ ?_
  ·(try dsimp only);exact ⟨by omega,by rw [au (by simpa using gV)] at heq;exact heq,fun b o h=>Bf b o (hgm b o h)⟩
  first|omega|(dsimp only;omega)
 intro h16 a H
 try have p16:=dF h16
 have hok:qJ (wU l) 0 l.length=0:=by rw [← heq];exact acO (by omega)
 clear heq;have CZ:=hv.mono hgm;refine dW ?_;refine K5 _ _ ?_;clear K5;refine kP H (SQ fun _ bP=>SR fun _ dJ=>Ro qZ 1 rfl (Rl mR rfl (Rm rfl (Kz dJ (SB ?_)))));clear H dJ;intro a H;skip;refine eZ (ι:=Nat × GH) (Tc:=[(1,_),(2,_),(25,_),(26,_)]) (Lc:=[(_,_),(_,_)]) (fun gh=>[(27,vi gh.1)]) (fun gh=>[]) (fun gh=>gh.2) (fun gh=>gh.1≤l.length∧(l.take gh.1).any (qH l)=false∧(∀ b o,g b=some o→gh.2 b=some o)) (fun gh=>l.length - gh.1) ((0,g)) (by exact (H).sub ⟨rfl,rfl,rfl,rfl,rfl,aB⟩) ?_ ?_
 ·exact ⟨iK _,rfl,fun _ _ h=>h⟩
 clear H;intro gh a w hI H;obtain ⟨k,g2⟩:=gh;dsimp only at hI H;obtain ⟨hk3,hno,nR⟩:=hI;have wP:=CZ.mono nR;dsimp only [lca,aZ] at H;refine kP H (SR fun _ dN=>Rc rfl (Kz dN (SQ fun _ dx=>Cd rfl ?_ ?_))) <;> clear H dN
 ·intro eP a H
  try have p28:=dT eP
  have hk4:k < l.length:=by omega
  obtain ⟨b,o,pA,pc,rfl,hrow,hp,hrep⟩:=Ae wP hk4;refine kP H (Kc dx (SQ fun _ eu=>SB (SR fun _ gy=>Ri mR jK rfl rfl ?_)));clear H dx;intro a H;refine bD jK (cs:=[_,_,_,_,_,_]) H wn rfl rfl (fun j v hj=>H.hp.aJ (hrow j v hj)) rfl ?_;clear H;intro a H;refine eU jK H wn rfl ?_;clear H;intro b6 a w hb6 H;refine bF jK 0 (vs:=[_,_,_,_,_,_]) _ H wn rfl rfl rfl rfl rfl rfl rfl rfl ?_;clear H;intro w H;dsimp only [List.set,setRow] at H;refine gy _ _ ?_;clear gy;refine kP H (SR fun _ fu=>aR MC aG 0 rfl rfl (Rc rfl (Rm rfl (Sp 34 rfl ?_ ?_)))) <;> clear H
  ·intro fM a H
   try have p34:=dT fM
   refine kH H (YO qZ 2 fM rfl (YF vk fM rfl (YO aG 0 fM rfl (YF MC fM rfl (YO aG 0 fM rfl ?_)))));clear H;intro a H;refine s_call Mc H (wg H rfl rfl fM) rfl (Om _ _ H.ro l l[k].kind l[k].base _ wP) rfl ?_;clear H;rintro v40 g2 a w rfl Bg H;replace nR:=fun b o (h:g b=some o)=>Bg b o (nR b o h);replace wP:=wP.mono Bg;refine kH H (YN fM rfl (Pt fM rfl (Rm rfl (Sp 43 rfl ?_ ?_)))) <;> clear H
   ·intro h43 a H
    try have p43:=dT h43
    refine kH H (aP h43 rfl (aP h43 rfl (Ku rfl (Ku rfl (Ku rfl (Ku rfl (Ku rfl (Ku rfl (Ku rfl (Ku rfl (Ku rfl (Ku rfl (Ks h43 rfl (Pt h43 rfl (Kz fu (Ct rfl rfl (SQ fun _ gD=>?_)))))))))))))))));clear H fu;intro a H;have hbad:l.any (qH l)=true:=sK hk4 (by unfold qH;simp_all);refine oz ?_;refine bF fV 1 (vs:=[_]) _ H wn rfl rfl rfl rfl rfl rfl rfl rfl ?_;clear H;intro w H;dsimp only [List.set,setRow] at H;refine aH ?_;refine gD _ _ ?_;clear gD;refine cu ?_;refine (leave1 H results80 (.cons (sj fV H rfl (H.hp.mY 1 rfl rfl)) .nil) ?_).1
    first
     | exact H.rt (aA vi (by rw [fT,au (by omega)]))
     | exact H.rt (aA vi (by rw [ah (by simpa using gV)] at heq;rw [fT,ah (by omega),← heq,au (by simpa using gV)]))
     | exact H.rt (aA vi (by rw [fT,ah (by omega),ah (by rw [hok];decide),au hbad]))
     | exact H.rt (aA vi (by rw [fT,ah (by omega),ah (by rw [hok];decide),ah hbad,au (sK hj2 hI)]))
     | exact H.rt (aA vi (by rw [fT,ah (by omega),ah (by rw [hok];decide),ah hbad,ah (xH (by omega) hnc)]))
   intro h43 a H
   try have p43:=dF h43
   refine kH H (YF IY h43 rfl (YO aG 0 h43 rfl (YC h43 rfl (YM h43 rfl (Sp 47 rfl ?_ ?_))))) <;> clear H
   ·intro h47 a H
    try have p47:=dT h47
    refine kH H (YF vk h47 rfl (YO aG 0 h47 rfl (YC h47 rfl (YM h47 rfl (Sp 51 rfl ?_ ?_))))) <;> clear H
    ·intro iT a H
     try have p51:=dT iT
     refine kH H (aX iT rfl (aP iT rfl (PT h47 iT rfl (PT h43 h47 rfl (Pf h43 rfl (Kz fu (Ct rfl rfl (SQ fun _ jc=>?_))))))));clear H fu;intro a H;have hbad:l.any (qH l)=true:=sK hk4 (by unfold qH;simp_all);refine oz ?_;refine bF fV 1 (vs:=[_]) _ H wn rfl rfl rfl rfl rfl rfl rfl rfl ?_;clear H;intro w H;dsimp only [List.set,setRow] at H;refine aH ?_;refine jc _ _ ?_;clear jc;refine cu ?_;refine (leave1 H results80 (.cons (sj fV H rfl (H.hp.mY 1 rfl rfl)) .nil) ?_).1
     first
      | exact H.rt (aA vi (by rw [fT,au (by omega)]))
      | exact H.rt (aA vi (by rw [ah (by simpa using gV)] at heq;rw [fT,ah (by omega),← heq,au (by simpa using gV)]))
      | exact H.rt (aA vi (by rw [fT,ah (by omega),ah (by rw [hok];decide),au hbad]))
      | exact H.rt (aA vi (by rw [fT,ah (by omega),ah (by rw [hok];decide),ah hbad,au (sK hj2 hI)]))
      | exact H.rt (aA vi (by rw [fT,ah (by omega),ah (by rw [hok];decide),ah hbad,ah (xH (by omega) hnc)]))
    intro iT a H
    try have p51:=dF iT
    refine kH H (YO qZ 2 iT rfl (YF IY iT rfl (YO aG 0 iT rfl ?_)));clear H;intro a H;refine s_call Mc H (wg H rfl rfl iT) rfl (Om _ _ H.ro l 1 l[k].next _ wP) rfl ?_;clear H;rintro v55 g2 a w rfl tq H;replace nR:=fun b o (h:g b=some o)=>tq b o (nR b o h);replace wP:=wP.mono tq;refine kH H (YN iT rfl (PF h47 iT rfl (PT h43 h47 rfl (Pf h43 rfl (Kz fu (Cd rfl ?_ ?_)))))) <;> clear H fu
    ·intro gX a H
     try have p59:=dT gX
     refine bq (fun _ kg=>?_);have hbad:l.any (qH l)=true:=sK hk4 (by unfold qH;simp_all);refine oz ?_;refine bF fV 1 (vs:=[_]) _ H wn rfl rfl rfl rfl rfl rfl rfl rfl ?_;clear H;intro w H;dsimp only [List.set,setRow] at H;refine aH ?_;refine kg _ _ ?_;clear kg;refine cu ?_;refine (leave1 H results80 (.cons (sj fV H rfl (H.hp.mY 1 rfl rfl)) .nil) ?_).1
     first
      | exact H.rt (aA vi (by rw [fT,au (by omega)]))
      | exact H.rt (aA vi (by rw [ah (by simpa using gV)] at heq;rw [fT,ah (by omega),← heq,au (by simpa using gV)]))
      | exact H.rt (aA vi (by rw [fT,ah (by omega),ah (by rw [hok];decide),au hbad]))
      | exact H.rt (aA vi (by rw [fT,ah (by omega),ah (by rw [hok];decide),ah hbad,au (sK hj2 hI)]))
      | exact H.rt (aA vi (by rw [fT,ah (by omega),ah (by rw [hok];decide),ah hbad,ah (xH (by omega) hnc)]))
    intro gX a H
    try have p59:=dF gX
    refine kP H (Kc eu (SC (Rd rfl (Rm rfl ?_))));clear H eu;intro a H;refine aH ?_;refine dw ((k+1,g2)) (by exact (H.dU (Pl:=[_,_,_]) (cK:=[_,_]) [1,2] (by decide) rfl).sub ⟨rfl,rfl,rfl,rfl,rfl,aB⟩) ?_ ?_
    ·(try dsimp only);exact ⟨by omega,Fz hk4 hno (by unfold qH;simp_all),nR⟩
    first|omega|(dsimp only;omega)
   intro h47 a H
   try have p47:=dF h47
   refine kH H (aP h47 rfl (aP h47 rfl (Ku rfl (Ku rfl (Ku rfl (Ku rfl (Ku rfl (Ks h47 rfl (PF h43 h47 rfl (Pf h43 rfl (Kz fu (Cf rfl rfl (Kc eu (SC (Rd rfl (Rm rfl ?_))))))))))))))));clear H fu eu;intro a H;refine aH ?_;refine dw ((k+1,g2)) (by exact (H.dU (Pl:=[_,_,_]) (cK:=[_,_]) [1,2] (by decide) rfl).sub ⟨rfl,rfl,rfl,rfl,rfl,aB⟩) ?_ ?_
   ·(try dsimp only);exact ⟨by omega,Fz hk4 hno (by unfold qH;simp_all),nR⟩
   first|omega|(dsimp only;omega)
  intro fM a H
  try have p34:=dF fM
  refine kH H (aX fM rfl (aP fM rfl (aP fM rfl (Pf fM rfl (Rm rfl ?_)))));clear H;intro a H;refine GY IY H (wg H rfl rfl rfl) rfl rfl ?_;clear H;intro a H;refine uM aG H (wg H rfl rfl rfl) rfl (H.hp.mY 0 rfl rfl) rfl ?_;clear H;intro a H;refine GX H (wg H rfl rfl rfl) rfl rfl rfl rfl ?_;clear H;intro a H;refine GZ H (wg H rfl rfl rfl) rfl rfl ?_;clear H;intro a H;refine Pq H 47 rfl ?_ ?_
  ·intro h47
   try have p47:=dT h47
   refine kH H (YF vk h47 rfl (YO aG 0 h47 rfl (YC h47 rfl (YM h47 rfl (Sp 51 rfl ?_ ?_))))) <;> clear H
   ·intro iT a H
    try have p51:=dT iT
    refine kH H (aX iT rfl (aP iT rfl (PT h47 iT rfl ?_)));clear H;intro a H;refine He H (wg H rfl rfl rfl) rfl h47 rfl rfl ?_;clear H;intro a H;refine kH H (Pf rfl rfl (Kz fu (Ct rfl rfl (SQ fun _ jR=>?_))));clear H fu;intro a H;have hbad:l.any (qH l)=true:=sK hk4 (by unfold qH;simp_all);refine oz ?_;refine bF fV 1 (vs:=[_]) _ H wn rfl rfl rfl rfl rfl rfl rfl rfl ?_;clear H;intro w H;dsimp only [List.set,setRow] at H;refine aH ?_;refine jR _ _ ?_;clear jR;refine cu ?_;refine (leave1 H results80 (.cons (sj fV H rfl (H.hp.mY 1 rfl rfl)) .nil) ?_).1
    first
     | exact H.rt (aA vi (by rw [fT,au (by omega)]))
     | exact H.rt (aA vi (by rw [ah (by simpa using gV)] at heq;rw [fT,ah (by omega),← heq,au (by simpa using gV)]))
     | exact H.rt (aA vi (by rw [fT,ah (by omega),ah (by rw [hok];decide),au hbad]))
     | exact H.rt (aA vi (by rw [fT,ah (by omega),ah (by rw [hok];decide),ah hbad,au (sK hj2 hI)]))
     | exact H.rt (aA vi (by rw [fT,ah (by omega),ah (by rw [hok];decide),ah hbad,ah (xH (by omega) hnc)]))
   intro iT a H
   try have p51:=dF iT
   refine kH H (YO qZ 2 iT rfl (YF IY iT rfl (YO aG 0 iT rfl ?_)));clear H;intro a H;refine s_call Mc H (wg H rfl rfl iT) rfl (Om _ _ H.ro l 1 l[k].next _ wP) rfl ?_;clear H;rintro v55 g2 a w rfl tq H;replace nR:=fun b o (h:g b=some o)=>tq b o (nR b o h);replace wP:=wP.mono tq;refine kH H (YN iT rfl (PF h47 iT rfl ?_));clear H;intro a H;refine He H (wg H rfl rfl rfl) rfl h47 rfl rfl ?_;clear H;intro a H;refine kH H (Pf rfl rfl (Kz fu (Cd rfl ?_ ?_))) <;> clear H fu
   ·intro gX a H
    try have p59:=dT gX
    refine bq (fun _ jy=>?_);have hbad:l.any (qH l)=true:=sK hk4 (by unfold qH;simp_all);refine oz ?_;refine bF fV 1 (vs:=[_]) _ H wn rfl rfl rfl rfl rfl rfl rfl rfl ?_;clear H;intro w H;dsimp only [List.set,setRow] at H;refine aH ?_;refine jy _ _ ?_;clear jy;refine cu ?_;refine (leave1 H results80 (.cons (sj fV H rfl (H.hp.mY 1 rfl rfl)) .nil) ?_).1
    first
     | exact H.rt (aA vi (by rw [fT,au (by omega)]))
     | exact H.rt (aA vi (by rw [ah (by simpa using gV)] at heq;rw [fT,ah (by omega),← heq,au (by simpa using gV)]))
     | exact H.rt (aA vi (by rw [fT,ah (by omega),ah (by rw [hok];decide),au hbad]))
     | exact H.rt (aA vi (by rw [fT,ah (by omega),ah (by rw [hok];decide),ah hbad,au (sK hj2 hI)]))
     | exact H.rt (aA vi (by rw [fT,ah (by omega),ah (by rw [hok];decide),ah hbad,ah (xH (by omega) hnc)]))
   intro gX a H
   try have p59:=dF gX
   refine kP H (Kc eu (SC (Rd rfl (Rm rfl ?_))));clear H eu;intro a H;refine aH ?_;refine dw ((k+1,g2)) (by exact (H.dU (Pl:=[_,_,_]) (cK:=[_,_]) [1,2] (by decide) rfl).sub ⟨rfl,rfl,rfl,rfl,rfl,aB⟩) ?_ ?_
   ·(try dsimp only);exact ⟨by omega,Fz hk4 hno (by unfold qH;simp_all),nR⟩
   first|omega|(dsimp only;omega)
  intro h47
  try have p47:=dF h47
  refine kH H (aP h47 rfl (aP h47 rfl (Ku rfl (Ku rfl (Ku rfl (Ku rfl (Ku rfl (Ks h47 rfl ?_))))))));clear H;intro a H;refine J9 H (wg H rfl rfl rfl) rfl h47 rfl rfl ?_;clear H;intro a H;refine kH H (Pf rfl rfl (Kz fu (Cf rfl rfl (Kc eu (SC (Rd rfl (Rm rfl ?_)))))));clear H fu eu;intro a H;refine aH ?_;refine dw ((k+1,g2)) (by exact (H.dU (Pl:=[_,_,_]) (cK:=[_,_]) [1,2] (by decide) rfl).sub ⟨rfl,rfl,rfl,rfl,rfl,aB⟩) ?_ ?_
  ·(try dsimp only);exact ⟨by omega,Fz hk4 hno (by unfold qH;simp_all),nR⟩
  first|omega|(dsimp only;omega)
 intro eP a H
 try have p28:=dF eP
 have hbad:=xH (by omega) hno;refine dW ?_;refine bP _ _ ?_;clear bP;refine kP H (SQ fun _ kE=>SR fun _ kF=>Ro qZ 1 rfl (Rl mR rfl (Rm rfl (Kz kF (SB ?_)))));clear H kF;intro a H;skip;refine ZA (ι:=Nat × GH × List Nat) (Tc:=[(1,_),(2,_),(61,_),(62,_)]) (Lc:=[(_,_),(_,_)]) (fun gh=>OD gh.2.2) (fun gh=>[(63,vi gh.1)]) (fun gh=>[]++(Dj gh.2.2++[])) (fun gh=>gh.2.1) (fun gh=>gh.1≤l.length∧(l.take gh.1).any (LW l)=false∧(∀ b o,g2 b=some o→gh.2.1 b=some o)) (fun gh=>l.length - gh.1) ((0,g2,[])) (by exact (H).sub ⟨rfl,rfl,rfl,rfl,rfl,aB⟩) ?_ ?_
 ·exact ⟨iK _,rfl,fun _ _ h=>h⟩
 clear H;intro gh a w hI H;obtain ⟨j,g3,ds⟩:=gh;dsimp only at hI H;obtain ⟨hj,hnc,zN⟩:=hI;have Oh:=wP.mono zN;dsimp only [lca,aZ] at H;refine kP H (SR fun _ jd=>Rc rfl (Kz jd (SQ fun _ nL=>Cd rfl ?_ ?_))) <;> clear H jd
 ·intro h64 a H
  try have p64:=dT h64
  have hj2:j < l.length:=by omega
  obtain ⟨b,o,pA,pc,rfl,hrow,hp,hrep⟩:=Ae Oh hj2;refine kP H (Kc nL (SQ fun _ og=>SB (SR fun _ oP=>Ri mR jK rfl rfl ?_)));clear H nL;intro a H;refine bD jK (cs:=[_,_,_,_,_,_]) H wn rfl rfl (fun j v hj=>H.hp.aJ (hrow j v hj)) rfl ?_;clear H;intro a H;refine eU jK H wn rfl ?_;clear H;intro b8 a w F9 H;refine bF jK 0 (vs:=[_,_,_,_,_,_]) _ H wn rfl rfl rfl rfl rfl rfl rfl rfl ?_;clear H;intro w H;dsimp only [List.set,setRow] at H;refine oP _ _ ?_;clear oP;refine cO (fun _ pW=>?_);refine eU aG H wn rfl ?_;clear H;intro b9 a w xW H;refine bF aG 0 (vs:=[_]) _ H wn rfl rfl rfl rfl rfl rfl rfl rfl ?_;clear H;intro w H;dsimp only [List.set,setRow] at H;refine pW _ _ ?_;clear pW;refine kP H (SR fun _ oQ=>Ro qZ 3 rfl (aR sP aG 1 rfl rfl ?_));clear H;intro a H;refine gN aaX (Li:=[_,_,_,_]++Dj ds) (L:=[]) (St.un (A:=[_,_,_,_]) H) wn rfl (ZV (Hp.owns (Li:=[_,_,_,_]++Dj ds) (St.un (A:=[_,_,_,_]) H).hp) l l[j].id _ Oh) rfl ?_;clear H;rintro v70 g4 L70 a w ⟨bl,bi,rfl,rfl,hbl⟩ Uv H;have H:=(St.VQ (A:=[_,_,_,_,_]) (B:=Dj ds) (H.perm yX));dsimp only [lca,aZ] at H;have hit:=ZU (l:=l) (id:=l[j].id) (bi:=bi) hbl (Oh.mono Uv) (V3 hok);refine oQ _ _ ?_;clear oQ;refine xK ?_;skip;refine ZE (B:=[(_,_)]) (ι:=Unit) (κ:=Int) (Lc:=[(_,_),(_,_)]) (fun (k:Nat) (gh:Unit)=>[(b9,.cells #[vi k] 3 (0,0)),(b2,.cells #[vi 0] 56 (0,0))]) (fun (k:Nat) (gh:Unit)=>(Dj ds++[])) (fun (k:Nat) (gh:Unit) (g:GH)=>k≤l.length) (fun (gx:Int)=>Code.ret) (fun (gx:Int)=>[(b9,.cells #[vi gx] 3 (0,0)),(b2,.cells #[vi 16] 56 (0,0))]) (fun (gx:Int)=>(Dj ds++[])) (fun (gx:Int) (g:GH)=>LW l l[j]=true) (()) (by exact H.dU (Pl:=[_,_,_,_,_]) (cK:=[_,_,_,_,_]) [0,2,4,1,3] (by decide) rfl) rfl Sk (hit) (fun _ _ h=>h) (fun e i g h=>absurd (of_decide_eq_false e) (by rw [bT] at h;omega)) rfl (fun k args g h=>by obtain ⟨_,_,rfl,_⟩:=Xh h;rfl) (fun _ _ _ _ _ h=>h) (fun _ _ _ _ h=>h) (iK _) ?_ ?_ ?_
  ·clear H;intro l21 Bp xJ bk k args gh KJ w21 F21 X9 a Uq wH hI aev aeW afp H;obtain ⟨Uq,ajt,rfl,akc⟩:=Xh Uq;dsimp only [vW,List.cons_append,List.nil_append] at H;refine fO ?_;refine aev _ _ _ _ _ _ (by exact H) ?_;clear H;intro w H;refine kP H (SB (SR fun _ rE=>Ro aG 3 rfl (Rd rfl ?_)));clear H;intro a H;refine bF aG 3 (vs:=[_]) _ H wn rfl rfl rfl rfl rfl rfl rfl rfl ?_;clear H;intro w H;dsimp only [List.set,setRow] at H;refine rE _ _ ?_;clear rE;refine kP H (SR fun _ tV=>Ro aG 3 rfl (Ro qZ 2 rfl (Rl mR rfl (Rc rfl (Kz tV (Cd rfl ?_ ?_)))))) <;> clear H tV
   ·intro CF a H
    try have EI:=dT CF
    refine cO (fun _ qE=>?_);refine bF fV 4 (vs:=[_]) _ H wn rfl rfl rfl rfl rfl rfl rfl rfl ?_;clear H;intro w H;dsimp only [List.set,setRow] at H;refine qE _ _ ?_;clear qE;refine cu ?_;refine (afp ((k:Int)+1) _ _ _ _ _ (by exact H) ?_).1 rfl;exact jT (by omega)
   intro CF a H
   try have EI:=dF CF
   refine fO ?_;refine aeW (()) _ _ _ _ _ (by exact H) ?_
   omega
  ·clear H;intro Qg gh Qo a w wH hI H;dsimp only [lca,aZ] at H;refine og _ _ ?_;clear og;refine kP H (SC (Rd rfl (Rm rfl ?_)));clear H;intro a H;refine aH ?_;refine agi ((j+1,Qo,Qg :: ds)) (by exact (H.dU (Pl:=[_,_,_,_,_]) (cK:=[_,_,_]) [4,2,0] (by decide) rfl).sub ⟨rfl,rfl,rfl,rfl,rfl,aB⟩) ?_ ?_
   ·(try dsimp only);exact ⟨by omega,Fz hj2 hnc (jm (by rw [bT] at hI;omega)),fun b o h=>wH b o (Uv b o (zN b o h))⟩
   first|omega|(dsimp only;omega)
  clear H;intro Qg gx Qo a w wH hI H;obtain ⟨x,hgh⟩:∃ x,x=gx:=⟨_,rfl⟩;subst hgh;dsimp only [lca,aZ] at H;refine cu ?_;refine (GK H 0 rfl ?_).1;clear H;intro a w H;dsimp only [List.eraseIdx_cons_succ,List.eraseIdx_cons_zero] at H;refine (Ox (Lh:=[_,_,_,_]) _ H ?_).1;clear H;intro a w H;dsimp only [lca,aZ] at H;refine (leave1 H results80 (.cons (sj fV H rfl (H.hp.mY 3 rfl rfl)) .nil) ?_).1
  first
   | exact H.rt (aA vi (by rw [fT,au (by omega)]))
   | exact H.rt (aA vi (by rw [ah (by simpa using gV)] at heq;rw [fT,ah (by omega),← heq,au (by simpa using gV)]))
   | exact H.rt (aA vi (by rw [fT,ah (by omega),ah (by rw [hok];decide),au hbad]))
   | exact H.rt (aA vi (by rw [fT,ah (by omega),ah (by rw [hok];decide),ah hbad,au (sK hj2 hI)]))
   | exact H.rt (aA vi (by rw [fT,ah (by omega),ah (by rw [hok];decide),ah hbad,ah (xH (by omega) hnc)]))
 intro h64 a H
 try have p64:=dF h64
 refine dW ?_;refine kE _ _ ?_;clear kE;refine cO (fun _ vT=>?_);refine bF fV 0 (vs:=[_]) _ H wn rfl rfl rfl rfl rfl rfl rfl rfl ?_;clear H;intro w H;dsimp only [List.set,setRow] at H;refine vT _ _ ?_;clear vT;refine cu ?_;refine (Ox (Lh:=[_,_]) _ H ?_).1;clear H;intro a w H;dsimp only [lca,aZ] at H;refine (leave1 H results80 (.cons (sj fV H rfl (H.hp.mY 0 rfl rfl)) .nil) ?_).1
 first
  | exact H.rt (aA vi (by rw [fT,au (by omega)]))
  | exact H.rt (aA vi (by rw [ah (by simpa using gV)] at heq;rw [fT,ah (by omega),← heq,au (by simpa using gV)]))
  | exact H.rt (aA vi (by rw [fT,ah (by omega),ah (by rw [hok];decide),au hbad]))
  | exact H.rt (aA vi (by rw [fT,ah (by omega),ah (by rw [hok];decide),ah hbad,au (sK hj2 hI)]))
  | exact H.rt (aA vi (by rw [fT,ah (by omega),ah (by rw [hok];decide),ah hbad,ah (xH (by omega) hnc)]))
end
section
open Go.RowKit
theorem vP:Ty prog 34 1 24 [.slice none 0 0] false:=⟨by kernel_rfl,by kernel_rfl⟩
theorem xq:prog.underlying 34=some (.slice 219):=by kernel_rfl
theorem Bz:Ty prog 219 2 32 [.string ⟨#[]⟩,.string ⟨#[]⟩] true:=⟨by kernel_rfl,by kernel_rfl⟩
theorem Eh:bV prog 219 0 0:=⟨by kernel_rfl⟩
theorem Me:∀ args w,(callFunc 124 args).run prog w=.ok (.enter 124 args) w:=enters func124 rfl (by kernel_rfl)
theorem Tw:bV prog 219 1 1:=⟨by kernel_rfl⟩
theorem ME:bV prog 36 0 0:=⟨by kernel_rfl⟩
theorem acs:∀ args w,(callFunc 80 args).run prog w=.ok (.enter 80 args) w:=enters func80 rfl (by kernel_rfl)
theorem MF:bV prog 36 1 1:=⟨by kernel_rfl⟩
theorem acu:∀ args w,(callFunc 81 args).run prog w=.ok (.enter 81 args) w:=enters func81 rfl (by kernel_rfl)
theorem TB:bV prog 36 2 2:=⟨by kernel_rfl⟩
theorem acv:∀ args w,(callFunc 82 args).run prog w=.ok (.enter 82 args) w:=enters func82 rfl (by kernel_rfl)
theorem TD:bV prog 36 3 3:=⟨by kernel_rfl⟩
theorem acw:∀ args w,(callFunc 83 args).run prog w=.ok (.enter 83 args) w:=enters func83 rfl (by kernel_rfl)
theorem abg:∀ args w,(callFunc 123 args).run prog w=.ok (.enter 123 args) w:=enters func123 rfl (by kernel_rfl)
theorem XA {G:GH} {l:List lC} {A:Option Addr} {n c k:Nat} (hv:av G (.sl 2 (l.map lC.dat)) (.slice A n c)) (hk:k < l.length):∃ b o,A=some ⟨b,o,none⟩∧(∀ j u,l[k].cells[j]?=some u→aJ G b (o+k*2+j)=some u):=by
 obtain ⟨A',c',he,_,_,hg⟩:=hv.slice
 injection he with e1 e2 e3
 subst e1;obtain ⟨b,o,cs,h1,h2,h3,h4⟩:=hg k l[k].dat (by simp [hk]);have:=aiW h4;subst this;exact ⟨b,o,h1,h3⟩
def Xz (k:Nat) (x:lC) (pn:ByteArray):Int:=cZ [bW (!oC x.name) 13,bW (decide (0 < (k:Int)) && (x.name.toList == pn.toList)) 7,bW (decide (0 < (k:Int)) && Op.bytesLess x.name.toList pn.toList) 6,Af x.value]
def EZ (l:List lC) (k:Nat):Int:=match l[k]? with|some x=>Xz k x ((l[k - 1]?.map lC.name).getD ⟨#[]⟩)|none=>0
set_option maxHeartbeats 2000000 in
theorem aiV {G:GH} {bl:Nat} {l:List lC} {A:Option Addr} {n c:Nat} (hb:aJ G bl 0=some (.slice A n c)) (hv:av G (.sl 2 (l.map lC.dat)) (.slice A n c)) (hl:l.length≤4294967296) (ht:∀ x∈l,x.name.size < 4611686018427387904∧x.value.size < 4611686018427387904):qD (.func (.func 123) #[] #[(aI bl 0)]) G l.length (EZ l):=by
 intro k hk G1 w0 hm hG;refine lZ (caps:=[(aI bl 0)]) abg ?_;replace hb:=aK hm hb;replace hv:=hv.mono hm
 obtain rfl:n=l.length:=by have:=hv.len;simpa using this
 obtain ⟨b,o,rfl,hrow⟩:=XA hv hk
 have hk1:k - 1 < l.length:=by omega
 obtain ⟨b',o',he',hrow'⟩:=XA hv hk1
 injection he' with he'
 injection he' with e1 e2
 subst e1;subst e2;have hte:=ht _ (iQ hk)
 have he:EZ l k=Xz k l[k] l[k - 1].name:=by unfold EZ;rw [gP hk,gP hk1];rfl
 obtain ⟨x,hx⟩:∃ x,x=l[k]:=⟨_,rfl⟩;obtain ⟨y,hy⟩:∃ y,y=l[k - 1]:=⟨_,rfl⟩;rw [← hx] at hrow hte he;rw [← hy] at hrow' he;refine eN [(0,_),(1,_)] func123 rfl ntmps123 rfl rfl hG ?_;intro a H;refine kP H (SR fun _ K1=>ak K1 rfl (SQ fun _ K2=>?_));clear H K1;intro a H;have H:=H.sub (T':=[(0,_),(1,_)]) ⟨rfl,rfl,aB⟩
 by_cases c0:0 < (k:Int)
 ·skip;refine dI hmx [[],[],[0,1],[0,1,2],(ra 0 4),(ra 0 5),(ra 0 6),(ra 0 7),[],[8],(ra 0 10),(ra 0 11),(ra 0 11),(ra 0 13),(ra 0 14),(ra 0 15),(ra 0 11),(ra 0 11),(ra 0 11++[17]),(ra 0 11++[17,18]),(ra 0 11++ra 16 4),(ra 0 11++ra 16 5),(ra 0 11++ra 16 6),(ra 0 23),(ra 0 24),(ra 0 25),[],[26],(ra 0 28),(ra 0 29),(ra 0 29),(ra 0 31),(ra 0 32),(ra 0 33),(ra 0 29),(ra 0 29),(ra 0 29++[35]),(ra 0 29++[35,36]),(ra 0 29++ra 34 4),(ra 0 29++ra 34 5),(ra 0 29++ra 34 6),(ra 0 41),(ra 0 42),(ra 0 43),[],[],[44,45],[44,45,46],(ra 44 4),(ra 0 49),(ra 0 50),(ra 0 51),(ra 0 52)] [50,51,52] (by kernel_rfl) [_,_,_,_,_,.bool (oC x.name),_,vi (bW (!oC x.name) 13),_,_,_,_,_,_,_,_,_,_,vi ((max k 1:Nat):Int),vi ((k - 1:Nat):Int),_,_,_,.bool (x.name.toList == y.name.toList),.bool (decide (0 < (k:Int)) && (x.name.toList == y.name.toList)),vi (bW (decide (0 < (k:Int)) && (x.name.toList == y.name.toList)) 7),_,_,_,_,_,_,_,_,_,_,vi ((max k 1:Nat):Int),vi ((k - 1:Nat):Int),_,_,_,.bool (Op.bytesLess x.name.toList y.name.toList),.bool (decide (0 < (k:Int)) && Op.bytesLess x.name.toList y.name.toList),vi (bW (decide (0 < (k:Int)) && Op.bytesLess x.name.toList y.name.toList) 6),_,_,_,_,_,vi (Af x.value)] H (aD (X0 rfl fun hG=>Rg vP rfl (aK hG hb)) (Z0 rfl (Rm rfl)) (Z2 0 4 1 5 rfl (Ri xq Bz rfl rfl)) (Z1 2 6 rfl (Rf Eh rfl)) (aD (X1 3 7 rfl fun hG=>Rg fZ rfl (aK hG (hrow 0 _ rfl))) ?_ (Z1 5 9 rfl (Rn rfl)) ?_ (aD (Z0 rfl (Rm rfl)) (Z1 8 12 rfl (Rc rfl)) (Z1 9 13 rfl (Rm rfl)) (X1 10 14 rfl fun hG=>YR vP (aC c0) rfl (aK hG hb)) (aD (Z1 10 14 rfl (YM (aC c0) rfl)) (Z3 11 15 12 16 10 14 rfl (YI xq Bz (aC c0) rfl rfl)) (Z2 13 17 10 14 rfl (YF Eh (aC c0) rfl)) (X2 14 18 10 14 rfl fun hG=>YR fZ (aC c0) rfl (aK hG (hrow 0 _ rfl))) (aD (X1 10 14 rfl fun hG=>YR vP (aC c0) rfl (aK hG hb)) (Z1 10 14 rfl (YM (aC c0) rfl)) ?_ ?_ (aD (Z3 16 20 19 23 10 14 rfl (YI xq Bz (aC c0) rfl rfl)) (Z2 20 24 10 14 rfl (YF Eh (aC c0) rfl)) (X2 21 25 10 14 rfl fun hG=>YR fZ (aC c0) rfl (aK hG (hrow' 0 _ rfl))) ?_ (aD ?_ ?_ (Z0 rfl (Rm rfl)) (Z1 26 30 rfl (Rc rfl)) (aD (Z1 27 31 rfl (Rm rfl)) (X1 28 32 rfl fun hG=>YR vP (aC c0) rfl (aK hG hb)) (Z1 28 32 rfl (YM (aC c0) rfl)) (Z3 29 33 30 34 28 32 rfl (YI xq Bz (aC c0) rfl rfl)) (aD (Z2 31 35 28 32 rfl (YF Eh (aC c0) rfl)) (X2 32 36 28 32 rfl fun hG=>YR fZ (aC c0) rfl (aK hG (hrow 0 _ rfl))) (X1 28 32 rfl fun hG=>YR vP (aC c0) rfl (aK hG hb)) (Z1 28 32 rfl (YM (aC c0) rfl)) (aD ?_ ?_ (Z3 34 38 37 41 28 32 rfl (YI xq Bz (aC c0) rfl rfl)) (Z2 38 42 28 32 rfl (YF Eh (aC c0) rfl)) (aD (X2 39 43 28 32 rfl fun hG=>YR fZ (aC c0) rfl (aK hG (hrow' 0 _ rfl))) ?_ ?_ ?_ (aD (X0 rfl fun hG=>Rg vP rfl (aK hG hb)) (Z0 rfl (Rm rfl)) (Z2 44 48 45 49 rfl (Ri xq Bz rfl rfl)) (Z1 46 50 rfl (Rf Tw rfl)) (aD (X1 47 51 rfl fun hG=>Rg fZ rfl (aK hG (hrow 1 _ rfl))) ?_ (bL rfl) (bL rfl) (aW (bL rfl) bY)))))))))))))) ?_
  ·refine dL 4 8 rfl rfl fun _ a w G1 hG HT H fin=>?_;refine s_call Me H wn rfl (LV _ _ H.ro x.name hte.1) rfl ?_;clear H;rintro v9 G9 a w ⟨rfl,-⟩ F5 H;exact fin H F5 (rfl)
  ·refine dL 6 10 rfl rfl fun _ a w G1 hG HT H fin=>?_;refine s_call iL H wn rfl (iN _ _ H.ro _ 13) rfl ?_;clear H;rintro v11 vS a w ⟨rfl,-⟩ jH H;exact fin H jH (rfl)
  ·refine dz 17 21 10 14 rfl rfl fun _ a w G1 hG HT H fin=>?_;refine J7 H (wg H rfl rfl (aC c0)) rfl rfl rfl ?_;clear H;intro a H;exact fin H iJ (by show _=_;first|rfl|exact aA vi (by omega))
  ·refine dz 18 22 10 14 rfl rfl fun _ a w G1 hG HT H fin=>?_;refine mF _ H (wg H rfl rfl (aC c0)) rfl rfl rfl (by omega) (by omega) rfl ?_;clear H;intro a H;exact fin H iJ (by show _=_;first|rfl|exact aA vi (by omega))
  ·refine qF 15 19 22 26 10 14 rfl rfl fun _ a w G1 hG HT H fin=>?_;refine Bt H (wg H rfl rfl (aC c0)) rfl rfl rfl ?_;clear H;intro a H;exact fin H iJ rfl
  ·refine dz 10 14 23 27 rfl rfl fun _ a w G1 hG HT H fin=>?_;refine kH H (Pt (aC c0) rfl ?_);clear H;intro a H;exact fin H iJ (aF (by first|(rw [jT c0,Cg];done)|(rw [jm c0,tY];done)))
  ·refine dL 24 28 rfl rfl fun _ a w G1 hG HT H fin=>?_;refine s_call iL H wn rfl (iN _ _ H.ro _ 7) rfl ?_;clear H;rintro v29 Qj a w ⟨rfl,-⟩ M9 H;exact fin H M9 (rfl)
  ·refine dz 35 39 28 32 rfl rfl fun _ a w G1 hG HT H fin=>?_;refine J7 H (wg H rfl rfl (aC c0)) rfl rfl rfl ?_;clear H;intro a H;exact fin H iJ (by show _=_;first|rfl|exact aA vi (by omega))
  ·refine dz 36 40 28 32 rfl rfl fun _ a w G1 hG HT H fin=>?_;refine mF _ H (wg H rfl rfl (aC c0)) rfl rfl rfl (by omega) (by omega) rfl ?_;clear H;intro a H;exact fin H iJ (by show _=_;first|rfl|exact aA vi (by omega))
  ·refine qF 33 37 40 44 28 32 rfl rfl fun _ a w G1 hG HT H fin=>?_;refine ahG H (wg H rfl rfl (aC c0)) rfl rfl rfl ?_;clear H;intro a H;exact fin H iJ rfl
  ·refine dz 28 32 41 45 rfl rfl fun _ a w G1 hG HT H fin=>?_;refine kH H (Pt (aC c0) rfl ?_);clear H;intro a H;exact fin H iJ (aF (by first|(rw [jT c0,Cg];done)|(rw [jm c0,tY];done)))
  ·refine dL 42 46 rfl rfl fun _ a w G1 hG HT H fin=>?_;refine s_call iL H wn rfl (iN _ _ H.ro _ 6) rfl ?_;clear H;rintro v47 Yl a w ⟨rfl,-⟩ Nc H;exact fin H Nc (rfl)
  ·refine dL 48 52 rfl rfl fun _ a w G1 hG HT H fin=>?_;refine s_call Md H wn rfl (PS _ _ H.ro x.value hte.2) rfl ?_;clear H;rintro v53 Yn a w rfl Nf H;exact fin H Nf (rfl)
  clear H;intro a w G mJ H hv;have H:=H.aQ (hv 7 11 rfl rfl) rfl;have H:=H.aQ (hv 25 29 rfl rfl) rfl;have H:=H.aQ (hv 43 47 rfl rfl) rfl;have H:=H.aQ (hv 49 53 rfl rfl) rfl;clear hv;refine gQ nJ fV [_,_,_,_] [_,_,_,_] H wn rfl rfl rfl rfl rfl (by intro i q h;match i,h with|0,h=>exact h|1,h=>exact h|2,h=>exact h|3,h=>exact h|n+4,h=>simp at h) rfl rfl ?_;clear H;intro Zl a w aer H;obtain ⟨Yo,aeO,Nv,H⟩:=H.dP;refine s_call oD H wn rfl (oF _ _ H.ro _ _ (C9 [bW (!oC x.name) 13,bW (decide (0 < (k:Int)) && (x.name.toList == y.name.toList)) 7,bW (decide (0 < (k:Int)) && Op.bytesLess x.name.toList y.name.toList) 6,Af x.value] Nv (show 4≤maxLen by decide))) rfl ?_;clear H;rintro v55 _ a w ⟨rfl,rfl⟩ - H;refine kH H (Ra rfl ?_);clear H;intro a H;refine aH ⟨rfl,?_⟩;refine K2 _ _ ?_;clear K2;refine lr H results123 rfl ?_;exact H.rt (by rw [he];rfl)
 skip;refine dI hmx [[],[],[0,1],[0,1,2],(ra 0 4),(ra 0 5),(ra 0 6),(ra 0 7),[],[8],(ra 0 10),(ra 0 11),(ra 0 11),(ra 0 13),(ra 0 14),(ra 0 15),(ra 0 11),(ra 0 11),(ra 0 11++[17]),(ra 0 11++[17,18]),(ra 0 11++ra 16 4),(ra 0 11++ra 16 5),(ra 0 11++ra 16 6),(ra 0 23),(ra 0 24),(ra 0 25),[],[26],(ra 0 28),(ra 0 29),(ra 0 29),(ra 0 31),(ra 0 32),(ra 0 33),(ra 0 29),(ra 0 29),(ra 0 29++[35]),(ra 0 29++[35,36]),(ra 0 29++ra 34 4),(ra 0 29++ra 34 5),(ra 0 29++ra 34 6),(ra 0 41),(ra 0 42),(ra 0 43),[],[],[44,45],[44,45,46],(ra 44 4),(ra 0 49),(ra 0 50),(ra 0 51),(ra 0 52)] [50,51,52] (by kernel_rfl) [_,_,_,_,_,.bool (oC x.name),_,vi (bW (!oC x.name) 13),_,_,_,undef,undef,undef,undef,undef,undef,undef,undef,undef,undef,undef,undef,undef,.bool (decide (0 < (k:Int)) && (x.name.toList == y.name.toList)),vi (bW (decide (0 < (k:Int)) && (x.name.toList == y.name.toList)) 7),_,_,_,undef,undef,undef,undef,undef,undef,undef,undef,undef,undef,undef,undef,undef,.bool (decide (0 < (k:Int)) && Op.bytesLess x.name.toList y.name.toList),vi (bW (decide (0 < (k:Int)) && Op.bytesLess x.name.toList y.name.toList) 6),_,_,_,_,_,vi (Af x.value)] H (aD (X0 rfl fun hG=>Rg vP rfl (aK hG hb)) (Z0 rfl (Rm rfl)) (Z2 0 4 1 5 rfl (Ri xq Bz rfl rfl)) (Z1 2 6 rfl (Rf Eh rfl)) (aD (X1 3 7 rfl fun hG=>Rg fZ rfl (aK hG (hrow 0 _ rfl))) ?_ (Z1 5 9 rfl (Rn rfl)) ?_ (aD (Z0 rfl (Rm rfl)) (Z1 8 12 rfl (Rc rfl)) (Z1 9 13 rfl (Rm rfl)) (aL (j:=10) (by kernel_rfl) (fun _ _ _ _ _ h=>h) rfl rfl rfl rfl rfl (fun _ _ h=>aN h (aF (aO c0))) rfl (fun _=>rfl)) (aD (aL (j:=10) (by kernel_rfl) (fun _ _ _ _ _ h=>h) rfl rfl rfl rfl rfl (fun _ _ h=>aN h (aF (aO c0))) rfl (fun _=>rfl)) (aL (j:=10) (by kernel_rfl) (fun _ _ _ _ _ h=>h) rfl rfl rfl rfl rfl (fun _ _ h=>aN h (aF (aO c0))) rfl (fun _=>rfl)) (aL (j:=10) (by kernel_rfl) (fun _ _ _ _ _ h=>h) rfl rfl rfl rfl rfl (fun _ _ h=>aN h (aF (aO c0))) rfl (fun _=>rfl)) (aL (j:=10) (by kernel_rfl) (fun _ _ _ _ _ h=>h) rfl rfl rfl rfl rfl (fun _ _ h=>aN h (aF (aO c0))) rfl (fun _=>rfl)) (aD (aL (j:=10) (by kernel_rfl) (fun _ _ _ _ _ h=>h) rfl rfl rfl rfl rfl (fun _ _ h=>aN h (aF (aO c0))) rfl (fun _=>rfl)) (aL (j:=10) (by kernel_rfl) (fun _ _ _ _ _ h=>h) rfl rfl rfl rfl rfl (fun _ _ h=>aN h (aF (aO c0))) rfl (fun _=>rfl)) (aL (j:=10) (by kernel_rfl) (fun _ _ _ _ _ h=>h) rfl rfl rfl rfl rfl (fun _ _ h=>aN h (aF (aO c0))) rfl (fun _=>rfl)) (aL (j:=10) (by kernel_rfl) (fun _ _ _ _ _ h=>h) rfl rfl rfl rfl rfl (fun _ _ h=>aN h (aF (aO c0))) rfl (fun _=>rfl)) (aD (aL (j:=10) (by kernel_rfl) (fun _ _ _ _ _ h=>h) rfl rfl rfl rfl rfl (fun _ _ h=>aN h (aF (aO c0))) rfl (fun _=>rfl)) (aL (j:=10) (by kernel_rfl) (fun _ _ _ _ _ h=>h) rfl rfl rfl rfl rfl (fun _ _ h=>aN h (aF (aO c0))) rfl (fun _=>rfl)) (aL (j:=10) (by kernel_rfl) (fun _ _ _ _ _ h=>h) rfl rfl rfl rfl rfl (fun _ _ h=>aN h (aF (aO c0))) rfl (fun _=>rfl)) (aL (j:=10) (by kernel_rfl) (fun _ _ _ _ _ h=>h) rfl rfl rfl rfl rfl (fun _ _ h=>aN h (aF (aO c0))) rfl (fun _=>rfl)) (aD ?_ ?_ (Z0 rfl (Rm rfl)) (Z1 26 30 rfl (Rc rfl)) (aD (Z1 27 31 rfl (Rm rfl)) (aL (j:=28) (by kernel_rfl) (fun _ _ _ _ _ h=>h) rfl rfl rfl rfl rfl (fun _ _ h=>aN h (aF (aO c0))) rfl (fun _=>rfl)) (aL (j:=28) (by kernel_rfl) (fun _ _ _ _ _ h=>h) rfl rfl rfl rfl rfl (fun _ _ h=>aN h (aF (aO c0))) rfl (fun _=>rfl)) (aL (j:=28) (by kernel_rfl) (fun _ _ _ _ _ h=>h) rfl rfl rfl rfl rfl (fun _ _ h=>aN h (aF (aO c0))) rfl (fun _=>rfl)) (aD (aL (j:=28) (by kernel_rfl) (fun _ _ _ _ _ h=>h) rfl rfl rfl rfl rfl (fun _ _ h=>aN h (aF (aO c0))) rfl (fun _=>rfl)) (aL (j:=28) (by kernel_rfl) (fun _ _ _ _ _ h=>h) rfl rfl rfl rfl rfl (fun _ _ h=>aN h (aF (aO c0))) rfl (fun _=>rfl)) (aL (j:=28) (by kernel_rfl) (fun _ _ _ _ _ h=>h) rfl rfl rfl rfl rfl (fun _ _ h=>aN h (aF (aO c0))) rfl (fun _=>rfl)) (aL (j:=28) (by kernel_rfl) (fun _ _ _ _ _ h=>h) rfl rfl rfl rfl rfl (fun _ _ h=>aN h (aF (aO c0))) rfl (fun _=>rfl)) (aD (aL (j:=28) (by kernel_rfl) (fun _ _ _ _ _ h=>h) rfl rfl rfl rfl rfl (fun _ _ h=>aN h (aF (aO c0))) rfl (fun _=>rfl)) (aL (j:=28) (by kernel_rfl) (fun _ _ _ _ _ h=>h) rfl rfl rfl rfl rfl (fun _ _ h=>aN h (aF (aO c0))) rfl (fun _=>rfl)) (aL (j:=28) (by kernel_rfl) (fun _ _ _ _ _ h=>h) rfl rfl rfl rfl rfl (fun _ _ h=>aN h (aF (aO c0))) rfl (fun _=>rfl)) (aL (j:=28) (by kernel_rfl) (fun _ _ _ _ _ h=>h) rfl rfl rfl rfl rfl (fun _ _ h=>aN h (aF (aO c0))) rfl (fun _=>rfl)) (aD (aL (j:=28) (by kernel_rfl) (fun _ _ _ _ _ h=>h) rfl rfl rfl rfl rfl (fun _ _ h=>aN h (aF (aO c0))) rfl (fun _=>rfl)) (aL (j:=28) (by kernel_rfl) (fun _ _ _ _ _ h=>h) rfl rfl rfl rfl rfl (fun _ _ h=>aN h (aF (aO c0))) rfl (fun _=>rfl)) ?_ ?_ (aD (X0 rfl fun hG=>Rg vP rfl (aK hG hb)) (Z0 rfl (Rm rfl)) (Z2 44 48 45 49 rfl (Ri xq Bz rfl rfl)) (Z1 46 50 rfl (Rf Tw rfl)) (aD (X1 47 51 rfl fun hG=>Rg fZ rfl (aK hG (hrow 1 _ rfl))) ?_ (bL rfl) (bL rfl) (aW (bL rfl) bY)))))))))))))) ?_
 ·refine dL 4 8 rfl rfl fun _ a w G1 hG HT H fin=>?_;refine s_call Me H wn rfl (LV _ _ H.ro x.name hte.1) rfl ?_;clear H;rintro v9 G9 a w ⟨rfl,-⟩ F5 H;exact fin H F5 (rfl)
 ·refine dL 6 10 rfl rfl fun _ a w G1 hG HT H fin=>?_;refine s_call iL H wn rfl (iN _ _ H.ro _ 13) rfl ?_;clear H;rintro v11 vS a w ⟨rfl,-⟩ jH H;exact fin H jH (rfl)
 ·refine dz 10 14 23 27 rfl rfl fun _ a w G1 hG HT H fin=>?_;refine kH H (Pf (aO c0) rfl ?_);clear H;intro a H;exact fin H iJ (aF (by first|(rw [jT c0,Cg];done)|(rw [jm c0,tY];done)))
 ·refine dL 24 28 rfl rfl fun _ a w G1 hG HT H fin=>?_;refine s_call iL H wn rfl (iN _ _ H.ro _ 7) rfl ?_;clear H;rintro v29 Qj a w ⟨rfl,-⟩ M9 H;exact fin H M9 (rfl)
 ·refine dz 28 32 41 45 rfl rfl fun _ a w G1 hG HT H fin=>?_;refine kH H (Pf (aO c0) rfl ?_);clear H;intro a H;exact fin H iJ (aF (by first|(rw [jT c0,Cg];done)|(rw [jm c0,tY];done)))
 ·refine dL 42 46 rfl rfl fun _ a w G1 hG HT H fin=>?_;refine s_call iL H wn rfl (iN _ _ H.ro _ 6) rfl ?_;clear H;rintro v47 Yl a w ⟨rfl,-⟩ Nc H;exact fin H Nc (rfl)
 ·refine dL 48 52 rfl rfl fun _ a w G1 hG HT H fin=>?_;refine s_call Md H wn rfl (PS _ _ H.ro x.value hte.2) rfl ?_;clear H;rintro v53 Yn a w rfl Nf H;exact fin H Nf (rfl)
 clear H;intro a w G mJ H hv;have H:=H.aQ (hv 7 11 rfl rfl) rfl;have H:=H.aQ (hv 25 29 rfl rfl) rfl;have H:=H.aQ (hv 43 47 rfl rfl) rfl;have H:=H.aQ (hv 49 53 rfl rfl) rfl;clear hv;refine gQ nJ fV [_,_,_,_] [_,_,_,_] H wn rfl rfl rfl rfl rfl (by intro i q h;match i,h with|0,h=>exact h|1,h=>exact h|2,h=>exact h|3,h=>exact h|n+4,h=>simp at h) rfl rfl ?_;clear H;intro Zl a w aer H;obtain ⟨Yo,aeO,Nv,H⟩:=H.dP;refine s_call oD H wn rfl (oF _ _ H.ro _ _ (C9 [bW (!oC x.name) 13,bW (decide (0 < (k:Int)) && (x.name.toList == y.name.toList)) 7,bW (decide (0 < (k:Int)) && Op.bytesLess x.name.toList y.name.toList) 6,Af x.value] Nv (show 4≤maxLen by decide))) rfl ?_;clear H;rintro v55 _ a w ⟨rfl,rfl⟩ - H;refine kH H (Ra rfl ?_);clear H;intro a H;refine aH ⟨rfl,?_⟩;refine K2 _ _ ?_;clear K2;refine lr H results123 rfl ?_;exact H.rt (by rw [he];rfl)
def IJ (l:List lC):Int:=cZ [bW (decide (128 < (l.length:Int))) 9,jM (EZ l) (min l.length 128)]
theorem Z6 (G:GH) (w0:World) (hG:Hold G w0) (l:List lC) (v:aj) (hv:av G (.sl 2 (l.map lC.dat)) v) (hl:l.length≤4294967296) (ht:∀ x∈l,x.name.size < 4611686018427387904∧x.value.size < 4611686018427387904) :
  Calls prog 83 #[v] w0 (bC w0 G fun u G'=>u=vi (IJ l)):=by
 obtain ⟨A,c,rfl,hc1,hc2,-⟩:=hv.slice;rw [bT] at *;refine eN [(0,_)] func83 rfl ntmps83 rfl rfl hG ?_;intro a H;refine cO (fun _ K1=>?_);refine fC (cs:=[_]) H wn rfl rfl rfl ?_;clear H;intro b1 a w hb1 H;refine kH H (ak K1 rfl (SQ fun _ K2=>?_));clear H K1;intro a H;have H:=H.sub (T':=[(1,_)]) ⟨rfl,aB⟩;obtain ⟨Ga,hma,hb1',H⟩:=H.dP
 have hbl:aJ Ga b1 0=some (.slice A l.length c):=by unfold aJ;rw [hb1'];rfl
 have hcb:=aiV hbl (hv.mono hma) hl ht;refine dI hmx [[],[0],[0,1],[0,1,2],[],[4],[4,5],[],(ra 0 8),(ra 0 9),(ra 0 10),(ra 0 11)] [9,10,11] (by kernel_rfl) [_,_,_,vi (bW (decide (128 < (l.length:Int))) 9),_,_,vi ((min l.length 128:Nat):Int),.func (.func 123) #[] #[(aI b1 0)],vi (jM (EZ l) (min l.length 128))] H (aD (X0 rfl fun hG=>Rg vP rfl (aK hG hbl)) (Z1 0 3 rfl (Rl xq rfl)) (Z1 1 4 rfl (Rc rfl)) ?_ (aD (X0 rfl fun hG=>Rg vP rfl (aK hG hbl)) (Z1 4 7 rfl (Rl xq rfl)) ?_ ?_ (aD ?_ (bL rfl) (bL rfl) (bL rfl) bY))) ?_
 ·refine dL 2 5 rfl rfl fun _ a w G1 hG HT H fin=>?_;refine s_call iL H wn rfl (iN _ _ H.ro _ 9) rfl ?_;clear H;rintro v6 G6 a w ⟨rfl,-⟩ gH H;exact fin H gH (rfl)
 ·refine dL 5 8 rfl rfl fun _ a w G1 hG HT H fin=>?_;refine J8 H wn rfl rfl rfl ?_;clear H;intro a H;exact fin H iJ (aA vi (by omega))
 ·refine yO rfl fun _ a w G1 hG HT H fin=>?_;refine pO H wn rfl rfl ?_;clear H;intro a H;exact fin H iJ rfl
 ·refine dz 6 9 7 10 rfl rfl fun _ a w G1 hG HT H fin=>?_;refine s_call Ec H wn rfl (Fx _ _ H.ro (min l.length 128) (EZ l) _ (by omega) ((hcb.mono hG).le (Nat.min_le_left _ _))) rfl ?_;clear H;rintro v11 vS a w rfl jH H;exact fin H jH (rfl)
 clear H;intro a w G mJ H hv;have H:=H.aQ (hv 3 6 rfl rfl) rfl;have H:=H.aQ (hv 8 11 rfl rfl) rfl;clear hv;refine gQ nJ fV [_,_] [_,_] H wn rfl rfl rfl rfl rfl (by intro i q h;match i,h with|0,h=>exact h|1,h=>exact h|n+2,h=>simp at h) rfl rfl ?_;clear H;intro b12 a w Bc H;obtain ⟨Au,CP,CK,H⟩:=H.dP;refine s_call oD H wn rfl (oF _ _ H.ro _ _ (vN CK)) rfl ?_;clear H;rintro v13 _ a w ⟨rfl,rfl⟩ - H;refine kH H (Ra rfl ?_);clear H;intro a H;refine aH ⟨rfl,?_⟩;refine K2 _ _ ?_;clear K2;refine lr H results83 rfl ?_;exact H.rt rfl
structure yP where
 styles:List bM
 lists:List fI
 comments:List iA
 vars:List lC
structure DU (G:GH) (s:yP) (a b c d:aj):Prop where
 st:av G (.sl 6 (s.styles.map bM.dat)) a
 li:av G (.sl 2 (s.lists.map fI.dat)) b
 cm:av G (.sl 6 (s.comments.map iA.dat)) c
 va:av G (.sl 2 (s.vars.map lC.dat)) d
structure KX (s:yP):Prop where
 sn:∀ x∈s.styles,x.name.size≤4611686018427387904
 ln:s.lists.length≤4294967296
 lt:∀ x∈s.lists,∀ y∈x.levels,y.wZ.size < 4611686018427387904
 cn:s.comments.length≤4294967296
 ct:∀ x∈s.comments,x.author.size < 4611686018427387904∧x.text.size < 4611686018427387904
 vn:s.vars.length≤4294967296
 vt:∀ x∈s.vars,x.name.size < 4611686018427387904∧x.value.size < 4611686018427387904
def II (s:yP):Int:=cZ [fT s.styles,FC s.lists,IG s.comments,IJ s.vars]
theorem Z5 (G:GH) (w0:World) (hG:Hold G w0) (s:yP) (a b c d:aj) (hR:DU G s a b c d) (hz:KX s) :
  Calls prog 55 #[.agg #[a,b,c,d]] w0 (bC w0 G fun u G'=>u=vi (II s)):=by
 obtain ⟨sA,sn,sc,rfl⟩:=hR.st.form;obtain ⟨lA,ln,lc,rfl⟩:=hR.li.form;obtain ⟨cA,cn,cc,rfl⟩:=hR.cm.form;obtain ⟨vA,vn,vc,rfl⟩:=hR.va.form;refine eN [(0,_)] func55 rfl ntmps55 rfl rfl hG ?_;intro a H;refine cO (fun _ K1=>?_);refine fC (cs:=[_,_,_,_]) H wn rfl rfl rfl ?_;clear H;intro b1 a w hb1 H;refine kH H (ak K1 rfl (SQ fun _ K2=>?_));clear H K1;intro a H;have H:=H.sub (T':=[(1,_)]) ⟨rfl,aB⟩;obtain ⟨Ga,hma,hb1',H⟩:=H.dP
 have hc0:aJ Ga b1 0=some (.slice sA sn sc):=by unfold aJ;rw [hb1'];rfl
 have hc1:aJ Ga b1 1=some (.slice lA ln lc):=by unfold aJ;rw [hb1'];rfl
 have hc2:aJ Ga b1 2=some (.slice cA cn cc):=by unfold aJ;rw [hb1'];rfl
 have hc3:aJ Ga b1 3=some (.slice vA vn vc):=by unfold aJ;rw [hb1'];rfl
 refine dI hmx [[],[0],[0,1],[],[3],(ra 0 5),[],[6],(ra 0 8),[],[9],(ra 0 11),(ra 0 12),(ra 0 13),(ra 0 14)] [12,13,14] (by kernel_rfl) [_,_,vi (fT s.styles),_,_,vi (FC s.lists),_,_,vi (IG s.comments),_,_,vi (IJ s.vars)] H (aD (Z0 rfl (Rf ME rfl)) (X1 0 3 rfl fun hG=>Rg qZ rfl (aK hG hc0)) ?_ (Z0 rfl (Rf MF rfl)) (aD (X1 3 6 rfl fun hG=>Rg Dy rfl (aK hG hc1)) ?_ (Z0 rfl (Rf TB rfl)) (X1 6 9 rfl fun hG=>Rg Dz rfl (aK hG hc2)) (aD ?_ (Z0 rfl (Rf TD rfl)) (X1 9 12 rfl fun hG=>Rg vP rfl (aK hG hc3)) ?_ (aW (bL rfl) (aW (bL rfl) (aW (bL rfl) bY)))))) ?_
 ·refine dL 1 4 rfl rfl fun _ a w G1 hG HT H fin=>?_;refine s_call acs H wn rfl (Z9 _ _ H.ro s.styles _ ((hR.st.mono hma).mono hG) hz.sn) rfl ?_;clear H;rintro v5 G5 a w rfl AZ H;exact fin H AZ (rfl)
 ·refine dL 4 7 rfl rfl fun _ a w G1 hG HT H fin=>?_;refine s_call acu H wn rfl (ZY _ _ H.ro s.lists _ ((hR.li.mono hma).mono hG) hz.ln hz.lt) rfl ?_;clear H;rintro v8 G8 a w rfl qK H;exact fin H qK (rfl)
 ·refine dL 7 10 rfl rfl fun _ a w G1 hG HT H fin=>?_;refine s_call acv H wn rfl (ZW _ _ H.ro s.comments _ ((hR.cm.mono hma).mono hG) hz.cn hz.ct) rfl ?_;clear H;rintro v11 vS a w rfl jH H;exact fin H jH (rfl)
 ·refine dL 10 13 rfl rfl fun _ a w G1 hG HT H fin=>?_;refine s_call acw H wn rfl (Z6 _ _ H.ro s.vars _ ((hR.va.mono hma).mono hG) hz.vn hz.vt) rfl ?_;clear H;rintro v14 E8 a w rfl FZ H;exact fin H FZ (rfl)
 clear H;intro a w G mJ H hv;have H:=H.aQ (hv 2 5 rfl rfl) rfl;have H:=H.aQ (hv 5 8 rfl rfl) rfl;have H:=H.aQ (hv 8 11 rfl rfl) rfl;have H:=H.aQ (hv 11 14 rfl rfl) rfl;clear hv;refine gQ nJ fV [_,_,_,_] [_,_,_,_] H wn rfl rfl rfl rfl rfl (by intro i q h;match i,h with|0,h=>exact h|1,h=>exact h|2,h=>exact h|3,h=>exact h|n+4,h=>simp at h) rfl rfl ?_;clear H;intro b15 a w ael H;obtain ⟨BP,qL,aem,H⟩:=H.dP;refine s_call oD H wn rfl (oF _ _ H.ro _ _ (C9 [fT s.styles,FC s.lists,IG s.comments,IJ s.vars] aem (show 4≤maxLen by decide))) rfl ?_;clear H;rintro v16 _ a w ⟨rfl,rfl⟩ - H;refine kH H (Ra rfl ?_);clear H;intro a H;refine aH ⟨rfl,?_⟩;refine K2 _ _ ?_;clear K2;refine lr H results55 rfl ?_;exact H.rt rfl
end
section
open Go.RowKit
def tK:Nat→List (Int × aj)→List MapEntry
 | _,[]=>[]
 | i,(k,v) :: r=>⟨.int .i64 k,v,i⟩ :: tK (i+1) r
theorem Vz (x:Int × aj):∀ (i:Nat) (l:List (Int × aj)),tK i (l++[x])=tK i l++[⟨.int .i64 x.1,x.2,i+l.length⟩]
 | _,[]=>rfl
 | i,k :: r=>by
  rw [nC,tK,Vz x (i+1) r,tK,nC,nA,show i+1+r.length=i+(r.length+1) by omega]
def qp (x:Int):List (Int × aj)→Option aj
 | []=>none
 | (k,v) :: r=>if k=x then some v else qp x r
theorem JH {x:Int}:∀ {l:List (Int × aj)},x∉l.map (·.1)→qp x l=none
 | [],_=>rfl
 | (k,v) :: r,h=>by
  rw [qp,ah (fun e=>h (by simp [e])),JH (fun hm=>h (jU _ hm))]
theorem MI (x:Int):∀ (i j:Nat) (l:List (Int × aj)),∃ an,Instr.findNow (.int .i64) (.int .i64 x) (tK i l) j=some an∧an.map (·.2)=qp x l
 | _,_,[]=>⟨none,rfl,rfl⟩
 | i,j,(k,v) :: r=>by
  obtain ⟨an,h1,h2⟩:=MI x (i+1) (j+1) r
  by_cases e:k=x
  ·subst e
   exact ⟨some (j,v),by simp only [tK,Instr.findNow,Instr.sameNow,au,beq_self_eq_true],by rw [qp,au rfl];rfl⟩
  ·have hb:(x == k)=false:=by simp;exact fun h=>e h.symm
   exact ⟨an,by simpa only [tK,Instr.findNow,Instr.sameNow,au,hb] using h1,by rw [qp,ah e];exact h2⟩
abbrev fB (l:List (Int × aj)):Obj:=.map (tK 0 l).toArray l.length
section
variable {N:Nat} {D:List Deferred} {w0:World} {F:Nat→Prop} {G0 G:GH} {L:OL} {T:List (Nat × aj)}
variable {r:Option Nat} {P:Program} {ops:Array Oper} {Q:Exit→Act→World→Prop} {rest:List Oper} {a:Act} {w:World}
variable {d:Nat} {ty:TypeId} {pos:String} {aM:Array Edge} {g:Option (Nat × Bool)}
theorem wX {t kt et:TypeId} {x y:Operand} {b:Nat} {l:List (Int × aj)} {ky:Int} {zv:aj} (hm:P.underlying t=some (.map kt et)) (hk:P.underlying kt=some (.int .i64)) (hz:(P.info? et).map (fun i=>i.zero)=some (some zv)) (H:St N D w0 F G0 G L T a w)
  (hw:Region.wanted ⟨some d,.lookup t x y false,ty,pos,aM,g⟩ (yielded ops a.tmps)=true) (hx:ev T x=some (.map (some b))) (hy:ev T y=some (.int .i64 ky)) (hb:w.heap[b]?=some (fB l)) (hd:Nat.blt d N=true)
  (k:∀ a',St N D w0 F G0 G L ((d,(qp ky l).getD zv) :: T) a' w→WL r P ops Q rest a' w):WL r P ops Q (⟨some d,.lookup t x y false,ty,pos,aM,g⟩ :: rest) a w:=by
 obtain ⟨an,hf,han⟩:=MI ky 0 0 l
 obtain ⟨inf,hi1,hi2⟩:=lD.1 hz
 refine fF (v:=(qp ky l).getD zv) (w':=w) hw rfl ?_ (k _ (H.put hd _ H.hp))
 have hkey:MapKept.IsKey (.int .i64) (.int .i64 ky):=by trivial
 have hf2:Instr.findNow (.int .i64) (.int .i64 ky) (tK 0 l).toArray.toList 0=some an:=by simpa using hf
 replace hb:w.heap[b]?=some (.map (tK 0 l).toArray l.length):=hb
 generalize (tK 0 l).toArray=es at hb hf2
 have h1:=MapKept.run_checkKey (P:=P) (w:=w) hk hkey es.isEmpty 9999
 have h2:=MapKept.run_findKey (P:=P) (w:=w) hk hf2
 rw [← han]
 cases an with
 | none=>simp [execOp,Instr.lookup,H.ev hx,H.ev hy,bX,lq hm,MapKept.run_getObj_map hb,h1,h2,Result.andThen,zeroValue,zZ hi1,hi2]
 | some q=>simp [execOp,Instr.lookup,H.ev hx,H.ev hy,bX,lq hm,MapKept.run_getObj_map hb,h1,h2,Result.andThen]
theorem Ka {t kt et:TypeId} {x y z:Operand} {b i:Nat} {l:List (Int × aj)} {ky:Int} {v:aj} (hm:P.underlying t=some (.map kt et)) (hk:P.underlying kt=some (.int .i64)) (H:St N D w0 F G0 G L T a w)
  (hw:Region.wanted ⟨none,.mapUpdate t x y z,ty,pos,aM,g⟩ (yielded ops a.tmps)=true) (hx:ev T x=some (.map (some b))) (hy:ev T y=some (.int .i64 ky)) (hzv:ev T z=some v) (hi:L[i]?=some (b,fB l)) (hn:qp ky l=none)
  (k:∀ w',St N D w0 F G0 G (L.set i (b,fB (l++[(ky,v)]))) T a w'→WL r P ops Q rest a w'):WL r P ops Q (⟨none,.mapUpdate t x y z,ty,pos,aM,g⟩ :: rest) a w:=by
 obtain ⟨an,hf,han⟩:=MI ky 0 0 l
 have hnone:an=none:=by
  rw [hn] at han
  cases an with
  | none=>rfl
  | some q=>cases han
 subst hnone
 refine WB (i:=i) hm hk H hw hx hy hzv hi (by trivial) (by simpa using hf) ?_
 intro w' H'
 have e:(tK 0 l).toArray.push ⟨.int .i64 ky,v,l.length⟩=(tK 0 (l++[(ky,v)])).toArray:=by
  rw [Vz,List.push_toArray,kK]
 refine k w' ?_
 rw [e] at H'
 rw [fB,lH]
 exact H'
end
end
end Go.Proofs.YteopmoocmoigcaaGreat
