/-
  What the claim stands on, part 3: Lfl Dv Lpc Scn By Lps Lcl Dst Sty Mk Stz Dsc Mi Ro Ri Chn Chk Dsv Mq.
-/
import Derived.Test.YteopmoocmoigcaaGreatWsb
import Derived.Lib.ConvBytes
import Derived.Laws.MakeOwn
namespace Go.Proofs.YteopmoocmoigcaaGreat
open Go.Proofs.Tryz
section
open Go.RowKit
theorem aaR:∀ args w,(callFunc 164 args).run prog w=.ok (.enter 164 args) w:=enters func164 rfl (by kernel_rfl)
theorem Gf:Ty prog 242 1 24 [.slice none 0 0] false:=⟨by kernel_rfl,by kernel_rfl⟩
theorem RB:∀ args w,(callFunc 49 args).run prog w=.ok (.enter 49 args) w:=enters func49 rfl (by kernel_rfl)
theorem Ey:prog.underlying 242=some (.slice 247):=by kernel_rfl
theorem Eu:Ty prog 247 3 32 [.string ⟨#[]⟩,.int .i64 0,.bool false] true:=⟨by kernel_rfl,by kernel_rfl⟩
theorem aaS:∀ args w,(callFunc 165 args).run prog w=.ok (.enter 165 args) w:=enters func165 rfl (by kernel_rfl)
theorem Fj:bO prog 259 2 2:=⟨by kernel_rfl⟩
theorem Fp:bO prog 259 3 4:=⟨by kernel_rfl⟩
theorem Wd:oK prog 247 [(0,1),(1,1),(2,1)] [.string ⟨#[]⟩,.int .i64 0,.bool false]:=⟨by kernel_rfl,by kernel_rfl⟩
theorem La:∀ args w,(callFunc 160 args).run prog w=.ok (.enter 160 args) w:=enters func160 rfl (by kernel_rfl)
theorem Ic:bO prog 259 4 5:=⟨by kernel_rfl⟩
structure iD where
 lit:ByteArray
 level:Int
 plain:Bool
def iD.dat (x:iD):List Dat:=[.lf (.string x.lit),li x.level,.lf (.bool x.plain)]
abbrev iD.cells (x:iD):List aj:=[.string x.lit,vi x.level,.bool x.plain]
theorem UK (G:GH) (x:iD):aW G x.dat x.cells:=by
 simp only [iD.dat,iD.cells,aW]
 exact ⟨_,_,rfl,by simp [av,Value.oneCell'],_,_,rfl,by simp [av,Value.oneCell'],_,_,rfl,by simp [av,Value.oneCell'],rfl⟩
theorem UJ {G:GH} {x:iD} {cs:List aj} (h:aW G x.dat cs):cs=x.cells:=by
 simp only [iD.dat,aW,av] at h
 obtain ⟨_,_,rfl,⟨rfl,_⟩,_,_,rfl,⟨rfl,_⟩,_,_,rfl,⟨rfl,_⟩,rfl⟩:=h
 rfl
def AQ (l:List iD):List aj:=(l.map iD.cells).flatten
theorem UH (l:List iD) (x:iD):AQ (l++[x])=AQ l++x.cells:=by simp [AQ]
structure wX (b:Nat) (lit:List UInt8) (parts:List iD) (p v q:aj) (Lp Lo:OL):Prop where
 ptr:p=.pointer none∨p=(aH b 2)
 buf:dx 5 1 v lit.length (Lib.byteCells lit) Lo
 prt:dx 247 3 q parts.length (AQ parts) Lp
def rz (lit:List UInt8) (parts:List iD):List iD:=if lit=[] then parts else parts++[⟨⟨lit.toArray⟩,0,false⟩]
set_option maxHeartbeats 1000000 in
theorem LX (G:GH) (Lp Lo:OL) (w0:World) (b:Nat) (s:ByteArray) (i:Int) (p v q:aj) (pl e:Int) (lit:List UInt8) (parts:List iD) (hR:wX b lit parts p v q Lp Lo) (hO:gH G (fQ b s i p v q pl e :: (Lp++Lo)) w0) (hl:lit.length≤4294967296) (hp:parts.length≤4294967296) :
  Calls prog 160 #[(aH b 0)] w0 (fT w0 G (fQ b s i p v q pl e :: (Lp++Lo)) fun u G' L'=>∃ p' v' q' nX eH,L'=fQ b s i p' v' q' pl e :: (nX++eH)∧wX b [] (rz lit parts) p' v' q' nX eH):=by
 obtain ⟨TQ,hbuf,IZ⟩:=hR;have hml:maxLen=9223372036854775807:=rfl;obtain ⟨A,c,rfl,Ug,Uh⟩:=hbuf.shape;obtain ⟨B,d,rfl,TR,TS⟩:=IZ.shape;obtain ⟨Lt,nk⟩:∃ x,x=Lp++Lo:=⟨_,rfl⟩;rw [← nk] at hO ⊢;refine jy (N:=25) (T:=[(0,_)]) func160 rfl ntmps160 rfl rfl hO ?_;intro a H;refine kP H (SR fun _ K1=>Rm rfl (Rk rfl (Rf Fj rfl ?_)));clear H;intro a H;refine gB aaR (Li:=[]) (L:=fQ b s i p (.slice A lit.length c) (.slice B parts.length d) pl e :: Lt) H wn rfl (ahu _ _ _ b s i p A lit.length c B parts.length d pl e (Hp.owns (Li:=[]) H.hp)) rfl ?_;clear H;rintro v5 _ L5 a w ⟨rfl,rfl,rfl⟩ M8 H;dsimp only [List.nil_append] at H;refine kH H (Rc rfl (Kz K1 (Cd rfl ?_ ?_))) <;> clear H K1
 ·intro h6 a H
  try have p6:=dT h6
  have hne:lit≠[]:=fun e=>by rw [e] at p6;simp at p6
  subst nk;refine aZ (fun _ K2=>?_)
  have iF:∀ (fV:Nat) (gK:(Option Addr × Nat) × OL) (bN:Nat) (v:aj) (G G':GH),(∀ k o,G k=some o→G' k=some o)→(fun (fV:Nat) (gK:(Option Addr × Nat) × OL) (bN:Nat) (v:aj) (G:GH)=>match bN with|0=>v=(aH b 0)|1=>v=(aH b 0)|2=>v=(aH b 0)|3=>v=(aH b 4)|4=>v=.slice B parts.length d|5=>v=(aH b 0)|6=>v=(aH b 0)|7=>v=(aH b 2)|8=>v=.string ⟨lit.toArray⟩|9=>v=.agg (iD.cells ⟨⟨lit.toArray⟩,0,false⟩).toArray|10=>v=.slice (some ⟨fV,0,none⟩) 1 1|11=>v=.slice gK.1.1 (parts.length+1) gK.1.2∧dx 247 3 v (parts.length+1) (AQ (parts++[⟨⟨lit.toArray⟩,0,false⟩])) gK.2|_=>True) fV gK bN v G→(fun (fV:Nat) (gK:(Option Addr × Nat) × OL) (bN:Nat) (v:aj) (G:GH)=>match bN with|0=>v=(aH b 0)|1=>v=(aH b 0)|2=>v=(aH b 0)|3=>v=(aH b 4)|4=>v=.slice B parts.length d|5=>v=(aH b 0)|6=>v=(aH b 0)|7=>v=(aH b 2)|8=>v=.string ⟨lit.toArray⟩|9=>v=.agg (iD.cells ⟨⟨lit.toArray⟩,0,false⟩).toArray|10=>v=.slice (some ⟨fV,0,none⟩) 1 1|11=>v=.slice gK.1.1 (parts.length+1) gK.1.2∧dx 247 3 v (parts.length+1) (AQ (parts++[⟨⟨lit.toArray⟩,0,false⟩])) gK.2|_=>True) fV gK bN v G':=by
   intro fV gK bN v G G' hm h
   match bN,h with
   | 0,h=>exact h
   | 1,h=>exact h
   | 2,h=>exact h
   | 3,h=>exact h
   | 4,h=>exact h
   | 5,h=>exact h
   | 6,h=>exact h
   | 7,h=>exact h
   | 8,h=>exact h
   | 9,h=>exact h
   | 10,h=>exact h
   | 11,h=>exact h
   | 12,h=>exact trivial
   | 13,h=>exact trivial
   | 14,h=>exact trivial
   | _+15,h=>exact trivial
  refine YB (κ:=(Option Addr × Nat) × OL) (((none,0),[])) (hmx) [[],[],[1],[1,2],[1,2,3],[],[5],[5,6],[5,6,7],(ra 5 4),(ra 5 5),(ra 1 10),(ra 0 12),(ra 0 13),(ra 0 14)] [12,13,14] (by kernel_rfl) (by kernel_rfl) 8 10 11 (by decide) (by decide) (by decide) (by decide) (by decide) (by decide) (by decide) (by decide) (by decide) [fQ b s i p (.slice A lit.length c) (.slice B parts.length d) pl e] (fQ b s i p (.slice A lit.length c) (.slice B parts.length d) pl e :: Lp) (.cells (iD.cells ⟨⟨lit.toArray⟩,0,false⟩).toArray 247 (0,0)) (fun b_ k_=>(b_,.cells (iD.cells ⟨⟨lit.toArray⟩,0,false⟩).toArray 247 (0,0)) :: fQ b s i p (.slice A lit.length c) (.slice B parts.length d) pl e :: k_.2) (fun x hx=>by rw [qw.1 hx];exact iH) (fun x hx=>by rw [qw.1 hx];exact iH) (fun _ _ x hx=>by rw [qw.1 hx];exact mM _ iH) (fun (fV:Nat) (gK:(Option Addr × Nat) × OL) (bN:Nat) (v:aj) (G:GH)=>match bN with|0=>v=(aH b 0)|1=>v=(aH b 0)|2=>v=(aH b 0)|3=>v=(aH b 4)|4=>v=.slice B parts.length d|5=>v=(aH b 0)|6=>v=(aH b 0)|7=>v=(aH b 2)|8=>v=.string ⟨lit.toArray⟩|9=>v=.agg (iD.cells ⟨⟨lit.toArray⟩,0,false⟩).toArray|10=>v=.slice (some ⟨fV,0,none⟩) 1 1|11=>v=.slice gK.1.1 (parts.length+1) gK.1.2∧dx 247 3 v (parts.length+1) (AQ (parts++[⟨⟨lit.toArray⟩,0,false⟩])) gK.2|_=>True) (fun b b' k i v G hi hc h=>by match i,hi,hc,h with|0,_,_,h=>exact h|1,_,_,h=>exact h|2,_,_,h=>exact h|3,_,_,h=>exact h|4,_,_,h=>exact h|5,_,_,h=>exact h|6,_,_,h=>exact h|7,_,_,h=>exact h|8,_,_,h=>exact h|9,_,_,h=>exact h|10,hi,_,_=>exact absurd hi (by decide)|11,_,hc,_=>exact absurd hc (by decide)|12,_,hc,_=>exact absurd hc (by decide)|13,_,hc,_=>exact absurd hc (by decide)|14,_,hc,_=>exact absurd hc (by decide)|_+15,_,_,_=>exact trivial) (fun b k k' i v G hi hc h=>by match i,hi,hc,h with|0,_,_,h=>exact h|1,_,_,h=>exact h|2,_,_,h=>exact h|3,_,_,h=>exact h|4,_,_,h=>exact h|5,_,_,h=>exact h|6,_,_,h=>exact h|7,_,_,h=>exact h|8,_,_,h=>exact h|9,_,_,h=>exact h|10,_,_,h=>exact h|11,hi,_,_=>exact absurd hi (by decide)|12,_,hc,_=>exact absurd hc (by decide)|13,_,hc,_=>exact absurd hc (by decide)|14,_,hc,_=>exact absurd hc (by decide)|_+15,_,_,_=>exact trivial) H ?_ ?_ ?_ ?_ ?_ (by kernel_rfl) (by kernel_rfl)
  ·clear H;refine aB ?_ ?_ ?_ ?_ (aB ?_ ?_ ?_ ?_ (aB ?_ ?_ ?_ ?_ (aX ?_ (aX ?_ (aX ?_ cO)))))
   ·intro fV gK vI bV a w G1 zq _ _ _ _ bP hc hG HT hv;have H:=HT;clear bP;have Hb:=H.full;have H:=Hb;clear hc;refine kH H (Rm rfl ?_);clear H;intro a H;refine aI ⟨rfl,?_⟩;exact jZ (by kernel_rfl) (iF fV gK) rfl rfl HT Hb hG hv (fun _ _ h=>h) (rfl) H
   ·intro fV gK vI bV a w G1 zq _ _ _ _ bP hc hG HT hv;have H:=HT;clear bP;have Hb:=H.full;have H:=Hb;clear hc;refine kH H (Rm rfl ?_);clear H;intro a H;refine aI ⟨rfl,?_⟩;exact jZ (by kernel_rfl) (iF fV gK) rfl rfl HT Hb hG hv (fun _ _ h=>h) (rfl) H
   ·intro fV gK vI bV a w G1 zq _ _ _ _ bP hc hG HT hv;have H:=HT;clear bP;have H:=H.aV (hv 1 8 (hc 1 (by decide)) rfl) rfl;have Hb:=H.full;have H:=Hb;clear hc;refine kH H (Rk rfl ?_);clear H;intro a H;refine aI ⟨rfl,?_⟩;exact jZ (by kernel_rfl) (iF fV gK) rfl rfl HT Hb hG hv (fun _ _ h=>h) (rfl) H
   ·intro fV gK vI bV a w G1 zq _ _ _ _ bP hc hG HT hv;have H:=HT;clear bP;have H:=H.aV (hv 2 9 (hc 2 (by decide)) rfl) rfl;have Hb:=H.full;have H:=Hb;clear hc;refine kH H (Rf Fp rfl ?_);clear H;intro a H;refine aI ⟨rfl,?_⟩;exact jZ (by kernel_rfl) (iF fV gK) rfl rfl HT Hb hG hv (fun _ _ h=>h) (rfl) H
   ·intro fV gK vI bV a w G1 zq _ _ _ _ bP hc hG HT hv;have H:=HT;clear bP;have H:=H.aV (hv 3 10 (hc 3 (by decide)) rfl) rfl;have Hb:=H.full;have H:=Hb;clear hc;refine ny Gf H wn rfl (H.hp.UR (zq _ iH) rfl) rfl ?_;clear H;intro a H;refine aI ⟨rfl,?_⟩;exact jZ (by kernel_rfl) (iF fV gK) rfl rfl HT Hb hG hv (fun _ _ h=>h) (rfl) H
   ·intro fV gK vI bV a w G1 zq _ _ _ _ bP hc hG HT hv;have H:=HT;clear bP;have Hb:=H.full;have H:=Hb;clear hc;refine kH H (Rm rfl ?_);clear H;intro a H;refine aI ⟨rfl,?_⟩;exact jZ (by kernel_rfl) (iF fV gK) rfl rfl HT Hb hG hv (fun _ _ h=>h) (rfl) H
   ·intro fV gK vI bV a w G1 zq _ _ _ _ bP hc hG HT hv;have H:=HT;clear bP;have H:=H.aV (hv 5 12 (hc 5 (by decide)) rfl) rfl;have Hb:=H.full;have H:=Hb;clear hc;refine kH H (Rk rfl ?_);clear H;intro a H;refine aI ⟨rfl,?_⟩;exact jZ (by kernel_rfl) (iF fV gK) rfl rfl HT Hb hG hv (fun _ _ h=>h) (rfl) H
   ·intro fV gK vI bV a w G1 zq _ _ _ _ bP hc hG HT hv;have H:=HT;clear bP;have H:=H.aV (hv 6 13 (hc 6 (by decide)) rfl) rfl;have Hb:=H.full;have H:=Hb;clear hc;refine kH H (Rf Fj rfl ?_);clear H;intro a H;refine aI ⟨rfl,?_⟩;exact jZ (by kernel_rfl) (iF fV gK) rfl rfl HT Hb hG hv (fun _ _ h=>h) (rfl) H
   ·intro _ _ _ _ _ _ _ _ _ hB;exact absurd hB (by decide)
   ·intro fV gK vI bV a w G1 zq _ _ _ _ bP hc hG HT hv;have H:=HT;clear bP;have H:=H.aV (hv 8 15 (hc 8 (by decide)) rfl) rfl;have Hb:=H.full;have H:=Hb;clear hc;refine kr Wd [_,_,_] H wn rfl rfl rfl rfl ?_;clear H;intro a H;refine aI ⟨rfl,?_⟩;exact jZ (by kernel_rfl) (iF fV gK) rfl rfl HT Hb hG hv (fun _ _ h=>h) (rfl) H
   ·intro _ _ _ _ _ _ _ _ _ _ hB;exact absurd hB (by decide)
   ·intro _ _ _ _ _ _ _ _ _ _ _ hB;exact absurd hB (by decide)
   ·intro _ _ _ _ _ _ _ _ hB;exact absurd hB (by decide)
   ·intro _ _ _ _ _ _ _ _ hB;exact absurd hB (by decide)
   intro _ _ _ _ _ _ _ _ hB;exact absurd hB (by decide)
  ·clear H;intro o_ fV gK bV a w G1 wu _ hc hG HT hv;obtain rfl:_=o_:=Option.some.inj wu;clear wu;have H:=HT;have H:=H.aV (hv 7 14 (by decide) (hc 7 (by decide)) rfl) rfl;have Hb:=H.full;have H:=Hb;clear hc;refine gB RB (Li:=[]) (L:=fQ b s i p (.slice A lit.length c) (.slice B parts.length d) pl e :: (Lp++Lo)) H wn rfl (ahI _ _ _ _ b s i p _ B parts.length d pl e lit (Hp.owns (Li:=[]) H.hp) hbuf hne) rfl ?_;clear H;rintro v15 Bq L15 a w ⟨rfl,rfl⟩ Ca H;dsimp only [List.nil_append] at H;refine aI ⟨rfl,?_⟩;exact Q6 (by kernel_rfl) (iF fV gK) rfl HT Hb hG (fun j e h1 h2 h3=>hv j e h1 h2 h3) Ca (rfl) H
  ·clear H;intro o_ gK bV a w G1 wu _ hc hG HT hv;obtain rfl:_=o_:=Option.some.inj wu;clear wu;have H:=HT;have H:=H.aV (hv 0 9 16 (by decide) (hc 9 (by decide)) rfl) rfl;have Hb:=H.full;have H:=Hb;clear hc;refine gV Ey Eu [_,_,_] [_,_,_] H wn rfl rfl rfl rfl rfl (by intro i q h;match i,h with|0,h=>exact h|n+1,h=>simp at h) rfl rfl ?_;clear H;intro b17 a w aiP H;refine aI ⟨rfl,b17,?_⟩;exact Q0 (by kernel_rfl) rfl HT Hb hG (fun j e h1 h2 h3=>hv _ j e h1 h2 h3) (rfl) H
  ·clear H;intro o_ fV bV a w G1 wu _ hc hG HT hv;obtain rfl:_=o_:=Option.some.inj wu;clear wu;have H:=HT;have H:=H.aV (hv (((none,0),[])) 4 11 (by decide) (hc 4 (by decide)) rfl) rfl;have H:=H.aV (hv (((none,0),[])) 10 17 (by decide) (hc 10 (by decide)) rfl) rfl;have Hb:=H.full;have H:=Hb;clear hc;refine pX (Li:=[_,_]) (Lo:=Lp) (news:=iD.cells ⟨⟨lit.toArray⟩,0,false⟩) Ey Eu rfl rfl H wn rfl rfl IZ rfl (H.hp.eF 0 rfl rfl) rfl (by omega) (by omega) rfl ?_;clear H;intro v18 XO a w Eb H;obtain ⟨Xd,c18,rfl,-,-⟩:=Eb.shape;rw [← UH] at Eb;refine aI ⟨rfl,((Xd,c18),XO),?_⟩;exact Q0 (by kernel_rfl) rfl HT Hb hG (fun j e h1 h2 h3=>hv _ j e h1 h2 h3) (⟨rfl,Eb⟩) H
  clear H;intro b17 gK a w G mg H hv;have H:=H.aV (hv 0 7 rfl rfl) rfl;obtain ⟨u18,aex,TH⟩:=hv 11 18 (by decide) rfl;(try dsimp only at TH);obtain ⟨rfl,Eb⟩:=TH;have H:=H.iI aex;clear hv;refine kH H (Rk rfl (Rf Fp rfl ?_));clear H;intro a H;refine bF Gf 1 (vs:=[_]) _ H wn rfl rfl rfl rfl rfl rfl rfl rfl ?_;clear H;intro w H;dsimp only [List.set,setRow] at H;refine aI ⟨rfl,?_⟩;refine K2 _ _ ?_;clear K2;refine kP H (SC (Rm rfl (Rk rfl (Rf Fj rfl ?_))));clear H;intro a H;refine gB aaS (Li:=[_]) (L:=fQ b s i p (.slice A lit.length c) (.slice gK.1.1 (parts.length+1) gK.1.2) pl e :: gK.2) H wn rfl (ahH _ _ _ b s i p A lit.length c gK.1.1 (parts.length+1) gK.1.2 pl e (Hp.owns (Li:=[_]) H.hp)) rfl ?_;clear H;rintro v24 _ L24 a w ⟨rfl,rfl⟩ qI H;dsimp only [lca,bC] at H;refine aI ?_;refine (leave0 H results160 ?_).2
  first
   | exact H.hp.gL (L':=fQ b s i _ _ _ pl e :: gK.2) (yL _ _) ⟨_,_,_,gK.2,[],by rw [tH],⟨.inl rfl,dx.nil,by rw [rz,ah hne];simpa using Eb⟩⟩
   | exact H.hp.dW ⟨_,_,_,Lp,Lo,by rw [nk],by
     have h0:lit=[]:=by
      cases lit with
      | nil=>rfl
      | cons x r=>simp at p6
     subst h0;exact ⟨TQ,hbuf,by rw [rz,au rfl];exact IZ⟩⟩
 intro h6 a H
 try have p6:=dF h6
 refine gI ?_;refine (leave0 H results160 ?_).2
 first
  | exact H.hp.gL (L':=fQ b s i _ _ _ pl e :: gK.2) (yL _ _) ⟨_,_,_,gK.2,[],by rw [tH],⟨.inl rfl,dx.nil,by rw [rz,ah hne];simpa using Eb⟩⟩
  | exact H.hp.dW ⟨_,_,_,Lp,Lo,by rw [nk],by
    have h0:lit=[]:=by
     cases lit with
     | nil=>rfl
     | cons x r=>simp at p6
    subst h0;exact ⟨TQ,hbuf,by rw [rz,au rfl];exact IZ⟩⟩
theorem Vh (G:GH) (Lp Lo:OL) (w0:World) (b:Nat) (s:ByteArray) (i:Int) (p v q:aj) (pl e:Int) (lit:List UInt8) (parts:List iD) (ch:Int) (plain:Bool) (hR:wX b lit parts p v q Lp Lo) (hO:gH G (fQ b s i p v q pl e :: (Lp++Lo)) w0) (hl:lit.length≤4294967296) (hp:parts.length≤4294967290) (hc:49≤ch∧ch≤57) (hpl:0≤pl∧pl≤4294967296) :
  Calls prog 163 #[(aH b 0),.int .u8 ch,.bool plain] w0 (fT w0 G (fQ b s i p v q pl e :: (Lp++Lo)) fun u G' L'=>∃ p' v' q' nX eH,L'=fQ b s i p' v' q' (pl+1) e :: (nX++eH)∧wX b [] (rz lit parts++[⟨⟨#[]⟩,ch - 48,plain⟩]) p' v' q' nX eH):=by
 have hml:maxLen=9223372036854775807:=rfl
 have hfl:(rz lit parts).length≤parts.length+1:=by unfold rz;split <;> simp
 obtain ⟨A,c,rfl,Ug,Uh⟩:=hR.buf.shape;obtain ⟨B,d,rfl,TR,TS⟩:=hR.prt.shape;obtain ⟨Lt,nk⟩:∃ x,x=Lp++Lo:=⟨_,rfl⟩;rw [← nk] at hO ⊢;refine jy (N:=29) (T:=[(0,_),(1,_),(2,_)]) func163 rfl ntmps163 rfl rfl hO ?_;intro a H;refine kP H (SR fun _ K1=>Rm rfl ?_);clear H;intro a H;refine gB La (Li:=[]) (L:=fQ b s i p (.slice A lit.length c) (.slice B parts.length d) pl e :: Lt) H wn rfl (by subst nk;exact LX _ Lp Lo _ b s i p _ _ pl e lit parts hR (Hp.owns (Li:=[]) H.hp) hl (by omega)) rfl ?_;clear H;rintro v7 G7 L7 a w ⟨p',v',q',nX,eH,rfl,FB⟩ zC H;dsimp only [List.nil_append] at H;obtain ⟨A7,c7,rfl,-,-⟩:=FB.buf.shape;obtain ⟨B7,d7,rfl,-,-⟩:=FB.prt.shape;refine K1 _ _ ?_;clear K1;refine kP H (SR fun _ K2=>Rm rfl (Rm rfl (Rk rfl (aU Fp Gf 0 rfl rfl (Rm rfl ?_)))));clear H;intro a H;refine aha H wn rfl rfl (by omega) (by omega) rfl ?_;clear H;intro a H;refine Ep _ mG Gm H wn rfl rfl rfl ?_;clear H;intro a H;rw [FU (by omega) (by omega)] at H;refine kH H (Rm rfl ?_);clear H;intro a H;refine kr Wd [_,_,_] H wn rfl rfl rfl rfl ?_;clear H;intro a H;refine gV Ey Eu [_,_,_] [_,_,_] H wn rfl rfl rfl rfl rfl (by intro i q h;match i,h with|0,h=>exact h|n+1,h=>simp at h) rfl rfl ?_;clear H;intro b18 a w Iy H;have H:=(St.cast H (show _=[_,_]++(nX++eH) from rfl)).perm (List.Perm.append_left _ yM);have H:=St.un H;refine pX (Li:=[_,_]++eH) (Lo:=nX) (news:=iD.cells ⟨⟨#[]⟩,ch - 48,plain⟩) Ey Eu rfl rfl H wn rfl rfl FB.prt rfl (H.hp.eF 0 rfl rfl) rfl (by omega) (by omega) rfl ?_;clear H;intro v19 P5 a w vk H;obtain ⟨Gw,c19,rfl,-,-⟩:=vk.shape;rw [← UH] at vk;have H:=H.assoc.perm (List.Perm.append_left _ yM);dsimp only [lca,bC] at H;refine kH H (Rk rfl (Rf Fp rfl ?_));clear H;intro a H;refine bF Gf 1 (vs:=[_]) _ H wn rfl rfl rfl rfl rfl rfl rfl rfl ?_;clear H;intro w H;dsimp only [List.set,setRow] at H;refine K2 _ _ ?_;clear K2;refine kP H (SC (Rm rfl (Rk rfl (aU Ic aF 1 rfl rfl (Rd rfl (Rk rfl (Rf Ic rfl ?_)))))));clear H;intro a H;refine bF aF 1 (vs:=[_]) _ H wn rfl rfl rfl rfl rfl rfl rfl rfl ?_;clear H;intro w H;dsimp only [List.set,setRow] at H;refine aI ?_;refine (leave0 H results163 ?_).2;exact H.hp.gL (L':=fQ b s i _ _ _ (pl+1) e :: (P5++eH)) (yL _ _) ⟨_,_,_,P5,eH,rfl,FB.ptr,FB.buf,by simpa using vk⟩
end
section
open Go.RowKit
section
variable {N:Nat} {D:List Deferred} {w0:World} {F:Nat→Prop} {G0 G:GH} {L:OL} {T Xs:List (Nat × aj)}
variable {r:Option Nat} {P:Program} {Q:Exit→Act→World→Prop} {l:List Oper} {a a':Act} {w w':World}
abbrev O5:Type:=Nat × aj × Nat × Bool
def O6 (ent:List O5) (S:Nat→Bool) (a:Act):Prop:=∀ e∈ent,S e.2.2.1=e.2.2.2→a.tmps[e.1]?=some e.2.1
theorem O6.at {ent:List O5} {S:Nat→Bool} {a:Act} (h:O6 ent S a) (k:Nat) {t:Nat} {v:aj} {j:Nat} {b:Bool} (hk:ent[k]?=some (t,v,j,b)) (hS:S j=b):a.tmps[t]?=some v:=h _ (kT hk) hS
theorem agZ {ops:Array Oper} {rest:List Oper} {d:Nat} {ty:TypeId} {pos:String} {aK:Array Edge} {g:Option (Nat × Bool)} {t:TypeId} {x y:Operand} {s:ByteArray} {ky:IntKind} {p:Int} (hi:Nat) (ht:P.underlying t=some .string) (H:St N D w0 F G0 G L T a w) (hw:Region.wanted ⟨some d,.slice t x none (some y) none,ty,pos,aK,g⟩ (yielded ops a.tmps)=true) (hx:ev T x=some (.string s)) (hy:ev T y=some (.int ky p)) (hp:p=(hi:Int)) (h1:hi≤s.size) (hd:Nat.blt d N=true)
  (k:∀ a',St N D w0 F G0 G L ((d,.string (s.extract 0 hi)) :: T) a' w→WL r P ops Q rest a' w):WL r P ops Q (⟨some d,.slice t x none (some y) none,ty,pos,aK,g⟩ :: rest) a w:=by
 subst hp
 have hr:=run_slice_string_h (P:=P) w t s ht ky (hi:Int) (by omega) (by omega)
 rw [Int.toNat_natCast] at hr
 refine fE (v:=.string (s.extract 0 hi)) (w':=w) hw rfl ?_ (k _ (H.put hd _ H.hp))
 simp only [execOp,H.ev hx,Option.map_some,Option.map_none,H.ev hy,bW,run_sliceAt_string w t _ _ _ _ ht,hr,jE,oL]
end
end
section
open Go.RowKit
theorem aaT:∀ args w,(callFunc 166 args).run prog w=.ok (.enter 166 args) w:=enters func166 rfl (by kernel_rfl)
theorem tV:bO prog 259 0 0:=⟨by kernel_rfl⟩
theorem Rq:∀ args w,(callFunc 159 args).run prog w=.ok (.enter 159 args) w:=enters func159 rfl (by kernel_rfl)
theorem Rt:∀ args w,(callFunc 162 args).run prog w=.ok (.enter 162 args) w:=enters func162 rfl (by kernel_rfl)
theorem Ru:∀ args w,(callFunc 163 args).run prog w=.ok (.enter 163 args) w:=enters func163 rfl (by kernel_rfl)
theorem nK:bO prog 259 1 1:=⟨by kernel_rfl⟩
theorem Lb:∀ args w,(callFunc 161 args).run prog w=.ok (.enter 161 args) w:=enters func161 rfl (by kernel_rfl)
theorem xC:bO prog 259 5 6:=⟨by kernel_rfl⟩
def oO (s p:ByteArray):Bool:=decide (p.size≤s.size) && ((s.extract 0 p.size).toList == p.toList)
theorem adp (G:GH) (w0:World) (hG:Hold G w0) (s p:ByteArray) (hs:s.size≤4611686018427387904) (hp:p.size≤4611686018427387904):Calls prog 166 #[.string s,.string p] w0 (bA w0 G fun u G'=>u=.bool (oO s p)∧G=G'):=by
 refine eN [(0,_),(1,_)] func166 rfl ntmps166 rfl rfl hG ?_;intro a H;refine kP H (SR fun _ K1=>ak K1 rfl (SR fun _ K2=>Rm rfl (Rv fO rfl (Rm rfl (Rv fO rfl (Rc rfl (Rm rfl (Sp 10 rfl ?_ ?_)))))))) <;> clear H K1
 ·intro h10 a H
  try have lC:=dT h10
  refine kH H (YM h10 rfl (YM h10 rfl ?_));clear H;intro a H;refine AZ fO H (wg H rfl rfl h10) rfl rfl ?_;clear H;intro a H;refine agZ p.size fO H (wg H rfl rfl h10) rfl rfl rfl (by omega) rfl ?_;clear H;intro a H;refine kH H (YM h10 rfl ?_);clear H;intro a H;refine AY H (wg H rfl rfl h10) rfl rfl rfl ?_;clear H;intro a H;exact kH H (Pt h10 rfl (ak K2 rfl (LR results166 rfl fun H=>H.rt ⟨aG (by unfold oO;first|(simp_all;done)|(simp_all;omega)),rfl⟩)))
 intro h10 a H
 try have lC:=dF h10
 exact kH H (aY h10 rfl (aY h10 rfl (Pf h10 rfl (ak K2 rfl (LR results166 rfl fun H=>H.rt ⟨aG (by unfold oO;first|(simp_all;done)|(simp_all;omega)),rfl⟩)))))
theorem ML (G:GH) (w0:World) (hG:Hold G w0) (s p:ByteArray) (hs:s.size≤4611686018427387904) (hp:p.size≤4611686018427387904):Calls prog 161 #[.string s,.string p] w0 (bA w0 G fun u G'=>u=.bool (oO s p)∧G=G'):=by
 refine eN [(0,_),(1,_)] func161 rfl ntmps161 rfl rfl hG ?_;intro a H;refine kP H (SR fun _ K1=>ak K1 rfl (SR fun _ K2=>Rm rfl (Rm rfl ?_)));clear H K1;intro a H;refine s_call aaT H wn rfl (adp _ _ H.ro s p hs hp) rfl ?_;clear H;rintro v7 _ a w ⟨rfl,rfl⟩ - H;exact kH H (ak K2 rfl (LR results161 rfl fun H=>H.rt ⟨rfl,rfl⟩))
def ru (s:ByteArray) (k:Nat):Bool:=decide (k < s.size) && decide (49≤gy s k) && decide (gy s k≤57)
theorem QY (G:GH) (L:OL) (w0:World) (b:Nat) (s:ByteArray) (i:Int) (p v q:aj) (pl e:Int) (k:Nat) (hs:s.size≤4611686018427387904) (hO:gH G (fQ b s i p v q pl e :: L) w0) :
  Calls prog 162 #[(aH b 0),vi k] w0 (fT w0 G (fQ b s i p v q pl e :: L) fun u G' L'=>u=.bool (ru s k)∧L'=fQ b s i p v q pl e :: L∧G'=G):=by
 refine jy (N:=30) (T:=[(0,_),(1,_)]) func162 rfl ntmps162 rfl rfl hO ?_;intro a H;refine kP H (SR fun _ K1=>ak K1 rfl (SR fun _ K2=>Rm rfl (Rm rfl (Rk rfl (aU tV gF 0 rfl rfl (Rv fO rfl (Rc rfl (Rm rfl (Sp 12 rfl ?_ ?_))))))))) <;> clear H K1
 ·intro h12 a H
  try have rJ:=dT h12
  refine kH H (YM h12 rfl ?_);clear H;intro a H;refine qL H (wg H rfl rfl h12) rfl rfl ?_;clear H;intro a H;refine kH H (YF tV h12 rfl (YO gF 0 h12 rfl (YM h12 rfl ?_)));clear H;intro a H;refine mV k fO H (wg H rfl rfl h12) rfl rfl rfl (by omega) rfl ?_;clear H;intro a H;rw [← jY] at H;refine kH H (YC h12 rfl (Pt h12 rfl (Rm rfl (Sp 21 rfl ?_ ?_)))) <;> clear H
  ·intro h21 a H
   try have pW:=dT h21
   refine kH H (YM h21 rfl ?_);clear H;intro a H;refine qL H (wg H rfl rfl h21) rfl rfl ?_;clear H;intro a H;refine kH H (YF tV h21 rfl (YO gF 0 h21 rfl (YM h21 rfl ?_)));clear H;intro a H;refine mV k fO H (wg H rfl rfl h21) rfl rfl rfl (by omega) rfl ?_;clear H;intro a H;rw [← jY] at H;exact kH H (YC h21 rfl (Pt h21 rfl (ak K2 rfl (LR results162 rfl fun H=>H.hp.dW ⟨aG (by unfold ru;first|(simp_all;done)|(simp_all;omega)),rfl,rfl⟩))))
  intro h21 a H
  try have pW:=dF h21
  exact kH H (aY h21 rfl (aP h21 rfl (aP h21 rfl (Pf h21 rfl (ak K2 rfl (LR results162 rfl fun H=>H.hp.dW ⟨aG (by unfold ru;first|(simp_all;done)|(simp_all;omega)),rfl,rfl⟩))))))
 intro h12 a H
 try have rJ:=dF h12
 exact kH H (aY h12 rfl (aP h12 rfl (aP h12 rfl (Pf h12 rfl (Rm rfl (aY rfl rfl (aP rfl rfl (aP rfl rfl (Pf rfl rfl (ak K2 rfl (LR results162 rfl fun H=>H.hp.dW ⟨aG (by unfold ru;first|(simp_all;done)|(simp_all;omega)),rfl,rfl⟩)))))))))))
structure qV where
 i:Nat
 lit:List UInt8
 parts:List iD
 pl:Nat
 e:Int
def mR (s:ByteArray) (x:qV):qV :=
 if oO (s.extract x.i s.size) ⟨#[37,37]⟩=true then ⟨x.i+2,x.lit++[37],x.parts,x.pl,x.e⟩
 else if ru s (x.i+1)=true then ⟨x.i+2,[],rz x.lit x.parts++[⟨⟨#[]⟩,gy s (x.i+1) - 48,false⟩],x.pl+1,x.e⟩
 else if oO (s.extract x.i s.size) ⟨#[37,100]⟩=true∧ru s (x.i+2)=true then ⟨x.i+3,[],rz x.lit x.parts++[⟨⟨#[]⟩,gy s (x.i+2) - 48,true⟩],x.pl+1,x.e⟩
 else ⟨x.i,x.lit,x.parts,x.pl,14⟩
abbrev sV (b:Nat) (s:ByteArray) (x:qV) (p v q:aj):Nat × Obj:=fQ b s x.i p v q x.pl x.e
theorem QX {s:ByteArray} {k:Nat} (h:ru s k=true):k < s.size∧49≤gy s k∧gy s k≤57:=by
 simpa [ru,and_assoc] using h
set_option maxHeartbeats 1000000 in
theorem agd (G:GH) (Lp Lo:OL) (w0:World) (b:Nat) (s:ByteArray) (x:qV) (p v q:aj) (hR:wX b x.lit x.parts p v q Lp Lo) (hO:gH G (sV b s x p v q :: (Lp++Lo)) w0) (hs:s.size≤4294967290) (hi:x.i < s.size) (hl:x.lit.length≤4294967290) (hp:x.parts.length≤4294967290) (hpl:x.pl≤4294967290) :
    Calls prog 158 #[(aH b 0)] w0 (fT w0 G (sV b s x p v q :: (Lp++Lo)) fun u G' L'=>∃ p' v' q' nX eH,L'=sV b s (mR s x) p' v' q' :: (nX++eH)∧wX b (mR s x).lit (mR s x).parts p' v' q' nX eH):=by
  obtain ⟨i,lit,parts,pl,e⟩:=x;dsimp only [sV] at *
  have hex:(s.extract i s.size).size≤4611686018427387904:=by rw [ByteArray.size_extract];omega
  obtain ⟨A,c,rfl,Ug,Uh⟩:=hR.buf.shape;obtain ⟨B,d,rfl,TR,TS⟩:=hR.prt.shape;obtain ⟨Lt,nk⟩:∃ x,x=Lp++Lo:=⟨_,rfl⟩;rw [← nk] at hO ⊢;refine jy (N:=93) (T:=[(0,_)]) func158 rfl ntmps158 rfl rfl hO ?_;intro a H;refine xq ?_;refine aZ (fun _ K1=>?_);refine dI hmx [[],[0],[0,1],[0,1,2],[],[4],[4,5],[4,5,6],(ra 0 8),(ra 0 9),(ra 0 10)] [] (by kernel_rfl) [_,_,_,.string s,_,_,_,vi i,.string (s.extract i s.size),.bool (oO (s.extract i s.size) ⟨#[37,37]⟩),_] H (aB (Z0 rfl (Rm rfl)) (Z1 0 6 rfl (Rk rfl)) (Z1 1 7 rfl (Rf tV rfl)) (Z1 2 8 rfl (Ro gF 0 rfl)) (aB (Z0 rfl (Rm rfl)) (Z1 4 10 rfl (Rk rfl)) (Z1 5 11 rfl (Rf nK rfl)) (Z1 6 12 rfl (Ro aF 0 rfl)) (aX ?_ (aX ?_ (aX (Z1 9 15 rfl (Ra rfl)) cO))))) ?_
  · refine bL 3 9 7 13 rfl rfl fun _ a w G1 hG HT H fin=>?_;refine Ol i fO H wn rfl rfl rfl (by omega) rfl ?_;clear H;intro a H;exact fin H iJ rfl
  · refine bY 8 14 rfl rfl fun _ a w G1 hG HT H fin=>?_;refine s_call Lb H wn rfl (ML _ _ H.ro _ _ hex (by decide)) rfl ?_;clear H;rintro v15 Bq a w ⟨rfl,rfl⟩ Ca H;exact fin H Ca (rfl)
  clear H;intro a w G mg H hv;have H:=H.aV (hv 10 5 rfl rfl) rfl;clear hv;refine aI ⟨rfl,?_⟩;refine K1 _ _ ?_;clear K1;refine kZ H rfl ?_ ?_
  · intro h5
    try have p5:=dT h5
    refine kP H (SR fun _ K2=>Rm rfl (Rk rfl (Rf Fj rfl ?_)));clear H;intro a H;refine gB Rq (Li:=[]) (L:=fQ b s i p (.slice A lit.length c) (.slice B parts.length d) pl e :: Lt) H wn rfl (by subst nk;exact WK _ Lp Lo _ b s i p _ B parts.length d pl e lit.length _ 37 hR.ptr (Hp.owns (Li:=[]) H.hp) hR.buf (by omega)) rfl ?_;clear H;rintro v19 _ L19 a w ⟨ajK,BA,rfl,vk,rfl⟩ rE H;dsimp only [List.nil_append] at H;obtain ⟨Gw,c19,rfl,-,-⟩:=vk.shape;refine K2 _ _ ?_;clear K2;refine kP H (SC (Rm rfl (Rk rfl (aU nK aF 0 rfl rfl (Rd rfl (Rk rfl (Rf nK rfl ?_)))))));clear H;intro a H;refine bF aF 0 (vs:=[_]) _ H wn rfl rfl rfl rfl rfl rfl rfl rfl ?_;clear H;intro w H;dsimp only [List.set,setRow] at H;refine aI ?_;refine (leave0 H results158 ?_).2;exact H.hp.dW ⟨_,_,_,Lp,BA,by rw [mR,au h5];rfl,by rw [mR,au h5];exact ⟨.inr rfl,by simpa [Lib.byteCells] using vk,hR.prt⟩⟩
  intro h5
  try have p5:=dF h5
  refine kP H (SR fun _ K3=>Rm rfl (Rm rfl (Rk rfl (aU nK aF 0 rfl rfl (Rd rfl ?_)))));clear H;intro a H;rw [show ((i:Int)+1)=((i+1:Nat):Int) from rfl] at H;refine gB Rt (Li:=[]) (L:=fQ b s i p (.slice A lit.length c) (.slice B parts.length d) pl e :: Lt) H wn rfl (QY _ Lt _ b s i p _ _ pl e (i+1) (by omega) (Hp.owns (Li:=[]) H.hp)) rfl ?_;clear H;rintro v34 _ L34 a w ⟨rfl,rfl,rfl⟩ Tm H;dsimp only [List.nil_append] at H;refine kH H (ak K3 rfl (Cd rfl ?_ ?_)) <;> clear H K3
  · intro h27 a H
    try have p27:=dT h27
    have hd1:=QX h27;refine aZ (fun _ K4=>?_);refine dI hmx [[],[],[1],[1,2],[1,2,3],[],[5],[5,6],[5,6,7],(ra 5 4),(ra 1 9),(ra 0 11)] [11] (by kernel_rfl) [_,_,_,_,.string s,_,_,_,vi i,_,.int .u8 (gy s (i+1))] H (aB (Z0 rfl (Rm rfl)) (Z0 rfl (Rm rfl)) (Z1 1 36 rfl (Rk rfl)) (Z1 2 37 rfl (Rf tV rfl)) (aB (Z1 3 38 rfl (Ro gF 0 rfl)) (Z0 rfl (Rm rfl)) (Z1 5 40 rfl (Rk rfl)) (Z1 6 41 rfl (Rf nK rfl)) (aB (Z1 7 42 rfl (Ro aF 0 rfl)) (Z1 8 43 rfl (Rd rfl)) ?_ (bH rfl) cO))) ?_
    · refine bL 4 39 9 44 rfl rfl fun _ a w G1 hG HT H fin=>?_;refine mV (i+1) fO H wn rfl rfl rfl hd1.1 rfl ?_;clear H;intro a H;rw [← jY] at H;exact fin H iJ rfl
    clear H;intro a w G Av H hv;have H:=H.aV (hv 0 35 rfl rfl) rfl;have H:=H.aV (hv 10 45 rfl rfl) rfl;clear hv;refine gB Ru (Li:=[]) (L:=fQ b s i p (.slice A lit.length c) (.slice B parts.length d) pl e :: Lt) H wn rfl (by subst nk;exact Vh _ Lp Lo _ b s i p _ _ pl e lit parts (gy s (i+1)) false hR (Hp.owns (Li:=[]) H.hp) (by omega) (by omega) hd1.2 (by omega)) rfl ?_;clear H;rintro v46 Xv L46 a w ⟨p46,aie,q46,EL,EK,rfl,zu⟩ adR H;dsimp only [List.nil_append] at H;obtain ⟨Xg,c46,rfl,-,-⟩:=zu.buf.shape;obtain ⟨Xk,ZO,rfl,-,-⟩:=zu.prt.shape;refine aI ⟨rfl,?_⟩;refine K4 _ _ ?_;clear K4;refine kP H (SC (Rm rfl (Rk rfl (aU nK aF 0 rfl rfl (Rd rfl (Rk rfl (Rf nK rfl ?_)))))));clear H;intro a H;refine bF aF 0 (vs:=[_]) _ H wn rfl rfl rfl rfl rfl rfl rfl rfl ?_;clear H;intro w H;dsimp only [List.set,setRow] at H;refine aI ?_;refine (leave0 H results158 ?_).2;exact H.hp.dW ⟨_,_,_,EL,EK,by rw [mR,ah (by simp [h5]),au h27];rfl,by rw [mR,ah (by simp [h5]),au h27];exact zu⟩
  intro h27 a H
  try have p27:=dF h27
  refine aZ (fun _ K5=>?_)
  by_cases c1:oO (s.extract i s.size) ⟨#[37,100]⟩=true
  · skip;refine dI hmx [[],[0],[0,1],[0,1,2],[],[4],[4,5],[4,5,6],(ra 0 8),(ra 0 9),(ra 0 10),(ra 0 11),(ra 0 11),(ra 0 11++[12]),(ra 0 11++[12,13]),(ra 0 11++[12,13,14]),(ra 0 11++ra 12 4),(ra 0 17),(ra 0 18),(ra 0 19)] [] (by kernel_rfl) [_,_,_,.string s,_,_,_,vi i,.string (s.extract i s.size),.bool (oO (s.extract i s.size) ⟨#[37,100]⟩),.bool (decide (oO (s.extract i s.size) ⟨#[37,100]⟩=true)),_,_,(aH b 0),_,vi i,vi ((i+2:Nat):Int),.bool (ru s (i+2)),_,_] H (aB (Z0 rfl (Rm rfl)) (Z1 0 55 rfl (Rk rfl)) (Z1 1 56 rfl (Rf tV rfl)) (Z1 2 57 rfl (Ro gF 0 rfl)) (aB (Z0 rfl (Rm rfl)) (Z1 4 59 rfl (Rk rfl)) (Z1 5 60 rfl (Rf nK rfl)) (Z1 6 61 rfl (Ro aF 0 rfl)) (aB ?_ ?_ ?_ (Z1 10 65 rfl (YM (aD c1) rfl)) (aB (Z1 10 65 rfl (YM (aD c1) rfl)) ?_ (Z2 13 68 10 65 rfl (YF nK (aD c1) rfl)) (Z2 14 69 10 65 rfl (YO aF 0 (aD c1) rfl)) (aB ?_ ?_ (Z2 10 65 17 72 rfl (Pt (aD c1) rfl)) (Z1 18 73 rfl (Ra rfl)) cO))))) ?_
    · refine bL 3 58 7 62 rfl rfl fun _ a w G1 hG HT H fin=>?_;refine Ol i fO H wn rfl rfl rfl (by omega) rfl ?_;clear H;intro a H;exact fin H iJ rfl
    · refine bY 8 63 rfl rfl fun _ a w G1 hG HT H fin=>?_;refine s_call Lb H wn rfl (ML _ _ H.ro _ _ hex (by decide)) rfl ?_;clear H;rintro v64 XC a w ⟨rfl,rfl⟩ ME H;exact fin H ME (rfl)
    · refine bY 9 64 rfl rfl fun _ a w G1 hG HT H fin=>?_;refine kH H (Rm rfl ?_);clear H;intro a H;exact fin H iJ (by show _=_;simp)
    · refine bL 12 67 10 65 rfl rfl fun _ a w G1 hG HT H fin=>?_;refine qL H (wg H rfl rfl (aD c1)) rfl rfl ?_;clear H;intro a H;exact fin H iJ rfl
    · refine bL 15 70 10 65 rfl rfl fun _ a w G1 hG HT H fin=>?_;refine Jq _ H (wg H rfl rfl (aD c1)) rfl rfl rfl (by omega) (by omega) rfl ?_;clear H;intro a H;exact fin H iJ rfl
    · refine lU 11 66 16 71 10 65 rfl rfl fun _ a w G1 hG HT H fin=>?_;refine gB Rt (Li:=[]) (L:=fQ b s i p (.slice A lit.length c) (.slice B parts.length d) pl e :: Lt) H (wg H rfl rfl (aD c1)) rfl (QY _ Lt _ b s i p _ _ pl e (i+2) (by omega) (Hp.owns (Li:=[]) H.hp)) rfl ?_;clear H;rintro v72 G72 L72 a w ⟨rfl,rfl,rfl⟩ acZ H;dsimp only [List.nil_append] at H;exact fin H acZ (rfl)
    clear H;intro a w G sN H hv;have H:=H.aV (hv 19 54 rfl rfl) rfl;clear hv;refine aI ⟨rfl,?_⟩;refine K5 _ _ ?_;clear K5;refine kZ H rfl ?_ ?_
    · intro gP
      try have p54:=dT gP
      have hd2:=QX gP;refine aZ (fun _ K6=>?_);refine dI hmx [[],[],[1],[1,2],[1,2,3],[],[5],[5,6],[5,6,7],(ra 5 4),(ra 1 9),(ra 0 11)] [11] (by kernel_rfl) [_,_,_,_,.string s,_,_,_,vi i,_,.int .u8 (gy s (i+2))] H (aB (Z0 rfl (Rm rfl)) (Z0 rfl (Rm rfl)) (Z1 1 75 rfl (Rk rfl)) (Z1 2 76 rfl (Rf tV rfl)) (aB (Z1 3 77 rfl (Ro gF 0 rfl)) (Z0 rfl (Rm rfl)) (Z1 5 79 rfl (Rk rfl)) (Z1 6 80 rfl (Rf nK rfl)) (aB (Z1 7 81 rfl (Ro aF 0 rfl)) (Z1 8 82 rfl (Rd rfl)) ?_ (bH rfl) cO))) ?_
      · refine bL 4 78 9 83 rfl rfl fun _ a w G1 hG HT H fin=>?_;refine mV (i+2) fO H wn rfl rfl rfl hd2.1 rfl ?_;clear H;intro a H;rw [← jY] at H;exact fin H iJ rfl
      clear H;intro a w G qG H hv;have H:=H.aV (hv 0 74 rfl rfl) rfl;have H:=H.aV (hv 10 84 rfl rfl) rfl;clear hv;refine gB Ru (Li:=[]) (L:=fQ b s i p (.slice A lit.length c) (.slice B parts.length d) pl e :: Lt) H wn rfl (by subst nk;exact Vh _ Lp Lo _ b s i p _ _ pl e lit parts (gy s (i+2)) true hR (Hp.owns (Li:=[]) H.hp) (by omega) (by omega) hd2.2 (by omega)) rfl ?_;clear H;rintro v85 G85 L85 a w ⟨p46,aie,q46,EL,EK,rfl,zu⟩ ajm H;dsimp only [List.nil_append] at H;obtain ⟨Xg,c46,rfl,-,-⟩:=zu.buf.shape;obtain ⟨Xk,ZO,rfl,-,-⟩:=zu.prt.shape;refine aI ⟨rfl,?_⟩;refine K6 _ _ ?_;clear K6;refine kP H (SC (Rm rfl (Rk rfl (aU nK aF 0 rfl rfl (Rd rfl (Rk rfl (Rf nK rfl ?_)))))));clear H;intro a H;refine bF aF 0 (vs:=[_]) _ H wn rfl rfl rfl rfl rfl rfl rfl rfl ?_;clear H;intro w H;dsimp only [List.set,setRow] at H;refine aI ?_;refine (leave0 H results158 ?_).2
      have sS:¬ oO (s.extract i s.size) ⟨#[37,37]⟩=true:=by simp [h5]
      have sQ:¬ ru s (i+1)=true:=by simp [h27]
      first
        | exact H.hp.dW ⟨_,_,_,EL,EK,by rw [mR,ah sS,ah sQ,au ⟨c1,gP⟩];rfl,by rw [mR,ah sS,ah sQ,au ⟨c1,gP⟩];exact zu⟩
        | (have AL:¬ (oO (s.extract i s.size) ⟨#[37,100]⟩=true∧ru s (i+2)=true):=by simp_all
           exact H.hp.dW ⟨_,_,_,Lp,Lo,by rw [mR,ah sS,ah sQ,ah AL,nk],by rw [mR,ah sS,ah sQ,ah AL];exact hR⟩)
    intro gP
    try have p54:=dF gP
    refine kP H (SC (Rm rfl (Rk rfl (Rf xC rfl ?_))));clear H;intro a H;refine bF fU 0 (vs:=[_]) _ H wn rfl rfl rfl rfl rfl rfl rfl rfl ?_;clear H;intro w H;dsimp only [List.set,setRow] at H;refine aI ?_;refine (leave0 H results158 ?_).2
    have sS:¬ oO (s.extract i s.size) ⟨#[37,37]⟩=true:=by simp [h5]
    have sQ:¬ ru s (i+1)=true:=by simp [h27]
    first
      | exact H.hp.dW ⟨_,_,_,EL,EK,by rw [mR,ah sS,ah sQ,au ⟨c1,gP⟩];rfl,by rw [mR,ah sS,ah sQ,au ⟨c1,gP⟩];exact zu⟩
      | (have AL:¬ (oO (s.extract i s.size) ⟨#[37,100]⟩=true∧ru s (i+2)=true):=by simp_all
         exact H.hp.dW ⟨_,_,_,Lp,Lo,by rw [mR,ah sS,ah sQ,ah AL,nk],by rw [mR,ah sS,ah sQ,ah AL];exact hR⟩)
  skip;refine dI hmx [[],[0],[0,1],[0,1,2],[],[4],[4,5],[4,5,6],(ra 0 8),(ra 0 9),(ra 0 10),(ra 0 11),(ra 0 11),(ra 0 11++[12]),(ra 0 11++[12,13]),(ra 0 11++[12,13,14]),(ra 0 11++ra 12 4),(ra 0 17),(ra 0 18),(ra 0 19)] [] (by kernel_rfl) [_,_,_,.string s,_,_,_,vi i,.string (s.extract i s.size),.bool (oO (s.extract i s.size) ⟨#[37,100]⟩),.bool (decide (oO (s.extract i s.size) ⟨#[37,100]⟩=true)),undef,undef,undef,undef,undef,undef,undef,_,_] H (aB (Z0 rfl (Rm rfl)) (Z1 0 55 rfl (Rk rfl)) (Z1 1 56 rfl (Rf tV rfl)) (Z1 2 57 rfl (Ro gF 0 rfl)) (aB (Z0 rfl (Rm rfl)) (Z1 4 59 rfl (Rk rfl)) (Z1 5 60 rfl (Rf nK rfl)) (Z1 6 61 rfl (Ro aF 0 rfl)) (aB ?_ ?_ ?_ (aN (j:=10) (by kernel_rfl) (fun _ _ _ _ _ h=>h) rfl rfl rfl rfl rfl (fun _ _ h=>aO h (aG (aM c1))) rfl (fun _=>rfl)) (aB (aN (j:=10) (by kernel_rfl) (fun _ _ _ _ _ h=>h) rfl rfl rfl rfl rfl (fun _ _ h=>aO h (aG (aM c1))) rfl (fun _=>rfl)) (aN (j:=10) (by kernel_rfl) (fun _ _ _ _ _ h=>h) rfl rfl rfl rfl rfl (fun _ _ h=>aO h (aG (aM c1))) rfl (fun _=>rfl)) (aN (j:=10) (by kernel_rfl) (fun _ _ _ _ _ h=>h) rfl rfl rfl rfl rfl (fun _ _ h=>aO h (aG (aM c1))) rfl (fun _=>rfl)) (aN (j:=10) (by kernel_rfl) (fun _ _ _ _ _ h=>h) rfl rfl rfl rfl rfl (fun _ _ h=>aO h (aG (aM c1))) rfl (fun _=>rfl)) (aB (aN (j:=10) (by kernel_rfl) (fun _ _ _ _ _ h=>h) rfl rfl rfl rfl rfl (fun _ _ h=>aO h (aG (aM c1))) rfl (fun _=>rfl)) (aN (j:=10) (by kernel_rfl) (fun _ _ _ _ _ h=>h) rfl rfl rfl rfl rfl (fun _ _ h=>aO h (aG (aM c1))) rfl (fun _=>rfl)) (Z2 10 65 17 72 rfl (Pf (aM c1) rfl)) (Z1 18 73 rfl (Ra rfl)) cO))))) ?_
  · refine bL 3 58 7 62 rfl rfl fun _ a w G1 hG HT H fin=>?_;refine Ol i fO H wn rfl rfl rfl (by omega) rfl ?_;clear H;intro a H;exact fin H iJ rfl
  · refine bY 8 63 rfl rfl fun _ a w G1 hG HT H fin=>?_;refine s_call Lb H wn rfl (ML _ _ H.ro _ _ hex (by decide)) rfl ?_;clear H;rintro v64 XC a w ⟨rfl,rfl⟩ ME H;exact fin H ME (rfl)
  · refine bY 9 64 rfl rfl fun _ a w G1 hG HT H fin=>?_;refine kH H (Rm rfl ?_);clear H;intro a H;exact fin H iJ (by show _=_;simp)
  clear H;intro a w G sN H hv;have H:=H.aV (hv 19 54 rfl rfl) rfl;clear hv;refine aI ⟨rfl,?_⟩;refine K5 _ _ ?_;clear K5;refine lW H rfl rfl ?_;refine kP H (SC (Rm rfl (Rk rfl (Rf xC rfl ?_))));clear H;intro a H;refine bF fU 0 (vs:=[_]) _ H wn rfl rfl rfl rfl rfl rfl rfl rfl ?_;clear H;intro w H;dsimp only [List.set,setRow] at H;refine aI ?_;refine (leave0 H results158 ?_).2
  have sS:¬ oO (s.extract i s.size) ⟨#[37,37]⟩=true:=by simp [h5]
  have sQ:¬ ru s (i+1)=true:=by simp [h27]
  first
    | exact H.hp.dW ⟨_,_,_,EL,EK,by rw [mR,ah sS,ah sQ,au ⟨c1,gP⟩];rfl,by rw [mR,ah sS,ah sQ,au ⟨c1,gP⟩];exact zu⟩
    | (have AL:¬ (oO (s.extract i s.size) ⟨#[37,100]⟩=true∧ru s (i+2)=true):=by simp_all
       exact H.hp.dW ⟨_,_,_,Lp,Lo,by rw [mR,ah sS,ah sQ,ah AL,nk],by rw [mR,ah sS,ah sQ,ah AL];exact hR⟩)
end
section
open Go.RowKit
theorem aaQ:∀ args w,(callFunc 158 args).run prog w=.ok (.enter 158 args) w:=enters func158 rfl (by kernel_rfl)
def Ht (s:ByteArray) (i:Nat):UInt8:=if h:i < s.size then s[i] else 0
theorem Yr (s:ByteArray) (i:Nat):gy s i=((Ht s i).toNat:Int):=by
 unfold gy Ht;split <;> rfl
def mo (s:ByteArray) (x:qV):qV:=if gy s x.i=37 then mR s x else ⟨x.i+1,x.lit++[Ht s x.i],x.parts,x.pl,x.e⟩
def zL (s:ByteArray):Nat→qV→qV
 | 0,x=>x
 | f+1,x=>if x.i < s.size∧x.e=0 then zL s f (mo s x) else x
def mS (s:ByteArray) (x:qV):Nat:=if x.e=0 then s.size - x.i else 0
theorem VO {s:ByteArray} {f:Nat} {x:qV} (h:¬ (x.i < s.size∧x.e=0)):zL s f x=x:=by
 cases f with
 | zero=>rfl
 | succ f=>rw [zL,ah h]
theorem acL (lit:List UInt8) (parts:List iD):(rz lit parts).length≤parts.length+1:=by unfold rz;split <;> simp
theorem Wm (s:ByteArray) (x:qV) (h:x.i < s.size∧x.e=0) (h1:x.lit.length≤x.i) (h2:x.parts.length≤2*x.i) (h3:x.pl≤x.i) :
  (mo s x).i≤x.i+3∧(mo s x).lit.length≤(mo s x).i∧(mo s x).parts.length≤2*(mo s x).i∧(mo s x).pl≤(mo s x).i∧mS s (mo s x) < mS s x∧mS s x≤s.size:=by
 have hf:=acL x.lit x.parts;have hm:mS s x=s.size - x.i:=au h.2
 unfold mo mR
 split
 ·split
  ·refine ⟨?_,?_,?_,?_,?_,?_⟩ <;> simp only [mS,nH,nG,List.length_nil] at*<;> simp only [h.2,if_true] at*<;> omega
  split
  ·refine ⟨?_,?_,?_,?_,?_,?_⟩ <;> simp only [mS,nH,nG,List.length_nil] at*<;> simp only [h.2,if_true] at*<;> omega
  split
  ·refine ⟨?_,?_,?_,?_,?_,?_⟩ <;> simp only [mS,nH,nG,List.length_nil] at*<;> simp only [h.2,if_true] at*<;> omega
  refine ⟨?_,?_,?_,?_,?_,?_⟩ <;> simp only [mS,nH,nG,List.length_nil] at*<;> simp only [h.2,if_true] at*<;> (try omega) <;> (simp;omega)
 refine ⟨?_,?_,?_,?_,?_,?_⟩ <;> simp only [mS,nH,nG,List.length_nil] at*<;> simp only [h.2,if_true] at*<;> omega
def xW:qV:=⟨0,[],[],0,0⟩
def jq (s:ByteArray):qV:=zL s s.size xW
def qM (x:qV):Int:=if x.e=0∧9 < (x.pl:Int) then 9 else x.e
set_option maxHeartbeats 1000000 in
theorem ahb (G:GH) (GZ GY:OL) (w0:World) (b:Nat) (s:ByteArray) (p0 v0 q0:aj) (hR:wX b [] [] p0 v0 q0 GZ GY) (hO:gH G (sV b s xW p0 v0 q0 :: (GZ++GY)) w0) (hs:s.size≤1073741824) :
  Calls prog 154 #[(aH b 0)] w0 (fT w0 G (sV b s xW p0 v0 q0 :: (GZ++GY)) fun u G' L'=>∃ p' v' q' nX eH,L'=fQ b s (jq s).i p' v' q' (jq s).pl (qM (jq s)) :: (nX++eH)∧wX b [] (rz (jq s).lit (jq s).parts) p' v' q' nX eH):=by
 obtain ⟨A0,c0,rfl,-,-⟩:=hR.buf.shape;obtain ⟨B0,d0,rfl,-,-⟩:=hR.prt.shape;refine jy (N:=68) (T:=[(0,_)]) func154 rfl ntmps154 rfl rfl hO ?_;intro a H;refine aZ (fun _ K1=>?_);refine xq ?_;skip;refine fJ (ι:=Nat × qV × aj × Option Addr × Nat × Option Addr × Nat × OL × OL × GH) (Tc:=[(0,_)]) (Lc:=[]) (fun gh=>[]) (fun gh=>[sV b s gh.2.1 gh.2.2.1 (.slice gh.2.2.2.1 gh.2.1.lit.length gh.2.2.2.2.1) (.slice gh.2.2.2.2.2.1 gh.2.1.parts.length gh.2.2.2.2.2.2.1)]++(gh.2.2.2.2.2.2.2.1++gh.2.2.2.2.2.2.2.2.1)) (fun gh=>gh.2.2.2.2.2.2.2.2.2) (fun gh=>wX b gh.2.1.lit gh.2.1.parts gh.2.2.1 (.slice gh.2.2.2.1 gh.2.1.lit.length gh.2.2.2.2.1) (.slice gh.2.2.2.2.2.1 gh.2.1.parts.length gh.2.2.2.2.2.2.1) gh.2.2.2.2.2.2.2.1 gh.2.2.2.2.2.2.2.2.1∧zL s gh.1 gh.2.1=jq s∧mS s gh.2.1≤gh.1∧gh.1≤s.size∧gh.2.1.i≤s.size+3∧gh.2.1.lit.length≤gh.2.1.i∧gh.2.1.parts.length≤2*gh.2.1.i∧gh.2.1.pl≤gh.2.1.i) (fun gh=>gh.1) ((s.size,xW,p0,A0,c0,B0,d0,GZ,GY,G)) (by exact (H).sub ⟨rfl,aC⟩) ?_ ?_
 ·exact ⟨hR,rfl,by simp [mS,xW],bM _,by simp [xW],by simp [xW],by simp [xW],by simp [xW]⟩
 clear H;intro gh a w hI H;obtain ⟨k,x,p,vA,vc,qA,qc,Lp,Lo,g⟩:=gh;dsimp only at hI H;obtain ⟨hR,hsc,hmk,hks,hxi,hx1,hx2,hx3⟩:=hI;dsimp only [lca,bC] at H;refine aZ (fun _ K2=>?_);refine aZ (fun _ K3=>?_)
 by_cases c0:(x.i:Int) < (s.size:Int)
 ·skip
  by_cases c1:x.e=0
  ·skip;refine dI hmx [[],[0],[0,1],[0,1,2],[],[4],[4,5],[4,5,6],(ra 4 4),(ra 0 9),(ra 0 10),(ra 0 11),(ra 0 12),(ra 0 13),(ra 0 14),(ra 0 15),(ra 0 16)] [] (by kernel_rfl) [_,_,_,vi x.i,_,_,_,.string s,_,_,_,_,(aH b 0),_,vi x.e,_,_] H (aB (Z0 rfl (Rm rfl)) (Z1 0 2 rfl (Rk rfl)) (Z1 1 3 rfl (Rf nK rfl)) (Z1 2 4 rfl (Ro aF 0 rfl)) (aB (Z0 rfl (Rm rfl)) (Z1 4 6 rfl (Rk rfl)) (Z1 5 7 rfl (Rf tV rfl)) (Z1 6 8 rfl (Ro gF 0 rfl)) (aB (Z1 7 9 rfl (Rv fO rfl)) (Z2 3 5 8 10 rfl (Rc rfl)) (Z1 9 11 rfl (Rm rfl)) (Z1 10 12 rfl (YM (aD c0) rfl)) (aB ?_ (Z2 12 14 10 12 rfl (YF xC (aD c0) rfl)) (Z2 13 15 10 12 rfl (YO fU 0 (aD c0) rfl)) (Z2 14 16 10 12 rfl (YC (aD c0) rfl)) (aX (Z2 10 12 15 17 rfl (Pt (aD c0) rfl)) cO))))) ?_
   ·refine bL 11 13 10 12 rfl rfl fun _ a w G1 hG HT H fin=>?_;refine qL H (wg H rfl rfl (aD c0)) rfl rfl ?_;clear H;intro a H;exact fin H iJ rfl
   clear H;intro a w G SH H hv;have H:=H.aV (hv 16 18 rfl rfl) rfl;clear hv;refine aI ⟨rfl,?_⟩;refine K3 _ _ ?_;clear K3;refine vM H rfl (aD c1) ?_;refine kP H (Kc K2 (SB (SQ fun _ K4=>SQ fun _ K5=>?_)));clear H K2;intro a H;refine dI hmx [[],[0],[0,1],[0,1,2],[],[4],[4,5],[4,5,6],(ra 0 8),(ra 0 9)] [] (by kernel_rfl) [_,_,_,.string s,_,_,_,vi x.i,.int .u8 (gy s x.i),_] H (aB (Z0 rfl (Rm rfl)) (Z1 0 19 rfl (Rk rfl)) (Z1 1 20 rfl (Rf tV rfl)) (Z1 2 21 rfl (Ro gF 0 rfl)) (aB (Z0 rfl (Rm rfl)) (Z1 4 23 rfl (Rk rfl)) (Z1 5 24 rfl (Rf nK rfl)) (Z1 6 25 rfl (Ro aF 0 rfl)) (aX ?_ (aX (Z1 8 27 rfl (Rc rfl)) cO)))) ?_
   ·refine bL 3 22 7 26 rfl rfl fun _ a w G1 hG HT H fin=>?_;refine mV x.i fO H wn rfl rfl rfl (by omega) rfl ?_;clear H;intro a H;rw [← jY] at H;exact fin H iJ rfl
   clear H;intro a w G mg H hv;have H:=H.aV (hv 9 28 rfl rfl) rfl;clear hv;refine aI ⟨rfl,?_⟩;refine K5 _ _ ?_;clear K5;refine kZ H rfl ?_ ?_
   ·intro eO
    try have p28:=dT eO
    refine kP H (SR fun _ K6=>Rm rfl ?_);clear H;intro a H;refine gB aaQ (Li:=[]) (L:=sV b s x p (.slice vA x.lit.length vc) (.slice qA x.parts.length qc) :: (Lp++Lo)) H wn rfl (agd _ Lp Lo _ b s x p _ _ hR (Hp.owns (Li:=[]) H.hp) (by omega) (by omega) (by omega) (by omega) (by omega)) rfl ?_;clear H;rintro v30 Bt L30 a w ⟨p',v',q',nX,eH,rfl,Iu⟩ Ch H;dsimp only [List.nil_append] at H;have hst:mo s x=mR s x:=au p28;have hok:=Wm s x ⟨by omega,c1⟩ hx1 hx2 hx3
    have hkk:k=(k - 1)+1:=by omega
    have Nk:zL s (k - 1) (mo s x)=jq s:=by rw [hkk,zL,au ⟨by omega,c1⟩] at hsc;exact hsc
    rw [← hst] at H Iu;obtain ⟨Xf,Yz,rfl,-,-⟩:=Iu.buf.shape;obtain ⟨Xj,ZN,rfl,-,-⟩:=Iu.prt.shape;refine K6 _ _ ?_;clear K6;refine eX ?_;refine dN ((k - 1,mo s x,p',Xf,Yz,Xj,ZN,nX,eH,Bt)) (by exact (H).sub ⟨rfl,aC⟩) ?_ ?_
    ·(try dsimp only);exact ⟨Iu,Nk,by omega,by omega,by omega,by omega,by omega,by omega⟩
    first|omega|(dsimp only;omega)
   intro eO
   try have p28:=dF eO
   refine gI ?_;refine K4 _ _ ?_;clear K4;refine aZ (fun _ K7=>?_);refine dI hmx [[],[0],[0,1],[],[3],[3,4],[3,4,5],[],[7],[7,8],[7,8,9],(ra 3 8),(ra 0 12)] [12] (by kernel_rfl) [_,_,_,_,_,_,.string s,_,_,_,vi x.i,.int .u8 (gy s x.i)] H (aB (Z0 rfl (Rm rfl)) (Z1 0 31 rfl (Rk rfl)) (Z1 1 32 rfl (Rf Fj rfl)) (Z0 rfl (Rm rfl)) (aB (Z1 3 34 rfl (Rk rfl)) (Z1 4 35 rfl (Rf tV rfl)) (Z1 5 36 rfl (Ro gF 0 rfl)) (Z0 rfl (Rm rfl)) (aB (Z1 7 38 rfl (Rk rfl)) (Z1 8 39 rfl (Rf nK rfl)) (Z1 9 40 rfl (Ro aF 0 rfl)) ?_ (aX (bH rfl) cO)))) ?_
   ·refine bL 6 37 10 41 rfl rfl fun _ a w G1 hG HT H fin=>?_;refine mV x.i fO H wn rfl rfl rfl (by omega) rfl ?_;clear H;intro a H;rw [← jY] at H;exact fin H iJ rfl
   clear H;intro a w G Ir H hv;have H:=H.aV (hv 2 33 rfl rfl) rfl;have H:=H.aV (hv 11 42 rfl rfl) rfl;clear hv;refine gB Rq (Li:=[]) (L:=sV b s x p (.slice vA x.lit.length vc) (.slice qA x.parts.length qc) :: (Lp++Lo)) H wn rfl (WK _ Lp Lo _ b s x.i p _ qA x.parts.length qc x.pl x.e x.lit.length _ (gy s x.i) hR.ptr (Hp.owns (Li:=[]) H.hp) hR.buf (by omega)) rfl ?_;clear H;rintro v43 _ L43 a w ⟨ajL,Ki,rfl,TY,rfl⟩ AB H;dsimp only [List.nil_append] at H;obtain ⟨J5,KD,rfl,-,-⟩:=TY.shape;have hst:mo s x=⟨x.i+1,x.lit++[Ht s x.i],x.parts,x.pl,x.e⟩:=ah p28;have hok:=Wm s x ⟨by omega,c1⟩ hx1 hx2 hx3
   have hkk:k=(k - 1)+1:=by omega
   have Nk:zL s (k - 1) (mo s x)=jq s:=by rw [hkk,zL,au ⟨by omega,c1⟩] at hsc;exact hsc
   have adk:wX b (mo s x).lit (mo s x).parts (aH b 2) (.slice J5 (mo s x).lit.length KD) (.slice qA (mo s x).parts.length qc) Lp Ki:=by
    rw [hst];exact ⟨.inr rfl,by simpa [Lib.byteCells,Yr] using TY,hR.prt⟩
   refine aI ⟨rfl,?_⟩;refine K7 _ _ ?_;clear K7;refine kP H (SC (Rm rfl (Rk rfl (aU nK aF 0 rfl rfl (Rd rfl (Rk rfl (Rf nK rfl ?_)))))));clear H;intro a H;refine bF aF 0 (vs:=[_]) _ H wn rfl rfl rfl rfl rfl rfl rfl rfl ?_;clear H;intro w H;dsimp only [List.set,setRow] at H;replace H:St _ _ _ _ _ _ (sV b s (mo s x) (aH b 2) (.slice J5 (mo s x).lit.length KD) (.slice qA (mo s x).parts.length qc) :: (Lp++Ki)) _ _ _:=H.cast (by rw [hst];simp [sV,fQ]);refine aI ?_;refine dN ((k - 1,mo s x,(aH b 2),J5,KD,qA,qc,Lp,Ki,_)) (by exact (H).sub ⟨rfl,aC⟩) ?_ ?_
   ·(try dsimp only);exact ⟨adk,Nk,by omega,by omega,by omega,by omega,by omega,by omega⟩
   first|omega|(dsimp only;omega)
  skip;refine dI hmx [[],[0],[0,1],[0,1,2],[],[4],[4,5],[4,5,6],(ra 4 4),(ra 0 9),(ra 0 10),(ra 0 11),(ra 0 12),(ra 0 13),(ra 0 14),(ra 0 15),(ra 0 16)] [] (by kernel_rfl) [_,_,_,vi x.i,_,_,_,.string s,_,_,_,_,(aH b 0),_,vi x.e,_,_] H (aB (Z0 rfl (Rm rfl)) (Z1 0 2 rfl (Rk rfl)) (Z1 1 3 rfl (Rf nK rfl)) (Z1 2 4 rfl (Ro aF 0 rfl)) (aB (Z0 rfl (Rm rfl)) (Z1 4 6 rfl (Rk rfl)) (Z1 5 7 rfl (Rf tV rfl)) (Z1 6 8 rfl (Ro gF 0 rfl)) (aB (Z1 7 9 rfl (Rv fO rfl)) (Z2 3 5 8 10 rfl (Rc rfl)) (Z1 9 11 rfl (Rm rfl)) (Z1 10 12 rfl (YM (aD c0) rfl)) (aB ?_ (Z2 12 14 10 12 rfl (YF xC (aD c0) rfl)) (Z2 13 15 10 12 rfl (YO fU 0 (aD c0) rfl)) (Z2 14 16 10 12 rfl (YC (aD c0) rfl)) (aX (Z2 10 12 15 17 rfl (Pt (aD c0) rfl)) cO))))) ?_
  ·refine bL 11 13 10 12 rfl rfl fun _ a w G1 hG HT H fin=>?_;refine qL H (wg H rfl rfl (aD c0)) rfl rfl ?_;clear H;intro a H;exact fin H iJ rfl
  clear H;intro a w G SH H hv;have H:=H.aV (hv 16 18 rfl rfl) rfl;clear hv;refine aI ⟨rfl,?_⟩;refine K3 _ _ ?_;clear K3;refine lW H rfl (aM c1) ?_;refine eX ?_;refine K1 _ _ ?_;clear K1;refine aZ (fun _ K8=>?_)
  have Ns:x=jq s:=by
   rw [VO (by first|exact fun h=>c0 (by omega)|exact fun h=>c1 h.2)] at hsc;exact hsc
  subst Ns;refine kP H (SC (Rm rfl ?_));clear H;intro a H;refine gB La (Li:=[]) (L:=sV b s (jq s) p (.slice vA (jq s).lit.length vc) (.slice qA (jq s).parts.length qc) :: (Lp++Lo)) H wn rfl (LX _ Lp Lo _ b s (jq s).i p _ _ (jq s).pl (jq s).e (jq s).lit (jq s).parts hR (Hp.owns (Li:=[]) H.hp) (by omega) (by omega)) rfl ?_;clear H;rintro v52 Xx XI a w ⟨p52,aif,q52,XP,XK,rfl,pQ⟩ adS H;dsimp only [List.nil_append] at H;obtain ⟨Xh,YA,rfl,-,-⟩:=pQ.buf.shape;obtain ⟨Xl,ZP,rfl,-,-⟩:=pQ.prt.shape;refine kH H (Kn K8 (SR fun _ K9=>Rm rfl (Rk rfl (aU xC fU 0 rfl rfl (Rc rfl (Rm rfl (Sp 58 rfl ?_ ?_))))))) <;> clear H K8
  ·intro jm a H
   try have p58:=dT jm
   refine kH H (YM jm rfl ?_);clear H;intro a H;refine qL H (wg H rfl rfl jm) rfl rfl ?_;clear H;intro a H;refine kH H (YF Ic jm rfl (YO aF 0 jm rfl (YC jm rfl (Pt jm rfl (Kz K9 (Cd rfl ?_ ?_)))))) <;> clear H K9
   ·intro h64 a H
    try have p64:=dT h64
    refine kP H (SC (Rm rfl (Rk rfl (Rf xC rfl ?_))));clear H;intro a H;refine bF fU 0 (vs:=[_]) _ H wn rfl rfl rfl rfl rfl rfl rfl rfl ?_;clear H;intro w H;dsimp only [List.set,setRow] at H;refine aI ?_;refine (leave0 H results154 ?_).2
    first
     | exact H.hp.dW ⟨_,_,_,_,_,by rw [qM,au ⟨by assumption,by assumption⟩],pQ⟩
     | exact H.hp.dW ⟨_,_,_,_,_,by rw [qM,ah (by first|exact fun h=>p58 h.1|exact fun h=>p64 h.2)],pQ⟩
   intro h64 a H
   try have p64:=dF h64
   refine gI ?_;refine (leave0 H results154 ?_).2
   first
    | exact H.hp.dW ⟨_,_,_,_,_,by rw [qM,au ⟨by assumption,by assumption⟩],pQ⟩
    | exact H.hp.dW ⟨_,_,_,_,_,by rw [qM,ah (by first|exact fun h=>p58 h.1|exact fun h=>p64 h.2)],pQ⟩
  intro jm a H
  try have p58:=dF jm
  refine kH H (aY jm rfl (aP jm rfl (Pf jm rfl (Kz K9 (Cf rfl rfl ?_)))));clear H K9;intro a H;refine gI ?_;refine (leave0 H results154 ?_).2
  first
   | exact H.hp.dW ⟨_,_,_,_,_,by rw [qM,au ⟨by assumption,by assumption⟩],pQ⟩
   | exact H.hp.dW ⟨_,_,_,_,_,by rw [qM,ah (by first|exact fun h=>p58 h.1|exact fun h=>p64 h.2)],pQ⟩
 skip;refine dI hmx [[],[0],[0,1],[0,1,2],[],[4],[4,5],[4,5,6],(ra 4 4),(ra 0 9),(ra 0 10),(ra 0 11),(ra 0 12),(ra 0 13),(ra 0 14),(ra 0 15),(ra 0 16)] [] (by kernel_rfl) [_,_,_,vi x.i,_,_,_,.string s,_,_,_,undef,undef,undef,undef,undef,_] H (aB (Z0 rfl (Rm rfl)) (Z1 0 2 rfl (Rk rfl)) (Z1 1 3 rfl (Rf nK rfl)) (Z1 2 4 rfl (Ro aF 0 rfl)) (aB (Z0 rfl (Rm rfl)) (Z1 4 6 rfl (Rk rfl)) (Z1 5 7 rfl (Rf tV rfl)) (Z1 6 8 rfl (Ro gF 0 rfl)) (aB (Z1 7 9 rfl (Rv fO rfl)) (Z2 3 5 8 10 rfl (Rc rfl)) (Z1 9 11 rfl (Rm rfl)) (aN (j:=10) (by kernel_rfl) (fun _ _ _ _ _ h=>h) rfl rfl rfl rfl rfl (fun _ _ h=>aO h (aG (aM c0))) rfl (fun _=>rfl)) (aB (aN (j:=10) (by kernel_rfl) (fun _ _ _ _ _ h=>h) rfl rfl rfl rfl rfl (fun _ _ h=>aO h (aG (aM c0))) rfl (fun _=>rfl)) (aN (j:=10) (by kernel_rfl) (fun _ _ _ _ _ h=>h) rfl rfl rfl rfl rfl (fun _ _ h=>aO h (aG (aM c0))) rfl (fun _=>rfl)) (aN (j:=10) (by kernel_rfl) (fun _ _ _ _ _ h=>h) rfl rfl rfl rfl rfl (fun _ _ h=>aO h (aG (aM c0))) rfl (fun _=>rfl)) (aN (j:=10) (by kernel_rfl) (fun _ _ _ _ _ h=>h) rfl rfl rfl rfl rfl (fun _ _ h=>aO h (aG (aM c0))) rfl (fun _=>rfl)) (aX (Z2 10 12 15 17 rfl (Pf (aM c0) rfl)) cO))))) ?_
 clear H;intro a w G SH H hv;have H:=H.aV (hv 16 18 rfl rfl) rfl;clear hv;refine aI ⟨rfl,?_⟩;refine K3 _ _ ?_;clear K3;refine lW H rfl rfl ?_;refine eX ?_;refine K1 _ _ ?_;clear K1;refine aZ (fun _ aT=>?_)
 have Ns:x=jq s:=by
  rw [VO (by first|exact fun h=>c0 (by omega)|exact fun h=>c1 h.2)] at hsc;exact hsc
 subst Ns;refine kP H (SC (Rm rfl ?_));clear H;intro a H;refine gB La (Li:=[]) (L:=sV b s (jq s) p (.slice vA (jq s).lit.length vc) (.slice qA (jq s).parts.length qc) :: (Lp++Lo)) H wn rfl (LX _ Lp Lo _ b s (jq s).i p _ _ (jq s).pl (jq s).e (jq s).lit (jq s).parts hR (Hp.owns (Li:=[]) H.hp) (by omega) (by omega)) rfl ?_;clear H;rintro v52 Xx XI a w ⟨p52,aif,q52,XP,XK,rfl,pQ⟩ adS H;dsimp only [List.nil_append] at H;obtain ⟨Xh,YA,rfl,-,-⟩:=pQ.buf.shape;obtain ⟨Xl,ZP,rfl,-,-⟩:=pQ.prt.shape;refine kH H (Kn aT (SR fun _ bD=>Rm rfl (Rk rfl (aU xC fU 0 rfl rfl (Rc rfl (Rm rfl (Sp 58 rfl ?_ ?_))))))) <;> clear H aT
 ·intro jm a H
  try have p58:=dT jm
  refine kH H (YM jm rfl ?_);clear H;intro a H;refine qL H (wg H rfl rfl jm) rfl rfl ?_;clear H;intro a H;refine kH H (YF Ic jm rfl (YO aF 0 jm rfl (YC jm rfl (Pt jm rfl (Kz bD (Cd rfl ?_ ?_)))))) <;> clear H bD
  ·intro h64 a H
   try have p64:=dT h64
   refine kP H (SC (Rm rfl (Rk rfl (Rf xC rfl ?_))));clear H;intro a H;refine bF fU 0 (vs:=[_]) _ H wn rfl rfl rfl rfl rfl rfl rfl rfl ?_;clear H;intro w H;dsimp only [List.set,setRow] at H;refine aI ?_;refine (leave0 H results154 ?_).2
   first
    | exact H.hp.dW ⟨_,_,_,_,_,by rw [qM,au ⟨by assumption,by assumption⟩],pQ⟩
    | exact H.hp.dW ⟨_,_,_,_,_,by rw [qM,ah (by first|exact fun h=>p58 h.1|exact fun h=>p64 h.2)],pQ⟩
  intro h64 a H
  try have p64:=dF h64
  refine gI ?_;refine (leave0 H results154 ?_).2
  first
   | exact H.hp.dW ⟨_,_,_,_,_,by rw [qM,au ⟨by assumption,by assumption⟩],pQ⟩
   | exact H.hp.dW ⟨_,_,_,_,_,by rw [qM,ah (by first|exact fun h=>p58 h.1|exact fun h=>p64 h.2)],pQ⟩
 intro jm a H
 try have p58:=dF jm
 refine kH H (aY jm rfl (aP jm rfl (Pf jm rfl (Kz bD (Cf rfl rfl ?_)))));clear H bD;intro a H;refine gI ?_;refine (leave0 H results154 ?_).2
 first
  | exact H.hp.dW ⟨_,_,_,_,_,by rw [qM,au ⟨by assumption,by assumption⟩],pQ⟩
  | exact H.hp.dW ⟨_,_,_,_,_,by rw [qM,ah (by first|exact fun h=>p58 h.1|exact fun h=>p64 h.2)],pQ⟩
end
section
open Go.RowKit
def wQ (c:Int):List Dat:=[.lf (.int .u8 c)]
theorem Wt {G:GH} {c:Int} {cs:List aj} (h:aW G (wQ c) cs):cs=[.int .u8 c]:=by
 simp only [wQ,aW,av] at h
 obtain ⟨_,_,rfl,⟨rfl,_⟩,rfl⟩:=h
 rfl
def Dw (s:ByteArray):List Int:=s.data.toList.map fun b=>(b.toNat:Int)
theorem Yy (G:GH) (l:List Int):fI G 1 (l.map wQ) (l.map fun c=>Value.int .u8 c):=by
 refine ⟨l.map fun c=>[.int .u8 c],by induction l with|nil=>rfl|cons x r ih=>simp [ih],by simp,fun j r cs hr hc=>?_⟩
 rw [qp] at hr hc
 obtain ⟨x,hx,rfl⟩:=kU.1 hr
 rw [hx] at hc
 cases hc
 exact ⟨by simp only [wQ,aW];exact ⟨_,_,rfl,by simp [av,Value.oneCell'],rfl⟩,rfl⟩
theorem agx {G:GH} {sz b o n cap:Nat} {cur:Array aj} {e:TypeId} {fz:Nat × Nat} {rows:List (List Dat)} (hb:G b=some (.cells cur e fz)) (h:av (fun k=>if k=b then some (.cells cur e (0,0)) else G k) (.sl sz rows) (.slice (some ⟨b,o,none⟩) n cap)) (hr:∀ r∈rows,∃ c,r=wQ c):av G (.sl sz rows) (.slice (some ⟨b,o,none⟩) n cap):=by
 simp only [av] at h ⊢
 obtain ⟨A,c,h1,h2,h3,h4⟩:=h
 refine ⟨A,c,h1,h2,h3,fun hn=>?_⟩
 obtain ⟨b',o',e',hrr⟩:=h4 hn
 injection h1 with e1
 subst e1
 injection e' with e2
 injection e2 with e3 e4
 subst e3;subst e4
 refine ⟨_,_,rfl,kE.mk fun k r hk=>?_⟩
 obtain ⟨cs,g1,g2,g3⟩:=hrr.get hk
 refine ⟨cs,g1,fun j u hj=>?_,?_⟩
 ·have:=g2 j u hj
  unfold aJ at this ⊢
  simp only [if_true] at this
  rw [hb];exact this
 ·obtain ⟨c,rfl⟩:=hr r (kT hk)
  have:=Wt g3
  subst this
  simp only [wQ,aW];exact ⟨_,_,rfl,by simp [av,Value.oneCell'],rfl⟩
section
variable {N:Nat} {D:List Deferred} {w0:World} {F:Nat→Prop} {G0 G:GH} {L:OL} {T:List (Nat × aj)}
variable {r:Option Nat} {P:Program} {ops:Array Oper} {Q:Exit→Act→World→Prop} {rest:List Oper} {a:Act} {w:World}
variable {d:Nat} {ty:TypeId} {pos:String} {aK:Array Edge} {g:Option (Nat × Bool)}
theorem aib {w:World} {b o n:Nat} {c:Array aj} {e:TypeId} {fz:Nat × Nat} (h:w.heap[b]?=some (.cells c e fz)) (hn:n≠0):∃ BR,rW b (.cells c e BR) w (w.freeze ⟨b,o,none⟩ n):=by
 unfold World.freeze
 rw [ah hn]
 refine ⟨if fz.1 == fz.2 then (o,o+n) else (min fz.1 o,max fz.2 (o+n)),rfl,rfl,rfl,by simp,?_,fun k hk=>?_⟩
 ·simp [Array.getElem?_modify,h]
 ·simp [Array.getElem?_modify,Ne.symm hk]
theorem agO {t u e:TypeId} {x:Operand} {s:ByteArray} (ht:P.underlying t=some .string) (hu:P.underlying u=some (.slice e)) (he:P.underlying e=some (.int .u8)) (H:St N D w0 F G0 G L T a w) (hw:Region.wanted ⟨some d,.convert t u x,ty,pos,aK,g⟩ (yielded ops a.tmps)=true) (hx:ev T x=some (.string s)) (hz:s.size≤4294967296) (hd:Nat.blt d N=true)
  (k:∀ v G' a' w',(∀ k o,G k=some o→G' k=some o)→av G' (.sl 1 ((Dw s).map wQ)) v→St N D w0 F G0 G' L ((d,v) :: T) a' w'→WL r P ops Q rest a' w'):WL r P ops Q (⟨some d,.convert t u x,ty,pos,aK,g⟩ :: rest) a w:=by
 have hc:=Lib.run_convert_string_bytes (P:=P) w t u e s ht hu he
 have hge:=grownCap_ge w s.size 0 e
 have hml:s.size≤maxLen:=by
  have:maxLen=9223372036854775807:=rfl
  omega
 have hgm:=grownCap_le_maxLen w s.size 0 e hml
 have H1:=H.hp.drew.alloc (.cells (Lib.bytesCells w e s) e)
 have hw1:(w.drew.alloc (.cells (Lib.bytesCells w e s) e)).heap[w.drew.heap.size]?=some (.cells (Lib.bytesCells w e s) e (0,0)):=H1.own _ iH
 obtain ⟨fz,hu2⟩:=aib (o:=(Lib.bytesCells w e s).size) (n:=1) hw1 (by decide)
 have H2:=H1.upd (i:=0) rfl hu2
 have H3:St N D w0 F G0 G ((w.heap.size,.cells (Lib.bytesCells w e s) e fz) :: L) ((d,.slice (some ⟨w.heap.size,0,none⟩) s.size (grownCap w s.size 0 e)) :: T) (a.put (some d) (.slice (some ⟨w.heap.size,0,none⟩) s.size (grownCap w s.size 0 e))) (Lib.bytesWorld w e s):=H.put hd _ H2
 obtain ⟨G',hm,hb,H4⟩:=H3.dJ
 have hlen:(Dw s).length=s.size:=by rw [Dw,bX,tF];rfl
 have hrep:av G' (.sl 1 ((Dw s).map wQ)) (.slice (some ⟨w.heap.size,0,none⟩) s.size (grownCap w s.size 0 e)):=by
  refine agx hb ?_ (fun r hr=>by obtain ⟨c,-,rfl⟩:=List.mem_map.1 hr;exact ⟨c,rfl⟩)
  refine av.dS (cur:=Lib.bytesCells w e s) (e:=e) (n:=s.size) (cap:=grownCap w s.size 0 e) (by simp) (by rw [bX,hlen]) hge hgm ?_ (Yy _ _)
  rw [Lib.bytesCells,Array.toList_append,Nat.mul_one,List.take_left' (by rw [Array.toList_map,bX,tF];rfl)]
  simp [Dw]
 have k2:=k _ _ _ _ hm hrep H4
 refine fE (v:=.slice (some ⟨w.heap.size,0,none⟩) s.size (grownCap w s.size 0 e)) (w':=Lib.bytesWorld w e s) hw rfl ?_ k2
 simp only [execOp,H.ev hx,bW,hc,jE,oL]
theorem agS {t yt:TypeId} {x y:Operand} {p q:ByteArray} (H:St N D w0 F G0 G L T a w) (hw:Region.wanted ⟨some d,.binOp .lss t x y yt,ty,pos,aK,g⟩ (yielded ops a.tmps)=true) (hx:ev T x=some (.string p)) (hy:ev T y=some (.string q)) (hd:Nat.blt d N=true)
  (k:∀ a',St N D w0 F G0 G L ((d,.bool (Op.bytesLess p.toList q.toList)) :: T) a' w→WL r P ops Q rest a' w):WL r P ops Q (⟨some d,.binOp .lss t x y yt,ty,pos,aK,g⟩ :: rest) a w:=by
 refine fE (v:=.bool (Op.bytesLess p.toList q.toList)) (w':=w) hw rfl ?_ (k _ (H.put hd _ H.hp))
 simp [execOp,H.ev hx,H.ev hy,bW,eqGuard,binOp,Op.stringOp]
end
end
section
open Go.RowKit
theorem aaP:∀ args w,(callFunc 157 args).run prog w=.ok (.enter 157 args) w:=enters func157 rfl (by kernel_rfl)
theorem aaN:∀ args w,(callFunc 154 args).run prog w=.ok (.enter 154 args) w:=enters func154 rfl (by kernel_rfl)
theorem aaL:∀ args w,(callFunc 152 args).run prog w=.ok (.enter 152 args) w:=enters func152 rfl (by kernel_rfl)
theorem ahB:oK prog 259 [(0,1),(1,1),(2,2),(4,1),(5,1),(6,1)] [.string ⟨#[]⟩,.int .i64 0,.pointer none,.slice none 0 0,.slice none 0 0,.int .i64 0,.int .i64 0]:=⟨by kernel_rfl,by kernel_rfl⟩
theorem aaO:∀ args w,(callFunc 155 args).run prog w=.ok (.enter 155 args) w:=enters func155 rfl (by kernel_rfl)
theorem aco:bO prog 247 1 1:=⟨by kernel_rfl⟩
theorem aaD:∀ args w,(callFunc 144 args).run prog w=.ok (.enter 144 args) w:=enters func144 rfl (by kernel_rfl)
theorem aaE:∀ args w,(callFunc 145 args).run prog w=.ok (.enter 145 args) w:=enters func145 rfl (by kernel_rfl)
theorem aaM:∀ args w,(callFunc 153 args).run prog w=.ok (.enter 153 args) w:=enters func153 rfl (by kernel_rfl)
theorem aaF:∀ args w,(callFunc 146 args).run prog w=.ok (.enter 146 args) w:=enters func146 rfl (by kernel_rfl)
def Kr (fv:aj) (G:GH) (c:Int) (b:Bool):Prop:=∀ (G1:GH) (w1:World),(∀ b o,G b=some o→G1 b=some o)→Hold G1 w1→rT prog fv [.int .u8 c] w1 (bA w1 G1 fun u G'=>u=.bool b)
theorem aeP (G:GH) (w0:World) (hG:Hold G w0) (l:List Int) (p:Int→Bool) (v fv:aj) (hv:av G (.sl 1 (l.map wQ)) v) (hf:∀ c∈l,Kr fv G c (p c)) :
  Calls prog 157 #[v,fv] w0 (bA w0 G fun u G'=>u=vi (mO (l.findIdx? p))):=by
 obtain ⟨A,c,rfl,hc1,hc2,hg⟩:=hv.slice;have hml:maxLen=9223372036854775807:=rfl;rw [bX] at *;refine eN [(0,_),(1,_)] func157 rfl ntmps157 rfl rfl hG ?_;intro a H;refine kP H (SR fun _ K1=>ak K1 rfl (SQ fun _ K2=>SR fun _ K3=>Rm rfl (Rl zT rfl (Rm rfl (Kz K3 (SB ?_))))));clear H K1 K3;intro a H;skip;refine fJ (ι:=Nat × GH) (Tc:=[(0,_),(1,_),(7,_)]) (Lc:=[]) (fun gh=>[(8,vi gh.1)]) (fun gh=>[]) (fun gh=>gh.2) (fun gh=>gh.1≤l.length∧(l.take gh.1).findIdx? p=none∧(∀ b o,G b=some o→gh.2 b=some o)) (fun gh=>l.length - gh.1) ((0,G)) (by exact (H).sub ⟨rfl,rfl,rfl,rfl,aC⟩) ?_ ?_
 ·exact ⟨by omega,rfl,fun _ _ h=>h⟩
 clear H;intro gh a w hI H;obtain ⟨k,g⟩:=gh;dsimp only at hI H;obtain ⟨hk,hno,hgm⟩:=hI;dsimp only [lca,bC] at H;refine kP H (SR fun _ K4=>Rc rfl (Kz K4 (SQ fun _ K5=>Cd rfl ?_ ?_))) <;> clear H K4
 ·intro h9 a H
  try have p9:=dT h9
  have hk2:k < l.length:=by omega
  obtain ⟨b,o,cs,rfl,hcl,hrow,hr⟩:=hg k (wQ l[k]) (by simp [hk2]);obtain rfl:=Wt hr
  have hcell:aJ G b (o+k*1)=some (.int .u8 l[k]):=by simpa using hrow 0 _ rfl
  refine kP H (Kc K5 (SQ fun _ K6=>SB (SR fun _ K7=>Rm rfl (ak K7 rfl (SR fun _ K8=>Rm rfl (Rm rfl (Rm rfl (Ri zT JO rfl rfl (Rg JO rfl (aL hgm hcell) ?_)))))))));clear H K5 K7;intro a H;refine oF H wn rfl rfl (hf _ (jk hk2) _ _ hgm H.ro) rfl ?_;clear H;rintro v16 qj a w rfl qH H;refine K8 _ _ ?_;clear K8;refine kZ H rfl ?_ ?_
  ·intro h16
   try have p16:=dT h16
   refine kP H (SR fun _ K9=>Rm rfl (ak K9 rfl ?_));clear H K9;intro a H;refine lr H results157 rfl ?_
   first
    | exact H.rt (by rw [uq hk2 hno h16];rfl)
    | exact H.rt (by rw [show l.take k=l from jG (by omega)] at hno;rw [hno];rfl)
  intro h16
  try have p16:=dF h16
  refine kP H (Kc K6 (SC (Rd rfl (Rm rfl ?_))));clear H K6;intro a H;refine aI ?_;refine dN ((k+1,qj)) (by exact (H).sub ⟨rfl,rfl,rfl,rfl,aC⟩) ?_ ?_
  ·(try dsimp only);exact ⟨by omega,Cr hk2 hno h16,fun b o h=>qH b o (hgm b o h)⟩
  first|omega|(dsimp only;omega)
 intro h9 a H
 try have p9:=dF h9
 refine eX ?_;refine K2 _ _ ?_;clear K2;refine kP H (SR fun _ aT=>ak aT rfl ?_);clear H aT;intro a H;refine lr H results157 rfl ?_
 first
  | exact H.rt (by rw [uq hk2 hno h16];rfl)
  | exact H.rt (by rw [show l.take k=l from jG (by omega)] at hno;rw [hno];rfl)
theorem Nv (o:Option Nat):decide (0≤mO o)=o.isSome:=by cases o <;> simp [mO]
theorem ZF (G:GH) (w0:World) (hG:Hold G w0) (l:List Int) (p:Int→Bool) (v fv:aj) (hv:av G (.sl 1 (l.map wQ)) v) (hf:∀ c∈l,Kr fv G c (p c)) :
  Calls prog 152 #[v,fv] w0 (bA w0 G fun u G'=>u=.bool (l.findIdx? p).isSome):=by
 obtain ⟨A,c,rfl,hc1,hc2,-⟩:=hv.slice;rw [bX] at *;refine eN [(0,_),(1,_)] func152 rfl ntmps152 rfl rfl hG ?_;intro a H;refine kP H (SR fun _ K1=>ak K1 rfl (SR fun _ K2=>Rm rfl (Rm rfl ?_)));clear H K1;intro a H;refine s_call aaP H wn rfl (aeP _ _ H.ro l p _ _ hv hf) rfl ?_;clear H;rintro v7 G7 a w rfl zC H;exact kH H (Rc rfl (ak K2 rfl (LR results152 rfl fun H=>H.rt (aG (Nv _)))))
def EZ (c:Int):Bool:=decide (c < 32) || decide (c=127)
theorem ZM (G:GH) (c:Int):Kr (.func (.func 153) #[] #[]) G c (EZ c):=by
 intro G1 w0 hm hG;refine lH (caps:=[]) aaM ?_;refine eN [(0,_)] func153 rfl ntmps153 rfl rfl hG ?_;intro a H;refine kP H (SR fun _ K1=>ak K1 rfl (SR fun _ K2=>Rm rfl (Rc rfl (Rm rfl (Sp 5 rfl ?_ ?_))))) <;> clear H K1
 ·intro h5 a H
  try have p5:=dT h5
  exact kH H (aP h5 rfl (Pt h5 rfl (ak K2 rfl (LR results153 rfl fun H=>H.rt (aG (by unfold EZ;first|(simp_all;done)|(simp_all;omega)))))))
 intro h5 a H
 try have p5:=dF h5
 exact kH H (YM h5 rfl (YC h5 rfl (Pf h5 rfl (ak K2 rfl (LR results153 rfl fun H=>H.rt (aG (by unfold EZ;first|(simp_all;done)|(simp_all;omega))))))))
def uF (t:ByteArray):Int:=if 64 < t.size then 10 else if nC t=false then 12 else if ((Dw t).findIdx? EZ).isSome=true then 5 else qM (jq t)
def vw (t:ByteArray):List iD:=if uF t=0 then rz (jq t).lit (jq t).parts else []
theorem afs (G:GH) (l:List iD):fI G 3 (l.map iD.dat) (AQ l):=by
 refine ⟨l.map iD.cells,rfl,by simp,fun j r cs hr hc=>?_⟩;rw [qp] at hr hc;obtain ⟨x,hx,rfl⟩:=kU.1 hr;rw [hx] at hc
 cases hc
 exact ⟨UK G x,rfl⟩
theorem agc (G:GH) (w0:World) (hG:Hold G w0) (t:ByteArray) (ht:t.size < 4611686018427387904) :
  Calls prog 144 #[.string t] w0 (bA w0 G fun u G'=>∃ x,u=.tuple #[x,vi (uF t)]∧av G' (.sl 3 ((vw t).map iD.dat)) x):=by
 refine eN [(0,_)] func144 rfl ntmps144 rfl rfl hG ?_;intro a H;refine kP H (SR fun _ K1=>Ra rfl (ak K1 rfl (SQ fun _ K2=>SB (SR fun _ K3=>Rm rfl (Rv fO rfl (Rc rfl (ak K3 rfl (Cd rfl ?_ ?_)))))))) <;> clear H K1 K3
 ·intro h5 a H
  try have p5:=dT h5
  refine aZ (fun _ K4=>?_)
  have he:uF t=10:=by rw [uF,au (by omega)]
  refine kP H (SC (Ra rfl (aS K4 rfl ?_)));clear H K4;intro a H;refine cB ?_;refine (eP H results144 (.cons (aR H rfl) (.cons (aR H rfl) .nil)) ?_).1
  first
   | exact H.rt ⟨_,by rw [he0],by rw [vw,au he0];exact hrep⟩
   | exact H.rt ⟨_,by rw [he],by rw [vw,ah (by rw [he];first|decide|assumption)];exact av.jc rfl (by decide)⟩
 intro h5 a H
 try have p5:=dF h5
 refine kP H (SR fun _ K5=>Rm rfl ?_);clear H;intro a H;refine s_call Fa H wn rfl (Gn _ _ H.ro t ht) rfl ?_;clear H;rintro v11 _ a w ⟨rfl,rfl⟩ - H;refine kH H (Rn rfl (ak K5 rfl (Cd rfl ?_ ?_))) <;> clear H K5
 ·intro h9 a H
  try have p9:=dT h9
  refine aZ (fun _ K6=>?_)
  have he:uF t=12:=by rw [uF,ah (by omega),au (by simpa using h9)]
  refine kP H (SC (Ra rfl (aS K6 rfl ?_)));clear H K6;intro a H;refine cB ?_;refine (eP H results144 (.cons (aR H rfl) (.cons (aR H rfl) .nil)) ?_).1
  first
   | exact H.rt ⟨_,by rw [he0],by rw [vw,au he0];exact hrep⟩
   | exact H.rt ⟨_,by rw [he],by rw [vw,ah (by rw [he];first|decide|assumption)];exact av.jc rfl (by decide)⟩
 intro h9 a H
 try have p9:=dF h9
 refine kP H (SR fun _ K7=>Rm rfl ?_);clear H;intro a H;refine agO fO zT Gm H wn rfl (by omega) rfl ?_;clear H;intro v15 Bq a w oq Ue H;obtain ⟨Xb,c15,rfl,-,-,-⟩:=Ue.slice;refine s_call aaL H wn rfl (ZF _ _ H.ro _ EZ _ _ Ue (fun c _=>ZM _ c)) rfl ?_;clear H;rintro v16 qj a w rfl qH H;refine kH H (ak K7 rfl (Cd rfl ?_ ?_)) <;> clear H K7
 ·intro eu a H
  try have oD:=dT eu
  refine aZ (fun _ K8=>?_)
  have he:uF t=5:=by rw [uF,ah (by omega),ah (by simpa using h9),au eu]
  refine kP H (SC (Ra rfl (aS K8 rfl ?_)));clear H K8;intro a H;refine cB ?_;refine (eP H results144 (.cons (aR H rfl) (.cons (aR H rfl) .nil)) ?_).1
  first
   | exact H.rt ⟨_,by rw [he0],by rw [vw,au he0];exact hrep⟩
   | exact H.rt ⟨_,by rw [he],by rw [vw,ah (by rw [he];first|decide|assumption)];exact av.jc rfl (by decide)⟩
 intro eu a H
 try have oD:=dF eu
 refine kP H (Kc K2 (SR fun _ K9=>Rm rfl ?_));clear H K2;intro a H;refine kr ahB [_,_,_,_,_,_,_] H wn rfl rfl rfl rfl ?_;clear H;intro a H;refine fu (cs:=[_,_,_,_,_,_,_]) H wn rfl rfl rfl ?_;clear H;intro b19 a w aiQ H;refine kH H (ak K9 rfl (SQ fun _ aT=>SR fun _ bD=>Rm rfl ?_));clear H K9;intro a H;refine gB aaN (Li:=[]) (L:=[sV b19 t xW (.pointer none) (.slice none 0 0) (.slice none 0 0)]) H wn rfl (ahb _ [] [] _ b19 t _ _ _ ⟨.inl rfl,dx.nil,dx.nil⟩ (Hp.owns (Li:=[]) H.hp) (by omega)) rfl ?_;clear H;rintro v21 J9 L21 a w ⟨p',v',q',nX,eH,rfl,MK⟩ wm H;dsimp only [List.nil_append] at H;obtain ⟨A21,c21,rfl,-,-⟩:=MK.buf.shape;obtain ⟨Xi,d21,rfl,-,-⟩:=MK.prt.shape;refine bD _ _ ?_;clear bD;refine aZ (fun _ bK=>?_)
 have he:uF t=qM (jq t):=by rw [uF,ah (by omega),ah (by simpa using h9),ah (by simp [eu])]
 refine kP H (SC (Rm rfl (Rk rfl (aU xC fU 0 rfl rfl (Rc rfl (Kn bK (Cd rfl ?_ ?_))))))) <;> clear H bK
 ·intro gJ a H
  try have p26:=dT gJ
  refine aZ (fun _ bT=>?_);have H:=H.sub (T':=[(4,_)]) ⟨rfl,aC⟩;refine dI hmx [[],[0],[0,1],[0,1,2],[],(ra 0 5)] [] (by kernel_rfl) [_,_,_,vi (qM (jq t)),_,_] H (aB (Z0 rfl (Rm rfl)) (Z1 0 27 rfl (Rk rfl)) (Z1 1 28 rfl (Rf xC rfl)) (Z1 2 29 rfl (Ro fU 0 rfl)) (aX (Z0 rfl (Ra rfl)) (aX (Z1 3 30 rfl (Ra rfl)) cO))) ?_
  clear H;intro a w G pO H hv;have H:=H.aV (hv 4 2 rfl rfl) rfl;have H:=H.aV (hv 5 3 rfl rfl) rfl;clear hv;refine aI ⟨rfl,?_⟩;refine bT _ _ ?_;clear bT;refine cB ?_;refine (eP H results144 (.cons (aR H rfl) (.cons (aR H rfl) .nil)) ?_).1
  first
   | exact H.rt ⟨_,by rw [he0],by rw [vw,au he0];exact hrep⟩
   | exact H.rt ⟨_,by rw [he],by rw [vw,ah (by rw [he];first|decide|assumption)];exact av.jc rfl (by decide)⟩
 intro gJ a H
 try have p26:=dF gJ
 refine gI ?_;refine aT _ _ ?_;clear aT;refine aZ (fun _ bU=>?_)
 have he0:uF t=0:=by rw [he];omega
 have H:=(St.cast H (show _=[_]++(nX++eH) from rfl)).perm (List.Perm.append_left _ yM);have H:=St.un H;obtain ⟨Gr,hmr,hrep,H⟩:=St.vg (Li:=[_]++eH) (Lo:=nX) H MK.prt (rows:=(rz (jq t).lit (jq t).parts).map iD.dat) (by simp) (afs _ _);dsimp only [lca,bC] at H;refine kP H (SC (Rm rfl (Rk rfl (aU Fp Gf 0 rfl rfl (Ra rfl (aS bU rfl ?_))))));clear H bU;intro a H;refine cB ?_;refine (eP H results144 (.cons (aR H rfl) (.cons (aR H rfl) .nil)) ?_).1
 first
  | exact H.rt ⟨_,by rw [he0],by rw [vw,au he0];exact hrep⟩
  | exact H.rt ⟨_,by rw [he],by rw [vw,ah (by rw [he];first|decide|assumption)];exact av.jc rfl (by decide)⟩
structure nE where
 fmt:Int
 start:Int
 wO:ByteArray
 restart:Int
def nE.dat (x:nE):List Dat:=[li x.fmt,li x.start,.lf (.string x.wO),li x.restart]
abbrev nE.cells (x:nE):List aj:=[vi x.fmt,vi x.start,.string x.wO,vi x.restart]
theorem afv {G:GH} {x:nE} {cs:List aj} (h:aW G x.dat cs):cs=x.cells:=by
 simp only [nE.dat,aW,av] at h
 obtain ⟨_,_,rfl,⟨rfl,_⟩,_,_,rfl,⟨rfl,_⟩,_,_,rfl,⟨rfl,_⟩,_,_,rfl,⟨rfl,_⟩,rfl⟩:=h
 rfl
theorem aeN (G:GH) (w0:World) (hG:Hold G w0) (l:List iD) (p:iD→Bool) (v fv:aj) (hv:av G (.sl 3 (l.map iD.dat)) v) (hf:∀ x∈l,uN fv G x.dat (p x)) :
  Calls prog 155 #[v,fv] w0 (bA w0 G fun u G'=>u=vi (mO (l.findIdx? p))):=by
 obtain ⟨A,c,rfl,hc1,hc2,hg⟩:=hv.slice;have hml:maxLen=9223372036854775807:=rfl;rw [bX] at *;refine eN [(0,_),(1,_)] func155 rfl ntmps155 rfl rfl hG ?_;intro a H;refine kP H (SR fun _ K1=>ak K1 rfl (SQ fun _ K2=>SR fun _ K3=>Rm rfl (Rl Ey rfl (Rm rfl (Kz K3 (SB ?_))))));clear H K1 K3;intro a H;skip;refine fJ (ι:=Nat × GH) (Tc:=[(0,_),(1,_),(7,_)]) (Lc:=[]) (fun gh=>[(8,vi gh.1)]) (fun gh=>[]) (fun gh=>gh.2) (fun gh=>gh.1≤l.length∧(l.take gh.1).findIdx? p=none∧(∀ b o,G b=some o→gh.2 b=some o)) (fun gh=>l.length - gh.1) ((0,G)) (by exact (H).sub ⟨rfl,rfl,rfl,rfl,aC⟩) ?_ ?_
 ·exact ⟨by omega,rfl,fun _ _ h=>h⟩
 clear H;intro gh a w hI H;obtain ⟨k,g⟩:=gh;dsimp only at hI H;obtain ⟨hk,hno,hgm⟩:=hI;dsimp only [lca,bC] at H;refine kP H (SR fun _ K4=>Rc rfl (Kz K4 (SQ fun _ K5=>Cd rfl ?_ ?_))) <;> clear H K4
 ·intro h9 a H
  try have p9:=dT h9
  have hk2:k < l.length:=by omega
  obtain ⟨b,o,cs,rfl,hcl,hrow,hr⟩:=hg k l[k].dat (by simp [hk2]);obtain rfl:=UJ hr;refine kP H (Kc K5 (SQ fun _ K6=>SB (SR fun _ K7=>Rm rfl (ak K7 rfl (SR fun _ K8=>Rm rfl (Rm rfl (Rm rfl (Ri Ey Eu rfl rfl ?_))))))));clear H K5 K7;intro a H;refine bE Eu (cs:=l[k].cells) H wn rfl rfl (fun j v hj=>H.hp.aJ (aL hgm (hrow j v hj))) rfl ?_;clear H;intro a H;refine oF H wn rfl rfl (hf _ (jk hk2) _ _ _ hgm H.ro (UK _ l[k])) rfl ?_;clear H;rintro v16 qj a w rfl qH H;refine K8 _ _ ?_;clear K8;refine kZ H rfl ?_ ?_
  ·intro h16
   try have p16:=dT h16
   refine kP H (SR fun _ K9=>Rm rfl (ak K9 rfl ?_));clear H K9;intro a H;refine lr H results155 rfl ?_
   first
    | exact H.rt (by rw [uq hk2 hno h16];rfl)
    | exact H.rt (by rw [show l.take k=l from jG (by omega)] at hno;rw [hno];rfl)
  intro h16
  try have p16:=dF h16
  refine kP H (Kc K6 (SC (Rd rfl (Rm rfl ?_))));clear H K6;intro a H;refine aI ?_;refine dN ((k+1,qj)) (by exact (H).sub ⟨rfl,rfl,rfl,rfl,aC⟩) ?_ ?_
  ·(try dsimp only);exact ⟨by omega,Cr hk2 hno h16,fun b o h=>qH b o (hgm b o h)⟩
  first|omega|(dsimp only;omega)
 intro h9 a H
 try have p9:=dF h9
 refine eX ?_;refine K2 _ _ ?_;clear K2;refine kP H (SR fun _ aT=>ak aT rfl ?_);clear H aT;intro a H;refine lr H results155 rfl ?_
 first
  | exact H.rt (by rw [uq hk2 hno h16];rfl)
  | exact H.rt (by rw [show l.take k=l from jG (by omega)] at hno;rw [hno];rfl)
theorem ZE (G:GH) (w0:World) (hG:Hold G w0) (l:List iD) (p:iD→Bool) (v fv:aj) (hv:av G (.sl 3 (l.map iD.dat)) v) (hf:∀ x∈l,uN fv G x.dat (p x)) :
  Calls prog 145 #[v,fv] w0 (bA w0 G fun u G'=>u=.bool (l.findIdx? p).isSome):=by
 obtain ⟨A,c,rfl,hc1,hc2,-⟩:=hv.slice;rw [bX] at *;refine eN [(0,_),(1,_)] func145 rfl ntmps145 rfl rfl hG ?_;intro a H;refine kP H (SR fun _ K1=>ak K1 rfl (SR fun _ K2=>Rm rfl (Rm rfl ?_)));clear H K1;intro a H;refine s_call aaO H wn rfl (aeN _ _ H.ro l p _ _ hv hf) rfl ?_;clear H;rintro v7 G7 a w rfl zC H;exact kH H (Rc rfl (ak K2 rfl (LR results145 rfl fun H=>H.rt (aG (Nv _)))))
theorem afw {G:GH} {bl:Nat} {k:Int} (hb:aJ G bl 0=some (vi k)) (x:iD):uN (.func (.func 146) #[] #[(aH bl 0)]) G x.dat (decide (k < x.level)):=by
 intro G1 w0 cs hm hG hr;refine lH (caps:=[(aH bl 0)]) aaF ?_;obtain rfl:=UJ hr;replace hb:=aL hm hb;refine eN [(0,_),(1,_)] func146 rfl ntmps146 rfl rfl hG ?_;intro a H;refine dw (fun _ K1=>?_);refine fu (cs:=[_,_,_]) H wn rfl rfl rfl ?_;clear H;intro b2 a w hb2 H;refine kH H (ak K1 rfl (SR fun _ K2=>aU aco aF 0 rfl rfl (Rg aF rfl (by assumption) ?_)));clear H K1;intro a H;exact kH H (Rc rfl (ak K2 rfl (LR results146 rfl fun H=>H.rt rfl)))
def xQ (t:ByteArray) (k:Int):Int:=if k < 1∨9 < k then 2 else if uF t=0∧((vw t).findIdx? fun x=>decide (k < x.level)).isSome=true then 6 else uF t
theorem afu (G:GH) (w0:World) (hG:Hold G w0) (t:ByteArray) (k:Int) (ht:t.size < 4611686018427387904) :
  Calls prog 136 #[.string t,vi k] w0 (bA w0 G fun u G'=>u=vi (xQ t k)):=by
 refine eN [(0,_),(1,_)] func136 rfl ntmps136 rfl rfl hG ?_;intro a H;refine dw (fun _ K1=>?_);refine fu (cs:=[_]) H wn rfl rfl rfl ?_;clear H;intro b3 a w hb3 H;refine kH H (ak K1 rfl (SQ fun _ K2=>SR fun _ K3=>Ro aF 0 rfl (Rc rfl (Rm rfl (Sp 9 rfl ?_ ?_))))) <;> clear H K1
 ·intro h9 a H
  try have p9:=dT h9
  refine kH H (aP h9 rfl (Pt h9 rfl (Kz K3 (Ct rfl rfl (SR fun _ K4=>ak K4 rfl ?_)))));clear H K3 K4;intro a H;refine lr H results136 rfl ?_
  exact H.rt (aA vi (by unfold xQ;(repeat' split) <;> first|rfl|(exfalso;simp_all;done)|(exfalso;simp_all;omega)|(simp_all;done)))
 intro h9 a H
 try have p9:=dF h9
 refine kH H (YO aF 0 h9 rfl (YC h9 rfl (Pf h9 rfl (Kz K3 (Cd rfl ?_ ?_))))) <;> clear H K3
 ·intro h12 a H
  try have rJ:=dT h12
  refine kP H (SR fun _ K5=>ak K5 rfl ?_);clear H K5;intro a H;refine lr H results136 rfl ?_
  exact H.rt (aA vi (by unfold xQ;(repeat' split) <;> first|rfl|(exfalso;simp_all;done)|(exfalso;simp_all;omega)|(simp_all;done)))
 intro h12 a H
 try have rJ:=dF h12
 refine gI ?_;refine K2 _ _ ?_;clear K2;refine aZ (fun _ K6=>?_);obtain ⟨Ga,hma,zw,H⟩:=H.dJ
 have hbk:aJ Ga b3 0=some (vi k):=by unfold aJ;rw [zw];rfl
 refine kP H (SC (Rm rfl ?_));clear H;intro a H;refine s_call aaD H wn rfl (agc _ _ H.ro t ht) rfl ?_;clear H;rintro v15 Bq a w ⟨x15,rfl,Ui⟩ oq H;obtain ⟨Xb,c15,rfl,-,-,-⟩:=Ui.slice;replace hbk:=aL oq hbk;refine kH H (Rm rfl ?_);clear H;intro a H;(iterate 2 refine jS H wn rfl rfl rfl ?_;clear H;intro a H);refine kH H (Ra rfl (aS K6 rfl (SQ fun _ K7=>SR fun _ K8=>Rm rfl (Rc rfl (Rm rfl (Sp 20 rfl ?_ ?_)))))) <;> clear H K6
 ·intro h20 a H
  try have CP:=dT h20
  refine kH H (YM h20 rfl ?_);clear H;intro a H;refine oV H (wg H rfl rfl h20) rfl rfl ?_;clear H;intro a H;refine s_call aaE H (wg H rfl rfl h20) rfl (ZE _ _ H.ro _ (fun x=>decide (k < x.level)) _ _ Ui (fun x _=>afw hbk x)) rfl ?_;clear H;rintro v23 Ka a w rfl oP H;refine kH H (Pt h20 rfl (Kz K8 (Cd rfl ?_ ?_))) <;> clear H K8
  ·intro dL a H
   try have jQ:=dT dL
   refine kP H (SC (aS K7 rfl (SR fun _ K9=>Rm rfl (ak K9 rfl ?_))));clear H K7 K9;intro a H;refine lr H results136 rfl ?_
   exact H.rt (aA vi (by unfold xQ;(repeat' split) <;> first|rfl|(exfalso;simp_all;done)|(exfalso;simp_all;omega)|(simp_all;done)))
  intro dL a H
  try have jQ:=dF dL
  refine kP H (Kc K7 (SR fun _ aT=>Rm rfl (ak aT rfl ?_)));clear H K7 aT;intro a H;refine lr H results136 rfl ?_
  exact H.rt (aA vi (by unfold xQ;(repeat' split) <;> first|rfl|(exfalso;simp_all;done)|(exfalso;simp_all;omega)|(simp_all;done)))
 intro h20 a H
 try have CP:=dF h20
 refine kH H (aY h20 rfl (Pf h20 rfl (Kz K8 (Cf rfl rfl (Kc K7 (SR fun _ bD=>Rm rfl (ak bD rfl ?_)))))));clear H K8 K7 bD;intro a H;refine lr H results136 rfl ?_
 exact H.rt (aA vi (by unfold xQ;(repeat' split) <;> first|rfl|(exfalso;simp_all;done)|(exfalso;simp_all;omega)|(simp_all;done)))
end
section
open Go.RowKit
theorem JK:Ty prog 230 4 40 [.int .i64 0,.int .i64 0,.string ⟨#[]⟩,.int .i64 0] true:=⟨by kernel_rfl,by kernel_rfl⟩
theorem JR:prog.underlying 182=some (.slice 230):=by kernel_rfl
theorem R7:bO prog 230 0 0:=⟨by kernel_rfl⟩
theorem R8:bO prog 230 1 1:=⟨by kernel_rfl⟩
theorem acg:bO prog 230 2 2:=⟨by kernel_rfl⟩
theorem aax:∀ args w,(callFunc 136 args).run prog w=.ok (.enter 136 args) w:=enters func136 rfl (by kernel_rfl)
theorem R9:bO prog 230 3 3:=⟨by kernel_rfl⟩
def BL:Nat→List nE→Int
 | _,[]=>0
 | i,x :: r=>if x.fmt < 1∨7 < x.fmt then 3 else if x.start < 0∨32767 < x.start then 2 else if xQ x.wO ((i+1:Nat):Int)≠0 then xQ x.wO ((i+1:Nat):Int) else if x.restart < 0∨(i:Int) < x.restart then 5 else BL (i+1) r
def dG (l:List nE):Int:=if l.length=0 then 11 else if 9 < l.length then 9 else BL 0 l
theorem iA {l:List nE} {k:Nat} (h:k < l.length):BL k (l.drop k)=if l[k].fmt < 1∨7 < l[k].fmt then 3 else if l[k].start < 0∨32767 < l[k].start then 2 else if xQ l[k].wO ((k+1:Nat):Int)≠0 then xQ l[k].wO ((k+1:Nat):Int) else if l[k].restart < 0∨(k:Int) < l[k].restart then 5 else BL (k+1) (l.drop (k+1)):=by
 rw [mK h,BL]
theorem Za (G:GH) (w0:World) (hG:Hold G w0) (l:List nE) (v:aj) (hv:av G (.sl 4 (l.map nE.dat)) v) (ht:∀ x∈l,x.wO.size < 4611686018427387904) :
  Calls prog 118 #[v] w0 (bA w0 G fun u G'=>u=vi (dG l)):=by
 obtain ⟨A,c,rfl,hc1,hc2,hg⟩:=hv.slice;have hml:maxLen=9223372036854775807:=rfl;rw [bX] at *;refine eN [(0,_)] func118 rfl ntmps118 rfl rfl hG ?_;intro a H;refine kP H (SR fun _ K1=>ak K1 rfl (SQ fun _ K2=>SB (SR fun _ K3=>Rm rfl (Rl JR rfl (Rc rfl (ak K3 rfl (Cd rfl ?_ ?_))))))) <;> clear H K1 K3
 ·intro h6 a H
  try have p6:=dT h6
  refine kP H (SR fun _ K4=>ak K4 rfl ?_);clear H K4;intro a H;refine lr H results118 rfl ?_
  first
   | exact H.rt (aA vi (by rw [dG,au (by omega)]))
   | exact H.rt (aA vi (by rw [dG,ah (by omega),au (by omega)]))
   | exact H.rt (aA vi (by rw [dG,ah (by omega),ah (by omega),← he,iA hk2,au (by omega)]))
   | exact H.rt (aA vi (by rw [dG,ah (by omega),ah (by omega),← he,iA hk2,ah (by omega),au (by omega)]))
   | exact H.rt (aA vi (by rw [dG,ah (by omega),ah (by omega),← he,iA hk2,ah (by omega),ah (by omega),au p45]))
   | exact H.rt (aA vi (by rw [dG,ah (by omega),ah (by omega),← he,iA hk2,ah (by omega),ah (by omega),ah p45,au (by omega)]))
   | exact H.rt (aA vi (by rw [dG,ah (by omega),ah (by omega),← he,iK (by omega)];rfl))
 intro h6 a H
 try have p6:=dF h6
 refine kP H (SR fun _ K5=>Rm rfl (Rl JR rfl (Rc rfl (ak K5 rfl (Cd rfl ?_ ?_))))) <;> clear H K5
 ·intro h10 a H
  try have lC:=dT h10
  refine kP H (SR fun _ K6=>ak K6 rfl ?_);clear H K6;intro a H;refine lr H results118 rfl ?_
  first
   | exact H.rt (aA vi (by rw [dG,au (by omega)]))
   | exact H.rt (aA vi (by rw [dG,ah (by omega),au (by omega)]))
   | exact H.rt (aA vi (by rw [dG,ah (by omega),ah (by omega),← he,iA hk2,au (by omega)]))
   | exact H.rt (aA vi (by rw [dG,ah (by omega),ah (by omega),← he,iA hk2,ah (by omega),au (by omega)]))
   | exact H.rt (aA vi (by rw [dG,ah (by omega),ah (by omega),← he,iA hk2,ah (by omega),ah (by omega),au p45]))
   | exact H.rt (aA vi (by rw [dG,ah (by omega),ah (by omega),← he,iA hk2,ah (by omega),ah (by omega),ah p45,au (by omega)]))
   | exact H.rt (aA vi (by rw [dG,ah (by omega),ah (by omega),← he,iK (by omega)];rfl))
 intro h10 a H
 try have lC:=dF h10
 refine kP H (Kc K2 (SQ fun _ K7=>SR fun _ K8=>Rm rfl (Rl JR rfl (Rm rfl (Kz K8 (SB ?_))))));clear H K2 K8;intro a H;skip;refine fJ (ι:=Nat × GH) (Tc:=[(14,_),(15,_)]) (Lc:=[]) (fun gh=>[(16,vi gh.1)]) (fun gh=>[]) (fun gh=>gh.2) (fun gh=>gh.1≤l.length∧BL gh.1 (l.drop gh.1)=BL 0 l∧(∀ b o,G b=some o→gh.2 b=some o)) (fun gh=>l.length - gh.1) ((0,G)) (by exact (H).sub ⟨rfl,rfl,rfl,aC⟩) ?_ ?_
 ·exact ⟨jf _,rfl,fun _ _ h=>h⟩
 clear H;intro gh a w hI H;obtain ⟨k,g⟩:=gh;dsimp only at hI H;obtain ⟨hk,he,hgm⟩:=hI;dsimp only [lca,bC] at H;refine kP H (SR fun _ K9=>Rc rfl (Kz K9 (SQ fun _ aT=>Cd rfl ?_ ?_))) <;> clear H K9
 ·intro dB a H
  try have kN:=dT dB
  have hk2:k < l.length:=by omega
  obtain ⟨b,o,cs,rfl,hcl,hrow,hr⟩:=hg k l[k].dat (by simp [hk2]);obtain rfl:=afv hr;refine kP H (Kc aT (SQ fun _ bD=>SB (SR fun _ bK=>Rm rfl (Ri JR JK rfl rfl ?_))));clear H aT;intro a H;refine bE JK (cs:=l[k].cells) H wn rfl rfl (fun j v hj=>H.hp.aJ (aL hgm (hrow j v hj))) rfl ?_;clear H;intro a H;refine fq JK H wn rfl ?_;clear H;intro b4 a w hb4 H;refine kH H (Ra rfl ?_);clear H;intro a H;refine bF JK 0 (vs:=[_,_,_,_]) _ H wn rfl rfl rfl rfl rfl rfl rfl rfl ?_;clear H;intro w H;dsimp only [List.set,setRow] at H;refine bK _ _ ?_;clear bK;refine kP H (SQ fun _ bT=>SB (SR fun _ bU=>aU R7 aF 0 rfl rfl (Rc rfl (Rm rfl (Sp 25 rfl ?_ ?_))))) <;> clear H
  ·intro kW a H
   try have p25:=dT kW
   refine kH H (aY kW rfl (Pt kW rfl (ak bU rfl (Ct rfl rfl (SR fun _ dM=>ak dM rfl ?_)))));clear H bU dM;intro a H;refine lr H results118 rfl ?_
   first
    | exact H.rt (aA vi (by rw [dG,au (by omega)]))
    | exact H.rt (aA vi (by rw [dG,ah (by omega),au (by omega)]))
    | exact H.rt (aA vi (by rw [dG,ah (by omega),ah (by omega),← he,iA hk2,au (by omega)]))
    | exact H.rt (aA vi (by rw [dG,ah (by omega),ah (by omega),← he,iA hk2,ah (by omega),au (by omega)]))
    | exact H.rt (aA vi (by rw [dG,ah (by omega),ah (by omega),← he,iA hk2,ah (by omega),ah (by omega),au p45]))
    | exact H.rt (aA vi (by rw [dG,ah (by omega),ah (by omega),← he,iA hk2,ah (by omega),ah (by omega),ah p45,au (by omega)]))
    | exact H.rt (aA vi (by rw [dG,ah (by omega),ah (by omega),← he,iK (by omega)];rfl))
  intro kW a H
  try have p25:=dF kW
  refine kH H (YF R7 kW rfl (YO aF 0 kW rfl (YC kW rfl (Pf kW rfl (ak bU rfl (Cd rfl ?_ ?_)))))) <;> clear H bU
  ·intro h21 a H
   try have pW:=dT h21
   refine kP H (SR fun _ dO=>ak dO rfl ?_);clear H dO;intro a H;refine lr H results118 rfl ?_
   first
    | exact H.rt (aA vi (by rw [dG,au (by omega)]))
    | exact H.rt (aA vi (by rw [dG,ah (by omega),au (by omega)]))
    | exact H.rt (aA vi (by rw [dG,ah (by omega),ah (by omega),← he,iA hk2,au (by omega)]))
    | exact H.rt (aA vi (by rw [dG,ah (by omega),ah (by omega),← he,iA hk2,ah (by omega),au (by omega)]))
    | exact H.rt (aA vi (by rw [dG,ah (by omega),ah (by omega),← he,iA hk2,ah (by omega),ah (by omega),au p45]))
    | exact H.rt (aA vi (by rw [dG,ah (by omega),ah (by omega),← he,iA hk2,ah (by omega),ah (by omega),ah p45,au (by omega)]))
    | exact H.rt (aA vi (by rw [dG,ah (by omega),ah (by omega),← he,iK (by omega)];rfl))
  intro h21 a H
  try have pW:=dF h21
  refine kP H (SR fun _ dD=>aU R8 aF 0 rfl rfl (Rc rfl (Rm rfl (Sp 34 rfl ?_ ?_)))) <;> clear H
  ·intro fM a H
   try have p34:=dT fM
   refine kH H (aY fM rfl (Pt fM rfl (ak dD rfl (Ct rfl rfl (SR fun _ eG=>ak eG rfl ?_)))));clear H dD eG;intro a H;refine lr H results118 rfl ?_
   first
    | exact H.rt (aA vi (by rw [dG,au (by omega)]))
    | exact H.rt (aA vi (by rw [dG,ah (by omega),au (by omega)]))
    | exact H.rt (aA vi (by rw [dG,ah (by omega),ah (by omega),← he,iA hk2,au (by omega)]))
    | exact H.rt (aA vi (by rw [dG,ah (by omega),ah (by omega),← he,iA hk2,ah (by omega),au (by omega)]))
    | exact H.rt (aA vi (by rw [dG,ah (by omega),ah (by omega),← he,iA hk2,ah (by omega),ah (by omega),au p45]))
    | exact H.rt (aA vi (by rw [dG,ah (by omega),ah (by omega),← he,iA hk2,ah (by omega),ah (by omega),ah p45,au (by omega)]))
    | exact H.rt (aA vi (by rw [dG,ah (by omega),ah (by omega),← he,iK (by omega)];rfl))
  intro fM a H
  try have p34:=dF fM
  refine kH H (YF R8 fM rfl (YO aF 0 fM rfl (YC fM rfl (Pf fM rfl (ak dD rfl (Cd rfl ?_ ?_)))))) <;> clear H dD
  ·intro pI a H
   try have p30:=dT pI
   refine kP H (SR fun _ gM=>ak gM rfl ?_);clear H gM;intro a H;refine lr H results118 rfl ?_
   first
    | exact H.rt (aA vi (by rw [dG,au (by omega)]))
    | exact H.rt (aA vi (by rw [dG,ah (by omega),au (by omega)]))
    | exact H.rt (aA vi (by rw [dG,ah (by omega),ah (by omega),← he,iA hk2,au (by omega)]))
    | exact H.rt (aA vi (by rw [dG,ah (by omega),ah (by omega),← he,iA hk2,ah (by omega),au (by omega)]))
    | exact H.rt (aA vi (by rw [dG,ah (by omega),ah (by omega),← he,iA hk2,ah (by omega),ah (by omega),au p45]))
    | exact H.rt (aA vi (by rw [dG,ah (by omega),ah (by omega),← he,iA hk2,ah (by omega),ah (by omega),ah p45,au (by omega)]))
    | exact H.rt (aA vi (by rw [dG,ah (by omega),ah (by omega),← he,iK (by omega)];rfl))
  intro pI a H
  try have p30:=dF pI
  refine kP H (Kc bT (SQ fun _ fG=>SR fun _ gN=>aU acg gF 0 rfl rfl (Rm rfl (Rd rfl ?_))));clear H bT;intro a H;rw [show ((k:Int)+1)=((k+1:Nat):Int) from rfl] at H;refine s_call aax H wn rfl (afu _ _ H.ro l[k].wO ((k+1:Nat):Int) (ht _ (jk hk2))) rfl ?_;clear H;rintro v43 GL a w rfl AB H;refine kH H (ak gN rfl (SR fun _ iY=>Rm rfl (Rc rfl (Kz iY (Cd rfl ?_ ?_))))) <;> clear H gN iY
  ·intro h45 a H
   try have p45:=dT h45
   refine kP H (SR fun _ jX=>Rm rfl (ak jX rfl ?_));clear H jX;intro a H;refine lr H results118 rfl ?_
   first
    | exact H.rt (aA vi (by rw [dG,au (by omega)]))
    | exact H.rt (aA vi (by rw [dG,ah (by omega),au (by omega)]))
    | exact H.rt (aA vi (by rw [dG,ah (by omega),ah (by omega),← he,iA hk2,au (by omega)]))
    | exact H.rt (aA vi (by rw [dG,ah (by omega),ah (by omega),← he,iA hk2,ah (by omega),au (by omega)]))
    | exact H.rt (aA vi (by rw [dG,ah (by omega),ah (by omega),← he,iA hk2,ah (by omega),ah (by omega),au p45]))
    | exact H.rt (aA vi (by rw [dG,ah (by omega),ah (by omega),← he,iA hk2,ah (by omega),ah (by omega),ah p45,au (by omega)]))
    | exact H.rt (aA vi (by rw [dG,ah (by omega),ah (by omega),← he,iK (by omega)];rfl))
  intro h45 a H
  try have p45:=dF h45
  refine kP H (Kc fG (SR fun _ jT=>aU R9 aF 0 rfl rfl (Rc rfl (Rm rfl (Sp 50 rfl ?_ ?_))))) <;> clear H fG
  ·intro h50 a H
   try have p50:=dT h50
   refine kH H (aP h50 rfl (aP h50 rfl (Pt h50 rfl (Kz jT (Ct rfl rfl (SR fun _ jw=>ak jw rfl ?_))))));clear H jT jw;intro a H;refine lr H results118 rfl ?_
   first
    | exact H.rt (aA vi (by rw [dG,au (by omega)]))
    | exact H.rt (aA vi (by rw [dG,ah (by omega),au (by omega)]))
    | exact H.rt (aA vi (by rw [dG,ah (by omega),ah (by omega),← he,iA hk2,au (by omega)]))
    | exact H.rt (aA vi (by rw [dG,ah (by omega),ah (by omega),← he,iA hk2,ah (by omega),au (by omega)]))
    | exact H.rt (aA vi (by rw [dG,ah (by omega),ah (by omega),← he,iA hk2,ah (by omega),ah (by omega),au p45]))
    | exact H.rt (aA vi (by rw [dG,ah (by omega),ah (by omega),← he,iA hk2,ah (by omega),ah (by omega),ah p45,au (by omega)]))
    | exact H.rt (aA vi (by rw [dG,ah (by omega),ah (by omega),← he,iK (by omega)];rfl))
  intro h50 a H
  try have p50:=dF h50
  refine kH H (YF R9 h50 rfl (YO aF 0 h50 rfl (YM h50 rfl (YC h50 rfl (Pf h50 rfl (Kz jT (Cd rfl ?_ ?_))))))) <;> clear H jT
  ·intro kM a H
   try have p55:=dT kM
   refine kP H (SR fun _ kC=>ak kC rfl ?_);clear H kC;intro a H;refine lr H results118 rfl ?_
   first
    | exact H.rt (aA vi (by rw [dG,au (by omega)]))
    | exact H.rt (aA vi (by rw [dG,ah (by omega),au (by omega)]))
    | exact H.rt (aA vi (by rw [dG,ah (by omega),ah (by omega),← he,iA hk2,au (by omega)]))
    | exact H.rt (aA vi (by rw [dG,ah (by omega),ah (by omega),← he,iA hk2,ah (by omega),au (by omega)]))
    | exact H.rt (aA vi (by rw [dG,ah (by omega),ah (by omega),← he,iA hk2,ah (by omega),ah (by omega),au p45]))
    | exact H.rt (aA vi (by rw [dG,ah (by omega),ah (by omega),← he,iA hk2,ah (by omega),ah (by omega),ah p45,au (by omega)]))
    | exact H.rt (aA vi (by rw [dG,ah (by omega),ah (by omega),← he,iK (by omega)];rfl))
  intro kM a H
  try have p55:=dF kM
  refine kP H (Kc bD (SC (Rd rfl (Rm rfl ?_))));clear H bD;intro a H;refine aI ?_;refine dN ((k+1,GL)) (by exact (H.dX (Pl:=[_]) (dz:=[]) [] (by decide) rfl).sub ⟨rfl,rfl,rfl,aC⟩) ?_ ?_
  ·(try dsimp only);exact ⟨by omega,by rw [iA hk2,ah (by omega),ah (by omega),ah p45,ah (by omega)] at he;exact he,fun b o h=>AB b o (hgm b o h)⟩
  first|omega|(dsimp only;omega)
 intro dB a H
 try have kN:=dF dB
 refine eX ?_;refine K7 _ _ ?_;clear K7;refine kP H (SR fun _ kD=>ak kD rfl ?_);clear H kD;intro a H;refine lr H results118 rfl ?_
 first
  | exact H.rt (aA vi (by rw [dG,au (by omega)]))
  | exact H.rt (aA vi (by rw [dG,ah (by omega),au (by omega)]))
  | exact H.rt (aA vi (by rw [dG,ah (by omega),ah (by omega),← he,iA hk2,au (by omega)]))
  | exact H.rt (aA vi (by rw [dG,ah (by omega),ah (by omega),← he,iA hk2,ah (by omega),au (by omega)]))
  | exact H.rt (aA vi (by rw [dG,ah (by omega),ah (by omega),← he,iA hk2,ah (by omega),ah (by omega),au p45]))
  | exact H.rt (aA vi (by rw [dG,ah (by omega),ah (by omega),← he,iA hk2,ah (by omega),ah (by omega),ah p45,au (by omega)]))
  | exact H.rt (aA vi (by rw [dG,ah (by omega),ah (by omega),← he,iK (by omega)];rfl))
end
section
open Go.RowKit
theorem CZ:Ty prog 32 1 24 [.slice none 0 0] false:=⟨by kernel_rfl,by kernel_rfl⟩
theorem Da:prog.underlying 32=some (.slice 184):=by kernel_rfl
theorem Et:Ty prog 184 2 32 [.int .i64 0,.slice none 0 0] true:=⟨by kernel_rfl,by kernel_rfl⟩
theorem RZ:bO prog 184 0 0:=⟨by kernel_rfl⟩
theorem ahT:Ty prog 182 1 24 [.slice none 0 0] false:=⟨by kernel_rfl,by kernel_rfl⟩
theorem Ls:∀ args w,(callFunc 86 args).run prog w=.ok (.enter 86 args) w:=enters func86 rfl (by kernel_rfl)
theorem ace:bO prog 184 1 1:=⟨by kernel_rfl⟩
theorem aal:∀ args w,(callFunc 118 args).run prog w=.ok (.enter 118 args) w:=enters func118 rfl (by kernel_rfl)
theorem DF:∀ args w,(callFunc 84 args).run prog w=.ok (.enter 84 args) w:=enters func84 rfl (by kernel_rfl)
theorem aak:∀ args w,(callFunc 117 args).run prog w=.ok (.enter 117 args) w:=enters func117 rfl (by kernel_rfl)
theorem aaj:∀ args w,(callFunc 116 args).run prog w=.ok (.enter 116 args) w:=enters func116 rfl (by kernel_rfl)
structure fH where
 id:Int
 levels:List nE
def fH.dat (x:fH):List Dat:=[li x.id,.sl 4 (x.levels.map nE.dat)]
structure iw where
 id:Int
 parent:Int
 author:ByteArray
 time:Int
 text:ByteArray
 done:Bool
def iw.dat (x:iw):List Dat:=[li x.id,li x.parent,.lf (.string x.author),li x.time,.lf (.string x.text),.lf (.bool x.done)]
abbrev iw.cells (x:iw):List aj:=[vi x.id,vi x.parent,.string x.author,vi x.time,.string x.text,.bool x.done]
structure kY where
 name:ByteArray
 value:ByteArray
def kY.dat (x:kY):List Dat:=[.lf (.string x.name),.lf (.string x.value)]
abbrev kY.cells (x:kY):List aj:=[.string x.name,.string x.value]
theorem QJ {G:GH} {x:iw} {cs:List aj} (h:aW G x.dat cs):cs=x.cells:=by
 simp only [iw.dat,aW,av] at h
 obtain ⟨_,_,rfl,⟨rfl,_⟩,_,_,rfl,⟨rfl,_⟩,_,_,rfl,⟨rfl,_⟩,_,_,rfl,⟨rfl,_⟩,_,_,rfl,⟨rfl,_⟩,_,_,rfl,⟨rfl,_⟩,rfl⟩:=h
 rfl
theorem aij {G:GH} {x:kY} {cs:List aj} (h:aW G x.dat cs):cs=x.cells:=by
 simp only [kY.dat,aW,av] at h
 obtain ⟨_,_,rfl,⟨rfl,_⟩,_,_,rfl,⟨rfl,_⟩,rfl⟩:=h
 rfl
theorem ND {G:GH} {l:List fH} {A:Option Addr} {n c k:Nat} (hv:av G (.sl 2 (l.map fH.dat)) (.slice A n c)) (hk:k < l.length):∃ b o B d,A=some ⟨b,o,none⟩∧(∀ j u,[vi l[k].id,.slice B l[k].levels.length d][j]?=some u→aJ G b (o+k*2+j)=some u)∧av G (.sl 4 (l[k].levels.map nE.dat)) (.slice B l[k].levels.length d):=by
 obtain ⟨A',c',he,_,_,hg⟩:=hv.slice
 injection he with e1 e2 e3
 subst e1;obtain ⟨b,o,cs,h1,h2,h3,h4⟩:=hg k l[k].dat (by simp [hk])
 simp only [fH.dat,aW] at h4
 obtain ⟨v1,_,rfl,⟨rfl,-⟩,v2,_,rfl,hl,rfl⟩:∃ v vs,cs=v :: vs∧av G (li l[k].id) v∧∃ v2 vs2,vs=v2 :: vs2∧av G (.sl 4 (l[k].levels.map nE.dat)) v2∧vs2=[]:=h4;obtain ⟨B,d,rfl,-,-,-⟩:=hl.slice;rw [bX] at *;exact ⟨b,o,B,d,h1,h3,hl⟩
theorem afk {G:GH} {bl:Nat} {l:List fH} {A:Option Addr} {n c:Nat} (hb:aJ G bl 0=some (.slice A n c)) (hv:av G (.sl 2 (l.map fH.dat)) (.slice A n c)):ql (.func (.func 117) #[] #[(aH bl 0)]) G l.length fun k=>(l[k]?.map fH.id).getD 0:=by
 intro k hk G1 w0 hm hG;refine lH (caps:=[(aH bl 0)]) aak ?_;replace hb:=aL hm hb
 obtain rfl:n=l.length:=by have:=hv.len;simpa using this
 obtain ⟨b,o,B,d,rfl,hrow,-⟩:=ND (hv.mono hm) hk;have hq:=hrow 0 _ rfl;refine eN [(0,_),(1,_)] func117 rfl ntmps117 rfl rfl hG ?_;intro a H;refine kP H (SR fun _ K1=>ak K1 rfl (SR fun _ K2=>Rg CZ rfl (by assumption) ?_));clear H K1;intro a H;refine kH H (Rm rfl (Ri Da Et rfl rfl (Rf RZ rfl (Rg aF rfl (by assumption) ?_))));clear H;intro a H;exact kH H (ak K2 rfl (LR results117 rfl fun H=>H.rt (by dsimp only;rw [gZ hk];rfl)))
def Cz (l:List fH) (i:Nat):Int:=cZ [nP (fun k=>(l[k]?.map fH.id).getD 0) i,dG ((l[i]?.map fH.levels).getD [])]
theorem afn {G:GH} {bl:Nat} {l:List fH} {A:Option Addr} {n c:Nat} (hb:aJ G bl 0=some (.slice A n c)) (hv:av G (.sl 2 (l.map fH.dat)) (.slice A n c)) (hl:l.length≤4294967296) (ht:∀ x∈l,∀ y∈x.levels,y.wO.size < 4611686018427387904):ql (.func (.func 116) #[] #[(aH bl 0)]) G l.length (Cz l):=by
 intro k hk G1 w0 hm hG;refine lH (caps:=[(aH bl 0)]) aaj ?_;replace hb:=aL hm hb;replace hv:=hv.mono hm;have hcb:=afk hb hv
 obtain rfl:n=l.length:=by have:=hv.len;simpa using this
 obtain ⟨b,o,B,d,rfl,hrow,hlv⟩:=ND hv hk;have hq:=hrow 1 _ rfl
 have he:Cz l k=cZ [nP (fun k=>(l[k]?.map fH.id).getD 0) k,dG l[k].levels]:=by unfold Cz;rw [gZ hk];rfl
 refine eN [(0,_),(1,_)] func116 rfl ntmps116 rfl rfl hG ?_;intro a H;refine kP H (SR fun _ K1=>ak K1 rfl (SQ fun _ K2=>?_));clear H K1;intro a H;have H:=H.sub (T':=[(0,_),(1,_)]) ⟨rfl,rfl,aC⟩;refine dI hmx [[],[],[0,1],[],[],[3,4],[3,4,5],(ra 3 4),(ra 0 8),(ra 0 9),(ra 0 10),(ra 0 11)] [9,10,11] (by kernel_rfl) [_,.func (.func 117) #[] #[(aH bl 0)],vi (nP (fun k=>(l[k]?.map fH.id).getD 0) k),_,_,_,_,_,vi (dG l[k].levels)] H (aB (Z0 rfl (Rm rfl)) ?_ ?_ (X0 rfl fun hG=>Rg CZ rfl (aL hG hb)) (aB (Z0 rfl (Rm rfl)) (Z2 3 7 4 8 rfl (Ri Da Et rfl rfl)) (Z1 5 9 rfl (Rf ace rfl)) (X1 6 10 rfl fun hG=>Rg ahT rfl (aL hG hq)) (aB ?_ (bH rfl) (bH rfl) (bH rfl) cO))) ?_
 ·refine yF rfl fun _ a w G1 hG HT H fin=>?_;refine oV H wn rfl rfl ?_;clear H;intro a H;exact fin H iJ rfl
 ·refine bL 0 4 1 5 rfl rfl fun _ a w G1 hG HT H fin=>?_;refine s_call Ls H wn rfl (Nt _ _ H.ro k _ _ (by omega) (fun i hi=>(hcb.mono hG) i (by omega))) rfl ?_;clear H;rintro v6 G6 a w rfl iQ H;exact fin H iQ (rfl)
 ·refine bY 7 11 rfl rfl fun _ a w G1 hG HT H fin=>?_;refine s_call aal H wn rfl (Za _ _ H.ro _ _ (hlv.mono hG) (ht _ (jk hk))) rfl ?_;clear H;rintro v12 Aa a w rfl oN H;exact fin H oN (rfl)
 clear H;intro a w G mg H hv;have H:=H.aV (hv 2 6 rfl rfl) rfl;have H:=H.aV (hv 8 12 rfl rfl) rfl;clear hv;refine gV nA fU [_,_] [_,_] H wn rfl rfl rfl rfl rfl (by intro i q h;match i,h with|0,h=>exact h|1,h=>exact h|n+2,h=>simp at h) rfl rfl ?_;clear H;intro b13 a w MO H;obtain ⟨ED,IJ,adq,H⟩:=H.dJ;refine s_call oh H wn rfl (om _ _ H.ro _ _ (vD adq)) rfl ?_;clear H;rintro v14 _ a w ⟨rfl,rfl⟩ - H;refine kH H (Ra rfl ?_);clear H;intro a H;refine aI ⟨rfl,?_⟩;refine K2 _ _ ?_;clear K2;refine lr H results116 rfl ?_;exact H.rt (by rw [he])
def EU (l:List fH):Int:=cZ [bS (decide (64 < (l.length:Int))) 9,jP (Cz l) (min l.length 64)]
theorem ql.le {fv:aj} {G:GH} {n m:Nat} {E:Nat→Int} (h:ql fv G n E) (hm:m≤n):ql fv G m E:=fun i hi=>h i (by omega)
theorem Zb (G:GH) (w0:World) (hG:Hold G w0) (l:List fH) (v:aj) (hv:av G (.sl 2 (l.map fH.dat)) v) (hl:l.length≤4294967296) (ht:∀ x∈l,∀ y∈x.levels,y.wO.size < 4611686018427387904) :
  Calls prog 81 #[v] w0 (bA w0 G fun u G'=>u=vi (EU l)):=by
 obtain ⟨A,c,rfl,hc1,hc2,-⟩:=hv.slice;rw [bX] at *;refine eN [(0,_)] func81 rfl ntmps81 rfl rfl hG ?_;intro a H;refine dw (fun _ K1=>?_);refine fu (cs:=[_]) H wn rfl rfl rfl ?_;clear H;intro b1 a w hb1 H;refine kH H (ak K1 rfl (SQ fun _ K2=>?_));clear H K1;intro a H;have H:=H.sub (T':=[(1,_)]) ⟨rfl,aC⟩;obtain ⟨Ga,hma,hb1',H⟩:=H.dJ
 have hbl:aJ Ga b1 0=some (.slice A l.length c):=by unfold aJ;rw [hb1'];rfl
 have hcb:=afn hbl (hv.mono hma) hl ht;refine dI hmx [[],[0],[0,1],[0,1,2],[],[4],[4,5],[],(ra 0 8),(ra 0 9),(ra 0 10),(ra 0 11)] [9,10,11] (by kernel_rfl) [_,_,_,vi (bS (decide (64 < (l.length:Int))) 9),_,_,vi ((min l.length 64:Nat):Int),.func (.func 116) #[] #[(aH b1 0)],vi (jP (Cz l) (min l.length 64))] H (aB (X0 rfl fun hG=>Rg CZ rfl (aL hG hbl)) (Z1 0 3 rfl (Rl Da rfl)) (Z1 1 4 rfl (Rc rfl)) ?_ (aB (X0 rfl fun hG=>Rg CZ rfl (aL hG hbl)) (Z1 4 7 rfl (Rl Da rfl)) ?_ ?_ (aB ?_ (bH rfl) (bH rfl) (bH rfl) cO))) ?_
 ·refine bY 2 5 rfl rfl fun _ a w G1 hG HT H fin=>?_;refine s_call iL H wn rfl (iN _ _ H.ro _ 9) rfl ?_;clear H;rintro v6 G6 a w ⟨rfl,-⟩ iQ H;exact fin H iQ (rfl)
 ·refine bY 5 8 rfl rfl fun _ a w G1 hG HT H fin=>?_;refine Jy H wn rfl rfl rfl ?_;clear H;intro a H;exact fin H iJ (aA vi (by omega))
 ·refine yF rfl fun _ a w G1 hG HT H fin=>?_;refine oV H wn rfl rfl ?_;clear H;intro a H;exact fin H iJ rfl
 ·refine bL 6 9 7 10 rfl rfl fun _ a w G1 hG HT H fin=>?_;refine s_call DF H wn rfl (ER _ _ H.ro (min l.length 64) (Cz l) _ (by omega) ((hcb.mono hG).le (Nat.min_le_left _ _))) rfl ?_;clear H;rintro v11 uL a w rfl jJ H;exact fin H jJ (rfl)
 clear H;intro a w G mg H hv;have H:=H.aV (hv 3 6 rfl rfl) rfl;have H:=H.aV (hv 8 11 rfl rfl) rfl;clear hv;refine gV nA fU [_,_] [_,_] H wn rfl rfl rfl rfl rfl (by intro i q h;match i,h with|0,h=>exact h|1,h=>exact h|n+2,h=>simp at h) rfl rfl ?_;clear H;intro b12 a w Ay H;obtain ⟨Aa,Ce,Cb,H⟩:=H.dJ;refine s_call oh H wn rfl (om _ _ H.ro _ _ (vD Cb)) rfl ?_;clear H;rintro v13 _ a w ⟨rfl,rfl⟩ - H;refine kH H (Ra rfl ?_);clear H;intro a H;refine aI ⟨rfl,?_⟩;refine K2 _ _ ?_;clear K2;refine lr H results81 rfl ?_;exact H.rt rfl
end
section
open Go.RowKit
theorem mF:prog.underlying 31=some (.slice 181):=by kernel_rfl
theorem jM:Ty prog 181 6 72 [.int .i64 0,.int .i64 0,.string ⟨#[]⟩,.int .i64 0,.int .i64 0,.slice none 0 0] true:=⟨by kernel_rfl,by kernel_rfl⟩
theorem uU:bO prog 181 1 1:=⟨by kernel_rfl⟩
theorem DI:bO prog 181 2 2:=⟨by kernel_rfl⟩
theorem sH:bO prog 181 0 0:=⟨by kernel_rfl⟩
theorem Rj:∀ args w,(callFunc 141 args).run prog w=.ok (.enter 141 args) w:=enters func141 rfl (by kernel_rfl)
theorem aaw:∀ args w,(callFunc 134 args).run prog w=.ok (.enter 134 args) w:=enters func134 rfl (by kernel_rfl)
theorem aaB:∀ args w,(callFunc 142 args).run prog w=.ok (.enter 142 args) w:=enters func142 rfl (by kernel_rfl)
theorem aaC:∀ args w,(callFunc 143 args).run prog w=.ok (.enter 143 args) w:=enters func143 rfl (by kernel_rfl)
structure bG where
 id:Int
 kind:Int
 name:ByteArray
 base:Int
 next:Int
 props:List gY
def bG.dat (x:bG):List Dat:=[li x.id,li x.kind,.lf (.string x.name),li x.base,li x.next,.sl 2 (x.props.map gY.dat)]
theorem Ov {G:GH} {x:bG} {cs:List aj} (h:aW G x.dat cs):∃ A c,cs=[vi x.id,vi x.kind,.string x.name,vi x.base,vi x.next,.slice A x.props.length c]∧av G (.sl 2 (x.props.map gY.dat)) (.slice A x.props.length c):=by
 simp only [bG.dat,aW] at h
 obtain ⟨v1,_,rfl,h1,v2,_,rfl,h2,v3,_,rfl,h3,v4,_,rfl,h4,v5,_,rfl,h5,v6,_,rfl,h6,rfl⟩:=h
 simp only [av] at h1 h2 h3 h4 h5
 obtain ⟨rfl,-⟩:=h1;obtain ⟨rfl,-⟩:=h2;obtain ⟨rfl,-⟩:=h3;obtain ⟨rfl,-⟩:=h4;obtain ⟨rfl,-⟩:=h5;obtain ⟨A,c,rfl,-,-,-⟩:=h6.slice;rw [bX] at *;exact ⟨A,c,rfl,h6⟩
theorem zO {G:GH} {l:List bG} {A:Option Addr} {n c k:Nat} (hv:av G (.sl 6 (l.map bG.dat)) (.slice A n c)) (hk:k < l.length):∃ b o pA pc,A=some ⟨b,o,none⟩∧(∀ j u,[vi l[k].id,vi l[k].kind,.string l[k].name,vi l[k].base,vi l[k].next,.slice pA l[k].props.length pc][j]?=some u→aJ G b (o+k*6+j)=some u)∧av G (.sl 2 (l[k].props.map gY.dat)) (.slice pA l[k].props.length pc) ∧
  aW G l[k].dat [vi l[k].id,vi l[k].kind,.string l[k].name,vi l[k].base,vi l[k].next,.slice pA l[k].props.length pc]:=by
 obtain ⟨A',c',he,_,_,hg⟩:=hv.slice
 injection he with e1 e2 e3
 subst e1;obtain ⟨b,o,cs,h1,h2,h3,h4⟩:=hg k l[k].dat (by simp [hk]);obtain ⟨pA,pc,rfl,hp⟩:=Ov h4;exact ⟨b,o,pA,pc,h1,h3,hp,h4⟩
def okB (x:Int):Bool:=decide (32≤x∧x≤126)
def CJ (s:ByteArray) (k:Nat):Bool:=(List.range k).all fun i=>okB (gy s i)
def lQ (s:ByteArray):Bool:=decide (s.size≠0∧s.size≤40∧gy s 0≠32∧gy s (s.size - 1)≠32) && CJ s s.size
theorem afF (s:ByteArray) (k:Nat):CJ s (k+1)=(CJ s k && okB (gy s k)):=by simp [CJ,List.range_succ]
theorem CK {s:ByteArray} {k:Nat} (hk:k < s.size) (h:okB (gy s k)=false):CJ s s.size=false:=by
 rw [CJ,List.all_eq_false];exact ⟨k,by simpa using hk,by simp [h]⟩
theorem I6 (G:GH) (w0:World) (hG:Hold G w0) (s:ByteArray) (hs:s.size≤4611686018427387904):Calls prog 131 #[.string s] w0 (bA w0 G fun u G'=>u=.bool (lQ s)):=by
 refine eN [(0,_)] func131 rfl ntmps131 rfl rfl hG ?_;intro a H;refine kP H (SR fun _ K1=>ak K1 rfl (SQ fun _ K2=>SR fun _ K3=>Rm rfl (Rv fO rfl (Rc rfl (Rm rfl (Sp 7 rfl ?_ ?_)))))) <;> clear H K1
 ·intro h7 a H
  try have p7:=dT h7
  refine kH H (aY h7 rfl (Pt h7 rfl (Rm rfl (aY rfl rfl (Pt rfl rfl (Rm rfl (aY rfl rfl (aY rfl rfl (Pt rfl rfl (Kz K3 (Ct rfl rfl (SR fun _ K4=>ak K4 rfl ?_))))))))))));clear H K3 K4;intro a H;refine lr H results131 rfl ?_
  first
   | exact H.rt (aG (by rw [lQ,iE (by omega),tJ]))
   | exact H.rt (aG (by rw [lQ,jO (by omega),show s.size=k by omega,hno];rfl))
   | exact H.rt (aG (by rw [lQ,CK (k:=k) (by omega) (iE (by omega)),Bool.and_false]))
 intro h7 a H
 try have p7:=dF h7
 refine kH H (YM h7 rfl ?_);clear H;intro a H;refine AZ fO H (wg H rfl rfl h7) rfl rfl ?_;clear H;intro a H;refine kH H (YC h7 rfl (Pf h7 rfl (Rm rfl (Sp 12 rfl ?_ ?_)))) <;> clear H
 ·intro h12 a H
  try have rJ:=dT h12
  refine kH H (aY h12 rfl (Pt h12 rfl (Rm rfl (aY rfl rfl (aY rfl rfl (Pt rfl rfl (Kz K3 (Ct rfl rfl (SR fun _ K5=>ak K5 rfl ?_)))))))));clear H K3 K5;intro a H;refine lr H results131 rfl ?_
  first
   | exact H.rt (aG (by rw [lQ,iE (by omega),tJ]))
   | exact H.rt (aG (by rw [lQ,jO (by omega),show s.size=k by omega,hno];rfl))
   | exact H.rt (aG (by rw [lQ,CK (k:=k) (by omega) (iE (by omega)),Bool.and_false]))
 intro h12 a H
 try have rJ:=dF h12
 refine kH H (YM h12 rfl ?_);clear H;intro a H;refine mV 0 fO H (wg H rfl rfl h12) rfl rfl rfl (by omega) rfl ?_;clear H;intro a H;rw [← jY] at H;refine kH H (YC h12 rfl (Pf h12 rfl (Rm rfl (Sp 17 rfl ?_ ?_)))) <;> clear H
 ·intro dB a H
  try have kN:=dT dB
  refine kH H (aY dB rfl (aY dB rfl (Pt dB rfl (Kz K3 (Ct rfl rfl (SR fun _ K6=>ak K6 rfl ?_))))));clear H K3 K6;intro a H;refine lr H results131 rfl ?_
  first
   | exact H.rt (aG (by rw [lQ,iE (by omega),tJ]))
   | exact H.rt (aG (by rw [lQ,jO (by omega),show s.size=k by omega,hno];rfl))
   | exact H.rt (aG (by rw [lQ,CK (k:=k) (by omega) (iE (by omega)),Bool.and_false]))
 intro dB a H
 try have kN:=dF dB
 refine kH H (YM dB rfl (YM dB rfl ?_));clear H;intro a H;refine AZ fO H (wg H rfl rfl dB) rfl rfl ?_;clear H;intro a H;refine lT _ H (wg H rfl rfl dB) rfl rfl rfl (by omega) (by omega) rfl ?_;clear H;intro a H;refine mV (s.size - 1) fO H (wg H rfl rfl dB) rfl rfl (by omega) (by omega) rfl ?_;clear H;intro a H;rw [← jY] at H;refine kH H (YC dB rfl (Pf dB rfl (Kz K3 (Cd rfl ?_ ?_)))) <;> clear H K3
 ·intro dL a H
  try have jQ:=dT dL
  refine kP H (SR fun _ K7=>ak K7 rfl ?_);clear H K7;intro a H;refine lr H results131 rfl ?_
  first
   | exact H.rt (aG (by rw [lQ,iE (by omega),tJ]))
   | exact H.rt (aG (by rw [lQ,jO (by omega),show s.size=k by omega,hno];rfl))
   | exact H.rt (aG (by rw [lQ,CK (k:=k) (by omega) (iE (by omega)),Bool.and_false]))
 intro dL a H
 try have jQ:=dF dL
 refine kP H (Kc K2 (SQ fun _ K8=>SR fun _ K9=>Rm rfl (Rv fO rfl (Rm rfl (Kz K9 (SB ?_))))));clear H K2 K9;intro a H;skip;refine fJ (ι:=Nat) (Tc:=[(0,_),(26,_)]) (Lc:=[]) (fun gh=>[(27,vi gh)]) (fun gh=>[]) (fun gh=>G) (fun gh=>gh≤s.size∧CJ s gh=true) (fun gh=>s.size - gh) (0) (by exact (H).sub ⟨rfl,rfl,rfl,aC⟩) ?_ ?_
 ·exact ⟨jf _,rfl⟩
 clear H;intro gh a w hI H;obtain ⟨k,hgh⟩:∃ x,x=gh:=⟨_,rfl⟩;subst hgh;obtain ⟨hk,hno⟩:=hI;dsimp only [lca,bC] at H;refine kP H (SR fun _ aT=>Rc rfl (Kz aT (SQ fun _ bD=>Cd rfl ?_ ?_))) <;> clear H aT
 ·intro eO a H
  try have p28:=dT eO
  refine kP H (Kc bD (SQ fun _ bK=>SB (SR fun _ bT=>Rm rfl (ak bT rfl (SR fun _ bU=>Rm rfl (Rm rfl ?_))))));clear H bD bT;intro a H;refine mV k fO H wn rfl rfl rfl (by omega) rfl ?_;clear H;intro a H;rw [← jY] at H;refine kH H (Rc rfl (Rm rfl (Sp 34 rfl ?_ ?_))) <;> clear H
  ·intro fM a H
   try have p34:=dT fM
   refine kH H (aP fM rfl (aP fM rfl (Pt fM rfl (Kz bU (Ct rfl rfl (SR fun _ dM=>ak dM rfl ?_))))));clear H bU dM;intro a H;refine lr H results131 rfl ?_
   first
    | exact H.rt (aG (by rw [lQ,iE (by omega),tJ]))
    | exact H.rt (aG (by rw [lQ,jO (by omega),show s.size=k by omega,hno];rfl))
    | exact H.rt (aG (by rw [lQ,CK (k:=k) (by omega) (iE (by omega)),Bool.and_false]))
  intro fM a H
  try have p34:=dF fM
  refine kH H (YM fM rfl (YM fM rfl ?_));clear H;intro a H;refine mV k fO H (wg H rfl rfl fM) rfl rfl rfl (by omega) rfl ?_;clear H;intro a H;rw [← jY] at H;refine kH H (YC fM rfl (Pf fM rfl (Kz bU (Cd rfl ?_ ?_)))) <;> clear H bU
  ·intro lK a H
   try have p39:=dT lK
   refine kP H (SR fun _ dO=>ak dO rfl ?_);clear H dO;intro a H;refine lr H results131 rfl ?_
   first
    | exact H.rt (aG (by rw [lQ,iE (by omega),tJ]))
    | exact H.rt (aG (by rw [lQ,jO (by omega),show s.size=k by omega,hno];rfl))
    | exact H.rt (aG (by rw [lQ,CK (k:=k) (by omega) (iE (by omega)),Bool.and_false]))
  intro lK a H
  try have p39:=dF lK
  refine kP H (Kc bK (SC (Rd rfl (Rm rfl ?_))));clear H bK;intro a H;refine aI ?_;refine dN ((k+1)) (by exact (H).sub ⟨rfl,rfl,rfl,aC⟩) ?_ ?_
  ·exact ⟨by omega,by rw [afF,hno];simp [okB];omega⟩
  first|omega|(dsimp only;omega)
 intro eO a H
 try have p28:=dF eO
 refine eX ?_;refine K8 _ _ ?_;clear K8;refine kP H (SR fun _ dD=>ak dD rfl ?_);clear H dD;intro a H;refine lr H results131 rfl ?_
 first
  | exact H.rt (aG (by rw [lQ,iE (by omega),tJ]))
  | exact H.rt (aG (by rw [lQ,jO (by omega),show s.size=k by omega,hno];rfl))
  | exact H.rt (aG (by rw [lQ,CK (k:=k) (by omega) (iE (by omega)),Bool.and_false]))
theorem Uu (G:GH) (w0:World) (hG:Hold G w0) (l:List bG) (p:bG→Bool) (v fv:aj) (hv:av G (.sl 6 (l.map bG.dat)) v) (hf:∀ x∈l,uN fv G x.dat (p x)) :
  Calls prog 141 #[v,fv] w0 (bA w0 G fun u G'=>u=vi (mO (l.findIdx? p))):=by
 obtain ⟨A,c,rfl,hc1,hc2,-⟩:=hv.slice;have hml:maxLen=9223372036854775807:=rfl;rw [bX] at *;refine eN [(0,_),(1,_)] func141 rfl ntmps141 rfl rfl hG ?_;intro a H;refine kP H (SR fun _ K1=>ak K1 rfl (SQ fun _ K2=>SR fun _ K3=>Rm rfl (Rl mF rfl (Rm rfl (Kz K3 (SB ?_))))));clear H K1 K3;intro a H;skip;refine fJ (ι:=Nat × GH) (Tc:=[(0,_),(1,_),(7,_)]) (Lc:=[]) (fun gh=>[(8,vi gh.1)]) (fun gh=>[]) (fun gh=>gh.2) (fun gh=>gh.1≤l.length∧(l.take gh.1).findIdx? p=none∧(∀ b o,G b=some o→gh.2 b=some o)) (fun gh=>l.length - gh.1) ((0,G)) (by exact (H).sub ⟨rfl,rfl,rfl,rfl,aC⟩) ?_ ?_
 ·exact ⟨by omega,rfl,fun _ _ h=>h⟩
 clear H;intro gh a w hI H;obtain ⟨k,g⟩:=gh;dsimp only at hI H;obtain ⟨hk,hno,hgm⟩:=hI;dsimp only [lca,bC] at H;refine kP H (SR fun _ K4=>Rc rfl (Kz K4 (SQ fun _ K5=>Cd rfl ?_ ?_))) <;> clear H K4
 ·intro h9 a H
  try have p9:=dT h9
  have hk2:k < l.length:=by omega
  obtain ⟨b,o,pA,pc,rfl,hrow,hp,hrep⟩:=zO (hv.mono hgm) hk2;refine kP H (Kc K5 (SQ fun _ K6=>SB (SR fun _ K7=>Rm rfl (ak K7 rfl (SR fun _ K8=>Rm rfl (Rm rfl (Rm rfl (Ri mF jM rfl rfl ?_))))))));clear H K5 K7;intro a H;refine bE jM (cs:=[_,_,_,_,_,_]) H wn rfl rfl (fun j v hj=>H.hp.aJ (hrow j v hj)) rfl ?_;clear H;intro a H;refine oF H wn rfl rfl (hf _ (jk hk2) _ _ _ hgm H.ro hrep) rfl ?_;clear H;rintro v16 qj a w rfl qH H;refine K8 _ _ ?_;clear K8;refine kZ H rfl ?_ ?_
  ·intro h16
   try have p16:=dT h16
   refine kP H (SR fun _ K9=>Rm rfl (ak K9 rfl ?_));clear H K9;intro a H;refine lr H results141 rfl ?_
   first
    | exact H.rt (by rw [uq hk2 hno h16];rfl)
    | exact H.rt (by rw [show l.take k=l from jG (by omega)] at hno;rw [hno];rfl)
  intro h16
  try have p16:=dF h16
  refine kP H (Kc K6 (SC (Rd rfl (Rm rfl ?_))));clear H K6;intro a H;refine aI ?_;refine dN ((k+1,qj)) (by exact (H).sub ⟨rfl,rfl,rfl,rfl,aC⟩) ?_ ?_
  ·(try dsimp only);exact ⟨by omega,Cr hk2 hno h16,fun b o h=>qH b o (hgm b o h)⟩
  first|omega|(dsimp only;omega)
 intro h9 a H
 try have p9:=dF h9
 refine eX ?_;refine K2 _ _ ?_;clear K2;refine kP H (SR fun _ aT=>ak aT rfl ?_);clear H aT;intro a H;refine lr H results141 rfl ?_
 first
  | exact H.rt (by rw [uq hk2 hno h16];rfl)
  | exact H.rt (by rw [show l.take k=l from jG (by omega)] at hno;rw [hno];rfl)
def F7 (p q:ByteArray):Bool:=p.toList == q.toList
theorem acz {G:GH} {bk bn:Nat} {kind:Int} {name:ByteArray} (hk:aJ G bk 0=some (vi kind)) (hn:aJ G bn 0=some (.string name)) (x:bG):uN (.func (.func 142) #[] #[(aH bk 0),(aH bn 0)]) G x.dat (decide (x.kind=kind) && F7 x.name name):=by
 intro G1 w0 cs hm hG hr;refine lH (caps:=[(aH bk 0),(aH bn 0)]) aaB ?_;obtain ⟨pA,pc,rfl,-⟩:=Ov hr;replace hk:=aL hm hk;replace hn:=aL hm hn;refine eN [(0,_),(1,_),(2,_)] func142 rfl ntmps142 rfl rfl hG ?_;intro a H;refine dw (fun _ K1=>?_);refine fu (cs:=[_,_,_,_,_,_]) H wn rfl rfl rfl ?_;clear H;intro b3 a w hb3 H;refine kH H (ak K1 rfl (SR fun _ K2=>aU uU aF 0 rfl rfl (Rg aF rfl (by assumption) ?_)));clear H K1;intro a H;refine kH H (Rc rfl (Rm rfl (Sp 9 rfl ?_ ?_))) <;> clear H
 ·intro h9 a H
  try have p9:=dT h9
  refine kH H (YF DI h9 rfl (YO gF 0 h9 rfl (YR gF h9 rfl (by assumption) ?_)));clear H;intro a H;refine AY H (wg H rfl rfl h9) rfl rfl rfl ?_;clear H;intro a H;exact kH H (Pt h9 rfl (ak K2 rfl (LR results142 rfl fun H=>H.rt (by unfold F7;simp_all))))
 intro h9 a H
 try have p9:=dF h9
 exact kH H (aP h9 rfl (aP h9 rfl (Pf h9 rfl (ak K2 rfl (LR results142 rfl fun H=>H.rt (by unfold F7;simp_all))))))
theorem acy {G:GH} {bi:Nat} {id:Int} (hb:aJ G bi 0=some (vi id)) (x:bG):uN (.func (.func 143) #[] #[(aH bi 0)]) G x.dat (decide (x.id=id)):=by
 intro G1 w0 cs hm hG hr;refine lH (caps:=[(aH bi 0)]) aaC ?_;obtain ⟨pA,pc,rfl,-⟩:=Ov hr;replace hb:=aL hm hb;refine eN [(0,_),(1,_)] func143 rfl ntmps143 rfl rfl hG ?_;intro a H;refine dw (fun _ K1=>?_);refine fu (cs:=[_,_,_,_,_,_]) H wn rfl rfl rfl ?_;clear H;intro b2 a w hb2 H;refine kH H (ak K1 rfl (SR fun _ K2=>aU sH aF 0 rfl rfl (Rg aF rfl (by assumption) ?_)));clear H K1;intro a H;exact kH H (Rc rfl (ak K2 rfl (LR results143 rfl fun H=>H.rt rfl)))
def Am (l:List bG) (kind:Int) (name:ByteArray):Option Nat:=l.findIdx? fun x=>decide (x.kind=kind) && F7 x.name name
def Ij (l:List bG) (id:Int):Option Nat:=l.findIdx? fun x=>decide (x.id=id)
theorem Uy (o:Option Nat):decide (0≤mO o)=o.isSome:=by cases o <;> simp [mO]
theorem acA (G:GH) (w0:World) (hG:Hold G w0) (l:List bG) (kind:Int) (name:ByteArray) (v:aj) (hv:av G (.sl 6 (l.map bG.dat)) v) :
  Calls prog 132 #[v,vi kind,.string name] w0 (bA w0 G fun u G'=>u=.tuple #[vi (max (mO (Am l kind name)) 0),.bool (Am l kind name).isSome]):=by
 obtain ⟨A,c,rfl,hc1,hc2,-⟩:=hv.slice;rw [bX] at *;refine eN [(0,_),(1,_),(2,_)] func132 rfl ntmps132 rfl rfl hG ?_;intro a H;refine dw (fun _ K1=>?_);refine fu (cs:=[_]) H wn rfl rfl rfl ?_;clear H;intro b4 a w hb4 H;refine fu (cs:=[_]) H wn rfl rfl rfl ?_;clear H;intro b5 a w hb5 H;refine kH H (Ra rfl (ak K1 rfl (SQ fun _ K2=>?_)));clear H K1;intro a H;obtain ⟨Ga,hma,xH,H⟩:=H.dJ;obtain ⟨Gb,hmb,vZ,H⟩:=H.dJ
 have q4:aJ Gb b4 0=some (vi kind):=by unfold aJ;rw [vZ];rfl
 have q5:aJ Gb b5 0=some (.string name):=by unfold aJ;rw [hmb _ _ xH];rfl
 refine kP H (SC (Rm rfl ?_));clear H;intro a H;refine oV H wn rfl rfl ?_;clear H;intro a H;refine s_call Rj H wn rfl (Uu _ _ H.ro l (fun x=>decide (x.kind=kind) && F7 x.name name) _ _ ((hv.mono hma).mono hmb) (fun x _=>acz q4 q5 x)) rfl ?_;clear H;rintro v11 uL a w rfl Cc H;refine kH H (aS K2 rfl (SR fun _ K3=>Rm rfl ?_));clear H K2;intro a H;refine Jw H wn rfl rfl rfl ?_;clear H;intro a H;refine kH H (Rm rfl (Rc rfl (Ra rfl (ak K3 rfl ?_))));clear H K3;intro a H;refine cB ?_;refine (eP H results132 (.cons (aR H rfl) (.cons (aR H rfl) .nil)) ?_).1;exact H.rt (by rw [← Uy];rfl)
theorem acE (G:GH) (w0:World) (hG:Hold G w0) (l:List bG) (id:Int) (v:aj) (hv:av G (.sl 6 (l.map bG.dat)) v) :
  Calls prog 134 #[v,vi id] w0 (bA w0 G fun u G'=>u=.tuple #[vi (max (mO (Ij l id)) 0),.bool (Ij l id).isSome]):=by
 obtain ⟨A,c,rfl,hc1,hc2,-⟩:=hv.slice;rw [bX] at *;refine eN [(0,_),(1,_)] func134 rfl ntmps134 rfl rfl hG ?_;intro a H;refine dw (fun _ K1=>?_);refine fu (cs:=[_]) H wn rfl rfl rfl ?_;clear H;intro b3 a w hb3 H;refine kH H (Ra rfl (ak K1 rfl (SQ fun _ K2=>?_)));clear H K1;intro a H;obtain ⟨Ga,hma,zw,H⟩:=H.dJ
 have q3:aJ Ga b3 0=some (vi id):=by unfold aJ;rw [zw];rfl
 refine kP H (SC (Rm rfl ?_));clear H;intro a H;refine oV H wn rfl rfl ?_;clear H;intro a H;refine s_call Rj H wn rfl (Uu _ _ H.ro l (fun x=>decide (x.id=id)) _ _ (hv.mono hma) (fun x _=>acy q3 x)) rfl ?_;clear H;rintro v9 G9 a w rfl wo H;refine kH H (aS K2 rfl (SR fun _ K3=>Rm rfl ?_));clear H K2;intro a H;refine Jw H wn rfl rfl rfl ?_;clear H;intro a H;refine kH H (Rm rfl (Rc rfl (Ra rfl (ak K3 rfl ?_))));clear H K3;intro a H;refine cB ?_;refine (eP H results134 (.cons (aR H rfl) (.cons (aR H rfl) .nil)) ?_).1;exact H.rt (by rw [← Uy];rfl)
def Cv (l:List bG) (kind id:Int):Bool:=match Ij l id with|some i=>decide ((l[i]?.map bG.kind)=some kind)|none=>false
theorem Nu (G:GH) (w0:World) (hG:Hold G w0) (l:List bG) (kind id:Int) (v:aj) (hv:av G (.sl 6 (l.map bG.dat)) v) :
  Calls prog 114 #[v,vi kind,vi id] w0 (bA w0 G fun u G'=>u=.bool (Cv l kind id)):=by
 obtain ⟨A,c,rfl,hc1,hc2,-⟩:=hv.slice;rw [bX] at *;refine eN [(0,_),(1,_),(2,_)] func114 rfl ntmps114 rfl rfl hG ?_;intro a H;refine kP H (SR fun _ K1=>ak K1 rfl (SR fun _ K2=>Rm rfl (Rm rfl ?_)));clear H K1;intro a H;refine s_call aaw H wn rfl (acE _ _ H.ro l id _ hv) rfl ?_;clear H;rintro v12 Aa a w rfl Ce H;obtain ⟨o,ho⟩:∃ o,o=Ij l id:=⟨_,rfl⟩;rw [← ho] at H;refine kH H (Rm rfl ?_);clear H;intro a H;(iterate 2 refine jS H wn rfl rfl rfl ?_;clear H;intro a H);refine kH H (Ra rfl (ak K2 rfl (SR fun _ K3=>Rm rfl (Rm rfl (Sp 16 rfl ?_ ?_))))) <;> clear H K2
 ·intro h16 a H
  try have p16:=dT h16
  obtain ⟨i,rfl⟩:=Option.isSome_iff_exists.1 h16
  have hil:i < l.length:=by
   obtain ⟨hi,-⟩:=List.findIdx?_eq_some_iff_getElem.1 ho.symm;exact hi
  rw [show max (mO (some i)) 0=(i:Int) by simp [mO]] at H;obtain ⟨b,o',pA,pc,rfl,hrow,hp,hrep⟩:=zO (hv.mono Ce) hil;have r1:aJ Aa b (o'+i*6+1)=some (vi l[i].kind):=hrow 1 _ rfl;refine kH H (YM h16 rfl (YM h16 rfl (YI mF jM h16 rfl rfl (YF uU h16 rfl (YR aF h16 rfl (by assumption) ?_)))));clear H;intro a H;refine kH H (YM h16 rfl (YC h16 rfl (Pt h16 rfl (ak K3 rfl ?_))));clear H K3;intro a H;refine lr H results114 rfl ?_
  first
   | exact H.rt (aG (by rw [Cv,← ho];dsimp only;rw [gZ hil];simp))
   | exact H.rt (aG (by rw [Cv,← ho];cases o <;> simp_all))
 intro h16 a H
 try have p16:=dF h16
 refine kH H (aY h16 rfl (aP h16 rfl (aP h16 rfl (Pf h16 rfl (ak K3 rfl ?_)))));clear H K3;intro a H;refine lr H results114 rfl ?_
 first
  | exact H.rt (aG (by rw [Cv,← ho];dsimp only;rw [gZ hil];simp))
  | exact H.rt (aG (by rw [Cv,← ho];cases o <;> simp_all))
end
section
open Go.RowKit
section
variable {N:Nat} {D:List Deferred} {w0:World} {F:Nat→Prop} {G0 G:GH} {L Li Lo:OL} {T:List (Nat × aj)}
variable {r:Option Nat} {P:Program} {ops:Array Oper} {Q:Exit→Act→World→Prop} {rest:List Oper} {a:Act} {w:World}
variable {d:Nat} {ty:TypeId} {pos:String} {aK:Array Edge} {g:Option (Nat × Bool)}
theorem VK {t e:TypeId} {sz bytes:Nat} {zero:List aj} {agg:Bool} (hs:P.underlying t=some (.slice e)) (ht:Ty P e sz bytes zero agg) {x z:Operand} {A:Option Addr} {n c:Nat} (hi:Nat) {q:Int} (H:St N D w0 F G0 G L T a w)
  (hw:Region.wanted ⟨some d,.slice t x none (some z) none,ty,pos,aK,g⟩ (yielded ops a.tmps)=true) (hx:ev T x=some (.slice A n c)) (hz:ev T z=some (.int .i64 q)) (hq:q=(hi:Int)) (h2:hi≤c) (hd:Nat.blt d N=true)
  (k:∀ a',St N D w0 F G0 G L ((d,.slice A hi c) :: T) a' w→WL r P ops Q rest a' w):WL r P ops Q (⟨some d,.slice t x none (some z) none,ty,pos,aK,g⟩ :: rest) a w:=by
 subst hq
 refine fE (v:=.slice A hi c) (w':=w) hw rfl ?_ (k _ (H.put hd _ H.hp))
 simp [execOp,H.ev hx,H.ev hz,Instr.sliceAt,Instr.slice,Instr.sliceBounds,Instr.sliceBound,bW,kX hs,ht.zJ,asIntOf,h2]
 intro _
 cases A with
 | none=>rfl
 | some p=>simp [Addr.add]
end
end
section
open Go.RowKit
theorem H7:∀ args w,(callFunc 131 args).run prog w=.ok (.enter 131 args) w:=enters func131 rfl (by kernel_rfl)
theorem aau:∀ args w,(callFunc 132 args).run prog w=.ok (.enter 132 args) w:=enters func132 rfl (by kernel_rfl)
theorem RY:bO prog 181 5 5:=⟨by kernel_rfl⟩
theorem aav:∀ args w,(callFunc 133 args).run prog w=.ok (.enter 133 args) w:=enters func133 rfl (by kernel_rfl)
theorem RI:∀ args w,(callFunc 90 args).run prog w=.ok (.enter 90 args) w:=enters func90 rfl (by kernel_rfl)
theorem av.pre {G:GH} {sz:Nat} {rows:List (List Dat)} {A:Option Addr} {n c:Nat} (h:av G (.sl sz rows) (.slice A n c)) (k:Nat) (hk:k≤rows.length):av G (.sl sz (rows.take k)) (.slice A k c):=by
 have h:=h.part 0 k (jf _) hk
 have e:(if c=0 then A else A.map (·.add (0*sz)))=A:=by
  split
  ·rfl
  cases A <;> simp [Addr.add]
 rw [e] at h
 simpa using h
theorem Z4 (G:GH) (w0:World) (hG:Hold G w0) (kind:Int):Calls prog 133 #[vi kind] w0 (bA w0 G fun u G'=>u=vi (if kind=1 then 2 else 1)):=by
 refine eN [(0,_)] func133 rfl ntmps133 rfl rfl hG ?_;intro a H;refine kP H (SR fun _ K1=>ak K1 rfl (SQ fun _ K2=>SR fun _ K3=>Rm rfl (Rc rfl (Kz K3 (Cd rfl ?_ ?_))))) <;> clear H K1 K3
 ·intro h4 a H
  try have p4:=dT h4
  exact kP H (SR fun _ K4=>ak K4 rfl (LR results133 rfl fun H=>H.rt (by first|(rw [au (by omega)];done)|rw [ah (by omega)])))
 intro h4 a H
 try have p4:=dF h4
 exact kP H (Kc K2 (SR fun _ K5=>ak K5 rfl (LR results133 rfl fun H=>H.rt (by first|(rw [au (by omega)];done)|rw [ah (by omega)]))))
def vv (l:List bG) (k:Nat):Option Int:=if k=0 then none else l[k - 1]?.map bG.id
theorem Jj {l:List bG} {k:Nat} (h:k=0):vv l k=none:=au h
def Dt (k:Int):Bool:=decide (k=20) || decide (k=1)
def ko (q:Option Int) (dup:Bool) (s:bG):Int :=
 if s.id < 1∨1073741824 < s.id then 18 else if q=some s.id then 7 else if Eh q s.id=true then 6 else if s.kind≠1∧s.kind≠2 then 3 else if lQ s.name=false then 13 else if dup=true then 7
 else if s.props.any (fun p=>Dt p.key)=true then 4 else fZ (if s.kind=1 then 2 else 1) s.props
def iq (l:List bG) (k:Nat) (s:bG):Int:=ko (vv l k) (Am (l.take k) s.kind s.name).isSome s
set_option maxHeartbeats 1000000 in
theorem afR (G:GH) (w0:World) (hG:Hold G w0) (l:List bG) (k:Nat) (v:aj) (hv:av G (.sl 6 (l.map bG.dat)) v) (hk:k < l.length) (hs:l[k].name.size≤4611686018427387904) :
  Calls prog 113 #[v,vi k] w0 (bA w0 G fun u G'=>u=vi (iq l k l[k])):=by
 obtain ⟨A,c,rfl,hc1,hc2,-⟩:=hv.slice;have hml:maxLen=9223372036854775807:=rfl;rw [bX] at *;obtain ⟨b,o,pA,pc,rfl,hrow,hp,hrep⟩:=zO hv hk;obtain ⟨x,hx⟩:∃ x,x=l[k]:=⟨_,rfl⟩;rw [← hx] at hs hrow hp hrep ⊢;have hdp:∀ j v,[vi x.id,vi x.kind,.string x.name,vi x.base,vi x.next,.slice pA x.props.length pc][j]?=some v→aJ G b (o+k*6+j)=some v:=hrow;obtain ⟨_,_,he0,ajq,ajr,-⟩:=hp.slice
 injection he0 with _ he1 he2
 rw [bX] at *;subst he2
 obtain ⟨pk,hpk⟩:∃ pk,0 < k→aJ G b (o+(k - 1)*6+0)=some (vi pk)∧vv l k=some pk:=by
  by_cases h0:0 < k
  ·obtain ⟨b',o',_,_,he,hr',-,-⟩:=zO hv (show k - 1 < l.length by omega)
   injection he with he
   injection he with e1 e2 e3
   subst e1;subst e2;exact ⟨_,fun _=>⟨hr' 0 _ rfl,by rw [vv,ah (by omega),gZ (by omega)];rfl⟩⟩
  exact ⟨0,fun h=>absurd h h0⟩
 refine eN [(0,_),(1,_)] func113 rfl ntmps113 rfl rfl hG ?_;intro a H;refine kP H (SR fun _ K1=>ak K1 rfl (SR fun _ K2=>Rm rfl (Rm rfl (Ri mF jM rfl rfl ?_))));clear H K1;intro a H;refine bE jM (cs:=[_,_,_,_,_,_]) H wn rfl rfl (fun j v hj=>H.hp.aJ (hrow j v hj)) rfl ?_;clear H;intro a H;refine fq jM H wn rfl ?_;clear H;intro b5 a w hb5 H;refine bF jM 0 (vs:=[_,_,_,_,_,_]) _ H wn rfl rfl rfl rfl rfl rfl rfl rfl ?_;clear H;intro w H;dsimp only [List.set,setRow] at H;refine K2 _ _ ?_;clear K2;refine sD (ι:=GH) (Tc:=[(0,_),(1,_),(5,_)]) (Lc:=[(_,_)]) (fun gh=>[]) (fun gh=>[]) (fun gh=>gh) (fun gh=>¬ (x.id < 1∨1073741824 < x.id)∧¬ vv l k=some x.id∧¬ Eh (vv l k) x.id=true∧¬ (x.kind≠1∧x.kind≠2)∧¬ lQ x.name=false∧(∀ b o,G b=some o→gh b=some o)) (by exact (H).sub ⟨rfl,rfl,rfl,aC⟩) ?_ ?_
 ·skip;refine kP H (SB (SR fun _ K3=>aU sH aF 0 rfl rfl (Rc rfl (Rm rfl (Sp 18 rfl ?_ ?_))))) <;> clear H
  ·intro h18 a H
   try have vo:=dT h18
   refine kH H (aY h18 rfl (Pt h18 rfl (ak K3 rfl (Ct rfl rfl (SR fun _ K4=>ak K4 rfl ?_)))));clear H K3 K4;intro a H;refine lr H results113 rfl ?_
   first
    | exact H.rt (aA vi e0.symm)
    | exact H.rt (aA vi e4.symm)
    | exact H.rt (aA vi e7.symm)
    | exact H.rt (aA vi e13.symm)
    | exact H.rt (aA vi e3.symm)
    | exact H.rt (aA vi e6.symm)
    | exact H.rt (aA vi (by rw [iq,ko,au (by omega)]))
  intro h18 a H
  try have vo:=dF h18
  refine kH H (YF sH h18 rfl (YO aF 0 h18 rfl (YC h18 rfl (Pf h18 rfl (ak K3 rfl (Cd rfl ?_ ?_)))))) <;> clear H K3
  ·intro dY a H
   try have mQ:=dT dY
   refine kP H (SR fun _ K5=>ak K5 rfl ?_);clear H K5;intro a H;refine lr H results113 rfl ?_
   first
    | exact H.rt (aA vi e0.symm)
    | exact H.rt (aA vi e4.symm)
    | exact H.rt (aA vi e7.symm)
    | exact H.rt (aA vi e13.symm)
    | exact H.rt (aA vi e3.symm)
    | exact H.rt (aA vi e6.symm)
    | exact H.rt (aA vi (by rw [iq,ko,au (by omega)]))
  intro dY a H
  try have mQ:=dF dY
  refine aZ (fun _ K6=>?_)
  by_cases c0:0 < (k:Int)
  ·skip
   by_cases c1:x.id=pk
   ·skip;refine dI hmx [[],[0],[0,1],[0,1,2],(ra 0 4),[0,1,2],[0,1,2],[0,1,2,6],[0,1,2,5,6,7],[0,1,2,5,6,7,8],[0,1,2,5,6,7,8,9],(ra 0 11),(ra 0 12),(ra 0 13)] [13] (by kernel_rfl) [_,_,_,_,vi x.id,_,_,vi ((k - 1:Nat):Int),_,_,_,_,_] H (aB (Z0 rfl (Rm rfl)) (Z1 0 24 rfl (Rc rfl)) (Z1 1 25 rfl (Rm rfl)) (Z1 2 26 rfl (YF sH (aD c0) rfl)) (aB (Z2 3 27 2 26 rfl (YO aF 0 (aD c0) rfl)) (Z1 2 26 rfl (YM (aD c0) rfl)) (Z1 2 26 rfl (YM (aD c0) rfl)) ?_ (aB (Z3 5 29 7 31 2 26 rfl (YI mF jM (aD c0) rfl rfl)) (Z2 8 32 2 26 rfl (YF sH (aD c0) rfl)) (X2 9 33 2 26 rfl fun hG=>YR aF (aD c0) rfl (aL hG (hpk (by omega)).1)) (Z3 4 28 10 34 2 26 rfl (YC (aD c0) rfl)) (aX (Z2 2 26 11 35 rfl (Pt (aD c0) rfl)) (aX (bH rfl) cO))))) ?_
    ·refine bL 6 30 2 26 rfl rfl fun _ a w G1 hG HT H fin=>?_;refine lT _ H (wg H rfl rfl (aD c0)) rfl rfl rfl (by omega) (by omega) rfl ?_;clear H;intro a H;exact fin H iJ (by show _=_;first|rfl|exact aA vi (by omega))
    clear H;intro a w G zo H hv;have H:=H.aV (hv 12 36 rfl rfl) rfl;clear hv;refine kH H (Ra rfl ?_);clear H;intro a H;refine aI ⟨rfl,?_⟩;refine K6 _ _ ?_;clear K6;refine vM H rfl (aD c1) ?_;refine aZ (fun _ K7=>?_)
    have e7:iq l k x=7:=by rw [iq,ko,ah (by omega),au (by rw [(hpk (by omega)).2,c1])]
    refine kP H (SC (aS K7 rfl ?_));clear H K7;intro a H;refine lr H results113 rfl ?_
    first
     | exact H.rt (aA vi e0.symm)
     | exact H.rt (aA vi e4.symm)
     | exact H.rt (aA vi e7.symm)
     | exact H.rt (aA vi e13.symm)
     | exact H.rt (aA vi e3.symm)
     | exact H.rt (aA vi e6.symm)
     | exact H.rt (aA vi (by rw [iq,ko,au (by omega)]))
   skip;refine dI hmx [[],[0],[0,1],[0,1,2],(ra 0 4),[0,1,2],[0,1,2],[0,1,2,6],[0,1,2,5,6,7],[0,1,2,5,6,7,8],[0,1,2,5,6,7,8,9],(ra 0 11),(ra 0 12),(ra 0 13)] [13] (by kernel_rfl) [_,_,_,_,vi x.id,_,_,vi ((k - 1:Nat):Int),_,_,_,_,_] H (aB (Z0 rfl (Rm rfl)) (Z1 0 24 rfl (Rc rfl)) (Z1 1 25 rfl (Rm rfl)) (Z1 2 26 rfl (YF sH (aD c0) rfl)) (aB (Z2 3 27 2 26 rfl (YO aF 0 (aD c0) rfl)) (Z1 2 26 rfl (YM (aD c0) rfl)) (Z1 2 26 rfl (YM (aD c0) rfl)) ?_ (aB (Z3 5 29 7 31 2 26 rfl (YI mF jM (aD c0) rfl rfl)) (Z2 8 32 2 26 rfl (YF sH (aD c0) rfl)) (X2 9 33 2 26 rfl fun hG=>YR aF (aD c0) rfl (aL hG (hpk (by omega)).1)) (Z3 4 28 10 34 2 26 rfl (YC (aD c0) rfl)) (aX (Z2 2 26 11 35 rfl (Pt (aD c0) rfl)) (aX (bH rfl) cO))))) ?_
   ·refine bL 6 30 2 26 rfl rfl fun _ a w G1 hG HT H fin=>?_;refine lT _ H (wg H rfl rfl (aD c0)) rfl rfl rfl (by omega) (by omega) rfl ?_;clear H;intro a H;exact fin H iJ (by show _=_;first|rfl|exact aA vi (by omega))
   clear H;intro a w G zo H hv;have H:=H.aV (hv 12 36 rfl rfl) rfl;clear hv;refine kH H (Ra rfl ?_);clear H;intro a H;refine aI ⟨rfl,?_⟩;refine K6 _ _ ?_;clear K6;refine lW H rfl (aM c1) ?_;refine aZ (fun _ K8=>?_)
   have q1:¬ (0 < (k:Int)∧x.id=pk):=by first|exact fun h=>c1 h.2|exact fun h=>c0 h.1
   have q1':¬ vv l k=some x.id:=fun h=>q1 (by
    by_cases h0:0 < k
    ·rw [(hpk h0).2] at h
     injection h with h
     exact ⟨by omega,h.symm⟩
    rw [Jj (by omega)] at h
    cases h)
   by_cases c3:x.id < pk
   ·skip;refine dI hmx [[],[0],[0,1],[0,1,2],(ra 0 4),[0,1,2],[0,1,2],[0,1,2,6],[0,1,2,5,6,7],[0,1,2,5,6,7,8],[0,1,2,5,6,7,8,9],(ra 0 11),(ra 0 12),(ra 0 13)] [13] (by kernel_rfl) [_,_,_,_,vi x.id,_,_,vi ((k - 1:Nat):Int),_,_,_,_,_] H (aB (Z0 rfl (Rm rfl)) (Z1 0 38 rfl (Rc rfl)) (Z1 1 39 rfl (Rm rfl)) (Z1 2 40 rfl (YF sH (aD c0) rfl)) (aB (Z2 3 41 2 40 rfl (YO aF 0 (aD c0) rfl)) (Z1 2 40 rfl (YM (aD c0) rfl)) (Z1 2 40 rfl (YM (aD c0) rfl)) ?_ (aB (Z3 5 43 7 45 2 40 rfl (YI mF jM (aD c0) rfl rfl)) (Z2 8 46 2 40 rfl (YF sH (aD c0) rfl)) (X2 9 47 2 40 rfl fun hG=>YR aF (aD c0) rfl (aL hG (aL zo (hpk (by omega)).1))) (Z3 4 42 10 48 2 40 rfl (YC (aD c0) rfl)) (aX (Z2 2 40 11 49 rfl (Pt (aD c0) rfl)) (aX (bH rfl) cO))))) ?_
    ·refine bL 6 44 2 40 rfl rfl fun _ a w G1 hG HT H fin=>?_;refine lT _ H (wg H rfl rfl (aD c0)) rfl rfl rfl (by omega) (by omega) rfl ?_;clear H;intro a H;exact fin H iJ (by show _=_;first|rfl|exact aA vi (by omega))
    clear H;intro a w G iQ H hv;have H:=H.aV (hv 12 50 rfl rfl) rfl;clear hv;refine kH H (Ra rfl ?_);clear H;intro a H;refine aI ⟨rfl,?_⟩;refine K8 _ _ ?_;clear K8;refine vM H rfl (aD c3) ?_;refine aZ (fun _ K9=>?_)
    have e6:iq l k x=6:=by rw [iq,ko,ah (by omega),ah q1',au (by rw [(hpk (by omega)).2];exact aD c3)]
    refine kP H (SC (aS K9 rfl ?_));clear H K9;intro a H;refine lr H results113 rfl ?_
    first
     | exact H.rt (aA vi e0.symm)
     | exact H.rt (aA vi e4.symm)
     | exact H.rt (aA vi e7.symm)
     | exact H.rt (aA vi e13.symm)
     | exact H.rt (aA vi e3.symm)
     | exact H.rt (aA vi e6.symm)
     | exact H.rt (aA vi (by rw [iq,ko,au (by omega)]))
   skip;refine dI hmx [[],[0],[0,1],[0,1,2],(ra 0 4),[0,1,2],[0,1,2],[0,1,2,6],[0,1,2,5,6,7],[0,1,2,5,6,7,8],[0,1,2,5,6,7,8,9],(ra 0 11),(ra 0 12),(ra 0 13)] [13] (by kernel_rfl) [_,_,_,_,vi x.id,_,_,vi ((k - 1:Nat):Int),_,_,_,_,_] H (aB (Z0 rfl (Rm rfl)) (Z1 0 38 rfl (Rc rfl)) (Z1 1 39 rfl (Rm rfl)) (Z1 2 40 rfl (YF sH (aD c0) rfl)) (aB (Z2 3 41 2 40 rfl (YO aF 0 (aD c0) rfl)) (Z1 2 40 rfl (YM (aD c0) rfl)) (Z1 2 40 rfl (YM (aD c0) rfl)) ?_ (aB (Z3 5 43 7 45 2 40 rfl (YI mF jM (aD c0) rfl rfl)) (Z2 8 46 2 40 rfl (YF sH (aD c0) rfl)) (X2 9 47 2 40 rfl fun hG=>YR aF (aD c0) rfl (aL hG (aL zo (hpk (by omega)).1))) (Z3 4 42 10 48 2 40 rfl (YC (aD c0) rfl)) (aX (Z2 2 40 11 49 rfl (Pt (aD c0) rfl)) (aX (bH rfl) cO))))) ?_
   ·refine bL 6 44 2 40 rfl rfl fun _ a w G1 hG HT H fin=>?_;refine lT _ H (wg H rfl rfl (aD c0)) rfl rfl rfl (by omega) (by omega) rfl ?_;clear H;intro a H;exact fin H iJ (by show _=_;first|rfl|exact aA vi (by omega))
   clear H;intro a w G iQ H hv;have H:=H.aV (hv 12 50 rfl rfl) rfl;clear hv;refine kH H (Ra rfl ?_);clear H;intro a H;refine aI ⟨rfl,?_⟩;refine K8 _ _ ?_;clear K8;refine lW H rfl (aM c3) ?_;refine aZ (fun _ aT=>?_)
   have q2:¬ (0 < (k:Int)∧x.id < pk):=by first|exact fun h=>c3 h.2|exact fun h=>c0 h.1
   have q2':¬ Eh (vv l k) x.id=true:=fun h=>q2 (by
    by_cases h0:0 < k
    ·rw [(hpk h0).2] at h;exact ⟨by omega,rY h⟩
    rw [Jj (by omega)] at h
    cases h)
   refine kP H (SC (aU uU aF 0 rfl rfl (Rc rfl (Rm rfl (Sp 55 rfl ?_ ?_))))) <;> clear H
   ·intro kM a H
    try have p55:=dT kM
    refine kH H (YF uU kM rfl (YO aF 0 kM rfl (YC kM rfl (Pt kM rfl (aS aT rfl (Cd rfl ?_ ?_)))))) <;> clear H aT
    ·intro jl a H
     try have p51:=dT jl
     refine aZ (fun _ bD=>?_)
     have e3:iq l k x=3:=by rw [iq,ko,ah (by omega),ah q1',ah q2',au (by omega)]
     refine kP H (SC (aS bD rfl ?_));clear H bD;intro a H;refine lr H results113 rfl ?_
     first
      | exact H.rt (aA vi e0.symm)
      | exact H.rt (aA vi e4.symm)
      | exact H.rt (aA vi e7.symm)
      | exact H.rt (aA vi e13.symm)
      | exact H.rt (aA vi e3.symm)
      | exact H.rt (aA vi e6.symm)
      | exact H.rt (aA vi (by rw [iq,ko,au (by omega)]))
    intro jl a H
    try have p51:=dF jl
    refine kP H (SR fun _ bK=>aU DI gF 0 rfl rfl ?_);clear H;intro a H;refine s_call H7 H wn rfl (I6 _ _ H.ro x.name hs) rfl ?_;clear H;rintro v63 Bu a w rfl hm63 H;refine kH H (Rn rfl (ak bK rfl (Cd rfl ?_ ?_))) <;> clear H bK
    ·intro iP a H
     try have p60:=dT iP
     refine aZ (fun _ bT=>?_)
     have e13:iq l k x=13:=by rw [iq,ko,ah (by omega),ah q1',ah q2',ah (by omega),au (by simpa using iP)]
     refine kP H (SC (aS bT rfl ?_));clear H bT;intro a H;refine lr H results113 rfl ?_
     first
      | exact H.rt (aA vi e0.symm)
      | exact H.rt (aA vi e4.symm)
      | exact H.rt (aA vi e7.symm)
      | exact H.rt (aA vi e13.symm)
      | exact H.rt (aA vi e3.symm)
      | exact H.rt (aA vi e6.symm)
      | exact H.rt (aA vi (by rw [iq,ko,au (by omega)]))
    intro iP a H
    try have p60:=dF iP
    refine gI ?_;refine ⟨Bu,by exact (H).sub ⟨rfl,rfl,rfl,aC⟩,?_⟩;exact ⟨by omega,q1',q2',by omega,by simpa using iP,fun b o h=>hm63 b o (iQ b o (zo b o h))⟩
   intro kM a H
   try have p55:=dF kM
   refine kH H (aY kM rfl (Pf kM rfl (aS aT rfl (Cf rfl rfl (SR fun _ bU=>aU DI gF 0 rfl rfl ?_)))));clear H aT;intro a H;refine s_call H7 H wn rfl (I6 _ _ H.ro x.name hs) rfl ?_;clear H;rintro v63 Bu a w rfl hm63 H;refine kH H (Rn rfl (ak bU rfl (Cd rfl ?_ ?_))) <;> clear H bU
   ·intro iP a H
    try have p60:=dT iP
    refine aZ (fun _ dM=>?_)
    have e13:iq l k x=13:=by rw [iq,ko,ah (by omega),ah q1',ah q2',ah (by omega),au (by simpa using iP)]
    refine kP H (SC (aS dM rfl ?_));clear H dM;intro a H;refine lr H results113 rfl ?_
    first
     | exact H.rt (aA vi e0.symm)
     | exact H.rt (aA vi e4.symm)
     | exact H.rt (aA vi e7.symm)
     | exact H.rt (aA vi e13.symm)
     | exact H.rt (aA vi e3.symm)
     | exact H.rt (aA vi e6.symm)
     | exact H.rt (aA vi (by rw [iq,ko,au (by omega)]))
   intro iP a H
   try have p60:=dF iP
   refine gI ?_;refine ⟨Bu,by exact (H).sub ⟨rfl,rfl,rfl,aC⟩,?_⟩;exact ⟨by omega,q1',q2',by omega,by simpa using iP,fun b o h=>hm63 b o (iQ b o (zo b o h))⟩
  skip;refine dI hmx [[],[0],[0,1],[0,1,2],(ra 0 4),[0,1,2],[0,1,2],[0,1,2,6],[0,1,2,5,6,7],[0,1,2,5,6,7,8],[0,1,2,5,6,7,8,9],(ra 0 11),(ra 0 12),(ra 0 13)] [13] (by kernel_rfl) [_,_,_,undef,undef,undef,undef,undef,undef,undef,undef,undef,_] H (aB (Z0 rfl (Rm rfl)) (Z1 0 24 rfl (Rc rfl)) (Z1 1 25 rfl (Rm rfl)) (aN (j:=2) (by kernel_rfl) (fun _ _ _ _ _ h=>h) rfl rfl rfl rfl rfl (fun _ _ h=>aO h (aG (aM c0))) rfl (fun _=>rfl)) (aB (aN (j:=2) (by kernel_rfl) (fun _ _ _ _ _ h=>h) rfl rfl rfl rfl rfl (fun _ _ h=>aO h (aG (aM c0))) rfl (fun _=>rfl)) (aN (j:=2) (by kernel_rfl) (fun _ _ _ _ _ h=>h) rfl rfl rfl rfl rfl (fun _ _ h=>aO h (aG (aM c0))) rfl (fun _=>rfl)) (aN (j:=2) (by kernel_rfl) (fun _ _ _ _ _ h=>h) rfl rfl rfl rfl rfl (fun _ _ h=>aO h (aG (aM c0))) rfl (fun _=>rfl)) (aN (j:=2) (by kernel_rfl) (fun _ _ _ _ _ h=>h) rfl rfl rfl rfl rfl (fun _ _ h=>aO h (aG (aM c0))) rfl (fun _=>rfl)) (aB (aN (j:=2) (by kernel_rfl) (fun _ _ _ _ _ h=>h) rfl rfl rfl rfl rfl (fun _ _ h=>aO h (aG (aM c0))) rfl (fun _=>rfl)) (aN (j:=2) (by kernel_rfl) (fun _ _ _ _ _ h=>h) rfl rfl rfl rfl rfl (fun _ _ h=>aO h (aG (aM c0))) rfl (fun _=>rfl)) (aN (j:=2) (by kernel_rfl) (fun _ _ _ _ _ h=>h) rfl rfl rfl rfl rfl (fun _ _ h=>aO h (aG (aM c0))) rfl (fun _=>rfl)) (aN (j:=2) (by kernel_rfl) (fun _ _ _ _ _ h=>h) rfl rfl rfl rfl rfl (fun _ _ h=>aO h (aG (aM c0))) rfl (fun _=>rfl)) (aX (Z2 2 26 11 35 rfl (Pf (aM c0) rfl)) (aX (bH rfl) cO))))) ?_
  clear H;intro a w G zo H hv;have H:=H.aV (hv 12 36 rfl rfl) rfl;clear hv;refine kH H (Ra rfl ?_);clear H;intro a H;refine aI ⟨rfl,?_⟩;refine K6 _ _ ?_;clear K6;refine lW H rfl rfl ?_;refine aZ (fun _ dO=>?_)
  have q1:¬ (0 < (k:Int)∧x.id=pk):=by first|exact fun h=>c1 h.2|exact fun h=>c0 h.1
  have q1':¬ vv l k=some x.id:=fun h=>q1 (by
   by_cases h0:0 < k
   ·rw [(hpk h0).2] at h
    injection h with h
    exact ⟨by omega,h.symm⟩
   rw [Jj (by omega)] at h
   cases h)
  refine dI hmx [[],[0],[0,1],[0,1,2],(ra 0 4),[0,1,2],[0,1,2],[0,1,2,6],[0,1,2,5,6,7],[0,1,2,5,6,7,8],[0,1,2,5,6,7,8,9],(ra 0 11),(ra 0 12),(ra 0 13)] [13] (by kernel_rfl) [_,_,_,undef,undef,undef,undef,undef,undef,undef,undef,undef,_] H (aB (Z0 rfl (Rm rfl)) (Z1 0 38 rfl (Rc rfl)) (Z1 1 39 rfl (Rm rfl)) (aN (j:=2) (by kernel_rfl) (fun _ _ _ _ _ h=>h) rfl rfl rfl rfl rfl (fun _ _ h=>aO h (aG (aM c0))) rfl (fun _=>rfl)) (aB (aN (j:=2) (by kernel_rfl) (fun _ _ _ _ _ h=>h) rfl rfl rfl rfl rfl (fun _ _ h=>aO h (aG (aM c0))) rfl (fun _=>rfl)) (aN (j:=2) (by kernel_rfl) (fun _ _ _ _ _ h=>h) rfl rfl rfl rfl rfl (fun _ _ h=>aO h (aG (aM c0))) rfl (fun _=>rfl)) (aN (j:=2) (by kernel_rfl) (fun _ _ _ _ _ h=>h) rfl rfl rfl rfl rfl (fun _ _ h=>aO h (aG (aM c0))) rfl (fun _=>rfl)) (aN (j:=2) (by kernel_rfl) (fun _ _ _ _ _ h=>h) rfl rfl rfl rfl rfl (fun _ _ h=>aO h (aG (aM c0))) rfl (fun _=>rfl)) (aB (aN (j:=2) (by kernel_rfl) (fun _ _ _ _ _ h=>h) rfl rfl rfl rfl rfl (fun _ _ h=>aO h (aG (aM c0))) rfl (fun _=>rfl)) (aN (j:=2) (by kernel_rfl) (fun _ _ _ _ _ h=>h) rfl rfl rfl rfl rfl (fun _ _ h=>aO h (aG (aM c0))) rfl (fun _=>rfl)) (aN (j:=2) (by kernel_rfl) (fun _ _ _ _ _ h=>h) rfl rfl rfl rfl rfl (fun _ _ h=>aO h (aG (aM c0))) rfl (fun _=>rfl)) (aN (j:=2) (by kernel_rfl) (fun _ _ _ _ _ h=>h) rfl rfl rfl rfl rfl (fun _ _ h=>aO h (aG (aM c0))) rfl (fun _=>rfl)) (aX (Z2 2 40 11 49 rfl (Pf (aM c0) rfl)) (aX (bH rfl) cO))))) ?_
  clear H;intro a w G iQ H hv;have H:=H.aV (hv 12 50 rfl rfl) rfl;clear hv;refine kH H (Ra rfl ?_);clear H;intro a H;refine aI ⟨rfl,?_⟩;refine dO _ _ ?_;clear dO;refine lW H rfl rfl ?_;refine aZ (fun _ dD=>?_)
  have q2:¬ (0 < (k:Int)∧x.id < pk):=by first|exact fun h=>c3 h.2|exact fun h=>c0 h.1
  have q2':¬ Eh (vv l k) x.id=true:=fun h=>q2 (by
   by_cases h0:0 < k
   ·rw [(hpk h0).2] at h;exact ⟨by omega,rY h⟩
   rw [Jj (by omega)] at h
   cases h)
  refine kP H (SC (aU uU aF 0 rfl rfl (Rc rfl (Rm rfl (Sp 55 rfl ?_ ?_))))) <;> clear H
  ·intro kM a H
   try have p55:=dT kM
   refine kH H (YF uU kM rfl (YO aF 0 kM rfl (YC kM rfl (Pt kM rfl (aS dD rfl (Cd rfl ?_ ?_)))))) <;> clear H dD
   ·intro jl a H
    try have p51:=dT jl
    refine aZ (fun _ eG=>?_)
    have e3:iq l k x=3:=by rw [iq,ko,ah (by omega),ah q1',ah q2',au (by omega)]
    refine kP H (SC (aS eG rfl ?_));clear H eG;intro a H;refine lr H results113 rfl ?_
    first
     | exact H.rt (aA vi e0.symm)
     | exact H.rt (aA vi e4.symm)
     | exact H.rt (aA vi e7.symm)
     | exact H.rt (aA vi e13.symm)
     | exact H.rt (aA vi e3.symm)
     | exact H.rt (aA vi e6.symm)
     | exact H.rt (aA vi (by rw [iq,ko,au (by omega)]))
   intro jl a H
   try have p51:=dF jl
   refine kP H (SR fun _ gM=>aU DI gF 0 rfl rfl ?_);clear H;intro a H;refine s_call H7 H wn rfl (I6 _ _ H.ro x.name hs) rfl ?_;clear H;rintro v63 Bu a w rfl hm63 H;refine kH H (Rn rfl (ak gM rfl (Cd rfl ?_ ?_))) <;> clear H gM
   ·intro iP a H
    try have p60:=dT iP
    refine aZ (fun _ fG=>?_)
    have e13:iq l k x=13:=by rw [iq,ko,ah (by omega),ah q1',ah q2',ah (by omega),au (by simpa using iP)]
    refine kP H (SC (aS fG rfl ?_));clear H fG;intro a H;refine lr H results113 rfl ?_
    first
     | exact H.rt (aA vi e0.symm)
     | exact H.rt (aA vi e4.symm)
     | exact H.rt (aA vi e7.symm)
     | exact H.rt (aA vi e13.symm)
     | exact H.rt (aA vi e3.symm)
     | exact H.rt (aA vi e6.symm)
     | exact H.rt (aA vi (by rw [iq,ko,au (by omega)]))
   intro iP a H
   try have p60:=dF iP
   refine gI ?_;refine ⟨Bu,by exact (H).sub ⟨rfl,rfl,rfl,aC⟩,?_⟩;exact ⟨by omega,q1',q2',by omega,by simpa using iP,fun b o h=>hm63 b o (iQ b o (zo b o h))⟩
  intro kM a H
  try have p55:=dF kM
  refine kH H (aY kM rfl (Pf kM rfl (aS dD rfl (Cf rfl rfl (SR fun _ gN=>aU DI gF 0 rfl rfl ?_)))));clear H dD;intro a H;refine s_call H7 H wn rfl (I6 _ _ H.ro x.name hs) rfl ?_;clear H;rintro v63 Bu a w rfl hm63 H;refine kH H (Rn rfl (ak gN rfl (Cd rfl ?_ ?_))) <;> clear H gN
  ·intro iP a H
   try have p60:=dT iP
   refine aZ (fun _ iY=>?_)
   have e13:iq l k x=13:=by rw [iq,ko,ah (by omega),ah q1',ah q2',ah (by omega),au (by simpa using iP)]
   refine kP H (SC (aS iY rfl ?_));clear H iY;intro a H;refine lr H results113 rfl ?_
   first
    | exact H.rt (aA vi e0.symm)
    | exact H.rt (aA vi e4.symm)
    | exact H.rt (aA vi e7.symm)
    | exact H.rt (aA vi e13.symm)
    | exact H.rt (aA vi e3.symm)
    | exact H.rt (aA vi e6.symm)
    | exact H.rt (aA vi (by rw [iq,ko,au (by omega)]))
  intro iP a H
  try have p60:=dF iP
  refine gI ?_;refine ⟨Bu,by exact (H).sub ⟨rfl,rfl,rfl,aC⟩,?_⟩;exact ⟨by omega,q1',q2',by omega,by simpa using iP,fun b o h=>hm63 b o (iQ b o (zo b o h))⟩
 clear H;intro gh a w hI H;obtain ⟨g,hgh⟩:∃ x,x=gh:=⟨_,rfl⟩;subst hgh;obtain ⟨q0,q1',q2',q3,q4,hgm⟩:=hI;dsimp only [lca,bC] at H;refine aZ (fun _ jX=>?_);refine aZ (fun _ jT=>?_);have Ud:=(hv.mono hgm).pre k (by rw [bX];omega);rw [← List.map_take] at Ud;have aej:=hp.mono hgm;refine dI hmx [[],[],[0,1],[],[3],[],[5],(ra 0 7),(ra 0 8),(ra 0 9),(ra 0 9),(ra 0 10),(ra 0 12)] [12] (by kernel_rfl) [_,_,.slice (some ⟨b,o,none⟩) k c,_,vi x.kind,_,.string x.name,.tuple #[vi (max (mO (Am (l.take k) x.kind x.name)) 0),.bool (Am (l.take k) x.kind x.name).isSome],_,vi (max (mO (Am (l.take k) x.kind x.name)) 0),.bool (Am (l.take k) x.kind x.name).isSome,_] H (aB (Z0 rfl (Rm rfl)) (Z0 rfl (Rm rfl)) ?_ (Z0 rfl (Rf uU rfl)) (aB (Z1 3 69 rfl (Ro aF 0 rfl)) (Z0 rfl (Rf DI rfl)) (Z1 5 71 rfl (Ro gF 0 rfl)) ?_ (aB (Z1 7 73 rfl (Rm rfl)) ?_ ?_ (Z1 9 74 rfl (Ra rfl)) (aX (bH rfl) cO)))) ?_
 ·refine bL 0 66 1 67 rfl rfl fun _ a w G1 hG HT H fin=>?_;refine VK mF jM k H wn rfl rfl rfl (by omega) rfl ?_;clear H;intro a H;exact fin H iJ rfl
 ·refine lU 2 68 4 70 6 72 rfl rfl fun _ a w G1 hG HT H fin=>?_;refine s_call aau H wn rfl (acA _ _ H.ro (l.take k) x.kind x.name _ (Ud.mono hG)) rfl ?_;clear H;rintro v73 G73 a w rfl ada H;exact fin H ada (rfl)
 ·refine bY 8 65 rfl rfl fun _ a w G1 hG HT H fin=>?_;refine jS H wn rfl rfl rfl ?_;clear H;intro a H;exact fin H iJ rfl
 ·refine bY 8 65 rfl rfl fun _ a w G1 hG HT H fin=>?_;refine jS H wn rfl rfl rfl ?_;clear H;intro a H;exact fin H iJ rfl
 clear H;intro a w G oN H hv;have H:=H.aV (hv 10 75 rfl rfl) rfl;clear hv;refine kH H (Ra rfl ?_);clear H;intro a H;refine aI ⟨rfl,?_⟩;refine jT _ _ ?_;clear jT;refine kP H (SR fun _ jw=>Rm rfl (Kz jw (Cd rfl ?_ ?_))) <;> clear H jw
 ·intro zi a H
  try have NR:=dT zi
  refine aZ (fun _ kC=>?_)
  have e7:iq l k x=7:=by rw [iq,ko,ah (by omega),ah q1',ah q2',ah q3,ah q4,au zi]
  refine kP H (SC (aS kC rfl ?_));clear H kC;intro a H;refine lr H results113 rfl ?_
  first
   | exact H.rt (aA vi e0.symm)
   | exact H.rt (aA vi e4.symm)
   | exact H.rt (aA vi e7.symm)
   | exact H.rt (aA vi e13.symm)
   | exact H.rt (aA vi e3.symm)
   | exact H.rt (aA vi e6.symm)
   | exact H.rt (aA vi (by rw [iq,ko,au (by omega)]))
 intro zi a H
 try have NR:=dF zi
 refine kP H (Kc jX (SQ fun _ kD=>SQ fun _ iZ=>?_));clear H jX;intro a H
 have q5:¬ (Am (l.take k) x.kind x.name).isSome=true:=by simpa using zi
 have AO:=aej.mono oN;refine kP H (SC (aU RY zR 0 rfl rfl (Rl nT rfl (Rm rfl (Kn iZ (SB ?_))))));clear H iZ;intro a H;skip;refine fJ (ι:=Nat) (Tc:=[(5,_),(78,_),(79,_)]) (Lc:=[(_,_)]) (fun gh=>[(80,vi gh)]) (fun gh=>[]) (fun gh=>G) (fun gh=>gh≤x.props.length∧(x.props.take gh).any (fun p=>Dt p.key)=false) (fun gh=>x.props.length - gh) (0) (by exact (H).sub ⟨rfl,rfl,rfl,rfl,aC⟩) ?_ ?_
 ·exact ⟨jf _,rfl⟩
 clear H;intro gh a w hI H;obtain ⟨n,hgh⟩:∃ x,x=gh:=⟨_,rfl⟩;subst hgh;obtain ⟨hn,hno⟩:=hI;dsimp only [lca,bC] at H;refine kP H (SR fun _ nD=>Rc rfl (Kz nD (SQ fun _ nV=>Cd rfl ?_ ?_))) <;> clear H nD
 ·intro Mh a H
  try have p81:=dT Mh
  have hn2:n < x.props.length:=by omega
  obtain ⟨pb,po,rfl,hrow2⟩:=Jk AO hn2;have hrow:=hrow2;refine kP H (Kc nV (SQ fun _ oI=>SB (SR fun _ pE=>Ri nT mD rfl rfl ?_)));clear H nV;intro a H;refine bE mD (cs:=[_,_]) H wn rfl rfl (fun j v hj=>H.hp.aJ (hrow j v hj)) rfl ?_;clear H;intro a H;refine fq mD H wn rfl ?_;clear H;intro b9 a w xI H;refine bF mD 0 (vs:=[_,_]) _ H wn rfl rfl rfl rfl rfl rfl rfl rfl ?_;clear H;intro w H;dsimp only [List.set,setRow] at H;refine pE _ _ ?_;clear pE;refine kP H (SR fun _ oJ=>aU tT aF 0 rfl rfl (Rc rfl (Rm rfl (Sp 87 rfl ?_ ?_)))) <;> clear H
  ·intro h87 a H
   try have NU:=dT h87
   refine kH H (aY h87 rfl (Pt h87 rfl (Kz oJ (Ct rfl rfl (SQ fun _ qU=>?_)))));clear H oJ;intro a H
   have e4:iq l k x=4:=by
    rw [iq,ko,ah (by omega),ah q1',ah q2',ah q3,ah q4,ah q5,au];rw [List.any_eq_true];exact ⟨x.props[n],jk hn2,by simp [Dt];omega⟩
   refine kP H (SC (aS qU rfl ?_));clear H qU;intro a H;refine lr H results113 rfl ?_
   first
    | exact H.rt (aA vi e0.symm)
    | exact H.rt (aA vi e4.symm)
    | exact H.rt (aA vi e7.symm)
    | exact H.rt (aA vi e13.symm)
    | exact H.rt (aA vi e3.symm)
    | exact H.rt (aA vi e6.symm)
    | exact H.rt (aA vi (by rw [iq,ko,au (by omega)]))
  intro h87 a H
  try have NU:=dF h87
  refine kH H (YF tT h87 rfl (YO aF 0 h87 rfl (YC h87 rfl (Pf h87 rfl (Kz oJ (Cd rfl ?_ ?_)))))) <;> clear H oJ
  ·intro Mj a H
   try have p91:=dT Mj
   refine aZ (fun _ tC=>?_)
   have e4:iq l k x=4:=by
    rw [iq,ko,ah (by omega),ah q1',ah q2',ah q3,ah q4,ah q5,au];rw [List.any_eq_true];exact ⟨x.props[n],jk hn2,by simp [Dt];omega⟩
   refine kP H (SC (aS tC rfl ?_));clear H tC;intro a H;refine lr H results113 rfl ?_
   first
    | exact H.rt (aA vi e0.symm)
    | exact H.rt (aA vi e4.symm)
    | exact H.rt (aA vi e7.symm)
    | exact H.rt (aA vi e13.symm)
    | exact H.rt (aA vi e3.symm)
    | exact H.rt (aA vi e6.symm)
    | exact H.rt (aA vi (by rw [iq,ko,au (by omega)]))
  intro Mj a H
  try have p91:=dF Mj
  refine kP H (Kc oI (SC (Rd rfl (Rm rfl ?_))));clear H oI;intro a H;refine aI ?_;refine dN ((n+1)) (by exact (H.dX (Pl:=[_,_]) (dz:=[_]) [1] (by decide) rfl).sub ⟨rfl,rfl,rfl,rfl,aC⟩) ?_ ?_
  ·exact ⟨by omega,by rw [jF hn2,List.any_append,hno];simp [Dt];omega⟩
  first|omega|(dsimp only;omega)
 intro Mh a H
 try have p81:=dF Mh
 refine eX ?_;refine kD _ _ ?_;clear kD;refine aZ (fun _ qm=>?_)
 have q6:¬ x.props.any (fun p=>Dt p.key)=true:=by
  rw [show x.props.take n=x.props from jG (by omega)] at hno;rw [hno];decide
 have e0:iq l k x=fZ (if x.kind=1 then 2 else 1) x.props:=by rw [iq,ko,ah (by omega),ah q1',ah q2',ah q3,ah q4,ah q5,ah q6]
 refine dI hmx [[],[0],[0,1],[],[3],(ra 0 5),(ra 0 6)] [5,6] (by kernel_rfl) [_,vi x.kind,vi (if x.kind=1 then 2 else 1),_,.slice pA x.props.length pc] H (aB (Z0 rfl (Rf uU rfl)) (Z1 0 93 rfl (Ro aF 0 rfl)) ?_ (Z0 rfl (Rf RY rfl)) (aX (Z1 3 96 rfl (Ro zR 0 rfl)) (aX (bH rfl) (aX (bH rfl) cO)))) ?_
 ·refine bY 1 94 rfl rfl fun _ a w G1 hG HT H fin=>?_;refine s_call aav H wn rfl (Z4 _ _ H.ro x.kind) rfl ?_;clear H;rintro v95 G95 a w rfl ade H;exact fin H ade (rfl)
 clear H;intro a w G DT H hv;have H:=H.aV (hv 2 95 rfl rfl) rfl;have H:=H.aV (hv 4 97 rfl rfl) rfl;clear hv;refine s_call RI H wn rfl (Vk _ _ H.ro _ x.props _ (AO.mono DT)) rfl ?_;clear H;rintro v98 G98 a w rfl ajn H;refine kH H (Ra rfl ?_);clear H;intro a H;refine aI ⟨rfl,?_⟩;refine qm _ _ ?_;clear qm;refine lr H results113 rfl ?_
 first
  | exact H.rt (aA vi e0.symm)
  | exact H.rt (aA vi e4.symm)
  | exact H.rt (aA vi e7.symm)
  | exact H.rt (aA vi e13.symm)
  | exact H.rt (aA vi e3.symm)
  | exact H.rt (aA vi e6.symm)
  | exact H.rt (aA vi (by rw [iq,ko,au (by omega)]))
end
section
open Go.RowKit
theorem C8:Ty prog 33 1 24 [.slice none 0 0] false:=⟨by kernel_rfl,by kernel_rfl⟩
theorem Bh:prog.underlying 33=some (.slice 67):=by kernel_rfl
theorem Bd:Ty prog 67 6 64 [.int .i64 0,.int .i64 0,.string ⟨#[]⟩,.int .i64 0,.string ⟨#[]⟩,.bool false] true:=⟨by kernel_rfl,by kernel_rfl⟩
theorem Sd:bO prog 67 0 0:=⟨by kernel_rfl⟩
theorem Sg:bO prog 67 1 1:=⟨by kernel_rfl⟩
theorem aag:∀ args w,(callFunc 112 args).run prog w=.ok (.enter 112 args) w:=enters func112 rfl (by kernel_rfl)
theorem abt:∀ args w,(callFunc 78 args).run prog w=.ok (.enter 78 args) w:=enters func78 rfl (by kernel_rfl)
theorem acu:bO prog 67 2 2:=⟨by kernel_rfl⟩
theorem RH:∀ args w,(callFunc 88 args).run prog w=.ok (.enter 88 args) w:=enters func88 rfl (by kernel_rfl)
theorem acv:bO prog 67 3 3:=⟨by kernel_rfl⟩
theorem acw:bO prog 67 4 4:=⟨by kernel_rfl⟩
theorem KV:∀ args w,(callFunc 122 args).run prog w=.ok (.enter 122 args) w:=enters func122 rfl (by kernel_rfl)
theorem aap:∀ args w,(callFunc 121 args).run prog w=.ok (.enter 121 args) w:=enters func121 rfl (by kernel_rfl)
theorem aao:∀ args w,(callFunc 120 args).run prog w=.ok (.enter 120 args) w:=enters func120 rfl (by kernel_rfl)
theorem aam:∀ args w,(callFunc 119 args).run prog w=.ok (.enter 119 args) w:=enters func119 rfl (by kernel_rfl)
theorem Cu {G:GH} {b:Nat} (l:List Int) (h:G b=some (.cells (l.map vi).toArray 56 (0,0))) (hl:l.length≤maxLen):av G (.sl 1 (l.map fun k=>[li k])) (.slice (some ⟨b,0,none⟩) l.length l.length) :=
 av.dS h (by simp) (bM _) hl (jG (by simp)) (eB G l)
theorem KM {G:GH} {l:List iw} {A:Option Addr} {n c k:Nat} (hv:av G (.sl 6 (l.map iw.dat)) (.slice A n c)) (hk:k < l.length):∃ b o,A=some ⟨b,o,none⟩∧(∀ j u,l[k].cells[j]?=some u→aJ G b (o+k*6+j)=some u)∧aW G l[k].dat l[k].cells:=by
 obtain ⟨A',c',he,_,_,hg⟩:=hv.slice
 injection he with e1 e2 e3
 subst e1;obtain ⟨b,o,cs,h1,h2,h3,h4⟩:=hg k l[k].dat (by simp [hk]);have:=QJ h4;subst this;exact ⟨b,o,h1,h3,h4⟩
theorem Zv {G:GH} {bl:Nat} {l:List iw} {A:Option Addr} {n c:Nat} (hb:aJ G bl 0=some (.slice A n c)) (hv:av G (.sl 6 (l.map iw.dat)) (.slice A n c)):ql (.func (.func 121) #[] #[(aH bl 0)]) G l.length fun k=>(l[k]?.map iw.id).getD 0:=by
 intro k hk G1 w0 hm hG;refine lH (caps:=[(aH bl 0)]) aap ?_;replace hb:=aL hm hb
 obtain rfl:n=l.length:=by have:=hv.len;simpa using this
 obtain ⟨b,o,rfl,hrow,-⟩:=KM (hv.mono hm) hk;have hq:=hrow 0 _ rfl;refine eN [(0,_),(1,_)] func121 rfl ntmps121 rfl rfl hG ?_;intro a H;refine kP H (SR fun _ K1=>ak K1 rfl (SR fun _ K2=>Rg C8 rfl (by assumption) ?_));clear H K1;intro a H;refine kH H (Rm rfl (Ri Bh Bd rfl rfl (Rf Sd rfl (Rg aF rfl (by assumption) ?_))));clear H;intro a H;exact kH H (ak K2 rfl (LR results121 rfl fun H=>H.rt (by dsimp only;rw [gZ hk];rfl)))
theorem Zx {G:GH} {bc:Nat} {x:iw} (hb:aJ G bc 1=some (vi x.parent)) (y:iw):uN (.func (.func 120) #[] #[(aH bc 0)]) G y.dat (decide (y.id=x.parent)):=by
 intro G1 w0 cs hm hG hr;refine lH (caps:=[(aH bc 0)]) aao ?_;obtain rfl:=QJ hr;replace hb:=aL hm hb;refine eN [(0,_),(1,_)] func120 rfl ntmps120 rfl rfl hG ?_;intro a H;refine dw (fun _ K1=>?_);refine fu (cs:=[_,_,_,_,_,_]) H wn rfl rfl rfl ?_;clear H;intro b2 a w hb2 H;refine kH H (ak K1 rfl (SR fun _ K2=>aU Sd aF 0 rfl rfl (Rf Sg rfl (Rg aF rfl (by assumption) ?_))));clear H K1;intro a H;exact kH H (Rc rfl (ak K2 rfl (LR results120 rfl fun H=>H.rt rfl)))
theorem aeK (G:GH) (w0:World) (hG:Hold G w0) (l:List iw) (p:iw→Bool) (v fv:aj) (hv:av G (.sl 6 (l.map iw.dat)) v) (hf:∀ x∈l,uN fv G x.dat (p x)) :
  Calls prog 112 #[v,fv] w0 (bA w0 G fun u G'=>u=vi (mO (l.findIdx? p))):=by
 obtain ⟨A,c,rfl,hc1,hc2,hg⟩:=hv.slice;have hml:maxLen=9223372036854775807:=rfl;rw [bX] at *;refine eN [(0,_),(1,_)] func112 rfl ntmps112 rfl rfl hG ?_;intro a H;refine kP H (SR fun _ K1=>ak K1 rfl (SQ fun _ K2=>SR fun _ K3=>Rm rfl (Rl Bh rfl (Rm rfl (Kz K3 (SB ?_))))));clear H K1 K3;intro a H;skip;refine fJ (ι:=Nat × GH) (Tc:=[(0,_),(1,_),(7,_)]) (Lc:=[]) (fun gh=>[(8,vi gh.1)]) (fun gh=>[]) (fun gh=>gh.2) (fun gh=>gh.1≤l.length∧(l.take gh.1).findIdx? p=none∧(∀ b o,G b=some o→gh.2 b=some o)) (fun gh=>l.length - gh.1) ((0,G)) (by exact (H).sub ⟨rfl,rfl,rfl,rfl,aC⟩) ?_ ?_
 ·exact ⟨by omega,rfl,fun _ _ h=>h⟩
 clear H;intro gh a w hI H;obtain ⟨k,g⟩:=gh;dsimp only at hI H;obtain ⟨hk,hno,hgm⟩:=hI;dsimp only [lca,bC] at H;refine kP H (SR fun _ K4=>Rc rfl (Kz K4 (SQ fun _ K5=>Cd rfl ?_ ?_))) <;> clear H K4
 ·intro h9 a H
  try have p9:=dT h9
  have hk2:k < l.length:=by omega
  obtain ⟨b,o,rfl,hrow,hrep⟩:=KM hv hk2;refine kP H (Kc K5 (SQ fun _ K6=>SB (SR fun _ K7=>Rm rfl (ak K7 rfl (SR fun _ K8=>Rm rfl (Rm rfl (Rm rfl (Ri Bh Bd rfl rfl ?_))))))));clear H K5 K7;intro a H;refine bE Bd (cs:=l[k].cells) H wn rfl rfl (fun j v hj=>H.hp.aJ (aL hgm (hrow j v hj))) rfl ?_;clear H;intro a H;refine oF H wn rfl rfl (hf _ (jk hk2) _ _ _ hgm H.ro (hrep.mono hgm)) rfl ?_;clear H;rintro v16 qj a w rfl qH H;refine K8 _ _ ?_;clear K8;refine kZ H rfl ?_ ?_
  ·intro h16
   try have p16:=dT h16
   refine kP H (SR fun _ K9=>Rm rfl (ak K9 rfl ?_));clear H K9;intro a H;refine lr H results112 rfl ?_
   first
    | exact H.rt (by rw [uq hk2 hno h16];rfl)
    | exact H.rt (by rw [show l.take k=l from jG (by omega)] at hno;rw [hno];rfl)
  intro h16
  try have p16:=dF h16
  refine kP H (Kc K6 (SC (Rd rfl (Rm rfl ?_))));clear H K6;intro a H;refine aI ?_;refine dN ((k+1,qj)) (by exact (H).sub ⟨rfl,rfl,rfl,rfl,aC⟩) ?_ ?_
  ·(try dsimp only);exact ⟨by omega,Cr hk2 hno h16,fun b o h=>qH b o (hgm b o h)⟩
  first|omega|(dsimp only;omega)
 intro h9 a H
 try have p9:=dF h9
 refine eX ?_;refine K2 _ _ ?_;clear K2;refine kP H (SR fun _ aT=>ak aT rfl ?_);clear H aT;intro a H;refine lr H results112 rfl ?_
 first
  | exact H.rt (by rw [uq hk2 hno h16];rfl)
  | exact H.rt (by rw [show l.take k=l from jG (by omega)] at hno;rw [hno];rfl)
theorem ZB (G:GH) (w0:World) (hG:Hold G w0) (l:List iw) (p:iw→Bool) (v fv:aj) (hv:av G (.sl 6 (l.map iw.dat)) v) (hf:∀ x∈l,uN fv G x.dat (p x)) :
  Calls prog 78 #[v,fv] w0 (bA w0 G fun u G'=>u=.bool (l.findIdx? p).isSome):=by
 obtain ⟨A,c,rfl,hc1,hc2,-⟩:=hv.slice;rw [bX] at *;refine eN [(0,_),(1,_)] func78 rfl ntmps78 rfl rfl hG ?_;intro a H;refine kP H (SR fun _ K1=>ak K1 rfl (SR fun _ K2=>Rm rfl (Rm rfl ?_)));clear H K1;intro a H;refine s_call aag H wn rfl (aeK _ _ H.ro l p _ _ hv hf) rfl ?_;clear H;rintro v7 G7 a w rfl zC H;exact kH H (Rc rfl (ak K2 rfl (LR results78 rfl fun H=>H.rt (aG (Nv _)))))
def Du (l:List iw) (i:Nat) (x:iw):Bool:=decide (x.parent=0) || ((l.take i).findIdx? fun y=>decide (y.id=x.parent)).isSome
def KL (l:List iw) (i:Nat) (x:iw):Int:=cZ [nP (fun k=>(l[k]?.map iw.id).getD 0) i,bS (!Du l i x) 8,bS (!uR x.author) 39,bS (!decide (0≤x.time∧x.time≤1099511627776)) 40,zP x.text]
def Dy (l:List iw) (i:Nat):Int:=match l[i]? with|some x=>KL l i x|none=>0
theorem Zu {G:GH} {bl:Nat} {l:List iw} {A:Option Addr} {n c:Nat} (hb:aJ G bl 0=some (.slice A n c)) (hv:av G (.sl 6 (l.map iw.dat)) (.slice A n c)) (hl:l.length≤4294967296) (ht:∀ x∈l,x.author.size < 4611686018427387904∧x.text.size < 4611686018427387904):ql (.func (.func 119) #[] #[(aH bl 0)]) G l.length (Dy l):=by
 intro k hk G1 w0 hm hG;refine lH (caps:=[(aH bl 0)]) aam ?_;replace hb:=aL hm hb;replace hv:=hv.mono hm;have hcb:=Zv hb hv;obtain ⟨_,_,hee,hvc,-,-⟩:=hv.slice
 injection hee with _ _ hcc
 subst hcc;rw [bX] at hvc
 obtain rfl:n=l.length:=by have:=hv.len;simpa using this
 obtain ⟨b,o,rfl,hrow,hrep⟩:=KM hv hk;have hte:=ht _ (jk hk);obtain ⟨x,hx⟩:∃ x,x=l[k]:=⟨_,rfl⟩;rw [← hx] at hrow hte
 have he:Dy l k=KL l k x:=by unfold Dy;rw [gZ hk,hx]
 refine eN [(0,_),(1,_)] func119 rfl ntmps119 rfl rfl hG ?_;intro a H;refine kP H (SR fun _ K1=>ak K1 rfl (SR fun _ K2=>Rg C8 rfl (by assumption) ?_));clear H K1;intro a H;refine kH H (Rm rfl (Ri Bh Bd rfl rfl ?_));clear H;intro a H;refine bE Bd (cs:=x.cells) H wn rfl rfl (fun j v hj=>H.hp.aJ (hrow j v hj)) rfl ?_;clear H;intro a H;refine fq Bd H wn rfl ?_;clear H;intro b4 a w hb4 H;refine bF Bd 0 (vs:=[_,_,_,_,_,_]) _ H wn rfl rfl rfl rfl rfl rfl rfl rfl ?_;clear H;intro w H;dsimp only [List.set,setRow] at H;obtain ⟨Ga,hma,vZ,H⟩:=H.dJ
 have hcell:∀ (j:Nat) (u:aj),x.cells[j]?=some u→aJ Ga b4 j=some u:=fun j u hj=>by unfold aJ;rw [vZ];simpa using hj
 have q1:=hcell 1 _ rfl;have hbA:=aL hma hb;have Uf:=(hv.mono hma).pre k (by rw [bX];omega);rw [← List.map_take] at Uf;refine K2 _ _ ?_;clear K2;refine sD (ι:=Bool × GH) (Tc:=[(0,_),(1,_),(4,_)]) (Lc:=[]) (fun gh=>[(5,.bool gh.1)]) (fun gh=>[]) (fun gh=>gh.2) (fun gh=>gh.1=Du l k x∧(∀ b o,Ga b=some o→gh.2 b=some o)) (by exact (H).sub ⟨rfl,rfl,rfl,aC⟩) ?_ ?_
 ·skip;refine kP H (SC (Rf Sg rfl (Rg aF rfl (by assumption) ?_)));clear H;intro a H;refine kH H (Rc rfl (Rm rfl (Sp 13 rfl ?_ ?_))) <;> clear H
  ·intro eu a H
   try have oD:=dT eu
   refine kH H (aY eu rfl (aP eu rfl (Pt eu rfl (Ra rfl ?_))));clear H;intro a H;refine aI ?_;refine ⟨(_,_),by exact (H).sub ⟨rfl,rfl,rfl,rfl,aC⟩,?_⟩;(try dsimp only)
   first
   | exact ⟨by unfold Du;rw [jO (by assumption)];rfl,fun _ _ h=>h⟩
   | exact ⟨by unfold Du;rw [iE (by assumption)];rfl,hm18⟩
  intro eu a H
  try have oD:=dF eu
  refine kH H (YR C8 eu rfl (by assumption) ?_);clear H;intro a H;refine kH H (YM eu rfl ?_);clear H;intro a H;refine VK Bh Bd k H (wg H rfl rfl eu) rfl rfl rfl (by omega) rfl ?_;clear H;intro a H;refine oV H (wg H rfl rfl eu) rfl rfl ?_;clear H;intro a H;refine s_call abt H (wg H rfl rfl eu) rfl (ZB _ _ H.ro (l.take k) (fun y=>decide (y.id=x.parent)) _ _ Uf (fun y _=>Zx q1 y)) rfl ?_;clear H;rintro v18 J8 a w rfl hm18 H;refine kH H (Pf eu rfl (Ra rfl ?_));clear H;intro a H;refine aI ?_;refine ⟨(_,_),by exact (H).sub ⟨rfl,rfl,rfl,rfl,aC⟩,?_⟩;(try dsimp only)
  first
  | exact ⟨by unfold Du;rw [jO (by assumption)];rfl,fun _ _ h=>h⟩
  | exact ⟨by unfold Du;rw [iE (by assumption)];rfl,hm18⟩
 clear H;intro gh a w hI H;obtain ⟨bf,g⟩:=gh;dsimp only at hI H;obtain ⟨hbf,hgm⟩:=hI;replace hcell:=fun j u hj=>aL hgm (hcell j u hj);replace hcb:=(hcb.mono hma).mono hgm;dsimp only [lca,bC] at H;refine aZ (fun _ K3=>?_);have H:=H.sub (T':=[(0,_),(1,_),(4,_),(5,_)]) ⟨rfl,rfl,rfl,rfl,aC⟩;refine dI hmx [[],[],[0,1],[],[3],(ra 0 5),[],[6],(ra 0 8),(ra 0 9),(ra 0 10),[],[11],(ra 0 13),(ra 0 14),(ra 0 15),[],[16],(ra 0 18),(ra 0 19),(ra 0 20),(ra 0 21)] [19,20,21] (by kernel_rfl) [_,.func (.func 121) #[] #[(aH bl 0)],vi (nP (fun k=>(l[k]?.map iw.id).getD 0) k),_,_,vi (bS (!bf) 8),_,_,.bool (uR x.author),_,vi (bS (!uR x.author) 39),_,_,.bool (decide (0≤x.time∧x.time≤1099511627776)),_,vi (bS (!decide (0≤x.time∧x.time≤1099511627776)) 40),_,_,vi (zP x.text)] H (aB (Z0 rfl (Rm rfl)) ?_ ?_ (Z0 rfl (Rm rfl)) (aB (Z1 3 23 rfl (Rn rfl)) ?_ (Z0 rfl (Rf acu rfl)) (X1 6 26 rfl fun hG=>Rg gF rfl (aL hG (hcell 2 _ rfl))) (aB ?_ (Z1 8 28 rfl (Rn rfl)) ?_ (Z0 rfl (Rf acv rfl)) (aB (X1 11 31 rfl fun hG=>Rg aF rfl (aL hG (hcell 3 _ rfl))) ?_ (Z1 13 33 rfl (Rn rfl)) ?_ (aB (Z0 rfl (Rf acw rfl)) (X1 16 36 rfl fun hG=>Rg gF rfl (aL hG (hcell 4 _ rfl))) ?_ (bH rfl) (aX (bH rfl) (aX (bH rfl) cO))))))) ?_
 ·refine yF rfl fun _ a w G1 hG HT H fin=>?_;refine oV H wn rfl rfl ?_;clear H;intro a H;exact fin H iJ rfl
 ·refine bL 0 20 1 21 rfl rfl fun _ a w G1 hG HT H fin=>?_;refine s_call Ls H wn rfl (Nt _ _ H.ro k _ _ (by omega) (fun i hi=>(hcb.mono hG) i (by omega))) rfl ?_;clear H;rintro v22 O7 a w rfl Fw H;exact fin H Fw (rfl)
 ·refine bY 4 24 rfl rfl fun _ a w G1 hG HT H fin=>?_;refine s_call iL H wn rfl (iN _ _ H.ro _ 8) rfl ?_;clear H;rintro v25 Xo a w ⟨rfl,-⟩ acV H;exact fin H acV (rfl)
 ·refine bY 7 27 rfl rfl fun _ a w G1 hG HT H fin=>?_;refine s_call RH H wn rfl (Ql _ _ H.ro x.author hte.1) rfl ?_;clear H;rintro v28 Xp a w ⟨rfl,-⟩ acW H;exact fin H acW (rfl)
 ·refine bY 9 29 rfl rfl fun _ a w G1 hG HT H fin=>?_;refine s_call iL H wn rfl (iN _ _ H.ro _ 39) rfl ?_;clear H;rintro v30 Bt a w ⟨rfl,-⟩ Mt H;exact fin H Mt (rfl)
 ·refine bY 12 32 rfl rfl fun _ a w G1 hG HT H fin=>?_;refine s_call tQ H wn rfl (uw _ _ H.ro x.time 0 1099511627776) rfl ?_;clear H;rintro v33 Xq a w ⟨rfl,-⟩ acX H;exact fin H acX (rfl)
 ·refine bY 14 34 rfl rfl fun _ a w G1 hG HT H fin=>?_;refine s_call iL H wn rfl (iN _ _ H.ro _ 40) rfl ?_;clear H;rintro v35 O9 a w ⟨rfl,-⟩ Mv H;exact fin H Mv (rfl)
 ·refine bY 17 37 rfl rfl fun _ a w G1 hG HT H fin=>?_;refine s_call KV H wn rfl (OC _ _ H.ro x.text hte.2) rfl ?_;clear H;rintro v38 GK a w rfl Mw H;exact fin H Mw (rfl)
 clear H;intro a w G Ir H hv;have H:=H.aV (hv 2 22 rfl rfl) rfl;have H:=H.aV (hv 5 25 rfl rfl) rfl;have H:=H.aV (hv 10 30 rfl rfl) rfl;have H:=H.aV (hv 15 35 rfl rfl) rfl;have H:=H.aV (hv 18 38 rfl rfl) rfl;clear hv;refine gV nA fU [_,_,_,_,_] [_,_,_,_,_] H wn rfl rfl rfl rfl rfl (by intro i q h;match i,h with|0,h=>exact h|1,h=>exact h|2,h=>exact h|3,h=>exact h|4,h=>exact h|n+5,h=>simp at h) rfl rfl ?_;clear H;intro b39 a w aiU H;obtain ⟨Pb,adP,adu,H⟩:=H.dJ;refine s_call oh H wn rfl (om _ _ H.ro _ _ (Cu [nP (fun k=>(l[k]?.map iw.id).getD 0) k,bS (!bf) 8,bS (!uR x.author) 39,bS (!decide (0≤x.time∧x.time≤1099511627776)) 40,zP x.text] adu (show 5≤maxLen by decide))) rfl ?_;clear H;rintro v40 _ a w ⟨rfl,rfl⟩ - H;refine kH H (Ra rfl ?_);clear H;intro a H;refine aI ⟨rfl,?_⟩;refine K3 _ _ ?_;clear K3;refine lr H results119 rfl ?_;exact H.rt (by rw [he,KL,← hbf])
def Hy (l:List iw):Int:=cZ [bS (decide (1024 < (l.length:Int))) 9,jP (Dy l) (min l.length 1024)]
theorem Y9 (G:GH) (w0:World) (hG:Hold G w0) (l:List iw) (v:aj) (hv:av G (.sl 6 (l.map iw.dat)) v) (hl:l.length≤4294967296) (ht:∀ x∈l,x.author.size < 4611686018427387904∧x.text.size < 4611686018427387904) :
  Calls prog 82 #[v] w0 (bA w0 G fun u G'=>u=vi (Hy l)):=by
 obtain ⟨A,c,rfl,hc1,hc2,-⟩:=hv.slice;rw [bX] at *;refine eN [(0,_)] func82 rfl ntmps82 rfl rfl hG ?_;intro a H;refine dw (fun _ K1=>?_);refine fu (cs:=[_]) H wn rfl rfl rfl ?_;clear H;intro b1 a w hb1 H;refine kH H (ak K1 rfl (SQ fun _ K2=>?_));clear H K1;intro a H;have H:=H.sub (T':=[(1,_)]) ⟨rfl,aC⟩;obtain ⟨Ga,hma,hb1',H⟩:=H.dJ
 have hbl:aJ Ga b1 0=some (.slice A l.length c):=by unfold aJ;rw [hb1'];rfl
 have hcb:=Zu hbl (hv.mono hma) hl ht;refine dI hmx [[],[0],[0,1],[0,1,2],[],[4],[4,5],[],(ra 0 8),(ra 0 9),(ra 0 10),(ra 0 11)] [9,10,11] (by kernel_rfl) [_,_,_,vi (bS (decide (1024 < (l.length:Int))) 9),_,_,vi ((min l.length 1024:Nat):Int),.func (.func 119) #[] #[(aH b1 0)],vi (jP (Dy l) (min l.length 1024))] H (aB (X0 rfl fun hG=>Rg C8 rfl (aL hG hbl)) (Z1 0 3 rfl (Rl Bh rfl)) (Z1 1 4 rfl (Rc rfl)) ?_ (aB (X0 rfl fun hG=>Rg C8 rfl (aL hG hbl)) (Z1 4 7 rfl (Rl Bh rfl)) ?_ ?_ (aB ?_ (bH rfl) (bH rfl) (bH rfl) cO))) ?_
 ·refine bY 2 5 rfl rfl fun _ a w G1 hG HT H fin=>?_;refine s_call iL H wn rfl (iN _ _ H.ro _ 9) rfl ?_;clear H;rintro v6 G6 a w ⟨rfl,-⟩ iQ H;exact fin H iQ (rfl)
 ·refine bY 5 8 rfl rfl fun _ a w G1 hG HT H fin=>?_;refine Jy H wn rfl rfl rfl ?_;clear H;intro a H;exact fin H iJ (aA vi (by omega))
 ·refine yF rfl fun _ a w G1 hG HT H fin=>?_;refine oV H wn rfl rfl ?_;clear H;intro a H;exact fin H iJ rfl
 ·refine bL 6 9 7 10 rfl rfl fun _ a w G1 hG HT H fin=>?_;refine s_call DF H wn rfl (ER _ _ H.ro (min l.length 1024) (Dy l) _ (by omega) ((hcb.mono hG).le (Nat.min_le_left _ _))) rfl ?_;clear H;rintro v11 uL a w rfl jJ H;exact fin H jJ (rfl)
 clear H;intro a w G mg H hv;have H:=H.aV (hv 3 6 rfl rfl) rfl;have H:=H.aV (hv 8 11 rfl rfl) rfl;clear hv;refine gV nA fU [_,_] [_,_] H wn rfl rfl rfl rfl rfl (by intro i q h;match i,h with|0,h=>exact h|1,h=>exact h|n+2,h=>simp at h) rfl rfl ?_;clear H;intro b12 a w Ay H;obtain ⟨Aa,Ce,Cb,H⟩:=H.dJ;refine s_call oh H wn rfl (om _ _ H.ro _ _ (vD Cb)) rfl ?_;clear H;rintro v13 _ a w ⟨rfl,rfl⟩ - H;refine kH H (Ra rfl ?_);clear H;intro a H;refine aI ⟨rfl,?_⟩;refine K2 _ _ ?_;clear K2;refine lr H results82 rfl ?_;exact H.rt rfl
end
section
open Go.RowKit
def uz:Nat→List Int→List MapEntry
 | _,[]=>[]
 | i,k :: r=>⟨.int .i64 k,.int .i64 (i:Int),i⟩ :: uz (i+1) r
theorem UN (x:Int):∀ (i:Nat) (l:List Int),uz i (l++[x])=uz i l++[⟨.int .i64 x,.int .i64 ((i+l.length:Nat):Int),i+l.length⟩]
 | _,[]=>rfl
 | i,k :: r=>by
  rw [mJ,uz,UN x (i+1) r,uz,mJ,nG,show i+1+r.length=i+(r.length+1) by omega]
def rG (x:Int):Nat→List Int→Option Nat
 | _,[]=>none
 | i,k :: r=>if k=x then some i else rG x (i+1) r
theorem Uo {x:Int}:∀ {l:List Int} {i n:Nat},rG x i l=some n→i≤n
 | [],_,_,h=>by cases h
 | k :: r,i,n,h=>by
  rw [rG] at h;split at h
  ·cases h;exact bM _
  ·have:=Uo h;omega
theorem Ur {x:Int}:∀ {l:List Int} {i:Nat},x∉l→rG x i l=none
 | [],_,_=>rfl
 | k :: r,i,h=>by
  rw [rG,ah (fun e=>h (by simp [e])),Ur (fun hm=>h (mM _ hm))]
theorem LP (x:Int):∀ (i j:Nat) (l:List Int),Instr.findNow (.int .i64) (.int .i64 x) (uz i l) j=some ((rG x i l).map fun n=>(j+(n - i),.int .i64 (n:Int)))
 | _,_,[]=>rfl
 | i,j,k :: r=>by
  have ih:=LP x (i+1) (j+1) r
  by_cases e:k=x
  ·subst e
   simp only [uz,Instr.findNow,Instr.sameNow,au,rG,beq_self_eq_true]
   simp
  ·have hb:(x == k)=false:=by simp;exact fun h=>e h.symm
   simp only [uz,Instr.findNow,Instr.sameNow,au,hb,rG,ah e,ih]
   cases h:rG x (i+1) r with
   | none=>rfl
   | some n =>
    have:=Uo h
    simp only [Option.map_some,mI,gu,and_true]
    omega
abbrev Yt (b:Nat) (l:List Int):Nat × Obj:=(b,.map (uz 0 l).toArray l.length)
theorem afA (l:List Int) (x:Int):(uz 0 l).toArray.push ⟨.int .i64 x,.int .i64 (l.length:Int),l.length⟩=(uz 0 (l++[x])).toArray:=by
 rw [UN,List.push_toArray,jN]
end
section
open Go.RowKit
section
variable {P:Program} {N:Nat} {D:List Deferred} {w0 w w':World} {F:Nat→Prop} {G0 G G':GH} {L L' Li Lo:OL} {T:List (Nat × aj)} {a a':Act} {Q:Exit→Act→World→Prop}
variable {r:Option Nat} {ops:Array Oper} {rest:List Oper}
def Kh (P:Program) (Gi:GH) (B:OL) (gv:aj) (xs:List AP):Prop :=
 ∀ (J:Nat→GH→OL→Prop) (Jx:GH→OL→Prop) (fv:aj) (G:GH) (L:OL) (w:World),fv.cells=#[fv]→(∀ b o,Gi b=some o→G b=some o)→Bv J→Dp Jx→J 0 G L→gH G (B++L) w→EC P fv G xs J Jx →
  rT P gv [fv] w (fT w G (B++L) fun _ G' L'=>J xs.length G' L'∨Jx G' L')
theorem Kh.mono {Gi Ab:GH} {B:OL} {gv:aj} {xs:List AP} (h:Kh P Gi B gv xs) (hm:∀ b o,Gi b=some o→Ab b=some o):Kh P Ab B gv xs :=
 fun J Jx fv G L w h0 h1=>h J Jx fv G L w h0 fun b o hb=>h1 b o (hm b o hb)
end
end
section
open Go.RowKit
section
variable {P:Program} {N:Nat} {D:List Deferred} {w0 w w':World} {F:Nat→Prop} {G0 G G':GH} {L L' Li Lo:OL} {T:List (Nat × aj)} {a a':Act} {Q:Exit→Act→World→Prop}
variable {r:Option Nat} {ops:Array Oper} {rest:List Oper}
def Dg (P:Program) (Gi:GH) (B:OL) (gv:aj) (xs:List AP) (fin:Bool):Prop :=
 ∀ (J:Nat→GH→OL→Prop) (Jx:GH→OL→Prop) (fv:aj) (G:GH) (L:OL) (w:World),fv.cells=#[fv]→(∀ b o,Gi b=some o→G b=some o)→Bv J→Dp Jx→J 0 G L→gH G (B++L) w→EC P fv G xs J Jx→(fin=false→∀ g l,¬ J xs.length g l) →
  rT P gv [fv] w (fT w G (B++L) fun _ G' L'=>J xs.length G' L'∨Jx G' L')
theorem Dg.mono {Gi Ab:GH} {B:OL} {gv:aj} {xs:List AP} {fin:Bool} (h:Dg P Gi B gv xs fin) (hm:∀ b o,Gi b=some o→Ab b=some o):Dg P Ab B gv xs fin :=
 fun J Jx fv G L w h0 h1=>h J Jx fv G L w h0 fun b o hb=>h1 b o (hm b o hb)
theorem YK {fin:Bool} {B:OL} {vT:Operand} {ps:List Nat} {assign body:Code} {gf:FuncId} {caps:List aj} {xs:List AP} {Gi:GH}
  (H:St N D w0 F G0 G (B++L) T a w) (hg:ev T vT=some (.func (.func gf) #[] caps.toArray)) (en:∀ args w,(callFunc gf args).run P w=.ok (.enter gf args) w) (hit:Dg P Gi B (.func (.func gf) #[] caps.toArray) xs fin) (hGi:∀ b o,Gi b=some o→G b=some o)
  (hps:ps.all (Nat.blt · N)=true) (hlen:∀ k args g,tq xs k args g→args.length=ps.length)
  (J:Nat→GH→OL→Prop) (Jx:Code→GH→OL→Prop) (hno:fin=false→∀ g l,¬ J xs.length g l) (uj:Bv J) (hJx:∀ c,Dp (Jx c)) (h0:J 0 G L) (Nj:Kl P N ps assign body T G J Jx xs)
  (hdone:∀ Dk G1 L1 a1 w1,(∀ b o,G b=some o→G1 b=some o)→J xs.length G1 L1→St N ({ target:=.collected Dk,args:=#[] } :: D) w0 F G0 G1 ((Dk,.deferred (some [])) :: L1) T a1 w1→Q .normal a1 w1)
  (hstop:∀ Dk c G1 L1 a1 w1,(∀ b o,G b=some o→G1 b=some o)→Jx c G1 L1→St N ({ target:=.collected Dk,args:=#[] } :: D) w0 F G0 G1 ((Dk,.deferred (some [])) :: L1) T a1 w1→WP none P c Q a1 w1) :
  WP none P (.rangeFunc vT ps.toArray assign body) Q a w:=by
 refine wpIn_rangeFunc ?_
 intro fn _
 have hev:=H.ev hg
 let q:Rec:=⟨fn,a.tmps,ps.toArray,assign,body,w.heap.size⟩
 obtain ⟨W1,hW1⟩:∃ W1,W1=(w.alloc (.deferred (some []))).alloc (q.at .ready none):=⟨_,rfl⟩
 have H1:Hp w0 F G0 G (B++((w.heap.size+1,q.at .ready none) :: (w.heap.size,.deferred (some [])) :: L)) W1:=by
  have:=(H.hp.alloc (.deferred (some []))).alloc (q.at .ready none)
  rw [World.size_alloc] at this
  rw [hW1]
  refine this.perm ?_
  have e:=yM (l₁:=[(w.heap.size+1,q.at .ready none),(w.heap.size,Obj.deferred (some []))]) (l₂:=B)
  have e2:=List.Perm.append_right L e
  rw [qx,qx] at e2
  exact e2
 refine ⟨w.heap.size+1,[{ target:=.collected w.heap.size,args:=#[] }],W1,{ target:=.fn (.func gf) caps.toArray,args:=#[.func (.yield (w.heap.size+1)) #[] #[]] },W1,gf,
  #[.func (.yield (w.heap.size+1)) #[] #[]]++caps.toArray,W1,by rw [hW1];exact run_enterLoop_outer fn a.tmps ps.toArray assign body,?_,fun _ _=>trivial,?_,GI none,?_⟩
 ·simp only [resolve,rangeCall,hev]
  simp [Deferred.ofValue,Act.eval]
 ·simp [invoke,en]
 ·have hcv:=hit (fun k=>Jr (w.heap.size+1) q [(w.heap.size,.deferred (some []))] (J k)) (GQ (w.heap.size+1) q [(w.heap.size,.deferred (some []))] Jx) (.func (.yield (w.heap.size+1)) #[] #[]) G
   ((w.heap.size+1,q.at .ready none) :: (w.heap.size,.deferred (some [])) :: L) W1 rfl hGi (fun k G G' L hm ⟨Lu,e,h⟩=>⟨Lu,e,uj k G G' Lu hm h⟩) (fun G G' L hm ⟨c,Lu,e,h⟩=>⟨c,Lu,e,hJx c G G' Lu hm h⟩) ⟨L,rfl,h0⟩ (Hp.owns (Li:=[]) H1) (QC H.kI H.get hps hlen Nj) (fun e g l ⟨Lu,_,h⟩=>hno e g Lu h)
  replace hcv:=hcv.go
  have e:(do let d ← Deferred.ofValue (.func (.func gf) #[] caps.toArray) [Value.func (.yield (w.heap.size+1)) #[] #[]].toArray;invoke d.target d.args:Sem Next).run P W1=.ok (.enter gf (#[.func (.yield (w.heap.size+1)) #[] #[]]++caps.toArray)) W1:=by
   simp [Deferred.ofValue,invoke,en]
  rw [e] at hcv
  refine (KF hcv).mono ?_
  rintro e w2 ⟨v,G2,L2,rfl,hch,hJ⟩
  have H2:=Hp.change (Li:=[]) H1 hch
  rcases hJ with ⟨Lu,rfl,hJ⟩|⟨c,Lu,rfl,hJ⟩
  ·have hl:=H2.own _ (iH)
   have H3:=(H2.upd (i:=0) rfl (Bj (q.at .exhausted none) hl)).drop (yL _ _)
   exact ⟨none,_,run_endLoop hl (by simp),hdone _ G2 Lu _ _ hch.gm hJ ⟨H.kI,H.get,by simp [H.oM],H3⟩⟩
  ·have hl:=H2.own _ (iH)
   have H3:=(H2.upd (i:=0) rfl (Bj (q.at .exhausted (some c)) hl)).drop (yL _ _)
   exact ⟨some c,_,run_endLoop hl (by simp),hstop _ c G2 Lu _ _ hch.gm hJ ⟨H.kI,H.get,by simp [H.oM],H3⟩⟩
theorem YP {fin:Bool} {B:OL} {ι κ:Type} {Lc:OL} {vT:Operand} {ps:List Nat} {assign body:Code} {gf:FuncId} {caps:List aj} {xs:List AP} {Gi:GH}
  (Lv:Nat→ι→OL) (Lt:Nat→ι→OL) (inv:Nat→ι→GH→Prop) (cx:κ→Code) (Lx BF:κ→OL) (wF:κ→GH→Prop) (i0:ι)
  (H:St N D w0 F G0 G (B++(Lc++Lv 0 i0++Lt 0 i0)) T a w) (hg:ev T vT=some (.func (.func gf) #[] caps.toArray)) (en:∀ args w,(callFunc gf args).run P w=.ok (.enter gf args) w) (hit:Dg P Gi B (.func (.func gf) #[] caps.toArray) xs fin) (hGi:∀ b o,Gi b=some o→G b=some o)
  (hno:fin=false→∀ i g,¬ inv xs.length i g) (hps:ps.all (Nat.blt · N)=true) (hlen:∀ k args g,tq xs k args g→args.length=ps.length) (hinv:∀ k i (G G':GH),(∀ b o,G b=some o→G' b=some o)→inv k i G→inv k i G') (M5:∀ x (G G':GH),(∀ b o,G b=some o→G' b=some o)→wF x G→wF x G') (h0:inv 0 i0 G)
  (round:∀ (l:Nat) (AV xk:Obj) (bk:OL) (k:Nat) (args:List aj) (i:ι) (G1:GH) (w1:World) (F1:Nat→Prop) (B1:Code→Exit→Act→World→Prop) (a1:Act),tq xs k args G1→(∀ b o,G b=some o→G1 b=some o)→inv k i G1 →
   (∀ T' G2 L2 a2 w2 c,St N [] w1 F1 G1 G2 ((l,AV) :: L2) T' a2 w2→(∀ w3,St N [] w1 F1 G1 G2 ((l,xk) :: L2) T' a2 w3→WP (some l) P c (B1 c) a2 w3)→Exit.then (fun a2 w2=>∃ w3,(Instr.beginRound l).run P w2=.ok () w3∧c.wpIn (FW (some l)) 0 P (B1 c) a2 w3) (fun _ _ _=>False) .normal a2 w2) →
   (∀ i' T' G2 a2 w2 c,St N [] w1 F1 G1 G2 ((l,xk) :: (Lc++Lv (k+1) i'++(bk++Lt (k+1) i'))) T' a2 w2→inv (k+1) i' G2→B1 c .normal a2 w2) →
   (∀ x T' G2 a2 w2 c,St N [] w1 F1 G1 G2 ((l,xk) :: (Lc++Lx x++(bk++BF x))) T' a2 w2→wF x G2→(cx x=.ret→B1 c .ret a2 w2)∧∀ n,cx x=.exit n→B1 c (.exit n) a2 w2) →
   St N [] w1 F1 G1 G1 ((l,AV) :: (Lc++Lv k i++(bk++Lt k i))) (vL ps args T) a1 w1 →
   WP (some l) P assign (Exit.then (fun a2 w2=>∃ w3,(Instr.beginRound l).run P w2=.ok () w3∧body.wpIn (FW (some l)) 0 P (B1 body) a2 w3) (fun _ _ _=>False)) a1 w1)
  (hdone:∀ Dk i G1 a1 w1,(∀ b o,G b=some o→G1 b=some o)→inv xs.length i G1→St N ({ target:=.collected Dk,args:=#[] } :: D) w0 F G0 G1 ((Dk,.deferred (some [])) :: (Lc++Lv xs.length i++Lt xs.length i)) T a1 w1→Q .normal a1 w1)
  (hstop:∀ Dk x G1 a1 w1,(∀ b o,G b=some o→G1 b=some o)→wF x G1→St N ({ target:=.collected Dk,args:=#[] } :: D) w0 F G0 G1 ((Dk,.deferred (some [])) :: (Lc++Lx x++BF x)) T a1 w1→WP none P (cx x) Q a1 w1) :
  WP none P (.rangeFunc vT ps.toArray assign body) Q a w:=by
 refine YK (J:=fun k g L=>∃ i,L=Lc++Lv k i++Lt k i∧inv k i g) (Jx:=fun c g L=>∃ x,c=cx x∧L=Lc++Lx x++BF x∧wF x g) H hg en hit hGi hps hlen (hno:=fun e g l ⟨i,_,h⟩=>hno e i g h) (fun k G G' L hm ⟨i,e,h⟩=>⟨i,e,hinv k i G G' hm h⟩) (fun c G G' L hm ⟨x,e1,e2,h⟩=>⟨x,e1,e2,M5 x G G' hm h⟩) ⟨i0,rfl,h0⟩ ?_ ?_ ?_
 ·rintro l q bk k args G1 L1 w1 a1 hk hm ⟨i,rfl,hi⟩ H1
  have pm:∀ A B:OL,(bk++(A++B)).Perm (A++(bk++B)):=fun A B=>by
   rw [← qx,← qx]
   exact List.Perm.append_right B yM
  refine round l (q.at .ready none) (q.at .busy none) bk k args i G1 w1 _ (fun _=>roundPost P l _) a1 hk hm hi ?_ ?_ ?_ (H1.perm (List.Perm.cons _ (pm _ _)))
  ·intro T' G2 L2 a2 w2 c H2 h
   exact Qy H2 h
  ·intro i' T' G2 a2 w2 c H2 h2
   exact El none (H2.perm (List.Perm.cons _ (pm _ _).symm)) ⟨_,rfl,i',rfl,h2⟩
  ·intro x T' G2 a2 w2 c H2 h2
   have H3:=H2.perm (List.Perm.cons _ (pm _ _).symm)
   refine ⟨fun e=>?_,fun n e=>?_⟩
   ·exact El (some .ret) H3 ⟨_,_,rfl,x,e.symm,rfl,h2⟩
   ·exact El (some (.exit n)) H3 ⟨_,_,rfl,x,e.symm,rfl,h2⟩
 ·rintro Dk G1 L1 a1 w1 hm ⟨i,rfl,hi⟩ H1
  exact hdone Dk i G1 a1 w1 hm hi H1
 ·rintro Dk c G1 L1 a1 w1 hm ⟨x,rfl,rfl,hx⟩ H1
  exact hstop Dk x G1 a1 w1 hm hx H1
end
end
section
open Go.RowKit
theorem C9:prog.underlying 114=some (.map 3 3):=by kernel_rfl
theorem qR:Ty prog 31 1 24 [.slice none 0 0] false:=⟨by kernel_rfl,by kernel_rfl⟩
theorem LG:bO prog 181 3 3:=⟨by kernel_rfl⟩
theorem Rb:∀ args w,(callFunc 135 args).run prog w=.ok (.enter 135 args) w:=enters func135 rfl (by kernel_rfl)
theorem Uq {x:Int}:∀ {l:List Int} {i n:Nat},rG x i l=some n→n < i+l.length
 | [],_,_,h=>by cases h
 | k :: r,i,n,h=>by
  rw [rG] at h;split at h
  ·cases h;simp
  have:=Uq h;simp only [nG];omega
def uS (l:List bG):Nat→Int→List bG
 | 0,_=>[]
 | f+1,id=>if id=0 then [] else match rG id 0 (l.map bG.id) with|none=>[]|some i=>match l[i]? with|none=>[]|some s=>s :: uS l f s.base
def Dx (l:List bG) (id:Int):List bG:=uS l (l.length+1) id
theorem Y6 {l:List bG} {f:Nat} {id:Int} (h:id=0):uS l f id=[]:=by
 cases f with
 | zero=>rfl
 | succ f=>rw [uS,au h]
theorem Y4 {l:List bG} {f:Nat} {id:Int} (h0:¬ id=0) (h:rG id 0 (l.map bG.id)=none):uS l f id=[]:=by
 cases f with
 | zero=>rfl
 | succ f=>rw [uS,ah h0,h]
theorem Y5 {l:List bG} {f i:Nat} {id:Int} (h0:¬ id=0) (h:rG id 0 (l.map bG.id)=some i) (hi:i < l.length):uS l (f+1) id=l[i] :: uS l f l[i].base:=by
 rw [uS,ah h0,h];dsimp only;rw [gZ hi]
def stP (x:bG):AP:=fun args g=>∃ cs,args=[.agg cs.toArray]∧aW g x.dat cs
theorem Wj {A:List bG} {k:Nat} {args:List aj} {g:GH} (h:tq (A.map stP) k args g):∃ (hk:k < A.length) (cs:List aj),args=[.agg cs.toArray]∧aW g A[k].dat cs:=by
 obtain ⟨p,hp,hargs⟩:=h;rw [qp] at hp;obtain ⟨q,hq,rfl⟩:=kU.1 hp;obtain ⟨hk,rfl⟩:=iW.1 hq;obtain ⟨cs,h1,h2⟩:=hargs;exact ⟨hk,cs,h1,h2⟩
abbrev bI (b:Nat) (n:Int):Nat × Obj:=(b,.cells #[vi n] 3 (0,0))
set_option maxHeartbeats 1000000 in
theorem Y7 {G:GH} {bl bi:Nat} {l:List bG} {id:Int} {v:aj} (hb:aJ G bl 0=some v) (hv:av G (.sl 6 (l.map bG.dat)) v) (hnd:∀ (k:Nat) (h:k < l.length),l[k].id∉(l.take k).map bG.id) :
  Dg prog G [bI bi id] (.func (.func 135) #[] #[(aH bl 0),(aH bi 0)]) ((Dx l id).map stP) (decide ((Dx l id).length≤l.length)):=by
 intro J Jx fv G1 L w0 Te hGi uj hJx hJ hO hcb hfin;refine lH (caps:=[(aH bl 0),(aH bi 0)]) Rb ?_;obtain ⟨A,c,rfl,hc1,hc2,-⟩:=hv.slice;have hml:maxLen=9223372036854775807:=rfl;rw [bX] at *;replace hb:=aL hGi hb;replace hv:=hv.mono hGi;refine jy (N:=46) (T:=[(0,_),(1,_),(2,_)]) func135 rfl ntmps135 rfl rfl hO ?_;intro a H;refine dw (fun _ K1=>?_);refine CV H wn rfl ?_;clear H;intro bm a w IB H;refine kH H (ak K1 rfl (SQ fun _ K2=>SR fun _ K3=>Rg qR rfl (by assumption) ?_));clear H K1;intro a H;refine kH H (Rl mF rfl (Rm rfl (Kz K3 (SB ?_))));clear H K3;intro a H;skip;refine fJ (ι:=Nat) (Tc:=[(0,_),(1,_),(2,_),(4,_),(10,_),(11,_)]) (Lc:=[(_,_)]) (fun gh=>[(12,vi gh)]) (fun gh=>[Yt bm ((l.take gh).map bG.id)]++L) (fun gh=>G1) (fun gh=>gh≤l.length) (fun gh=>l.length - gh) (0) (by exact (H.dX (Pl:=[_,_]) (dz:=[_,_]) [1,0] (by decide) rfl).sub ⟨rfl,rfl,rfl,rfl,rfl,rfl,rfl,aC⟩) ?_ ?_
 ·exact jf _
 clear H;intro gh a w hI H;obtain ⟨k,hgh⟩:∃ x,x=gh:=⟨_,rfl⟩;subst hgh;have hk:=hI;dsimp only [lca,bC] at H;refine kP H (SR fun _ K4=>Rc rfl (Kz K4 (SQ fun _ K5=>Cd rfl ?_ ?_))) <;> clear H K4
 ·intro eu a H
  try have oD:=dT eu
  have hk2:k < l.length:=by omega
  obtain ⟨b,o,pA,pc,rfl,hrow,hp,hrep⟩:=zO hv hk2;have aed:=hnd k hk2
  have hlk:((l.take k).map bG.id).length=k:=by rw [bX,List.length_take];omega
  have hnx:(l.take k).map bG.id++[l[k].id]=(l.take (k+1)).map bG.id:=by rw [jF hk2,qy];rfl
  refine kP H (Kc K5 (SQ fun _ K6=>SB (SR fun _ K7=>Rm rfl (Ri mF jM rfl rfl ?_))));clear H K5;intro a H;refine bE jM (cs:=[_,_,_,_,_,_]) H wn rfl rfl (fun j v hj=>H.hp.aJ (hrow j v hj)) rfl ?_;clear H;intro a H;refine fq jM H wn rfl ?_;clear H;intro b6 a w hb6 H;refine kH H (Ra rfl ?_);clear H;intro a H;refine bF jM 0 (vs:=[_,_,_,_,_,_]) _ H wn rfl rfl rfl rfl rfl rfl rfl rfl ?_;clear H;intro w H;dsimp only [List.set,setRow] at H;refine K7 _ _ ?_;clear K7;refine kP H (SC (Rm rfl (aU sH aF 0 rfl rfl (Rm rfl ?_))));clear H;intro a H;refine VD (i:=2) (ky:=vi l[k].id) (v:=vi k) C9 mG H wn rfl rfl rfl rfl (by trivial) (by rw [List.toList_toArray,LP,Ur aed];rfl) ?_;clear H;intro w H
  have hpush:((uz 0 ((l.take k).map bG.id)).toArray.push ⟨vi l[k].id,vi k,((l.take k).map bG.id).length⟩)=(uz 0 ((l.take (k+1)).map bG.id)).toArray:=by rw [← hnx,← afA,hlk]
  rw [hpush,show ((l.take k).map bG.id).length+1=((l.take (k+1)).map bG.id).length by rw [← hnx];simp] at H;refine kH H (Kn K6 (SC (Rd rfl (Rm rfl ?_))));clear H K6;intro a H;refine aI ?_;refine dN ((k+1)) (by exact (H.dX (Pl:=[_,_,_]) (dz:=[_,_]) [1,2] (by decide) rfl).sub ⟨rfl,rfl,rfl,rfl,rfl,rfl,rfl,aC⟩) ?_ ?_
  ·exact by omega
  first|omega|(dsimp only;omega)
 intro eu a H
 try have oD:=dF eu
 obtain rfl:k=l.length:=by omega
 rw [Ah] at H;refine eX ?_;refine K2 _ _ ?_;clear K2;refine xq ?_;skip;refine fJ (ι:=Int × Nat × Nat × OL × GH) (Tc:=[(0,_),(1,_),(2,_),(4,_)]) (Lc:=[(_,_)]) (fun gh=>[]) (fun gh=>[bI bi gh.1]++gh.2.2.2.1) (fun gh=>gh.2.2.2.2) (fun gh=>(∀ b o,G1 b=some o→gh.2.2.2.2 b=some o)∧Now ((Dx l id).map stP) stP J (Dx l id).length gh.2.2.1 (uS l gh.2.1 gh.1) gh.2.2.2.2 gh.2.2.2.1∧gh.2.2.1+gh.2.1=l.length+1) (fun gh=>gh.2.1) ((id,l.length+1,0,L,G1)) (by exact (H.dX (Pl:=[_,_]) (dz:=[_,_]) [1,0] (by decide) rfl).sub ⟨rfl,rfl,rfl,rfl,aC⟩) ?_ ?_
 ·exact ⟨fun _ _ h=>h,⟨hJ,fun i a h=>by rw [jN,qp];rw [show uS l (l.length+1) id=Dx l id from rfl] at h;rw [h];rfl,jN _⟩,jN _⟩
 clear H;intro gh a w hI H;obtain ⟨i,f,j1,Lt,g⟩:=gh;dsimp only at hI H;obtain ⟨hgm,dR,hjf⟩:=hI;have hbg:=aL hgm hb;dsimp only [lca,bC] at H;refine kP H (SQ fun _ K8=>SR fun _ K9=>Ro aF 1 rfl (Rc rfl (Kz K9 (Cd rfl ?_ ?_)))) <;> clear H K9
 ·intro h23 a H
  try have xV:=dT h23
  have h0:¬ i=0:=by simpa using h23
  obtain ⟨an,han⟩:∃ an,an=rG i 0 (l.map bG.id):=⟨_,rfl⟩;have hfn:=LP i 0 0 (l.map bG.id);rw [← han] at hfn;refine kP H (Kc K8 (SB (SR fun _ aT=>Rm rfl (Ro aF 1 rfl ?_))));clear H K8;intro a H;refine agQ (i:=0) (zv:=vi 0) _ C9 mG (by kernel_rfl) H wn rfl rfl rfl (by trivial) (by simpa using hfn) rfl ?_;clear H;intro a H;refine kH H (Rm rfl ?_);clear H;intro a H;(iterate 2 refine jS H wn rfl rfl rfl ?_;clear H;intro a H);refine kH H (Ra rfl (ak aT rfl (SQ fun _ bD=>SR fun _ bK=>Rm rfl (Rn rfl (Rm rfl (Sp 32 rfl ?_ ?_)))))) <;> clear H aT
  ·intro h32 a H
   try have p32:=dT h32
   obtain rfl:an=none:=by
    cases an with
    | none=>rfl
    | some n=>simp [zH] at h32
   rw [Y4 h0 han.symm] at dR;refine kH H (aY h32 rfl (aP h32 rfl (aP h32 rfl (Pt h32 rfl (Kz bK (Ct rfl rfl ?_))))));clear H bK;intro a H;refine cB ?_;refine (leave0 H results135 ?_).1;refine H.hp.gL (L':=Lt) (by repeat (first|exact iy _|apply List.Sublist.cons)) (.inl ?_);have h:=dR.len
   simp only [List.length_nil,qX] at h
   rw [← h];exact dR.now
  intro h32 a H
  try have p32:=dF h32
  obtain ⟨n,rfl⟩:∃ n,an=some n:=by
   cases an with
   | none=>simp [zH] at h32
   | some n=>exact ⟨n,rfl⟩
  have hnl:n < l.length:=by have:=Uq han.symm;simpa using this
  obtain ⟨f',rfl⟩:∃ f',f=f'+1:=by
   cases f with
   | succ f'=>exact ⟨f',rfl⟩
   | zero =>
    exfalso
    have hl:=dR.len
    simp only [uS,List.length_nil,qX] at hl
    refine hfin (iE (by omega)) g Lt ?_;rw [← hl];exact dR.now
  rw [Y5 h0 han.symm hnl] at dR;dsimp only [zH,Option.map_some] at H;obtain ⟨b,o,pA,pc,rfl,hrow,hp,hrep⟩:=zO (hv.mono hgm) hnl;refine kH H (YM h32 rfl (YR qR h32 rfl (by assumption) ?_));clear H;intro a H;refine kH H (YM h32 rfl (YI mF jM h32 rfl rfl ?_));clear H;intro a H;refine bE jM (cs:=[_,_,_,_,_,_]) H (wg H rfl rfl h32) rfl rfl (fun j v hj=>H.hp.aJ (hrow j v hj)) rfl ?_;clear H;intro a H;refine Eo (Li:=[_,_]) (L:=Lt) H (wg H rfl rfl h32) rfl rfl (hcb j1 _ _ _ _ ⟨_,dR.head,_,rfl,hrep⟩ hgm dR.now (Hp.owns (Li:=[_,_]) H.hp)) rfl ?_;clear H;rintro v38 GK P7 a w ⟨Yo,rfl,hb1,hb2⟩ D8 H;have hbg:=aL D8 hbg;have r3:=aL D8 (hrow 3 _ rfl);refine kH H (YN h32 rfl (Pf h32 rfl (Kz bK (Cd rfl ?_ ?_)))) <;> clear H bK
  ·intro kL a H
   try have p40:=dT kL
   refine cB ?_;refine (leave0 H results135 ?_).1;exact H.hp.gL (L':=P7) (by repeat (first|exact iy _|apply List.Sublist.cons)) (.inr (hb2 (by simpa using kL)))
  intro kL a H
  try have p40:=dF kL
  refine kP H (Kc bD (SC (Rg qR rfl (by assumption) ?_)));clear H bD;intro a H;refine kH H (Rm rfl (Ri mF jM rfl rfl (Rf LG rfl (Rg aF rfl (by assumption) ?_))));clear H;intro a H;refine bF aF 1 (vs:=[_]) _ H wn rfl rfl rfl rfl rfl rfl rfl rfl ?_;clear H;intro w H;dsimp only [List.set,setRow] at H;refine aI ?_;refine dN ((l[n].base,f',j1+1,P7,GK)) (by exact (H).sub ⟨rfl,rfl,rfl,rfl,aC⟩) ?_ ?_
  ·(try dsimp only);exact ⟨fun b o h=>D8 b o (hgm b o h),dR.step (hb1 (by simpa using kL)),by omega⟩
  first|omega|(dsimp only;omega)
 intro h23 a H
 try have xV:=dF h23
 refine eX ?_;refine (leave0 H results135 ?_).2;rw [Y6 (by simpa using h23)] at dR;refine H.hp.gL (L':=Lt) (by repeat (first|exact iy _|apply List.Sublist.cons)) (.inl ?_);have h:=dR.len
 simp only [List.length_nil,qX] at h
 rw [← h];exact dR.now
end
section
open Go.RowKit
theorem aai:∀ args w,(callFunc 115 args).run prog w=.ok (.enter 115 args) w:=enters func115 rfl (by kernel_rfl)
theorem aah:∀ args w,(callFunc 113 args).run prog w=.ok (.enter 113 args) w:=enters func113 rfl (by kernel_rfl)
theorem KU:∀ args w,(callFunc 114 args).run prog w=.ok (.enter 114 args) w:=enters func114 rfl (by kernel_rfl)
theorem Ib:bO prog 181 4 4:=⟨by kernel_rfl⟩
theorem Y8 {G:GH} {w0:World} (hO:gH G [] w0) (l:List bG) (id:Int) (v:aj) (hv:av G (.sl 6 (l.map bG.dat)) v) :
  Calls prog 115 #[v,vi id] w0 (fT w0 G [] fun u G' L'=>∃ bl bi,u=.func (.func 135) #[] #[(aH bl 0),(aH bi 0)]∧L'=[bI bi id]∧aJ G' bl 0=some v):=by
 obtain ⟨A,c,rfl,hc1,hc2,-⟩:=hv.slice;refine jy (N:=6) (T:=[(0,_),(1,_)]) func115 rfl ntmps115 rfl rfl hO ?_;intro a H;refine dw (fun _ K1=>?_);refine fu (cs:=[_]) H wn rfl rfl rfl ?_;clear H;intro b2 a w hb2 H;refine fu (cs:=[_]) H wn rfl rfl rfl ?_;clear H;intro b3 a w hb3 H;refine kH H (ak K1 rfl (SR fun _ K2=>?_));clear H K1;intro a H;refine oV H wn rfl rfl ?_;clear H;intro a H;refine kH H (ak K2 rfl ?_);clear H K2;intro a H;refine lr H results115 rfl ?_;have H:=H.dX (Pl:=[_,_]) (dz:=[_,_]) [1,0] (by decide) rfl;obtain ⟨Ga,hma,hb2',H⟩:=H.dJ;exact H.hp.dW ⟨b2,b3,rfl,rfl,by unfold aJ;rw [hb2'];rfl⟩
def qF (p:Nat→Int):Nat→Nat→Int
 | _,0=>0
 | k,n+1=>if p k=0 then qF p (k+1) n else p k
theorem abS {p:Nat→Int} {k m:Nat} (h:k < m):qF p k (m - k)=if p k=0 then qF p (k+1) (m - (k+1)) else p k:=by
 obtain ⟨n,hn⟩:∃ n,m - k=n+1:=⟨m - k - 1,by omega⟩;rw [hn,qF,show m - (k+1)=n by omega]
theorem abR {p:Nat→Int} {k m:Nat} (h:m≤k):qF p k (m - k)=0:=by rw [show m - k=0 by omega];rfl
theorem RN {p:Nat→Int}:∀ {n k:Nat},qF p k n=0→∀ j,k≤j→j < k+n→p j=0
 | 0,k,_,j,h1,h2=>by omega
 | n+1,k,h,j,h1,h2=>by
  rw [qF] at h;split at h
  ·rename_i hp
   by_cases e:j=k
   ·rw [e];exact hp
   exact RN h j (by omega) (by omega)
  rename_i hp;exact absurd h hp
def wJ (l:List bG) (k:Nat):Int:=match l[k]? with|some s=>iq l k s|none=>0
theorem Vb {l:List bG} {k:Nat} (h:k < l.length):wJ l k=iq l k l[k]:=by unfold wJ;rw [gZ h]
def qB (l:List bG) (s:bG):Bool:=(decide (s.base≠0) && !Cv l s.kind s.base) || (decide (s.next≠0) && (decide (s.kind=2) || !Cv l 1 s.next))
def KP (l:List bG) (s:bG):Bool:=decide (l.length < (Dx l s.id).length)
def fP (l:List bG):Int:=if 128 < l.length then 9 else if qF (wJ l) 0 l.length≠0 then qF (wJ l) 0 l.length else if l.any (qB l)=true then 25 else if l.any (KP l)=true then 16 else 0
theorem afQ {l:List bG} (h:qF (wJ l) 0 l.length=0) {k:Nat} (hk:k+1 < l.length):l[k].id < l[k+1].id:=by
 have h1:=RN h (k+1) (jf _) (by omega);rw [Vb hk,iq,ko] at h1
 have hp:vv l (k+1)=some l[k].id:=by rw [vv,ah (by omega),Nat.add_sub_cancel,gZ (by omega)];rfl
 rw [hp] at h1
 split at h1
 ·cases h1
 split at h1
 ·cases h1
 split at h1
 ·cases h1
 rename_i _ h2 h3
 have h2':¬ l[k].id=l[k+1].id:=fun e=>h2 (by rw [e]);have h3':¬ l[k+1].id < l[k].id:=fun e=>h3 (aD e)
 omega
theorem Vd {l:List bG} (h:qF (wJ l) 0 l.length=0):∀ {k j:Nat} (hk:k < l.length) (hj:j < k),l[j].id < l[k].id
 | k+1,j,hk,hj=>by
  have h1:=afQ h hk
  by_cases e:j=k
  ·subst e;exact h1
  have:=Vd h (k:=k) (j:=j) (by omega) (by omega)
  omega
theorem Ve {l:List bG} (h:qF (wJ l) 0 l.length=0) (k:Nat) (hk:k < l.length):l[k].id∉(l.take k).map bG.id:=by
 intro hm;obtain ⟨x,hx1,hx2⟩:=List.mem_map.1 hm;obtain ⟨j,hj,rfl⟩:=List.getElem_of_mem hx1;rw [List.getElem_take] at hx2;rw [List.length_take] at hj;have:=Vd h hk (j:=j) (by omega)
 omega
theorem ET {α:Type} {p:α→Bool} {l:List α} {k:Nat} (hk:k < l.length) (h:(l.take k).any p=false) (hp:p l[k]=false):(l.take (k+1)).any p=false:=by
 rw [jF hk,List.any_append,h];simp [hp]
theorem sw {α:Type} {p:α→Bool} {l:List α} {k:Nat} (hk:k < l.length) (hp:p l[k]=true):l.any p=true:=List.any_eq_true.2 ⟨_,jk hk,hp⟩
theorem wY {α:Type} {p:α→Bool} {l:List α} {k:Nat} (hk:l.length≤k) (h:(l.take k).any p=false):¬ l.any p=true:=by
 rw [jG hk] at h;rw [h];decide
set_option maxHeartbeats 1000000 in
theorem Zh (G:GH) (w0:World) (hG:Hold G w0) (l:List bG) (v:aj) (hv:av G (.sl 6 (l.map bG.dat)) v) (hN:∀ s∈l,s.name.size≤4611686018427387904) :
  Calls prog 80 #[v] w0 (bA w0 G fun u G'=>u=vi (fP l)):=by
 obtain ⟨A,c,rfl,hc1,hc2,-⟩:=hv.slice;have hml:maxLen=9223372036854775807:=rfl;rw [bX] at *;refine eN [(0,_)] func80 rfl ntmps80 rfl rfl hG ?_;intro a H;refine dw (fun _ K1=>?_);refine fu (cs:=[_]) H wn rfl rfl rfl ?_;clear H;intro b1 a w hb1 H;refine fq fU H wn rfl ?_;clear H;intro b2 a w hb2 H;refine K1 _ _ ?_;clear K1;refine kP H (SQ fun _ K2=>SR fun _ K3=>Ro qR 1 rfl (Rl mF rfl (Rc rfl (Kz K3 (Cd rfl ?_ ?_))))) <;> clear H K3
 ·intro h12 a H
  try have rJ:=dT h12
  refine dw (fun _ K4=>?_);refine bF fU 0 (vs:=[_]) _ H wn rfl rfl rfl rfl rfl rfl rfl rfl ?_;clear H;intro w H;dsimp only [List.set,setRow] at H;refine K4 _ _ ?_;clear K4;refine cB ?_;refine (leave1 H results80 (.cons (rP fU H rfl (H.hp.mP 0 rfl rfl)) .nil) ?_).1
  first
   | exact H.rt (aA vi (by rw [fP,au (by omega)]))
   | exact H.rt (aA vi (by rw [ah (by simpa using iT)] at heq;rw [fP,ah (by omega),← heq,au (by simpa using iT)]))
   | exact H.rt (aA vi (by rw [fP,ah (by omega),ah (by rw [hok];decide),au hbad]))
   | exact H.rt (aA vi (by rw [fP,ah (by omega),ah (by rw [hok];decide),ah hbad,au (sw hj2 hI)]))
   | exact H.rt (aA vi (by rw [fP,ah (by omega),ah (by rw [hok];decide),ah hbad,ah (wY (by omega) hnc)]))
 intro h12 a H
 try have rJ:=dF h12
 refine kP H (Kc K2 (SQ fun _ K5=>SR fun _ K6=>Ro qR 1 rfl (Rl mF rfl (Rm rfl (Kz K6 (SB ?_))))));clear H K2 K6;intro a H;skip;refine fJ (ι:=Nat × GH) (Tc:=[(1,_),(2,_),(14,_)]) (Lc:=[(_,_),(_,_)]) (fun gh=>[(15,vi gh.1)]) (fun gh=>[]) (fun gh=>gh.2) (fun gh=>gh.1≤l.length∧qF (wJ l) gh.1 (l.length - gh.1)=qF (wJ l) 0 l.length∧(∀ b o,G b=some o→gh.2 b=some o)) (fun gh=>l.length - gh.1) ((0,G)) (by exact (H).sub ⟨rfl,rfl,rfl,rfl,aC⟩) ?_ ?_
 ·exact ⟨jf _,rfl,fun _ _ h=>h⟩
 clear H;intro gh a w hI H;obtain ⟨k,g⟩:=gh;dsimp only at hI H;obtain ⟨hk,heq,hgm⟩:=hI;dsimp only [lca,bC] at H;refine kP H (SR fun _ K7=>Rc rfl (Kz K7 (SQ fun _ K8=>Cd rfl ?_ ?_))) <;> clear H K7
 ·intro h16 a H
  try have p16:=dT h16
  have hk2:k < l.length:=by omega
  rw [abS hk2,Vb hk2] at heq;refine kP H (Kc K8 (SQ fun _ K9=>SB (SR fun _ aT=>Rm rfl (ak aT rfl (SR fun _ bD=>Ro qR 1 rfl (Rm rfl ?_))))));clear H K8 aT;intro a H;refine s_call aah H wn rfl (afR _ _ H.ro l k _ (hv.mono hgm) hk2 (hN _ (jk hk2))) rfl ?_;clear H;rintro v20 Br a w rfl AA H;refine kH H (ak bD rfl (SR fun _ bK=>Rm rfl (Rc rfl (Kz bK (Cd rfl ?_ ?_))))) <;> clear H bD bK
  ·intro h22 a H
   try have iT:=dT h22
   refine kP H (SR fun _ bT=>Rm rfl ?_);clear H;intro a H;refine bF fU 0 (vs:=[_]) _ H wn rfl rfl rfl rfl rfl rfl rfl rfl ?_;clear H;intro w H;dsimp only [List.set,setRow] at H;refine bT _ _ ?_;clear bT;refine cB ?_;refine (leave1 H results80 (.cons (rP fU H rfl (H.hp.mP 0 rfl rfl)) .nil) ?_).1
   first
    | exact H.rt (aA vi (by rw [fP,au (by omega)]))
    | exact H.rt (aA vi (by rw [ah (by simpa using iT)] at heq;rw [fP,ah (by omega),← heq,au (by simpa using iT)]))
    | exact H.rt (aA vi (by rw [fP,ah (by omega),ah (by rw [hok];decide),au hbad]))
    | exact H.rt (aA vi (by rw [fP,ah (by omega),ah (by rw [hok];decide),ah hbad,au (sw hj2 hI)]))
    | exact H.rt (aA vi (by rw [fP,ah (by omega),ah (by rw [hok];decide),ah hbad,ah (wY (by omega) hnc)]))
  intro h22 a H
  try have iT:=dF h22
  refine kP H (Kc K9 (SC (Rd rfl (Rm rfl ?_))));clear H K9;intro a H;refine aI ?_;refine dN ((k+1,Br)) (by exact (H).sub ⟨rfl,rfl,rfl,rfl,aC⟩) ?_ ?_
  ·(try dsimp only);exact ⟨by omega,by rw [au (by simpa using iT)] at heq;exact heq,fun b o h=>AA b o (hgm b o h)⟩
  first|omega|(dsimp only;omega)
 intro h16 a H
 try have p16:=dF h16
 have hok:qF (wJ l) 0 l.length=0:=by rw [← heq];exact abR (by omega)
 clear heq;have Co:=hv.mono hgm;refine eX ?_;refine K5 _ _ ?_;clear K5;refine kP H (SQ fun _ bU=>SR fun _ dM=>Ro qR 1 rfl (Rl mF rfl (Rm rfl (Kz dM (SB ?_)))));clear H dM;intro a H;skip;refine fJ (ι:=Nat × GH) (Tc:=[(1,_),(2,_),(25,_),(26,_)]) (Lc:=[(_,_),(_,_)]) (fun gh=>[(27,vi gh.1)]) (fun gh=>[]) (fun gh=>gh.2) (fun gh=>gh.1≤l.length∧(l.take gh.1).any (qB l)=false∧(∀ b o,g b=some o→gh.2 b=some o)) (fun gh=>l.length - gh.1) ((0,g)) (by exact (H).sub ⟨rfl,rfl,rfl,rfl,rfl,aC⟩) ?_ ?_
 ·exact ⟨jf _,rfl,fun _ _ h=>h⟩
 clear H;intro gh a w hI H;obtain ⟨k,g2⟩:=gh;dsimp only at hI H;obtain ⟨hk3,hno,nN⟩:=hI;have wE:=Co.mono nN;dsimp only [lca,bC] at H;refine kP H (SR fun _ dO=>Rc rfl (Kz dO (SQ fun _ dD=>Cd rfl ?_ ?_))) <;> clear H dO
 ·intro eO a H
  try have p28:=dT eO
  have hk4:k < l.length:=by omega
  obtain ⟨b,o,pA,pc,rfl,hrow,hp,hrep⟩:=zO wE hk4;refine kP H (Kc dD (SQ fun _ eG=>SB (SR fun _ gM=>Ri mF jM rfl rfl ?_)));clear H dD;intro a H;refine bE jM (cs:=[_,_,_,_,_,_]) H wn rfl rfl (fun j v hj=>H.hp.aJ (hrow j v hj)) rfl ?_;clear H;intro a H;refine fq jM H wn rfl ?_;clear H;intro b6 a w hb6 H;refine bF jM 0 (vs:=[_,_,_,_,_,_]) _ H wn rfl rfl rfl rfl rfl rfl rfl rfl ?_;clear H;intro w H;dsimp only [List.set,setRow] at H;refine gM _ _ ?_;clear gM;refine kP H (SR fun _ fG=>aU LG aF 0 rfl rfl (Rc rfl (Rm rfl (Sp 34 rfl ?_ ?_)))) <;> clear H
  ·intro fM a H
   try have p34:=dT fM
   refine kH H (YO qR 2 fM rfl (YF uU fM rfl (YO aF 0 fM rfl (YF LG fM rfl (YO aF 0 fM rfl ?_)))));clear H;intro a H;refine s_call KU H (wg H rfl rfl fM) rfl (Nu _ _ H.ro l l[k].kind l[k].base _ wE) rfl ?_;clear H;rintro v40 g2 a w rfl IL H;replace nN:=fun b o (h:g b=some o)=>IL b o (nN b o h);replace wE:=wE.mono IL;refine kH H (YN fM rfl (Pt fM rfl (Rm rfl (Sp 43 rfl ?_ ?_)))) <;> clear H
   ·intro h43 a H
    try have p43:=dT h43
    refine kH H (aP h43 rfl (aP h43 rfl (Ku rfl (Ku rfl (Ku rfl (Ku rfl (Ku rfl (Ku rfl (Ku rfl (Ku rfl (Ku rfl (Ku rfl (Ks h43 rfl (Pt h43 rfl (Kz fG (Ct rfl rfl (SQ fun _ gN=>?_)))))))))))))))));clear H fG;intro a H;have hbad:l.any (qB l)=true:=sw hk4 (by unfold qB;simp_all);refine nJ ?_;refine bF fU 1 (vs:=[_]) _ H wn rfl rfl rfl rfl rfl rfl rfl rfl ?_;clear H;intro w H;dsimp only [List.set,setRow] at H;refine aI ?_;refine gN _ _ ?_;clear gN;refine cB ?_;refine (leave1 H results80 (.cons (rP fU H rfl (H.hp.mP 1 rfl rfl)) .nil) ?_).1
    first
     | exact H.rt (aA vi (by rw [fP,au (by omega)]))
     | exact H.rt (aA vi (by rw [ah (by simpa using iT)] at heq;rw [fP,ah (by omega),← heq,au (by simpa using iT)]))
     | exact H.rt (aA vi (by rw [fP,ah (by omega),ah (by rw [hok];decide),au hbad]))
     | exact H.rt (aA vi (by rw [fP,ah (by omega),ah (by rw [hok];decide),ah hbad,au (sw hj2 hI)]))
     | exact H.rt (aA vi (by rw [fP,ah (by omega),ah (by rw [hok];decide),ah hbad,ah (wY (by omega) hnc)]))
   intro h43 a H
   try have p43:=dF h43
   refine kH H (YF Ib h43 rfl (YO aF 0 h43 rfl (YC h43 rfl (YM h43 rfl (Sp 47 rfl ?_ ?_))))) <;> clear H
   ·intro h47 a H
    try have p47:=dT h47
    refine kH H (YF uU h47 rfl (YO aF 0 h47 rfl (YC h47 rfl (YM h47 rfl (Sp 51 rfl ?_ ?_))))) <;> clear H
    ·intro jl a H
     try have p51:=dT jl
     refine kH H (aY jl rfl (aP jl rfl (PT h47 jl rfl (PT h43 h47 rfl (Pf h43 rfl (Kz fG (Ct rfl rfl (SQ fun _ iY=>?_))))))));clear H fG;intro a H;have hbad:l.any (qB l)=true:=sw hk4 (by unfold qB;simp_all);refine nJ ?_;refine bF fU 1 (vs:=[_]) _ H wn rfl rfl rfl rfl rfl rfl rfl rfl ?_;clear H;intro w H;dsimp only [List.set,setRow] at H;refine aI ?_;refine iY _ _ ?_;clear iY;refine cB ?_;refine (leave1 H results80 (.cons (rP fU H rfl (H.hp.mP 1 rfl rfl)) .nil) ?_).1
     first
      | exact H.rt (aA vi (by rw [fP,au (by omega)]))
      | exact H.rt (aA vi (by rw [ah (by simpa using iT)] at heq;rw [fP,ah (by omega),← heq,au (by simpa using iT)]))
      | exact H.rt (aA vi (by rw [fP,ah (by omega),ah (by rw [hok];decide),au hbad]))
      | exact H.rt (aA vi (by rw [fP,ah (by omega),ah (by rw [hok];decide),ah hbad,au (sw hj2 hI)]))
      | exact H.rt (aA vi (by rw [fP,ah (by omega),ah (by rw [hok];decide),ah hbad,ah (wY (by omega) hnc)]))
    intro jl a H
    try have p51:=dF jl
    refine kH H (YO qR 2 jl rfl (YF Ib jl rfl (YO aF 0 jl rfl ?_)));clear H;intro a H;refine s_call KU H (wg H rfl rfl jl) rfl (Nu _ _ H.ro l 1 l[k].next _ wE) rfl ?_;clear H;rintro v55 g2 a w rfl sP H;replace nN:=fun b o (h:g b=some o)=>sP b o (nN b o h);replace wE:=wE.mono sP;refine kH H (YN jl rfl (PF h47 jl rfl (PT h43 h47 rfl (Pf h43 rfl (Kz fG (Cd rfl ?_ ?_)))))) <;> clear H fG
    ·intro gU a H
     try have p59:=dT gU
     refine aZ (fun _ jX=>?_);have hbad:l.any (qB l)=true:=sw hk4 (by unfold qB;simp_all);refine nJ ?_;refine bF fU 1 (vs:=[_]) _ H wn rfl rfl rfl rfl rfl rfl rfl rfl ?_;clear H;intro w H;dsimp only [List.set,setRow] at H;refine aI ?_;refine jX _ _ ?_;clear jX;refine cB ?_;refine (leave1 H results80 (.cons (rP fU H rfl (H.hp.mP 1 rfl rfl)) .nil) ?_).1
     first
      | exact H.rt (aA vi (by rw [fP,au (by omega)]))
      | exact H.rt (aA vi (by rw [ah (by simpa using iT)] at heq;rw [fP,ah (by omega),← heq,au (by simpa using iT)]))
      | exact H.rt (aA vi (by rw [fP,ah (by omega),ah (by rw [hok];decide),au hbad]))
      | exact H.rt (aA vi (by rw [fP,ah (by omega),ah (by rw [hok];decide),ah hbad,au (sw hj2 hI)]))
      | exact H.rt (aA vi (by rw [fP,ah (by omega),ah (by rw [hok];decide),ah hbad,ah (wY (by omega) hnc)]))
    intro gU a H
    try have p59:=dF gU
    refine kP H (Kc eG (SC (Rd rfl (Rm rfl ?_))));clear H eG;intro a H;refine aI ?_;refine dN ((k+1,g2)) (by exact (H.dX (Pl:=[_,_,_]) (dz:=[_,_]) [1,2] (by decide) rfl).sub ⟨rfl,rfl,rfl,rfl,rfl,aC⟩) ?_ ?_
    ·(try dsimp only);exact ⟨by omega,ET hk4 hno (by unfold qB;simp_all),nN⟩
    first|omega|(dsimp only;omega)
   intro h47 a H
   try have p47:=dF h47
   refine kH H (aP h47 rfl (aP h47 rfl (Ku rfl (Ku rfl (Ku rfl (Ku rfl (Ku rfl (Ks h47 rfl (PF h43 h47 rfl (Pf h43 rfl (Kz fG (Cf rfl rfl (Kc eG (SC (Rd rfl (Rm rfl ?_))))))))))))))));clear H fG eG;intro a H;refine aI ?_;refine dN ((k+1,g2)) (by exact (H.dX (Pl:=[_,_,_]) (dz:=[_,_]) [1,2] (by decide) rfl).sub ⟨rfl,rfl,rfl,rfl,rfl,aC⟩) ?_ ?_
   ·(try dsimp only);exact ⟨by omega,ET hk4 hno (by unfold qB;simp_all),nN⟩
   first|omega|(dsimp only;omega)
  intro fM a H
  try have p34:=dF fM
  refine kH H (aY fM rfl (aP fM rfl (aP fM rfl (Pf fM rfl (Rm rfl ?_)))));clear H;intro a H;refine oU Ib H (wg H rfl rfl rfl) rfl rfl ?_;clear H;intro a H;refine ny aF H (wg H rfl rfl rfl) rfl (H.hp.mP 0 rfl rfl) rfl ?_;clear H;intro a H;refine uG H (wg H rfl rfl rfl) rfl rfl rfl rfl ?_;clear H;intro a H;refine mh H (wg H rfl rfl rfl) rfl rfl ?_;clear H;intro a H;refine Oj H 47 rfl ?_ ?_
  ·intro h47
   try have p47:=dT h47
   refine kH H (YF uU h47 rfl (YO aF 0 h47 rfl (YC h47 rfl (YM h47 rfl (Sp 51 rfl ?_ ?_))))) <;> clear H
   ·intro jl a H
    try have p51:=dT jl
    refine kH H (aY jl rfl (aP jl rfl (PT h47 jl rfl ?_)));clear H;intro a H;refine Gc H (wg H rfl rfl rfl) rfl h47 rfl rfl ?_;clear H;intro a H;refine kH H (Pf rfl rfl (Kz fG (Ct rfl rfl (SQ fun _ jT=>?_))));clear H fG;intro a H;have hbad:l.any (qB l)=true:=sw hk4 (by unfold qB;simp_all);refine nJ ?_;refine bF fU 1 (vs:=[_]) _ H wn rfl rfl rfl rfl rfl rfl rfl rfl ?_;clear H;intro w H;dsimp only [List.set,setRow] at H;refine aI ?_;refine jT _ _ ?_;clear jT;refine cB ?_;refine (leave1 H results80 (.cons (rP fU H rfl (H.hp.mP 1 rfl rfl)) .nil) ?_).1
    first
     | exact H.rt (aA vi (by rw [fP,au (by omega)]))
     | exact H.rt (aA vi (by rw [ah (by simpa using iT)] at heq;rw [fP,ah (by omega),← heq,au (by simpa using iT)]))
     | exact H.rt (aA vi (by rw [fP,ah (by omega),ah (by rw [hok];decide),au hbad]))
     | exact H.rt (aA vi (by rw [fP,ah (by omega),ah (by rw [hok];decide),ah hbad,au (sw hj2 hI)]))
     | exact H.rt (aA vi (by rw [fP,ah (by omega),ah (by rw [hok];decide),ah hbad,ah (wY (by omega) hnc)]))
   intro jl a H
   try have p51:=dF jl
   refine kH H (YO qR 2 jl rfl (YF Ib jl rfl (YO aF 0 jl rfl ?_)));clear H;intro a H;refine s_call KU H (wg H rfl rfl jl) rfl (Nu _ _ H.ro l 1 l[k].next _ wE) rfl ?_;clear H;rintro v55 g2 a w rfl sP H;replace nN:=fun b o (h:g b=some o)=>sP b o (nN b o h);replace wE:=wE.mono sP;refine kH H (YN jl rfl (PF h47 jl rfl ?_));clear H;intro a H;refine Gc H (wg H rfl rfl rfl) rfl h47 rfl rfl ?_;clear H;intro a H;refine kH H (Pf rfl rfl (Kz fG (Cd rfl ?_ ?_))) <;> clear H fG
   ·intro gU a H
    try have p59:=dT gU
    refine aZ (fun _ jw=>?_);have hbad:l.any (qB l)=true:=sw hk4 (by unfold qB;simp_all);refine nJ ?_;refine bF fU 1 (vs:=[_]) _ H wn rfl rfl rfl rfl rfl rfl rfl rfl ?_;clear H;intro w H;dsimp only [List.set,setRow] at H;refine aI ?_;refine jw _ _ ?_;clear jw;refine cB ?_;refine (leave1 H results80 (.cons (rP fU H rfl (H.hp.mP 1 rfl rfl)) .nil) ?_).1
    first
     | exact H.rt (aA vi (by rw [fP,au (by omega)]))
     | exact H.rt (aA vi (by rw [ah (by simpa using iT)] at heq;rw [fP,ah (by omega),← heq,au (by simpa using iT)]))
     | exact H.rt (aA vi (by rw [fP,ah (by omega),ah (by rw [hok];decide),au hbad]))
     | exact H.rt (aA vi (by rw [fP,ah (by omega),ah (by rw [hok];decide),ah hbad,au (sw hj2 hI)]))
     | exact H.rt (aA vi (by rw [fP,ah (by omega),ah (by rw [hok];decide),ah hbad,ah (wY (by omega) hnc)]))
   intro gU a H
   try have p59:=dF gU
   refine kP H (Kc eG (SC (Rd rfl (Rm rfl ?_))));clear H eG;intro a H;refine aI ?_;refine dN ((k+1,g2)) (by exact (H.dX (Pl:=[_,_,_]) (dz:=[_,_]) [1,2] (by decide) rfl).sub ⟨rfl,rfl,rfl,rfl,rfl,aC⟩) ?_ ?_
   ·(try dsimp only);exact ⟨by omega,ET hk4 hno (by unfold qB;simp_all),nN⟩
   first|omega|(dsimp only;omega)
  intro h47
  try have p47:=dF h47
  refine kH H (aP h47 rfl (aP h47 rfl (Ku rfl (Ku rfl (Ku rfl (Ku rfl (Ku rfl (Ks h47 rfl ?_))))))));clear H;intro a H;refine Jz H (wg H rfl rfl rfl) rfl h47 rfl rfl ?_;clear H;intro a H;refine kH H (Pf rfl rfl (Kz fG (Cf rfl rfl (Kc eG (SC (Rd rfl (Rm rfl ?_)))))));clear H fG eG;intro a H;refine aI ?_;refine dN ((k+1,g2)) (by exact (H.dX (Pl:=[_,_,_]) (dz:=[_,_]) [1,2] (by decide) rfl).sub ⟨rfl,rfl,rfl,rfl,rfl,aC⟩) ?_ ?_
  ·(try dsimp only);exact ⟨by omega,ET hk4 hno (by unfold qB;simp_all),nN⟩
  first|omega|(dsimp only;omega)
 intro eO a H
 try have p28:=dF eO
 have hbad:=wY (by omega) hno;refine eX ?_;refine bU _ _ ?_;clear bU;refine kP H (SQ fun _ kC=>SR fun _ kD=>Ro qR 1 rfl (Rl mF rfl (Rm rfl (Kz kD (SB ?_)))));clear H kD;intro a H;skip;refine YH (ι:=Nat × GH × List Nat) (Tc:=[(1,_),(2,_),(61,_),(62,_)]) (Lc:=[(_,_),(_,_)]) (fun gh=>NH gh.2.2) (fun gh=>[(63,vi gh.1)]) (fun gh=>[]++(CG gh.2.2++[])) (fun gh=>gh.2.1) (fun gh=>gh.1≤l.length∧(l.take gh.1).any (KP l)=false∧(∀ b o,g2 b=some o→gh.2.1 b=some o)) (fun gh=>l.length - gh.1) ((0,g2,[])) (by exact (H).sub ⟨rfl,rfl,rfl,rfl,rfl,aC⟩) ?_ ?_
 ·exact ⟨jf _,rfl,fun _ _ h=>h⟩
 clear H;intro gh a w hI H;obtain ⟨j,g3,ds⟩:=gh;dsimp only at hI H;obtain ⟨hj,hnc,zy⟩:=hI;have Nr:=wE.mono zy;dsimp only [lca,bC] at H;refine kP H (SR fun _ iZ=>Rc rfl (Kz iZ (SQ fun _ nD=>Cd rfl ?_ ?_))) <;> clear H iZ
 ·intro h64 a H
  try have p64:=dT h64
  have hj2:j < l.length:=by omega
  obtain ⟨b,o,pA,pc,rfl,hrow,hp,hrep⟩:=zO Nr hj2;refine kP H (Kc nD (SQ fun _ nV=>SB (SR fun _ oI=>Ri mF jM rfl rfl ?_)));clear H nD;intro a H;refine bE jM (cs:=[_,_,_,_,_,_]) H wn rfl rfl (fun j v hj=>H.hp.aJ (hrow j v hj)) rfl ?_;clear H;intro a H;refine fq jM H wn rfl ?_;clear H;intro b8 a w Iz H;refine bF jM 0 (vs:=[_,_,_,_,_,_]) _ H wn rfl rfl rfl rfl rfl rfl rfl rfl ?_;clear H;intro w H;dsimp only [List.set,setRow] at H;refine oI _ _ ?_;clear oI;refine dw (fun _ pE=>?_);refine fq aF H wn rfl ?_;clear H;intro b9 a w xI H;refine bF aF 0 (vs:=[_]) _ H wn rfl rfl rfl rfl rfl rfl rfl rfl ?_;clear H;intro w H;dsimp only [List.set,setRow] at H;refine pE _ _ ?_;clear pE;refine kP H (SR fun _ oJ=>Ro qR 3 rfl (aU sH aF 1 rfl rfl ?_));clear H;intro a H;refine gB aai (Li:=[_,_,_,_]++CG ds) (L:=[]) (St.un (A:=[_,_,_,_]) H) wn rfl (Y8 (Hp.owns (Li:=[_,_,_,_]++CG ds) (St.un (A:=[_,_,_,_]) H).hp) l l[j].id _ Nr) rfl ?_;clear H;rintro v70 g4 L70 a w ⟨bl,bi,rfl,rfl,hbl⟩ Tt H;have H:=(St.U3 (A:=[_,_,_,_,_]) (B:=CG ds) (H.perm yM));dsimp only [lca,bC] at H;have hit:=Y7 (l:=l) (id:=l[j].id) (bi:=bi) hbl (Nr.mono Tt) (Ve hok);refine oJ _ _ ?_;clear oJ;refine xq ?_;skip;refine YP (B:=[(_,_)]) (ι:=Unit) (κ:=Int) (Lc:=[(_,_),(_,_)]) (fun (k:Nat) (gh:Unit)=>[(b9,.cells #[vi k] 3 (0,0)),(b2,.cells #[vi 0] 56 (0,0))]) (fun (k:Nat) (gh:Unit)=>(CG ds++[])) (fun (k:Nat) (gh:Unit) (g:GH)=>k≤l.length) (fun (gx:Int)=>Code.ret) (fun (gx:Int)=>[(b9,.cells #[vi gx] 3 (0,0)),(b2,.cells #[vi 16] 56 (0,0))]) (fun (gx:Int)=>(CG ds++[])) (fun (gx:Int) (g:GH)=>KP l l[j]=true) (()) (by exact H.dX (Pl:=[_,_,_,_,_]) (dz:=[_,_,_,_,_]) [0,2,4,1,3] (by decide) rfl) rfl Rb (hit) (fun _ _ h=>h) (fun e i g h=>absurd (of_decide_eq_false e) (by rw [bX] at h;omega)) rfl (fun k args g h=>by obtain ⟨_,_,rfl,_⟩:=Wj h;rfl) (fun _ _ _ _ _ h=>h) (fun _ _ _ _ h=>h) (jf _) ?_ ?_ ?_
  ·clear H;intro l21 AV xk bk k args gh J9 w21 F21 Xi a Tk wm hI adz aec aep H;obtain ⟨Tk,aiK,rfl,ajs⟩:=Wj Tk;dsimp only [vL,List.cons_append,List.nil_append] at H;refine gI ?_;refine adz _ _ _ _ _ _ (by exact H) ?_;clear H;intro w H;refine kP H (SB (SR fun _ qU=>Ro aF 3 rfl (Rd rfl ?_)));clear H;intro a H;refine bF aF 3 (vs:=[_]) _ H wn rfl rfl rfl rfl rfl rfl rfl rfl ?_;clear H;intro w H;dsimp only [List.set,setRow] at H;refine qU _ _ ?_;clear qU;refine kP H (SR fun _ tC=>Ro aF 3 rfl (Ro qR 2 rfl (Rl mF rfl (Rc rfl (Kz tC (Cd rfl ?_ ?_)))))) <;> clear H tC
   ·intro BX a H
    try have Ej:=dT BX
    refine dw (fun _ qm=>?_);refine bF fU 4 (vs:=[_]) _ H wn rfl rfl rfl rfl rfl rfl rfl rfl ?_;clear H;intro w H;dsimp only [List.set,setRow] at H;refine qm _ _ ?_;clear qm;refine cB ?_;refine (aep ((k:Int)+1) _ _ _ _ _ (by exact H) ?_).1 rfl;exact jO (by omega)
   intro BX a H
   try have Ej:=dF BX
   refine gI ?_;refine aec (()) _ _ _ _ _ (by exact H) ?_
   omega
  ·clear H;intro O4 gh Pk a w wm hI H;dsimp only [lca,bC] at H;refine nV _ _ ?_;clear nV;refine kP H (SC (Rd rfl (Rm rfl ?_)));clear H;intro a H;refine aI ?_;refine afr ((j+1,Pk,O4 :: ds)) (by exact (H.dX (Pl:=[_,_,_,_,_]) (dz:=[_,_,_]) [4,2,0] (by decide) rfl).sub ⟨rfl,rfl,rfl,rfl,rfl,aC⟩) ?_ ?_
   ·(try dsimp only);exact ⟨by omega,ET hj2 hnc (iE (by rw [bX] at hI;omega)),fun b o h=>wm b o (Tt b o (zy b o h))⟩
   first|omega|(dsimp only;omega)
  clear H;intro O4 gx Pk a w wm hI H;obtain ⟨x,hgh⟩:∃ x,x=gx:=⟨_,rfl⟩;subst hgh;dsimp only [lca,bC] at H;refine cB ?_;refine (F3 H 0 rfl ?_).1;clear H;intro a w H;dsimp only [List.eraseIdx_cons_succ,List.eraseIdx_cons_zero] at H;refine (Nz (Lh:=[_,_,_,_]) _ H ?_).1;clear H;intro a w H;dsimp only [lca,bC] at H;refine (leave1 H results80 (.cons (rP fU H rfl (H.hp.mP 3 rfl rfl)) .nil) ?_).1
  first
   | exact H.rt (aA vi (by rw [fP,au (by omega)]))
   | exact H.rt (aA vi (by rw [ah (by simpa using iT)] at heq;rw [fP,ah (by omega),← heq,au (by simpa using iT)]))
   | exact H.rt (aA vi (by rw [fP,ah (by omega),ah (by rw [hok];decide),au hbad]))
   | exact H.rt (aA vi (by rw [fP,ah (by omega),ah (by rw [hok];decide),ah hbad,au (sw hj2 hI)]))
   | exact H.rt (aA vi (by rw [fP,ah (by omega),ah (by rw [hok];decide),ah hbad,ah (wY (by omega) hnc)]))
 intro h64 a H
 try have p64:=dF h64
 refine eX ?_;refine kC _ _ ?_;clear kC;refine dw (fun _ vH=>?_);refine bF fU 0 (vs:=[_]) _ H wn rfl rfl rfl rfl rfl rfl rfl rfl ?_;clear H;intro w H;dsimp only [List.set,setRow] at H;refine vH _ _ ?_;clear vH;refine cB ?_;refine (Nz (Lh:=[_,_]) _ H ?_).1;clear H;intro a w H;dsimp only [lca,bC] at H;refine (leave1 H results80 (.cons (rP fU H rfl (H.hp.mP 0 rfl rfl)) .nil) ?_).1
 first
  | exact H.rt (aA vi (by rw [fP,au (by omega)]))
  | exact H.rt (aA vi (by rw [ah (by simpa using iT)] at heq;rw [fP,ah (by omega),← heq,au (by simpa using iT)]))
  | exact H.rt (aA vi (by rw [fP,ah (by omega),ah (by rw [hok];decide),au hbad]))
  | exact H.rt (aA vi (by rw [fP,ah (by omega),ah (by rw [hok];decide),ah hbad,au (sw hj2 hI)]))
  | exact H.rt (aA vi (by rw [fP,ah (by omega),ah (by rw [hok];decide),ah hbad,ah (wY (by omega) hnc)]))
end
section
open Go.RowKit
theorem vF:Ty prog 34 1 24 [.slice none 0 0] false:=⟨by kernel_rfl,by kernel_rfl⟩
theorem wR:prog.underlying 34=some (.slice 219):=by kernel_rfl
theorem Bb:Ty prog 219 2 32 [.string ⟨#[]⟩,.string ⟨#[]⟩] true:=⟨by kernel_rfl,by kernel_rfl⟩
theorem DK:bO prog 219 0 0:=⟨by kernel_rfl⟩
theorem KW:∀ args w,(callFunc 124 args).run prog w=.ok (.enter 124 args) w:=enters func124 rfl (by kernel_rfl)
theorem R6:bO prog 219 1 1:=⟨by kernel_rfl⟩
theorem LH:bO prog 36 0 0:=⟨by kernel_rfl⟩
theorem abu:∀ args w,(callFunc 80 args).run prog w=.ok (.enter 80 args) w:=enters func80 rfl (by kernel_rfl)
theorem LJ:bO prog 36 1 1:=⟨by kernel_rfl⟩
theorem abv:∀ args w,(callFunc 81 args).run prog w=.ok (.enter 81 args) w:=enters func81 rfl (by kernel_rfl)
theorem Sb:bO prog 36 2 2:=⟨by kernel_rfl⟩
theorem abw:∀ args w,(callFunc 82 args).run prog w=.ok (.enter 82 args) w:=enters func82 rfl (by kernel_rfl)
theorem Sc:bO prog 36 3 3:=⟨by kernel_rfl⟩
theorem abx:∀ args w,(callFunc 83 args).run prog w=.ok (.enter 83 args) w:=enters func83 rfl (by kernel_rfl)
theorem aaq:∀ args w,(callFunc 123 args).run prog w=.ok (.enter 123 args) w:=enters func123 rfl (by kernel_rfl)
theorem WE {G:GH} {l:List kY} {A:Option Addr} {n c k:Nat} (hv:av G (.sl 2 (l.map kY.dat)) (.slice A n c)) (hk:k < l.length):∃ b o,A=some ⟨b,o,none⟩∧(∀ j u,l[k].cells[j]?=some u→aJ G b (o+k*2+j)=some u):=by
 obtain ⟨A',c',he,_,_,hg⟩:=hv.slice
 injection he with e1 e2 e3
 subst e1;obtain ⟨b,o,cs,h1,h2,h3,h4⟩:=hg k l[k].dat (by simp [hk]);have:=aij h4;subst this;exact ⟨b,o,h1,h3⟩
def WC (k:Nat) (x:kY) (pn:ByteArray):Int:=cZ [bS (!og x.name) 13,bS (decide (0 < (k:Int)) && (x.name.toList == pn.toList)) 7,bS (decide (0 < (k:Int)) && Op.bytesLess x.name.toList pn.toList) 6,zP x.value]
def EB (l:List kY) (k:Nat):Int:=match l[k]? with|some x=>WC k x ((l[k - 1]?.map kY.name).getD ⟨#[]⟩)|none=>0
set_option maxHeartbeats 2000000 in
theorem aii {G:GH} {bl:Nat} {l:List kY} {A:Option Addr} {n c:Nat} (hb:aJ G bl 0=some (.slice A n c)) (hv:av G (.sl 2 (l.map kY.dat)) (.slice A n c)) (hl:l.length≤4294967296) (ht:∀ x∈l,x.name.size < 4611686018427387904∧x.value.size < 4611686018427387904):ql (.func (.func 123) #[] #[(aH bl 0)]) G l.length (EB l):=by
 intro k hk G1 w0 hm hG;refine lH (caps:=[(aH bl 0)]) aaq ?_;replace hb:=aL hm hb;replace hv:=hv.mono hm
 obtain rfl:n=l.length:=by have:=hv.len;simpa using this
 obtain ⟨b,o,rfl,hrow⟩:=WE hv hk
 have hk1:k - 1 < l.length:=by omega
 obtain ⟨b',o',he',hrow'⟩:=WE hv hk1
 injection he' with he'
 injection he' with e1 e2
 subst e1;subst e2;have hte:=ht _ (jk hk)
 have he:EB l k=WC k l[k] l[k - 1].name:=by unfold EB;rw [gZ hk,gZ hk1];rfl
 obtain ⟨x,hx⟩:∃ x,x=l[k]:=⟨_,rfl⟩;obtain ⟨y,hy⟩:∃ y,y=l[k - 1]:=⟨_,rfl⟩;rw [← hx] at hrow hte he;rw [← hy] at hrow' he;refine eN [(0,_),(1,_)] func123 rfl ntmps123 rfl rfl hG ?_;intro a H;refine kP H (SR fun _ K1=>ak K1 rfl (SQ fun _ K2=>?_));clear H K1;intro a H;have H:=H.sub (T':=[(0,_),(1,_)]) ⟨rfl,rfl,aC⟩
 by_cases c0:0 < (k:Int)
 ·skip;refine dI hmx [[],[],[0,1],[0,1,2],(ra 0 4),(ra 0 5),(ra 0 6),(ra 0 7),[],[8],(ra 0 10),(ra 0 11),(ra 0 11),(ra 0 13),(ra 0 14),(ra 0 15),(ra 0 11),(ra 0 11),(ra 0 11++[17]),(ra 0 11++[17,18]),(ra 0 11++ra 16 4),(ra 0 11++ra 16 5),(ra 0 11++ra 16 6),(ra 0 23),(ra 0 24),(ra 0 25),[],[26],(ra 0 28),(ra 0 29),(ra 0 29),(ra 0 31),(ra 0 32),(ra 0 33),(ra 0 29),(ra 0 29),(ra 0 29++[35]),(ra 0 29++[35,36]),(ra 0 29++ra 34 4),(ra 0 29++ra 34 5),(ra 0 29++ra 34 6),(ra 0 41),(ra 0 42),(ra 0 43),[],[],[44,45],[44,45,46],(ra 44 4),(ra 0 49),(ra 0 50),(ra 0 51),(ra 0 52)] [50,51,52] (by kernel_rfl) [_,_,_,_,_,.bool (og x.name),_,vi (bS (!og x.name) 13),_,_,_,_,_,_,_,_,_,_,vi ((max k 1:Nat):Int),vi ((k - 1:Nat):Int),_,_,_,.bool (x.name.toList == y.name.toList),.bool (decide (0 < (k:Int)) && (x.name.toList == y.name.toList)),vi (bS (decide (0 < (k:Int)) && (x.name.toList == y.name.toList)) 7),_,_,_,_,_,_,_,_,_,_,vi ((max k 1:Nat):Int),vi ((k - 1:Nat):Int),_,_,_,.bool (Op.bytesLess x.name.toList y.name.toList),.bool (decide (0 < (k:Int)) && Op.bytesLess x.name.toList y.name.toList),vi (bS (decide (0 < (k:Int)) && Op.bytesLess x.name.toList y.name.toList) 6),_,_,_,_,_,vi (zP x.value)] H (aB (X0 rfl fun hG=>Rg vF rfl (aL hG hb)) (Z0 rfl (Rm rfl)) (Z2 0 4 1 5 rfl (Ri wR Bb rfl rfl)) (Z1 2 6 rfl (Rf DK rfl)) (aB (X1 3 7 rfl fun hG=>Rg gF rfl (aL hG (hrow 0 _ rfl))) ?_ (Z1 5 9 rfl (Rn rfl)) ?_ (aB (Z0 rfl (Rm rfl)) (Z1 8 12 rfl (Rc rfl)) (Z1 9 13 rfl (Rm rfl)) (X1 10 14 rfl fun hG=>YR vF (aD c0) rfl (aL hG hb)) (aB (Z1 10 14 rfl (YM (aD c0) rfl)) (Z3 11 15 12 16 10 14 rfl (YI wR Bb (aD c0) rfl rfl)) (Z2 13 17 10 14 rfl (YF DK (aD c0) rfl)) (X2 14 18 10 14 rfl fun hG=>YR gF (aD c0) rfl (aL hG (hrow 0 _ rfl))) (aB (X1 10 14 rfl fun hG=>YR vF (aD c0) rfl (aL hG hb)) (Z1 10 14 rfl (YM (aD c0) rfl)) ?_ ?_ (aB (Z3 16 20 19 23 10 14 rfl (YI wR Bb (aD c0) rfl rfl)) (Z2 20 24 10 14 rfl (YF DK (aD c0) rfl)) (X2 21 25 10 14 rfl fun hG=>YR gF (aD c0) rfl (aL hG (hrow' 0 _ rfl))) ?_ (aB ?_ ?_ (Z0 rfl (Rm rfl)) (Z1 26 30 rfl (Rc rfl)) (aB (Z1 27 31 rfl (Rm rfl)) (X1 28 32 rfl fun hG=>YR vF (aD c0) rfl (aL hG hb)) (Z1 28 32 rfl (YM (aD c0) rfl)) (Z3 29 33 30 34 28 32 rfl (YI wR Bb (aD c0) rfl rfl)) (aB (Z2 31 35 28 32 rfl (YF DK (aD c0) rfl)) (X2 32 36 28 32 rfl fun hG=>YR gF (aD c0) rfl (aL hG (hrow 0 _ rfl))) (X1 28 32 rfl fun hG=>YR vF (aD c0) rfl (aL hG hb)) (Z1 28 32 rfl (YM (aD c0) rfl)) (aB ?_ ?_ (Z3 34 38 37 41 28 32 rfl (YI wR Bb (aD c0) rfl rfl)) (Z2 38 42 28 32 rfl (YF DK (aD c0) rfl)) (aB (X2 39 43 28 32 rfl fun hG=>YR gF (aD c0) rfl (aL hG (hrow' 0 _ rfl))) ?_ ?_ ?_ (aB (X0 rfl fun hG=>Rg vF rfl (aL hG hb)) (Z0 rfl (Rm rfl)) (Z2 44 48 45 49 rfl (Ri wR Bb rfl rfl)) (Z1 46 50 rfl (Rf R6 rfl)) (aB (X1 47 51 rfl fun hG=>Rg gF rfl (aL hG (hrow 1 _ rfl))) ?_ (bH rfl) (bH rfl) (aX (bH rfl) cO)))))))))))))) ?_
  ·refine bY 4 8 rfl rfl fun _ a w G1 hG HT H fin=>?_;refine s_call KW H wn rfl (KO _ _ H.ro x.name hte.1) rfl ?_;clear H;rintro v9 G9 a w ⟨rfl,-⟩ DU H;exact fin H DU (rfl)
  ·refine bY 6 10 rfl rfl fun _ a w G1 hG HT H fin=>?_;refine s_call iL H wn rfl (iN _ _ H.ro _ 13) rfl ?_;clear H;rintro v11 uL a w ⟨rfl,-⟩ jJ H;exact fin H jJ (rfl)
  ·refine bL 17 21 10 14 rfl rfl fun _ a w G1 hG HT H fin=>?_;refine Jw H (wg H rfl rfl (aD c0)) rfl rfl rfl ?_;clear H;intro a H;exact fin H iJ (by show _=_;first|rfl|exact aA vi (by omega))
  ·refine bL 18 22 10 14 rfl rfl fun _ a w G1 hG HT H fin=>?_;refine lT _ H (wg H rfl rfl (aD c0)) rfl rfl rfl (by omega) (by omega) rfl ?_;clear H;intro a H;exact fin H iJ (by show _=_;first|rfl|exact aA vi (by omega))
  ·refine lU 15 19 22 26 10 14 rfl rfl fun _ a w G1 hG HT H fin=>?_;refine AY H (wg H rfl rfl (aD c0)) rfl rfl rfl ?_;clear H;intro a H;exact fin H iJ rfl
  ·refine bL 10 14 23 27 rfl rfl fun _ a w G1 hG HT H fin=>?_;refine kH H (Pt (aD c0) rfl ?_);clear H;intro a H;exact fin H iJ (aG (by first|(rw [jO c0,Ag];done)|(rw [iE c0,tJ];done)))
  ·refine bY 24 28 rfl rfl fun _ a w G1 hG HT H fin=>?_;refine s_call iL H wn rfl (iN _ _ H.ro _ 7) rfl ?_;clear H;rintro v29 O8 a w ⟨rfl,-⟩ Ms H;exact fin H Ms (rfl)
  ·refine bL 35 39 28 32 rfl rfl fun _ a w G1 hG HT H fin=>?_;refine Jw H (wg H rfl rfl (aD c0)) rfl rfl rfl ?_;clear H;intro a H;exact fin H iJ (by show _=_;first|rfl|exact aA vi (by omega))
  ·refine bL 36 40 28 32 rfl rfl fun _ a w G1 hG HT H fin=>?_;refine lT _ H (wg H rfl rfl (aD c0)) rfl rfl rfl (by omega) (by omega) rfl ?_;clear H;intro a H;exact fin H iJ (by show _=_;first|rfl|exact aA vi (by omega))
  ·refine lU 33 37 40 44 28 32 rfl rfl fun _ a w G1 hG HT H fin=>?_;refine agS H (wg H rfl rfl (aD c0)) rfl rfl rfl ?_;clear H;intro a H;exact fin H iJ rfl
  ·refine bL 28 32 41 45 rfl rfl fun _ a w G1 hG HT H fin=>?_;refine kH H (Pt (aD c0) rfl ?_);clear H;intro a H;exact fin H iJ (aG (by first|(rw [jO c0,Ag];done)|(rw [iE c0,tJ];done)))
  ·refine bY 42 46 rfl rfl fun _ a w G1 hG HT H fin=>?_;refine s_call iL H wn rfl (iN _ _ H.ro _ 6) rfl ?_;clear H;rintro v47 Xw a w ⟨rfl,-⟩ Mx H;exact fin H Mx (rfl)
  ·refine bY 48 52 rfl rfl fun _ a w G1 hG HT H fin=>?_;refine s_call KV H wn rfl (OC _ _ H.ro x.value hte.2) rfl ?_;clear H;rintro v53 Xy a w rfl MB H;exact fin H MB (rfl)
  clear H;intro a w G mg H hv;have H:=H.aV (hv 7 11 rfl rfl) rfl;have H:=H.aV (hv 25 29 rfl rfl) rfl;have H:=H.aV (hv 43 47 rfl rfl) rfl;have H:=H.aV (hv 49 53 rfl rfl) rfl;clear hv;refine gV nA fU [_,_,_,_] [_,_,_,_] H wn rfl rfl rfl rfl rfl (by intro i q h;match i,h with|0,h=>exact h|1,h=>exact h|2,h=>exact h|3,h=>exact h|n+4,h=>simp at h) rfl rfl ?_;clear H;intro Yp a w adw H;obtain ⟨Xz,adT,MS,H⟩:=H.dJ;refine s_call oh H wn rfl (om _ _ H.ro _ _ (Cu [bS (!og x.name) 13,bS (decide (0 < (k:Int)) && (x.name.toList == y.name.toList)) 7,bS (decide (0 < (k:Int)) && Op.bytesLess x.name.toList y.name.toList) 6,zP x.value] MS (show 4≤maxLen by decide))) rfl ?_;clear H;rintro v55 _ a w ⟨rfl,rfl⟩ - H;refine kH H (Ra rfl ?_);clear H;intro a H;refine aI ⟨rfl,?_⟩;refine K2 _ _ ?_;clear K2;refine lr H results123 rfl ?_;exact H.rt (by rw [he];rfl)
 skip;refine dI hmx [[],[],[0,1],[0,1,2],(ra 0 4),(ra 0 5),(ra 0 6),(ra 0 7),[],[8],(ra 0 10),(ra 0 11),(ra 0 11),(ra 0 13),(ra 0 14),(ra 0 15),(ra 0 11),(ra 0 11),(ra 0 11++[17]),(ra 0 11++[17,18]),(ra 0 11++ra 16 4),(ra 0 11++ra 16 5),(ra 0 11++ra 16 6),(ra 0 23),(ra 0 24),(ra 0 25),[],[26],(ra 0 28),(ra 0 29),(ra 0 29),(ra 0 31),(ra 0 32),(ra 0 33),(ra 0 29),(ra 0 29),(ra 0 29++[35]),(ra 0 29++[35,36]),(ra 0 29++ra 34 4),(ra 0 29++ra 34 5),(ra 0 29++ra 34 6),(ra 0 41),(ra 0 42),(ra 0 43),[],[],[44,45],[44,45,46],(ra 44 4),(ra 0 49),(ra 0 50),(ra 0 51),(ra 0 52)] [50,51,52] (by kernel_rfl) [_,_,_,_,_,.bool (og x.name),_,vi (bS (!og x.name) 13),_,_,_,undef,undef,undef,undef,undef,undef,undef,undef,undef,undef,undef,undef,undef,.bool (decide (0 < (k:Int)) && (x.name.toList == y.name.toList)),vi (bS (decide (0 < (k:Int)) && (x.name.toList == y.name.toList)) 7),_,_,_,undef,undef,undef,undef,undef,undef,undef,undef,undef,undef,undef,undef,undef,.bool (decide (0 < (k:Int)) && Op.bytesLess x.name.toList y.name.toList),vi (bS (decide (0 < (k:Int)) && Op.bytesLess x.name.toList y.name.toList) 6),_,_,_,_,_,vi (zP x.value)] H (aB (X0 rfl fun hG=>Rg vF rfl (aL hG hb)) (Z0 rfl (Rm rfl)) (Z2 0 4 1 5 rfl (Ri wR Bb rfl rfl)) (Z1 2 6 rfl (Rf DK rfl)) (aB (X1 3 7 rfl fun hG=>Rg gF rfl (aL hG (hrow 0 _ rfl))) ?_ (Z1 5 9 rfl (Rn rfl)) ?_ (aB (Z0 rfl (Rm rfl)) (Z1 8 12 rfl (Rc rfl)) (Z1 9 13 rfl (Rm rfl)) (aN (j:=10) (by kernel_rfl) (fun _ _ _ _ _ h=>h) rfl rfl rfl rfl rfl (fun _ _ h=>aO h (aG (aM c0))) rfl (fun _=>rfl)) (aB (aN (j:=10) (by kernel_rfl) (fun _ _ _ _ _ h=>h) rfl rfl rfl rfl rfl (fun _ _ h=>aO h (aG (aM c0))) rfl (fun _=>rfl)) (aN (j:=10) (by kernel_rfl) (fun _ _ _ _ _ h=>h) rfl rfl rfl rfl rfl (fun _ _ h=>aO h (aG (aM c0))) rfl (fun _=>rfl)) (aN (j:=10) (by kernel_rfl) (fun _ _ _ _ _ h=>h) rfl rfl rfl rfl rfl (fun _ _ h=>aO h (aG (aM c0))) rfl (fun _=>rfl)) (aN (j:=10) (by kernel_rfl) (fun _ _ _ _ _ h=>h) rfl rfl rfl rfl rfl (fun _ _ h=>aO h (aG (aM c0))) rfl (fun _=>rfl)) (aB (aN (j:=10) (by kernel_rfl) (fun _ _ _ _ _ h=>h) rfl rfl rfl rfl rfl (fun _ _ h=>aO h (aG (aM c0))) rfl (fun _=>rfl)) (aN (j:=10) (by kernel_rfl) (fun _ _ _ _ _ h=>h) rfl rfl rfl rfl rfl (fun _ _ h=>aO h (aG (aM c0))) rfl (fun _=>rfl)) (aN (j:=10) (by kernel_rfl) (fun _ _ _ _ _ h=>h) rfl rfl rfl rfl rfl (fun _ _ h=>aO h (aG (aM c0))) rfl (fun _=>rfl)) (aN (j:=10) (by kernel_rfl) (fun _ _ _ _ _ h=>h) rfl rfl rfl rfl rfl (fun _ _ h=>aO h (aG (aM c0))) rfl (fun _=>rfl)) (aB (aN (j:=10) (by kernel_rfl) (fun _ _ _ _ _ h=>h) rfl rfl rfl rfl rfl (fun _ _ h=>aO h (aG (aM c0))) rfl (fun _=>rfl)) (aN (j:=10) (by kernel_rfl) (fun _ _ _ _ _ h=>h) rfl rfl rfl rfl rfl (fun _ _ h=>aO h (aG (aM c0))) rfl (fun _=>rfl)) (aN (j:=10) (by kernel_rfl) (fun _ _ _ _ _ h=>h) rfl rfl rfl rfl rfl (fun _ _ h=>aO h (aG (aM c0))) rfl (fun _=>rfl)) (aN (j:=10) (by kernel_rfl) (fun _ _ _ _ _ h=>h) rfl rfl rfl rfl rfl (fun _ _ h=>aO h (aG (aM c0))) rfl (fun _=>rfl)) (aB ?_ ?_ (Z0 rfl (Rm rfl)) (Z1 26 30 rfl (Rc rfl)) (aB (Z1 27 31 rfl (Rm rfl)) (aN (j:=28) (by kernel_rfl) (fun _ _ _ _ _ h=>h) rfl rfl rfl rfl rfl (fun _ _ h=>aO h (aG (aM c0))) rfl (fun _=>rfl)) (aN (j:=28) (by kernel_rfl) (fun _ _ _ _ _ h=>h) rfl rfl rfl rfl rfl (fun _ _ h=>aO h (aG (aM c0))) rfl (fun _=>rfl)) (aN (j:=28) (by kernel_rfl) (fun _ _ _ _ _ h=>h) rfl rfl rfl rfl rfl (fun _ _ h=>aO h (aG (aM c0))) rfl (fun _=>rfl)) (aB (aN (j:=28) (by kernel_rfl) (fun _ _ _ _ _ h=>h) rfl rfl rfl rfl rfl (fun _ _ h=>aO h (aG (aM c0))) rfl (fun _=>rfl)) (aN (j:=28) (by kernel_rfl) (fun _ _ _ _ _ h=>h) rfl rfl rfl rfl rfl (fun _ _ h=>aO h (aG (aM c0))) rfl (fun _=>rfl)) (aN (j:=28) (by kernel_rfl) (fun _ _ _ _ _ h=>h) rfl rfl rfl rfl rfl (fun _ _ h=>aO h (aG (aM c0))) rfl (fun _=>rfl)) (aN (j:=28) (by kernel_rfl) (fun _ _ _ _ _ h=>h) rfl rfl rfl rfl rfl (fun _ _ h=>aO h (aG (aM c0))) rfl (fun _=>rfl)) (aB (aN (j:=28) (by kernel_rfl) (fun _ _ _ _ _ h=>h) rfl rfl rfl rfl rfl (fun _ _ h=>aO h (aG (aM c0))) rfl (fun _=>rfl)) (aN (j:=28) (by kernel_rfl) (fun _ _ _ _ _ h=>h) rfl rfl rfl rfl rfl (fun _ _ h=>aO h (aG (aM c0))) rfl (fun _=>rfl)) (aN (j:=28) (by kernel_rfl) (fun _ _ _ _ _ h=>h) rfl rfl rfl rfl rfl (fun _ _ h=>aO h (aG (aM c0))) rfl (fun _=>rfl)) (aN (j:=28) (by kernel_rfl) (fun _ _ _ _ _ h=>h) rfl rfl rfl rfl rfl (fun _ _ h=>aO h (aG (aM c0))) rfl (fun _=>rfl)) (aB (aN (j:=28) (by kernel_rfl) (fun _ _ _ _ _ h=>h) rfl rfl rfl rfl rfl (fun _ _ h=>aO h (aG (aM c0))) rfl (fun _=>rfl)) (aN (j:=28) (by kernel_rfl) (fun _ _ _ _ _ h=>h) rfl rfl rfl rfl rfl (fun _ _ h=>aO h (aG (aM c0))) rfl (fun _=>rfl)) ?_ ?_ (aB (X0 rfl fun hG=>Rg vF rfl (aL hG hb)) (Z0 rfl (Rm rfl)) (Z2 44 48 45 49 rfl (Ri wR Bb rfl rfl)) (Z1 46 50 rfl (Rf R6 rfl)) (aB (X1 47 51 rfl fun hG=>Rg gF rfl (aL hG (hrow 1 _ rfl))) ?_ (bH rfl) (bH rfl) (aX (bH rfl) cO)))))))))))))) ?_
 ·refine bY 4 8 rfl rfl fun _ a w G1 hG HT H fin=>?_;refine s_call KW H wn rfl (KO _ _ H.ro x.name hte.1) rfl ?_;clear H;rintro v9 G9 a w ⟨rfl,-⟩ DU H;exact fin H DU (rfl)
 ·refine bY 6 10 rfl rfl fun _ a w G1 hG HT H fin=>?_;refine s_call iL H wn rfl (iN _ _ H.ro _ 13) rfl ?_;clear H;rintro v11 uL a w ⟨rfl,-⟩ jJ H;exact fin H jJ (rfl)
 ·refine bL 10 14 23 27 rfl rfl fun _ a w G1 hG HT H fin=>?_;refine kH H (Pf (aM c0) rfl ?_);clear H;intro a H;exact fin H iJ (aG (by first|(rw [jO c0,Ag];done)|(rw [iE c0,tJ];done)))
 ·refine bY 24 28 rfl rfl fun _ a w G1 hG HT H fin=>?_;refine s_call iL H wn rfl (iN _ _ H.ro _ 7) rfl ?_;clear H;rintro v29 O8 a w ⟨rfl,-⟩ Ms H;exact fin H Ms (rfl)
 ·refine bL 28 32 41 45 rfl rfl fun _ a w G1 hG HT H fin=>?_;refine kH H (Pf (aM c0) rfl ?_);clear H;intro a H;exact fin H iJ (aG (by first|(rw [jO c0,Ag];done)|(rw [iE c0,tJ];done)))
 ·refine bY 42 46 rfl rfl fun _ a w G1 hG HT H fin=>?_;refine s_call iL H wn rfl (iN _ _ H.ro _ 6) rfl ?_;clear H;rintro v47 Xw a w ⟨rfl,-⟩ Mx H;exact fin H Mx (rfl)
 ·refine bY 48 52 rfl rfl fun _ a w G1 hG HT H fin=>?_;refine s_call KV H wn rfl (OC _ _ H.ro x.value hte.2) rfl ?_;clear H;rintro v53 Xy a w rfl MB H;exact fin H MB (rfl)
 clear H;intro a w G mg H hv;have H:=H.aV (hv 7 11 rfl rfl) rfl;have H:=H.aV (hv 25 29 rfl rfl) rfl;have H:=H.aV (hv 43 47 rfl rfl) rfl;have H:=H.aV (hv 49 53 rfl rfl) rfl;clear hv;refine gV nA fU [_,_,_,_] [_,_,_,_] H wn rfl rfl rfl rfl rfl (by intro i q h;match i,h with|0,h=>exact h|1,h=>exact h|2,h=>exact h|3,h=>exact h|n+4,h=>simp at h) rfl rfl ?_;clear H;intro Yp a w adw H;obtain ⟨Xz,adT,MS,H⟩:=H.dJ;refine s_call oh H wn rfl (om _ _ H.ro _ _ (Cu [bS (!og x.name) 13,bS (decide (0 < (k:Int)) && (x.name.toList == y.name.toList)) 7,bS (decide (0 < (k:Int)) && Op.bytesLess x.name.toList y.name.toList) 6,zP x.value] MS (show 4≤maxLen by decide))) rfl ?_;clear H;rintro v55 _ a w ⟨rfl,rfl⟩ - H;refine kH H (Ra rfl ?_);clear H;intro a H;refine aI ⟨rfl,?_⟩;refine K2 _ _ ?_;clear K2;refine lr H results123 rfl ?_;exact H.rt (by rw [he];rfl)
def HV (l:List kY):Int:=cZ [bS (decide (128 < (l.length:Int))) 9,jP (EB l) (min l.length 128)]
theorem Ze (G:GH) (w0:World) (hG:Hold G w0) (l:List kY) (v:aj) (hv:av G (.sl 2 (l.map kY.dat)) v) (hl:l.length≤4294967296) (ht:∀ x∈l,x.name.size < 4611686018427387904∧x.value.size < 4611686018427387904) :
  Calls prog 83 #[v] w0 (bA w0 G fun u G'=>u=vi (HV l)):=by
 obtain ⟨A,c,rfl,hc1,hc2,-⟩:=hv.slice;rw [bX] at *;refine eN [(0,_)] func83 rfl ntmps83 rfl rfl hG ?_;intro a H;refine dw (fun _ K1=>?_);refine fu (cs:=[_]) H wn rfl rfl rfl ?_;clear H;intro b1 a w hb1 H;refine kH H (ak K1 rfl (SQ fun _ K2=>?_));clear H K1;intro a H;have H:=H.sub (T':=[(1,_)]) ⟨rfl,aC⟩;obtain ⟨Ga,hma,hb1',H⟩:=H.dJ
 have hbl:aJ Ga b1 0=some (.slice A l.length c):=by unfold aJ;rw [hb1'];rfl
 have hcb:=aii hbl (hv.mono hma) hl ht;refine dI hmx [[],[0],[0,1],[0,1,2],[],[4],[4,5],[],(ra 0 8),(ra 0 9),(ra 0 10),(ra 0 11)] [9,10,11] (by kernel_rfl) [_,_,_,vi (bS (decide (128 < (l.length:Int))) 9),_,_,vi ((min l.length 128:Nat):Int),.func (.func 123) #[] #[(aH b1 0)],vi (jP (EB l) (min l.length 128))] H (aB (X0 rfl fun hG=>Rg vF rfl (aL hG hbl)) (Z1 0 3 rfl (Rl wR rfl)) (Z1 1 4 rfl (Rc rfl)) ?_ (aB (X0 rfl fun hG=>Rg vF rfl (aL hG hbl)) (Z1 4 7 rfl (Rl wR rfl)) ?_ ?_ (aB ?_ (bH rfl) (bH rfl) (bH rfl) cO))) ?_
 ·refine bY 2 5 rfl rfl fun _ a w G1 hG HT H fin=>?_;refine s_call iL H wn rfl (iN _ _ H.ro _ 9) rfl ?_;clear H;rintro v6 G6 a w ⟨rfl,-⟩ iQ H;exact fin H iQ (rfl)
 ·refine bY 5 8 rfl rfl fun _ a w G1 hG HT H fin=>?_;refine Jy H wn rfl rfl rfl ?_;clear H;intro a H;exact fin H iJ (aA vi (by omega))
 ·refine yF rfl fun _ a w G1 hG HT H fin=>?_;refine oV H wn rfl rfl ?_;clear H;intro a H;exact fin H iJ rfl
 ·refine bL 6 9 7 10 rfl rfl fun _ a w G1 hG HT H fin=>?_;refine s_call DF H wn rfl (ER _ _ H.ro (min l.length 128) (EB l) _ (by omega) ((hcb.mono hG).le (Nat.min_le_left _ _))) rfl ?_;clear H;rintro v11 uL a w rfl jJ H;exact fin H jJ (rfl)
 clear H;intro a w G mg H hv;have H:=H.aV (hv 3 6 rfl rfl) rfl;have H:=H.aV (hv 8 11 rfl rfl) rfl;clear hv;refine gV nA fU [_,_] [_,_] H wn rfl rfl rfl rfl rfl (by intro i q h;match i,h with|0,h=>exact h|1,h=>exact h|n+2,h=>simp at h) rfl rfl ?_;clear H;intro b12 a w Ay H;obtain ⟨Aa,Ce,Cb,H⟩:=H.dJ;refine s_call oh H wn rfl (om _ _ H.ro _ _ (vD Cb)) rfl ?_;clear H;rintro v13 _ a w ⟨rfl,rfl⟩ - H;refine kH H (Ra rfl ?_);clear H;intro a H;refine aI ⟨rfl,?_⟩;refine K2 _ _ ?_;clear K2;refine lr H results83 rfl ?_;exact H.rt rfl
structure yG where
 styles:List bG
 lists:List fH
 comments:List iw
 vars:List kY
structure Dm (G:GH) (s:yG) (a b c d:aj):Prop where
 st:av G (.sl 6 (s.styles.map bG.dat)) a
 li:av G (.sl 2 (s.lists.map fH.dat)) b
 cm:av G (.sl 6 (s.comments.map iw.dat)) c
 va:av G (.sl 2 (s.vars.map kY.dat)) d
structure Kq (s:yG):Prop where
 sn:∀ x∈s.styles,x.name.size≤4611686018427387904
 ln:s.lists.length≤4294967296
 lt:∀ x∈s.lists,∀ y∈x.levels,y.wO.size < 4611686018427387904
 cn:s.comments.length≤4294967296
 ct:∀ x∈s.comments,x.author.size < 4611686018427387904∧x.text.size < 4611686018427387904
 vn:s.vars.length≤4294967296
 vt:∀ x∈s.vars,x.name.size < 4611686018427387904∧x.value.size < 4611686018427387904
def Hz (s:yG):Int:=cZ [fP s.styles,EU s.lists,Hy s.comments,HV s.vars]
theorem Zd (G:GH) (w0:World) (hG:Hold G w0) (s:yG) (a b c d:aj) (hR:Dm G s a b c d) (hz:Kq s) :
  Calls prog 55 #[.agg #[a,b,c,d]] w0 (bA w0 G fun u G'=>u=vi (Hz s)):=by
 obtain ⟨sA,sn,sc,rfl⟩:=hR.st.form;obtain ⟨lA,ln,lc,rfl⟩:=hR.li.form;obtain ⟨cA,cn,cc,rfl⟩:=hR.cm.form;obtain ⟨vA,vn,vc,rfl⟩:=hR.va.form;refine eN [(0,_)] func55 rfl ntmps55 rfl rfl hG ?_;intro a H;refine dw (fun _ K1=>?_);refine fu (cs:=[_,_,_,_]) H wn rfl rfl rfl ?_;clear H;intro b1 a w hb1 H;refine kH H (ak K1 rfl (SQ fun _ K2=>?_));clear H K1;intro a H;have H:=H.sub (T':=[(1,_)]) ⟨rfl,aC⟩;obtain ⟨Ga,hma,hb1',H⟩:=H.dJ
 have hc0:aJ Ga b1 0=some (.slice sA sn sc):=by unfold aJ;rw [hb1'];rfl
 have hc1:aJ Ga b1 1=some (.slice lA ln lc):=by unfold aJ;rw [hb1'];rfl
 have hc2:aJ Ga b1 2=some (.slice cA cn cc):=by unfold aJ;rw [hb1'];rfl
 have hc3:aJ Ga b1 3=some (.slice vA vn vc):=by unfold aJ;rw [hb1'];rfl
 refine dI hmx [[],[0],[0,1],[],[3],(ra 0 5),[],[6],(ra 0 8),[],[9],(ra 0 11),(ra 0 12),(ra 0 13),(ra 0 14)] [12,13,14] (by kernel_rfl) [_,_,vi (fP s.styles),_,_,vi (EU s.lists),_,_,vi (Hy s.comments),_,_,vi (HV s.vars)] H (aB (Z0 rfl (Rf LH rfl)) (X1 0 3 rfl fun hG=>Rg qR rfl (aL hG hc0)) ?_ (Z0 rfl (Rf LJ rfl)) (aB (X1 3 6 rfl fun hG=>Rg CZ rfl (aL hG hc1)) ?_ (Z0 rfl (Rf Sb rfl)) (X1 6 9 rfl fun hG=>Rg C8 rfl (aL hG hc2)) (aB ?_ (Z0 rfl (Rf Sc rfl)) (X1 9 12 rfl fun hG=>Rg vF rfl (aL hG hc3)) ?_ (aX (bH rfl) (aX (bH rfl) (aX (bH rfl) cO)))))) ?_
 ·refine bY 1 4 rfl rfl fun _ a w G1 hG HT H fin=>?_;refine s_call abu H wn rfl (Zh _ _ H.ro s.styles _ ((hR.st.mono hma).mono hG) hz.sn) rfl ?_;clear H;rintro v5 G5 a w rfl Av H;exact fin H Av (rfl)
 ·refine bY 4 7 rfl rfl fun _ a w G1 hG HT H fin=>?_;refine s_call abv H wn rfl (Zb _ _ H.ro s.lists _ ((hR.li.mono hma).mono hG) hz.ln hz.lt) rfl ?_;clear H;rintro v8 G8 a w rfl qG H;exact fin H qG (rfl)
 ·refine bY 7 10 rfl rfl fun _ a w G1 hG HT H fin=>?_;refine s_call abw H wn rfl (Y9 _ _ H.ro s.comments _ ((hR.cm.mono hma).mono hG) hz.cn hz.ct) rfl ?_;clear H;rintro v11 uL a w rfl jJ H;exact fin H jJ (rfl)
 ·refine bY 10 13 rfl rfl fun _ a w G1 hG HT H fin=>?_;refine s_call abx H wn rfl (Ze _ _ H.ro s.vars _ ((hR.va.mono hma).mono hG) hz.vn hz.vt) rfl ?_;clear H;rintro v14 EF a w rfl Fv H;exact fin H Fv (rfl)
 clear H;intro a w G mg H hv;have H:=H.aV (hv 2 5 rfl rfl) rfl;have H:=H.aV (hv 5 8 rfl rfl) rfl;have H:=H.aV (hv 8 11 rfl rfl) rfl;have H:=H.aV (hv 11 14 rfl rfl) rfl;clear hv;refine gV nA fU [_,_,_,_] [_,_,_,_] H wn rfl rfl rfl rfl rfl (by intro i q h;match i,h with|0,h=>exact h|1,h=>exact h|2,h=>exact h|3,h=>exact h|n+4,h=>simp at h) rfl rfl ?_;clear H;intro b15 a w MQ H;obtain ⟨Bq,oq,ads,H⟩:=H.dJ;refine s_call oh H wn rfl (om _ _ H.ro _ _ (Cu [fP s.styles,EU s.lists,Hy s.comments,HV s.vars] ads (show 4≤maxLen by decide))) rfl ?_;clear H;rintro v16 _ a w ⟨rfl,rfl⟩ - H;refine kH H (Ra rfl ?_);clear H;intro a H;refine aI ⟨rfl,?_⟩;refine K2 _ _ ?_;clear K2;refine lr H results55 rfl ?_;exact H.rt rfl
end
section
open Go.RowKit
def sU:Nat→List (Int × aj)→List MapEntry
 | _,[]=>[]
 | i,(k,v) :: r=>⟨.int .i64 k,v,i⟩ :: sU (i+1) r
theorem UO (x:Int × aj):∀ (i:Nat) (l:List (Int × aj)),sU i (l++[x])=sU i l++[⟨.int .i64 x.1,x.2,i+l.length⟩]
 | _,[]=>rfl
 | i,k :: r=>by
  rw [mJ,sU,UO x (i+1) r,sU,mJ,nG,show i+1+r.length=i+(r.length+1) by omega]
def pV (x:Int):List (Int × aj)→Option aj
 | []=>none
 | (k,v) :: r=>if k=x then some v else pV x r
theorem I9 {x:Int}:∀ {l:List (Int × aj)},x∉l.map (·.1)→pV x l=none
 | [],_=>rfl
 | (k,v) :: r,h=>by
  rw [pV,ah (fun e=>h (by simp [e])),I9 (fun hm=>h (mM _ hm))]
theorem LQ (x:Int):∀ (i j:Nat) (l:List (Int × aj)),∃ an,Instr.findNow (.int .i64) (.int .i64 x) (sU i l) j=some an∧an.map (·.2)=pV x l
 | _,_,[]=>⟨none,rfl,rfl⟩
 | i,j,(k,v) :: r=>by
  obtain ⟨an,h1,h2⟩:=LQ x (i+1) (j+1) r
  by_cases e:k=x
  ·subst e
   exact ⟨some (j,v),by simp only [sU,Instr.findNow,Instr.sameNow,au,beq_self_eq_true],by rw [pV,au rfl];rfl⟩
  ·have hb:(x == k)=false:=by simp;exact fun h=>e h.symm
   exact ⟨an,by simpa only [sU,Instr.findNow,Instr.sameNow,au,hb] using h1,by rw [pV,ah e];exact h2⟩
abbrev eY (l:List (Int × aj)):Obj:=.map (sU 0 l).toArray l.length
section
variable {N:Nat} {D:List Deferred} {w0:World} {F:Nat→Prop} {G0 G:GH} {L:OL} {T:List (Nat × aj)}
variable {r:Option Nat} {P:Program} {ops:Array Oper} {Q:Exit→Act→World→Prop} {rest:List Oper} {a:Act} {w:World}
variable {d:Nat} {ty:TypeId} {pos:String} {aK:Array Edge} {g:Option (Nat × Bool)}
theorem wN {t kt et:TypeId} {x y:Operand} {b:Nat} {l:List (Int × aj)} {ky:Int} {zv:aj} (hm:P.underlying t=some (.map kt et)) (hk:P.underlying kt=some (.int .i64)) (hz:(P.info? et).map (fun i=>i.zero)=some (some zv)) (H:St N D w0 F G0 G L T a w)
  (hw:Region.wanted ⟨some d,.lookup t x y false,ty,pos,aK,g⟩ (yielded ops a.tmps)=true) (hx:ev T x=some (.map (some b))) (hy:ev T y=some (.int .i64 ky)) (hb:w.heap[b]?=some (eY l)) (hd:Nat.blt d N=true)
  (k:∀ a',St N D w0 F G0 G L ((d,(pV ky l).getD zv) :: T) a' w→WL r P ops Q rest a' w):WL r P ops Q (⟨some d,.lookup t x y false,ty,pos,aK,g⟩ :: rest) a w:=by
 obtain ⟨an,hf,han⟩:=LQ ky 0 0 l
 obtain ⟨inf,hi1,hi2⟩:=kU.1 hz
 refine fE (v:=(pV ky l).getD zv) (w':=w) hw rfl ?_ (k _ (H.put hd _ H.hp))
 have hkey:MapKept.IsKey (.int .i64) (.int .i64 ky):=by trivial
 have hf2:Instr.findNow (.int .i64) (.int .i64 ky) (sU 0 l).toArray.toList 0=some an:=by simpa using hf
 replace hb:w.heap[b]?=some (.map (sU 0 l).toArray l.length):=hb
 generalize (sU 0 l).toArray=es at hb hf2
 have h1:=MapKept.run_checkKey (P:=P) (w:=w) hk hkey es.isEmpty 9999
 have h2:=MapKept.run_findKey (P:=P) (w:=w) hk hf2
 rw [← han]
 cases an with
 | none=>simp [execOp,Instr.lookup,H.ev hx,H.ev hy,bW,kX hm,MapKept.run_getObj_map hb,h1,h2,Result.andThen,zeroValue,zI hi1,hi2]
 | some q=>simp [execOp,Instr.lookup,H.ev hx,H.ev hy,bW,kX hm,MapKept.run_getObj_map hb,h1,h2,Result.andThen]
theorem JA {t kt et:TypeId} {x y z:Operand} {b i:Nat} {l:List (Int × aj)} {ky:Int} {v:aj} (hm:P.underlying t=some (.map kt et)) (hk:P.underlying kt=some (.int .i64)) (H:St N D w0 F G0 G L T a w)
  (hw:Region.wanted ⟨none,.mapUpdate t x y z,ty,pos,aK,g⟩ (yielded ops a.tmps)=true) (hx:ev T x=some (.map (some b))) (hy:ev T y=some (.int .i64 ky)) (hzv:ev T z=some v) (hi:L[i]?=some (b,eY l)) (hn:pV ky l=none)
  (k:∀ w',St N D w0 F G0 G (L.set i (b,eY (l++[(ky,v)]))) T a w'→WL r P ops Q rest a w'):WL r P ops Q (⟨none,.mapUpdate t x y z,ty,pos,aK,g⟩ :: rest) a w:=by
 obtain ⟨an,hf,han⟩:=LQ ky 0 0 l
 have hnone:an=none:=by
  rw [hn] at han
  cases an with
  | none=>rfl
  | some q=>cases han
 subst hnone
 refine VD (i:=i) hm hk H hw hx hy hzv hi (by trivial) (by simpa using hf) ?_
 intro w' H'
 have e:(sU 0 l).toArray.push ⟨.int .i64 ky,v,l.length⟩=(sU 0 (l++[(ky,v)])).toArray:=by
  rw [UO,List.push_toArray,jN]
 refine k w' ?_
 rw [e] at H'
 rw [eY,nH]
 exact H'
end
end
end Go.Proofs.YteopmoocmoigcaaGreat
