/-
  What the claim stands on, part 3: Lfl Dv Lpc Scn By Lps Lcl Dst Sty Mk Stz Dsc Mi Ro Ri Chn Chk Dsv Mq.
-/
import Derived.Test.YteopmoocmoigcaaGreatWvb
import Derived.Lib.ConvBytes
import Derived.Laws.MakeOwn
namespace Go.Proofs.YteopmoocmoigcaaGreat
open Go.Proofs.Tryz
section
open Go.RowKit
theorem adf:∀ args w,(callFunc 164 args).run prog w=.ok (.enter 164 args) w:=enters func164 rfl (by kernel_rfl)
theorem Iw:Ty prog 242 1 24 [.slice none 0 0] false:=⟨by kernel_rfl,by kernel_rfl⟩
theorem Ub:∀ args w,(callFunc 49 args).run prog w=.ok (.enter 49 args) w:=enters func49 rfl (by kernel_rfl)
theorem FN:prog.underlying 242=some (.slice 247):=by kernel_rfl
theorem FK:Ty prog 247 3 32 [.string ⟨#[]⟩,.int .i64 0,.bool false] true:=⟨by kernel_rfl,by kernel_rfl⟩
theorem adg:∀ args w,(callFunc 165 args).run prog w=.ok (.enter 165 args) w:=enters func165 rfl (by kernel_rfl)
theorem GQ:bY prog 259 2 2:=⟨by kernel_rfl⟩
theorem GR:bY prog 259 3 4:=⟨by kernel_rfl⟩
theorem Yl:qm prog 247 [(0,1),(1,1),(2,1)] [.string ⟨#[]⟩,.int .i64 0,.bool false]:=⟨by kernel_rfl,by kernel_rfl⟩
theorem M7:∀ args w,(callFunc 160 args).run prog w=.ok (.enter 160 args) w:=enters func160 rfl (by kernel_rfl)
theorem JJ:bY prog 259 4 5:=⟨by kernel_rfl⟩
structure iU where
 lit:ByteArray
 level:Int
 plain:Bool
def iU.dat (x:iU):List Dat:=[.lf (.string x.lit),li x.level,.lf (.bool x.plain)]
abbrev iU.cells (x:iU):List aj:=[.string x.lit,vi x.level,.bool x.plain]
theorem WM (G:GH) (x:iU):aZ G x.dat x.cells:=by
 simp only [iU.dat,iU.cells,aZ]
 exact ⟨_,_,rfl,by simp [av,Value.oneCell'],_,_,rfl,by simp [av,Value.oneCell'],_,_,rfl,by simp [av,Value.oneCell'],rfl⟩
theorem WK {G:GH} {x:iU} {cs:List aj} (h:aZ G x.dat cs):cs=x.cells:=by
 simp only [iU.dat,aZ,av] at h
 obtain ⟨_,_,rfl,⟨rfl,_⟩,_,_,rfl,⟨rfl,_⟩,_,_,rfl,⟨rfl,_⟩,rfl⟩:=h
 rfl
def BO (l:List iU):List aj:=(l.map iU.cells).flatten
theorem WJ (l:List iU) (x:iU):BO (l++[x])=BO l++x.cells:=by simp [BO]
structure yD (b:Nat) (lit:List UInt8) (parts:List iU) (p v q:aj) (Lp Lo:OL):Prop where
 ptr:p=.pointer none∨p=(aJ b 2)
 buf:dJ 5 1 v lit.length (Lib.byteCells lit) Lo
 prt:dJ 247 3 q parts.length (BO parts) Lp
def sS (lit:List UInt8) (parts:List iU):List iU:=if lit=[] then parts else parts++[⟨⟨lit.toArray⟩,0,false⟩]
set_option maxHeartbeats 1000000 in
theorem Nw (G:GH) (Lp Lo:OL) (w0:World) (b:Nat) (s:ByteArray) (i:Int) (p v q:aj) (pl e:Int) (lit:List UInt8) (parts:List iU) (hR:yD b lit parts p v q Lp Lo) (hO:gX G (gD b s i p v q pl e :: (Lp++Lo)) w0) (hl:lit.length≤4294967296) (hp:parts.length≤4294967296) :
  Calls prog 160 #[(aJ b 0)] w0 (gH w0 G (gD b s i p v q pl e :: (Lp++Lo)) fun u G' L'=>∃ p' v' q' pz fC,L'=gD b s i p' v' q' pl e :: (pz++fC)∧yD b [] (sS lit parts) p' v' q' pz fC):=by
 obtain ⟨VL,hbuf,Kq⟩:=hR;have hml:maxLen=9223372036854775807:=rfl;obtain ⟨A,c,rfl,V5,V6⟩:=hbuf.shape;obtain ⟨B,d,rfl,VN,VO⟩:=Kq.shape;obtain ⟨Lt,og⟩:∃ x,x=Lp++Lo:=⟨_,rfl⟩;rw [← og] at hO ⊢;refine kg (N:=25) (T:=[(0,_)]) func160 rfl ntmps160 rfl rfl hO ?_;intro a H;refine kP H (SR fun _ K1=>Rm rfl (Rk rfl (Rf GQ rfl ?_)));clear H;intro a H;refine gV adf (Li:=[]) (L:=gD b s i p (.slice A lit.length c) (.slice B parts.length d) pl e :: Lt) H wn rfl (akj _ _ _ b s i p A lit.length c B parts.length d pl e (Hp.owns (Li:=[]) H.hp)) rfl ?_;clear H;rintro v5 _ L5 a w ⟨rfl,rfl,rfl⟩ OM H;dsimp only [List.nil_append] at H;refine kH H (Rc rfl (Kz K1 (Cd rfl ?_ ?_))) <;> clear H K1
 ·intro h6 a H
  try have p6:=dT h6
  have hne:lit≠[]:=fun e=>by rw [e] at p6;simp at p6
  subst og;refine bG (fun _ K2=>?_)
  have iV:∀ (dU:Nat) (gQ:(Option Addr × Nat) × OL) (bH:Nat) (v:aj) (G G':GH),(∀ k o,G k=some o→G' k=some o)→(fun (dU:Nat) (gQ:(Option Addr × Nat) × OL) (bH:Nat) (v:aj) (G:GH)=>match bH with|0=>v=(aJ b 0)|1=>v=(aJ b 0)|2=>v=(aJ b 0)|3=>v=(aJ b 4)|4=>v=.slice B parts.length d|5=>v=(aJ b 0)|6=>v=(aJ b 0)|7=>v=(aJ b 2)|8=>v=.string ⟨lit.toArray⟩|9=>v=.agg (iU.cells ⟨⟨lit.toArray⟩,0,false⟩).toArray|10=>v=.slice (some ⟨dU,0,none⟩) 1 1|11=>v=.slice gQ.1.1 (parts.length+1) gQ.1.2∧dJ 247 3 v (parts.length+1) (BO (parts++[⟨⟨lit.toArray⟩,0,false⟩])) gQ.2|_=>True) dU gQ bH v G→(fun (dU:Nat) (gQ:(Option Addr × Nat) × OL) (bH:Nat) (v:aj) (G:GH)=>match bH with|0=>v=(aJ b 0)|1=>v=(aJ b 0)|2=>v=(aJ b 0)|3=>v=(aJ b 4)|4=>v=.slice B parts.length d|5=>v=(aJ b 0)|6=>v=(aJ b 0)|7=>v=(aJ b 2)|8=>v=.string ⟨lit.toArray⟩|9=>v=.agg (iU.cells ⟨⟨lit.toArray⟩,0,false⟩).toArray|10=>v=.slice (some ⟨dU,0,none⟩) 1 1|11=>v=.slice gQ.1.1 (parts.length+1) gQ.1.2∧dJ 247 3 v (parts.length+1) (BO (parts++[⟨⟨lit.toArray⟩,0,false⟩])) gQ.2|_=>True) dU gQ bH v G':=by
   intro dU gQ bH v G G' hm h
   match bH,h with
   | 0,h=>exact h
   | 1,h=>exact h
   | 2,h=>exact h
   | 3,h=>exact h
   | 4,h=>exact h
   | 5,h=>exact h
   | 6,h=>exact h
   | 7,h=>exact h
   | 8,h=>exact h
   | 9,h=>exact h
   | 10,h=>exact h
   | 11,h=>exact h
   | 12,h=>exact trivial
   | 13,h=>exact trivial
   | 14,h=>exact trivial
   | _+15,h=>exact trivial
  refine aaE (κ:=(Option Addr × Nat) × OL) (((none,0),[])) (hmx) [[],[],[1],[1,2],[1,2,3],[],[5],[5,6],[5,6,7],(ra 5 4),(ra 5 5),(ra 1 10),(ra 0 12),(ra 0 13),(ra 0 14)] [12,13,14] (by kernel_rfl) (by kernel_rfl) 8 10 11 (by decide) (by decide) (by decide) (by decide) (by decide) (by decide) (by decide) (by decide) (by decide) [gD b s i p (.slice A lit.length c) (.slice B parts.length d) pl e] (gD b s i p (.slice A lit.length c) (.slice B parts.length d) pl e :: Lp) (.cells (iU.cells ⟨⟨lit.toArray⟩,0,false⟩).toArray 247 (0,0)) (fun b_ k_=>(b_,.cells (iU.cells ⟨⟨lit.toArray⟩,0,false⟩).toArray 247 (0,0)) :: gD b s i p (.slice A lit.length c) (.slice B parts.length d) pl e :: k_.2) (fun x hx=>by rw [sM.1 hx];exact iC) (fun x hx=>by rw [sM.1 hx];exact iC) (fun _ _ x hx=>by rw [sM.1 hx];exact jZ _ iC) (fun (dU:Nat) (gQ:(Option Addr × Nat) × OL) (bH:Nat) (v:aj) (G:GH)=>match bH with|0=>v=(aJ b 0)|1=>v=(aJ b 0)|2=>v=(aJ b 0)|3=>v=(aJ b 4)|4=>v=.slice B parts.length d|5=>v=(aJ b 0)|6=>v=(aJ b 0)|7=>v=(aJ b 2)|8=>v=.string ⟨lit.toArray⟩|9=>v=.agg (iU.cells ⟨⟨lit.toArray⟩,0,false⟩).toArray|10=>v=.slice (some ⟨dU,0,none⟩) 1 1|11=>v=.slice gQ.1.1 (parts.length+1) gQ.1.2∧dJ 247 3 v (parts.length+1) (BO (parts++[⟨⟨lit.toArray⟩,0,false⟩])) gQ.2|_=>True) (fun b b' k i v G hi hc h=>by match i,hi,hc,h with|0,_,_,h=>exact h|1,_,_,h=>exact h|2,_,_,h=>exact h|3,_,_,h=>exact h|4,_,_,h=>exact h|5,_,_,h=>exact h|6,_,_,h=>exact h|7,_,_,h=>exact h|8,_,_,h=>exact h|9,_,_,h=>exact h|10,hi,_,_=>exact absurd hi (by decide)|11,_,hc,_=>exact absurd hc (by decide)|12,_,hc,_=>exact absurd hc (by decide)|13,_,hc,_=>exact absurd hc (by decide)|14,_,hc,_=>exact absurd hc (by decide)|_+15,_,_,_=>exact trivial) (fun b k k' i v G hi hc h=>by match i,hi,hc,h with|0,_,_,h=>exact h|1,_,_,h=>exact h|2,_,_,h=>exact h|3,_,_,h=>exact h|4,_,_,h=>exact h|5,_,_,h=>exact h|6,_,_,h=>exact h|7,_,_,h=>exact h|8,_,_,h=>exact h|9,_,_,h=>exact h|10,_,_,h=>exact h|11,hi,_,_=>exact absurd hi (by decide)|12,_,hc,_=>exact absurd hc (by decide)|13,_,hc,_=>exact absurd hc (by decide)|14,_,hc,_=>exact absurd hc (by decide)|_+15,_,_,_=>exact trivial) H ?_ ?_ ?_ ?_ ?_ (by kernel_rfl) (by kernel_rfl)
  ·clear H;refine aG ?_ ?_ ?_ ?_ (aG ?_ ?_ ?_ ?_ (aG ?_ ?_ ?_ ?_ (aU ?_ (aU ?_ (aU ?_ bZ)))))
   ·intro dU gQ mK bg a w G1 mD _ _ _ _ bE hc hG HT hv;have H:=HT;clear bE;have Hb:=H.full;have H:=Hb;clear hc;refine kH H (Rm rfl ?_);clear H;intro a H;refine aI ⟨rfl,?_⟩;exact iP (by kernel_rfl) (iV dU gQ) rfl rfl HT Hb hG hv (fun _ _ h=>h) (rfl) H
   ·intro dU gQ mK bg a w G1 mD _ _ _ _ bE hc hG HT hv;have H:=HT;clear bE;have Hb:=H.full;have H:=Hb;clear hc;refine kH H (Rm rfl ?_);clear H;intro a H;refine aI ⟨rfl,?_⟩;exact iP (by kernel_rfl) (iV dU gQ) rfl rfl HT Hb hG hv (fun _ _ h=>h) (rfl) H
   ·intro dU gQ mK bg a w G1 mD _ _ _ _ bE hc hG HT hv;have H:=HT;clear bE;have H:=H.aQ (hv 1 8 (hc 1 (by decide)) rfl) rfl;have Hb:=H.full;have H:=Hb;clear hc;refine kH H (Rk rfl ?_);clear H;intro a H;refine aI ⟨rfl,?_⟩;exact iP (by kernel_rfl) (iV dU gQ) rfl rfl HT Hb hG hv (fun _ _ h=>h) (rfl) H
   ·intro dU gQ mK bg a w G1 mD _ _ _ _ bE hc hG HT hv;have H:=HT;clear bE;have H:=H.aQ (hv 2 9 (hc 2 (by decide)) rfl) rfl;have Hb:=H.full;have H:=Hb;clear hc;refine kH H (Rf GR rfl ?_);clear H;intro a H;refine aI ⟨rfl,?_⟩;exact iP (by kernel_rfl) (iV dU gQ) rfl rfl HT Hb hG hv (fun _ _ h=>h) (rfl) H
   ·intro dU gQ mK bg a w G1 mD _ _ _ _ bE hc hG HT hv;have H:=HT;clear bE;have H:=H.aQ (hv 3 10 (hc 3 (by decide)) rfl) rfl;have Hb:=H.full;have H:=Hb;clear hc;refine tF Iw H wn rfl (H.hp.WU (mD _ iC) rfl) rfl ?_;clear H;intro a H;refine aI ⟨rfl,?_⟩;exact iP (by kernel_rfl) (iV dU gQ) rfl rfl HT Hb hG hv (fun _ _ h=>h) (rfl) H
   ·intro dU gQ mK bg a w G1 mD _ _ _ _ bE hc hG HT hv;have H:=HT;clear bE;have Hb:=H.full;have H:=Hb;clear hc;refine kH H (Rm rfl ?_);clear H;intro a H;refine aI ⟨rfl,?_⟩;exact iP (by kernel_rfl) (iV dU gQ) rfl rfl HT Hb hG hv (fun _ _ h=>h) (rfl) H
   ·intro dU gQ mK bg a w G1 mD _ _ _ _ bE hc hG HT hv;have H:=HT;clear bE;have H:=H.aQ (hv 5 12 (hc 5 (by decide)) rfl) rfl;have Hb:=H.full;have H:=Hb;clear hc;refine kH H (Rk rfl ?_);clear H;intro a H;refine aI ⟨rfl,?_⟩;exact iP (by kernel_rfl) (iV dU gQ) rfl rfl HT Hb hG hv (fun _ _ h=>h) (rfl) H
   ·intro dU gQ mK bg a w G1 mD _ _ _ _ bE hc hG HT hv;have H:=HT;clear bE;have H:=H.aQ (hv 6 13 (hc 6 (by decide)) rfl) rfl;have Hb:=H.full;have H:=Hb;clear hc;refine kH H (Rf GQ rfl ?_);clear H;intro a H;refine aI ⟨rfl,?_⟩;exact iP (by kernel_rfl) (iV dU gQ) rfl rfl HT Hb hG hv (fun _ _ h=>h) (rfl) H
   ·intro _ _ _ _ _ _ _ _ _ hB;exact absurd hB (by decide)
   ·intro dU gQ mK bg a w G1 mD _ _ _ _ bE hc hG HT hv;have H:=HT;clear bE;have H:=H.aQ (hv 8 15 (hc 8 (by decide)) rfl) rfl;have Hb:=H.full;have H:=Hb;clear hc;refine ku Yl [_,_,_] H wn rfl rfl rfl rfl ?_;clear H;intro a H;refine aI ⟨rfl,?_⟩;exact iP (by kernel_rfl) (iV dU gQ) rfl rfl HT Hb hG hv (fun _ _ h=>h) (rfl) H
   ·intro _ _ _ _ _ _ _ _ _ _ hB;exact absurd hB (by decide)
   ·intro _ _ _ _ _ _ _ _ _ _ _ hB;exact absurd hB (by decide)
   ·intro _ _ _ _ _ _ _ _ hB;exact absurd hB (by decide)
   ·intro _ _ _ _ _ _ _ _ hB;exact absurd hB (by decide)
   intro _ _ _ _ _ _ _ _ hB;exact absurd hB (by decide)
  ·clear H;intro o_ dU gQ bg a w G1 uD _ hc hG HT hv;obtain rfl:_=o_:=Option.some.inj uD;clear uD;have H:=HT;have H:=H.aQ (hv 7 14 (by decide) (hc 7 (by decide)) rfl) rfl;have Hb:=H.full;have H:=Hb;clear hc;refine gV Ub (Li:=[]) (L:=gD b s i p (.slice A lit.length c) (.slice B parts.length d) pl e :: (Lp++Lo)) H wn rfl (akw _ _ _ _ b s i p _ B parts.length d pl e lit (Hp.owns (Li:=[]) H.hp) hbuf hne) rfl ?_;clear H;rintro v15 Em L15 a w ⟨rfl,rfl⟩ Dh H;dsimp only [List.nil_append] at H;refine aI ⟨rfl,?_⟩;exact abW (by kernel_rfl) (iV dU gQ) rfl HT Hb hG (fun j e h1 h2 h3=>hv j e h1 h2 h3) Dh (rfl) H
  ·clear H;intro o_ gQ bg a w G1 uD _ hc hG HT hv;obtain rfl:_=o_:=Option.some.inj uD;clear uD;have H:=HT;have H:=H.aQ (hv 0 9 16 (by decide) (hc 9 (by decide)) rfl) rfl;have Hb:=H.full;have H:=Hb;clear hc;refine gU FN FK [_,_,_] [_,_,_] H wn rfl rfl rfl rfl rfl (by intro i q h;match i,h with|0,h=>exact h|n+1,h=>simp at h) rfl rfl ?_;clear H;intro b17 a w alE H;refine aI ⟨rfl,b17,?_⟩;exact MS (by kernel_rfl) rfl HT Hb hG (fun j e h1 h2 h3=>hv _ j e h1 h2 h3) (rfl) H
  ·clear H;intro o_ dU bg a w G1 uD _ hc hG HT hv;obtain rfl:_=o_:=Option.some.inj uD;clear uD;have H:=HT;have H:=H.aQ (hv (((none,0),[])) 4 11 (by decide) (hc 4 (by decide)) rfl) rfl;have H:=H.aQ (hv (((none,0),[])) 10 17 (by decide) (hc 10 (by decide)) rfl) rfl;have Hb:=H.full;have H:=Hb;clear hc;refine oN (Li:=[_,_]) (Lo:=Lp) (news:=iU.cells ⟨⟨lit.toArray⟩,0,false⟩) FN FK rfl rfl H wn rfl rfl Kq rfl (H.hp.eF 0 rfl rfl) rfl (by omega) (by omega) rfl ?_;clear H;intro v18 Z5 a w Fa H;obtain ⟨Zh,c18,rfl,-,-⟩:=Fa.shape;rw [← WJ] at Fa;refine aI ⟨rfl,((Zh,c18),Z5),?_⟩;exact MS (by kernel_rfl) rfl HT Hb hG (fun j e h1 h2 h3=>hv _ j e h1 h2 h3) (⟨rfl,Fa⟩) H
  clear H;intro b17 gQ a w G ng H hv;have H:=H.aQ (hv 0 7 rfl rfl) rfl;obtain ⟨u18,agU,VG⟩:=hv 11 18 (by decide) rfl;(try dsimp only at VG);obtain ⟨rfl,Fa⟩:=VG;have H:=H.iY agU;clear hv;refine kH H (Rk rfl (Rf GR rfl ?_));clear H;intro a H;refine bM Iw 1 (vs:=[_]) _ H wn rfl rfl rfl rfl rfl rfl rfl rfl ?_;clear H;intro w H;dsimp only [List.set,setRow] at H;refine aI ⟨rfl,?_⟩;refine K2 _ _ ?_;clear K2;refine kP H (SC (Rm rfl (Rk rfl (Rf GQ rfl ?_))));clear H;intro a H;refine gV adg (Li:=[_]) (L:=gD b s i p (.slice A lit.length c) (.slice gQ.1.1 (parts.length+1) gQ.1.2) pl e :: gQ.2) H wn rfl (akv _ _ _ b s i p A lit.length c gQ.1.1 (parts.length+1) gQ.1.2 pl e (Hp.owns (Li:=[_]) H.hp)) rfl ?_;clear H;rintro v24 _ L24 a w ⟨rfl,rfl⟩ rR H;dsimp only [lca,bD] at H;refine aI ?_;refine (leave0 H results160 ?_).2
  first
   | exact H.hp.gT (L':=gD b s i _ _ _ pl e :: gQ.2) (zQ _ _) ⟨_,_,_,gQ.2,[],by rw [oF],⟨.inl rfl,dJ.nil,by rw [sS,ah hne];simpa using Fa⟩⟩
   | exact H.hp.eP ⟨_,_,_,Lp,Lo,by rw [og],by
     have h0:lit=[]:=by
      cases lit with
      | nil=>rfl
      | cons x r=>simp at p6
     subst h0;exact ⟨VL,hbuf,by rw [sS,au rfl];exact Kq⟩⟩
 intro h6 a H
 try have p6:=dF h6
 refine fT ?_;refine (leave0 H results160 ?_).2
 first
  | exact H.hp.gT (L':=gD b s i _ _ _ pl e :: gQ.2) (zQ _ _) ⟨_,_,_,gQ.2,[],by rw [oF],⟨.inl rfl,dJ.nil,by rw [sS,ah hne];simpa using Fa⟩⟩
  | exact H.hp.eP ⟨_,_,_,Lp,Lo,by rw [og],by
    have h0:lit=[]:=by
     cases lit with
     | nil=>rfl
     | cons x r=>simp at p6
    subst h0;exact ⟨VL,hbuf,by rw [sS,au rfl];exact Kq⟩⟩
theorem Xu (G:GH) (Lp Lo:OL) (w0:World) (b:Nat) (s:ByteArray) (i:Int) (p v q:aj) (pl e:Int) (lit:List UInt8) (parts:List iU) (ch:Int) (plain:Bool) (hR:yD b lit parts p v q Lp Lo) (hO:gX G (gD b s i p v q pl e :: (Lp++Lo)) w0) (hl:lit.length≤4294967296) (hp:parts.length≤4294967290) (hc:49≤ch∧ch≤57) (hpl:0≤pl∧pl≤4294967296) :
  Calls prog 163 #[(aJ b 0),.int .u8 ch,.bool plain] w0 (gH w0 G (gD b s i p v q pl e :: (Lp++Lo)) fun u G' L'=>∃ p' v' q' pz fC,L'=gD b s i p' v' q' (pl+1) e :: (pz++fC)∧yD b [] (sS lit parts++[⟨⟨#[]⟩,ch - 48,plain⟩]) p' v' q' pz fC):=by
 have hml:maxLen=9223372036854775807:=rfl
 have hfl:(sS lit parts).length≤parts.length+1:=by unfold sS;split <;> simp
 obtain ⟨A,c,rfl,V5,V6⟩:=hR.buf.shape;obtain ⟨B,d,rfl,VN,VO⟩:=hR.prt.shape;obtain ⟨Lt,og⟩:∃ x,x=Lp++Lo:=⟨_,rfl⟩;rw [← og] at hO ⊢;refine kg (N:=29) (T:=[(0,_),(1,_),(2,_)]) func163 rfl ntmps163 rfl rfl hO ?_;intro a H;refine kP H (SR fun _ K1=>Rm rfl ?_);clear H;intro a H;refine gV M7 (Li:=[]) (L:=gD b s i p (.slice A lit.length c) (.slice B parts.length d) pl e :: Lt) H wn rfl (by subst og;exact Nw _ Lp Lo _ b s i p _ _ pl e lit parts hR (Hp.owns (Li:=[]) H.hp) hl (by omega)) rfl ?_;clear H;rintro v7 G7 L7 a w ⟨p',v',q',pz,fC,rfl,GZ⟩ Ao H;dsimp only [List.nil_append] at H;obtain ⟨A7,c7,rfl,-,-⟩:=GZ.buf.shape;obtain ⟨B7,d7,rfl,-,-⟩:=GZ.prt.shape;refine K1 _ _ ?_;clear K1;refine kP H (SR fun _ K2=>Rm rfl (Rm rfl (Rk rfl (aW GR Iw 0 rfl rfl (Rm rfl ?_)))));clear H;intro a H;refine ajO H wn rfl rfl (by omega) (by omega) rfl ?_;clear H;intro a H;refine FD _ nD IB H wn rfl rfl rfl ?_;clear H;intro a H;rw [Ia (by omega) (by omega)] at H;refine kH H (Rm rfl ?_);clear H;intro a H;refine ku Yl [_,_,_] H wn rfl rfl rfl rfl ?_;clear H;intro a H;refine gU FN FK [_,_,_] [_,_,_] H wn rfl rfl rfl rfl rfl (by intro i q h;match i,h with|0,h=>exact h|n+1,h=>simp at h) rfl rfl ?_;clear H;intro b18 a w J2 H;have H:=(St.cast H (show _=[_,_]++(pz++fC) from rfl)).perm (List.Perm.append_left _ zR);have H:=St.un H;refine oN (Li:=[_,_]++fC) (Lo:=pz) (news:=iU.cells ⟨⟨#[]⟩,ch - 48,plain⟩) FN FK rfl rfl H wn rfl rfl GZ.prt rfl (H.hp.eF 0 rfl rfl) rfl (by omega) (by omega) rfl ?_;clear H;intro v19 R6 a w wE H;obtain ⟨IU,c19,rfl,-,-⟩:=wE.shape;rw [← WJ] at wE;have H:=H.assoc.perm (List.Perm.append_left _ zR);dsimp only [lca,bD] at H;refine kH H (Rk rfl (Rf GR rfl ?_));clear H;intro a H;refine bM Iw 1 (vs:=[_]) _ H wn rfl rfl rfl rfl rfl rfl rfl rfl ?_;clear H;intro w H;dsimp only [List.set,setRow] at H;refine K2 _ _ ?_;clear K2;refine kP H (SC (Rm rfl (Rk rfl (aW JJ aH 1 rfl rfl (Rd rfl (Rk rfl (Rf JJ rfl ?_)))))));clear H;intro a H;refine bM aH 1 (vs:=[_]) _ H wn rfl rfl rfl rfl rfl rfl rfl rfl ?_;clear H;intro w H;dsimp only [List.set,setRow] at H;refine aI ?_;refine (leave0 H results163 ?_).2;exact H.hp.gT (L':=gD b s i _ _ _ (pl+1) e :: (R6++fC)) (zQ _ _) ⟨_,_,_,R6,fC,rfl,GZ.ptr,GZ.buf,by simpa using wE⟩
end
section
open Go.RowKit
section
variable {N:Nat} {D:List Deferred} {w0:World} {F:Nat→Prop} {G0 G:GH} {L:OL} {T Xs:List (Nat × aj)}
variable {r:Option Nat} {P:Program} {Q:Exit→Act→World→Prop} {l:List Oper} {a a':Act} {w w':World}
abbrev Q0:Type:=Nat × aj × Nat × Bool
def Q5 (ent:List Q0) (S:Nat→Bool) (a:Act):Prop:=∀ e∈ent,S e.2.2.1=e.2.2.2→a.tmps[e.1]?=some e.2.1
theorem Q5.at {ent:List Q0} {S:Nat→Bool} {a:Act} (h:Q5 ent S a) (k:Nat) {t:Nat} {v:aj} {j:Nat} {b:Bool} (hk:ent[k]?=some (t,v,j,b)) (hS:S j=b):a.tmps[t]?=some v:=h _ (lU hk) hS
theorem ajN {ops:Array Oper} {rest:List Oper} {d:Nat} {ty:TypeId} {pos:String} {aP:Array Edge} {g:Option (Nat × Bool)} {t:TypeId} {x y:Operand} {s:ByteArray} {ky:IntKind} {p:Int} (hi:Nat) (ht:P.underlying t=some .string) (H:St N D w0 F G0 G L T a w) (hw:Region.wanted ⟨some d,.slice t x none (some y) none,ty,pos,aP,g⟩ (yielded ops a.tmps)=true) (hx:ev T x=some (.string s)) (hy:ev T y=some (.int ky p)) (hp:p=(hi:Int)) (h1:hi≤s.size) (hd:Nat.blt d N=true)
  (k:∀ a',St N D w0 F G0 G L ((d,.string (s.extract 0 hi)) :: T) a' w→WL r P ops Q rest a' w):WL r P ops Q (⟨some d,.slice t x none (some y) none,ty,pos,aP,g⟩ :: rest) a w:=by
 subst hp
 have hr:=run_slice_string_h (P:=P) w t s ht ky (hi:Int) (by omega) (by omega)
 rw [Int.toNat_natCast] at hr
 refine fO (v:=.string (s.extract 0 hi)) (w':=w) hw rfl ?_ (k _ (H.put hd _ H.hp))
 simp only [execOp,H.ev hx,Option.map_some,Option.map_none,H.ev hy,cO,run_sliceAt_string w t _ _ _ _ ht,hr,jW,qw]
end
end
section
open Go.RowKit
theorem adh:∀ args w,(callFunc 166 args).run prog w=.ok (.enter 166 args) w:=enters func166 rfl (by kernel_rfl)
theorem uX:bY prog 259 0 0:=⟨by kernel_rfl⟩
theorem TM:∀ args w,(callFunc 159 args).run prog w=.ok (.enter 159 args) w:=enters func159 rfl (by kernel_rfl)
theorem TP:∀ args w,(callFunc 162 args).run prog w=.ok (.enter 162 args) w:=enters func162 rfl (by kernel_rfl)
theorem TQ:∀ args w,(callFunc 163 args).run prog w=.ok (.enter 163 args) w:=enters func163 rfl (by kernel_rfl)
theorem oG:bY prog 259 1 1:=⟨by kernel_rfl⟩
theorem M8:∀ args w,(callFunc 161 args).run prog w=.ok (.enter 161 args) w:=enters func161 rfl (by kernel_rfl)
theorem yN:bY prog 259 5 6:=⟨by kernel_rfl⟩
def qD (s p:ByteArray):Bool:=decide (p.size≤s.size) && ((s.extract 0 p.size).toList == p.toList)
theorem afG (G:GH) (w0:World) (hG:Hold G w0) (s p:ByteArray) (hs:s.size≤4611686018427387904) (hp:p.size≤4611686018427387904):Calls prog 166 #[.string s,.string p] w0 (bF w0 G fun u G'=>u=.bool (qD s p)∧G=G'):=by
 refine eN [(0,_),(1,_)] func166 rfl ntmps166 rfl rfl hG ?_;intro a H;refine kP H (SR fun _ K1=>ak K1 rfl (SR fun _ K2=>Rm rfl (Rv gy rfl (Rm rfl (Rv gy rfl (Rc rfl (Rm rfl (Sp 10 rfl ?_ ?_)))))))) <;> clear H K1
 ·intro h10 a H
  try have lN:=dT h10
  refine kH H (YM h10 rfl (YM h10 rfl ?_));clear H;intro a H;refine Ca gy H (wg H rfl rfl h10) rfl rfl ?_;clear H;intro a H;refine ajN p.size gy H (wg H rfl rfl h10) rfl rfl rfl (by omega) rfl ?_;clear H;intro a H;refine kH H (YM h10 rfl ?_);clear H;intro a H;refine BZ H (wg H rfl rfl h10) rfl rfl rfl ?_;clear H;intro a H;exact kH H (Pt h10 rfl (ak K2 rfl (LR results166 rfl fun H=>H.rt ⟨aB (by unfold qD;first|(simp_all;done)|(simp_all;omega)),rfl⟩)))
 intro h10 a H
 try have lN:=dF h10
 exact kH H (aY h10 rfl (aY h10 rfl (Pf h10 rfl (ak K2 rfl (LR results166 rfl fun H=>H.rt ⟨aB (by unfold qD;first|(simp_all;done)|(simp_all;omega)),rfl⟩)))))
theorem Oq (G:GH) (w0:World) (hG:Hold G w0) (s p:ByteArray) (hs:s.size≤4611686018427387904) (hp:p.size≤4611686018427387904):Calls prog 161 #[.string s,.string p] w0 (bF w0 G fun u G'=>u=.bool (qD s p)∧G=G'):=by
 refine eN [(0,_),(1,_)] func161 rfl ntmps161 rfl rfl hG ?_;intro a H;refine kP H (SR fun _ K1=>ak K1 rfl (SR fun _ K2=>Rm rfl (Rm rfl ?_)));clear H K1;intro a H;refine s_call adh H wn rfl (afG _ _ H.ro s p hs hp) rfl ?_;clear H;rintro v7 _ a w ⟨rfl,rfl⟩ - H;exact kH H (ak K2 rfl (LR results161 rfl fun H=>H.rt ⟨rfl,rfl⟩))
def sP (s:ByteArray) (k:Nat):Bool:=decide (k < s.size) && decide (49≤gL s k) && decide (gL s k≤57)
theorem TA (G:GH) (L:OL) (w0:World) (b:Nat) (s:ByteArray) (i:Int) (p v q:aj) (pl e:Int) (k:Nat) (hs:s.size≤4611686018427387904) (hO:gX G (gD b s i p v q pl e :: L) w0) :
  Calls prog 162 #[(aJ b 0),vi k] w0 (gH w0 G (gD b s i p v q pl e :: L) fun u G' L'=>u=.bool (sP s k)∧L'=gD b s i p v q pl e :: L∧G'=G):=by
 refine kg (N:=30) (T:=[(0,_),(1,_)]) func162 rfl ntmps162 rfl rfl hO ?_;intro a H;refine kP H (SR fun _ K1=>ak K1 rfl (SR fun _ K2=>Rm rfl (Rm rfl (Rk rfl (aW uX gG 0 rfl rfl (Rv gy rfl (Rc rfl (Rm rfl (Sp 12 rfl ?_ ?_))))))))) <;> clear H K1
 ·intro h12 a H
  try have pX:=dT h12
  refine kH H (YM h12 rfl ?_);clear H;intro a H;refine rX H (wg H rfl rfl h12) rfl rfl ?_;clear H;intro a H;refine kH H (YF uX h12 rfl (YO gG 0 h12 rfl (YM h12 rfl ?_)));clear H;intro a H;refine nP k gy H (wg H rfl rfl h12) rfl rfl rfl (by omega) rfl ?_;clear H;intro a H;rw [← lV] at H;refine kH H (YC h12 rfl (Pt h12 rfl (Rm rfl (Sp 21 rfl ?_ ?_)))) <;> clear H
  ·intro h21 a H
   try have qb:=dT h21
   refine kH H (YM h21 rfl ?_);clear H;intro a H;refine rX H (wg H rfl rfl h21) rfl rfl ?_;clear H;intro a H;refine kH H (YF uX h21 rfl (YO gG 0 h21 rfl (YM h21 rfl ?_)));clear H;intro a H;refine nP k gy H (wg H rfl rfl h21) rfl rfl rfl (by omega) rfl ?_;clear H;intro a H;rw [← lV] at H;exact kH H (YC h21 rfl (Pt h21 rfl (ak K2 rfl (LR results162 rfl fun H=>H.hp.eP ⟨aB (by unfold sP;first|(simp_all;done)|(simp_all;omega)),rfl,rfl⟩))))
  intro h21 a H
  try have qb:=dF h21
  exact kH H (aY h21 rfl (aS h21 rfl (aS h21 rfl (Pf h21 rfl (ak K2 rfl (LR results162 rfl fun H=>H.hp.eP ⟨aB (by unfold sP;first|(simp_all;done)|(simp_all;omega)),rfl,rfl⟩))))))
 intro h12 a H
 try have pX:=dF h12
 exact kH H (aY h12 rfl (aS h12 rfl (aS h12 rfl (Pf h12 rfl (Rm rfl (aY rfl rfl (aS rfl rfl (aS rfl rfl (Pf rfl rfl (ak K2 rfl (LR results162 rfl fun H=>H.hp.eP ⟨aB (by unfold sP;first|(simp_all;done)|(simp_all;omega)),rfl,rfl⟩)))))))))))
structure sK where
 i:Nat
 lit:List UInt8
 parts:List iU
 pl:Nat
 e:Int
def nN (s:ByteArray) (x:sK):sK :=
 if qD (s.extract x.i s.size) ⟨#[37,37]⟩=true then ⟨x.i+2,x.lit++[37],x.parts,x.pl,x.e⟩
 else if sP s (x.i+1)=true then ⟨x.i+2,[],sS x.lit x.parts++[⟨⟨#[]⟩,gL s (x.i+1) - 48,false⟩],x.pl+1,x.e⟩
 else if qD (s.extract x.i s.size) ⟨#[37,100]⟩=true∧sP s (x.i+2)=true then ⟨x.i+3,[],sS x.lit x.parts++[⟨⟨#[]⟩,gL s (x.i+2) - 48,true⟩],x.pl+1,x.e⟩
 else ⟨x.i,x.lit,x.parts,x.pl,14⟩
abbrev uH (b:Nat) (s:ByteArray) (x:sK) (p v q:aj):Nat × Obj:=gD b s x.i p v q x.pl x.e
theorem Tz {s:ByteArray} {k:Nat} (h:sP s k=true):k < s.size∧49≤gL s k∧gL s k≤57:=by
 simpa [sP,and_assoc] using h
set_option maxHeartbeats 1000000 in
theorem aiV (G:GH) (Lp Lo:OL) (w0:World) (b:Nat) (s:ByteArray) (x:sK) (p v q:aj) (hR:yD b x.lit x.parts p v q Lp Lo) (hO:gX G (uH b s x p v q :: (Lp++Lo)) w0) (hs:s.size≤4294967290) (hi:x.i < s.size) (hl:x.lit.length≤4294967290) (hp:x.parts.length≤4294967290) (hpl:x.pl≤4294967290) :
    Calls prog 158 #[(aJ b 0)] w0 (gH w0 G (uH b s x p v q :: (Lp++Lo)) fun u G' L'=>∃ p' v' q' pz fC,L'=uH b s (nN s x) p' v' q' :: (pz++fC)∧yD b (nN s x).lit (nN s x).parts p' v' q' pz fC):=by
  obtain ⟨i,lit,parts,pl,e⟩:=x;dsimp only [uH] at *
  have hex:(s.extract i s.size).size≤4611686018427387904:=by rw [ByteArray.size_extract];omega
  obtain ⟨A,c,rfl,V5,V6⟩:=hR.buf.shape;obtain ⟨B,d,rfl,VN,VO⟩:=hR.prt.shape;obtain ⟨Lt,og⟩:∃ x,x=Lp++Lo:=⟨_,rfl⟩;rw [← og] at hO ⊢;refine kg (N:=93) (T:=[(0,_)]) func158 rfl ntmps158 rfl rfl hO ?_;intro a H;refine yI ?_;refine bG (fun _ K1=>?_);refine dI hmx [[],[0],[0,1],[0,1,2],[],[4],[4,5],[4,5,6],(ra 0 8),(ra 0 9),(ra 0 10)] [] (by kernel_rfl) [_,_,_,.string s,_,_,_,vi i,.string (s.extract i s.size),.bool (qD (s.extract i s.size) ⟨#[37,37]⟩),_] H (aG (Z0 rfl (Rm rfl)) (Z1 0 6 rfl (Rk rfl)) (Z1 1 7 rfl (Rf uX rfl)) (Z1 2 8 rfl (Ro gG 0 rfl)) (aG (Z0 rfl (Rm rfl)) (Z1 4 10 rfl (Rk rfl)) (Z1 5 11 rfl (Rf oG rfl)) (Z1 6 12 rfl (Ro aH 0 rfl)) (aU ?_ (aU ?_ (aU (Z1 9 15 rfl (Ra rfl)) bZ))))) ?_
  · refine dG 3 9 7 13 rfl rfl fun _ a w G1 hG HT H fin=>?_;refine Qq i gy H wn rfl rfl rfl (by omega) rfl ?_;clear H;intro a H;exact fin H iJ rfl
  · refine dO 8 14 rfl rfl fun _ a w G1 hG HT H fin=>?_;refine s_call M8 H wn rfl (Oq _ _ H.ro _ _ hex (by decide)) rfl ?_;clear H;rintro v15 Em a w ⟨rfl,rfl⟩ Dh H;exact fin H Dh (rfl)
  clear H;intro a w G ng H hv;have H:=H.aQ (hv 10 5 rfl rfl) rfl;clear hv;refine aI ⟨rfl,?_⟩;refine K1 _ _ ?_;clear K1;refine lW H rfl ?_ ?_
  · intro h5
    try have p5:=dT h5
    refine kP H (SR fun _ K2=>Rm rfl (Rk rfl (Rf GQ rfl ?_)));clear H;intro a H;refine gV TM (Li:=[]) (L:=gD b s i p (.slice A lit.length c) (.slice B parts.length d) pl e :: Lt) H wn rfl (by subst og;exact YU _ Lp Lo _ b s i p _ B parts.length d pl e lit.length _ 37 hR.ptr (Hp.owns (Li:=[]) H.hp) hR.buf (by omega)) rfl ?_;clear H;rintro v19 _ L19 a w ⟨amD,Cz,rfl,wE,rfl⟩ rQ H;dsimp only [List.nil_append] at H;obtain ⟨IU,c19,rfl,-,-⟩:=wE.shape;refine K2 _ _ ?_;clear K2;refine kP H (SC (Rm rfl (Rk rfl (aW oG aH 0 rfl rfl (Rd rfl (Rk rfl (Rf oG rfl ?_)))))));clear H;intro a H;refine bM aH 0 (vs:=[_]) _ H wn rfl rfl rfl rfl rfl rfl rfl rfl ?_;clear H;intro w H;dsimp only [List.set,setRow] at H;refine aI ?_;refine (leave0 H results158 ?_).2;exact H.hp.eP ⟨_,_,_,Lp,Cz,by rw [nN,au h5];rfl,by rw [nN,au h5];exact ⟨.inr rfl,by simpa [Lib.byteCells] using wE,hR.prt⟩⟩
  intro h5
  try have p5:=dF h5
  refine kP H (SR fun _ K3=>Rm rfl (Rm rfl (Rk rfl (aW oG aH 0 rfl rfl (Rd rfl ?_)))));clear H;intro a H;rw [show ((i:Int)+1)=((i+1:Nat):Int) from rfl] at H;refine gV TP (Li:=[]) (L:=gD b s i p (.slice A lit.length c) (.slice B parts.length d) pl e :: Lt) H wn rfl (TA _ Lt _ b s i p _ _ pl e (i+1) (by omega) (Hp.owns (Li:=[]) H.hp)) rfl ?_;clear H;rintro v34 _ L34 a w ⟨rfl,rfl,rfl⟩ Vq H;dsimp only [List.nil_append] at H;refine kH H (ak K3 rfl (Cd rfl ?_ ?_)) <;> clear H K3
  · intro h27 a H
    try have p27:=dT h27
    have hd1:=Tz h27;refine bG (fun _ K4=>?_);refine dI hmx [[],[],[1],[1,2],[1,2,3],[],[5],[5,6],[5,6,7],(ra 5 4),(ra 1 9),(ra 0 11)] [11] (by kernel_rfl) [_,_,_,_,.string s,_,_,_,vi i,_,.int .u8 (gL s (i+1))] H (aG (Z0 rfl (Rm rfl)) (Z0 rfl (Rm rfl)) (Z1 1 36 rfl (Rk rfl)) (Z1 2 37 rfl (Rf uX rfl)) (aG (Z1 3 38 rfl (Ro gG 0 rfl)) (Z0 rfl (Rm rfl)) (Z1 5 40 rfl (Rk rfl)) (Z1 6 41 rfl (Rf oG rfl)) (aG (Z1 7 42 rfl (Ro aH 0 rfl)) (Z1 8 43 rfl (Rd rfl)) ?_ (bN rfl) bZ))) ?_
    · refine dG 4 39 9 44 rfl rfl fun _ a w G1 hG HT H fin=>?_;refine nP (i+1) gy H wn rfl rfl rfl hd1.1 rfl ?_;clear H;intro a H;rw [← lV] at H;exact fin H iJ rfl
    clear H;intro a w G lM H hv;have H:=H.aQ (hv 0 35 rfl rfl) rfl;have H:=H.aQ (hv 10 45 rfl rfl) rfl;clear hv;refine gV TQ (Li:=[]) (L:=gD b s i p (.slice A lit.length c) (.slice B parts.length d) pl e :: Lt) H wn rfl (by subst og;exact Xu _ Lp Lo _ b s i p _ _ pl e lit parts (gL s (i+1)) false hR (Hp.owns (Li:=[]) H.hp) (by omega) (by omega) hd1.2 (by omega)) rfl ?_;clear H;rintro v46 ZB L46 a w ⟨p46,akT,q46,F6,CF,rfl,Aj⟩ agl H;dsimp only [List.nil_append] at H;obtain ⟨Zk,c46,rfl,-,-⟩:=Aj.buf.shape;obtain ⟨Zo,d46,rfl,-,-⟩:=Aj.prt.shape;refine aI ⟨rfl,?_⟩;refine K4 _ _ ?_;clear K4;refine kP H (SC (Rm rfl (Rk rfl (aW oG aH 0 rfl rfl (Rd rfl (Rk rfl (Rf oG rfl ?_)))))));clear H;intro a H;refine bM aH 0 (vs:=[_]) _ H wn rfl rfl rfl rfl rfl rfl rfl rfl ?_;clear H;intro w H;dsimp only [List.set,setRow] at H;refine aI ?_;refine (leave0 H results158 ?_).2;exact H.hp.eP ⟨_,_,_,F6,CF,by rw [nN,ah (by simp [h5]),au h27];rfl,by rw [nN,ah (by simp [h5]),au h27];exact Aj⟩
  intro h27 a H
  try have p27:=dF h27
  refine bG (fun _ K5=>?_)
  by_cases c1:qD (s.extract i s.size) ⟨#[37,100]⟩=true
  · skip;refine dI hmx [[],[0],[0,1],[0,1,2],[],[4],[4,5],[4,5,6],(ra 0 8),(ra 0 9),(ra 0 10),(ra 0 11),(ra 0 11),(ra 0 11++[12]),(ra 0 11++[12,13]),(ra 0 11++[12,13,14]),(ra 0 11++ra 12 4),(ra 0 17),(ra 0 18),(ra 0 19)] [] (by kernel_rfl) [_,_,_,.string s,_,_,_,vi i,.string (s.extract i s.size),.bool (qD (s.extract i s.size) ⟨#[37,100]⟩),.bool (decide (qD (s.extract i s.size) ⟨#[37,100]⟩=true)),_,_,(aJ b 0),_,vi i,vi ((i+2:Nat):Int),.bool (sP s (i+2)),_,_] H (aG (Z0 rfl (Rm rfl)) (Z1 0 55 rfl (Rk rfl)) (Z1 1 56 rfl (Rf uX rfl)) (Z1 2 57 rfl (Ro gG 0 rfl)) (aG (Z0 rfl (Rm rfl)) (Z1 4 59 rfl (Rk rfl)) (Z1 5 60 rfl (Rf oG rfl)) (Z1 6 61 rfl (Ro aH 0 rfl)) (aG ?_ ?_ ?_ (Z1 10 65 rfl (YM (aC c1) rfl)) (aG (Z1 10 65 rfl (YM (aC c1) rfl)) ?_ (Z2 13 68 10 65 rfl (YF oG (aC c1) rfl)) (Z2 14 69 10 65 rfl (YO aH 0 (aC c1) rfl)) (aG ?_ ?_ (Z2 10 65 17 72 rfl (Pt (aC c1) rfl)) (Z1 18 73 rfl (Ra rfl)) bZ))))) ?_
    · refine dG 3 58 7 62 rfl rfl fun _ a w G1 hG HT H fin=>?_;refine Qq i gy H wn rfl rfl rfl (by omega) rfl ?_;clear H;intro a H;exact fin H iJ rfl
    · refine dO 8 63 rfl rfl fun _ a w G1 hG HT H fin=>?_;refine s_call M8 H wn rfl (Oq _ _ H.ro _ _ hex (by decide)) rfl ?_;clear H;rintro v64 Rh a w ⟨rfl,rfl⟩ Od H;exact fin H Od (rfl)
    · refine dO 9 64 rfl rfl fun _ a w G1 hG HT H fin=>?_;refine kH H (Rm rfl ?_);clear H;intro a H;exact fin H iJ (by show _=_;simp)
    · refine dG 12 67 10 65 rfl rfl fun _ a w G1 hG HT H fin=>?_;refine rX H (wg H rfl rfl (aC c1)) rfl rfl ?_;clear H;intro a H;exact fin H iJ rfl
    · refine dG 15 70 10 65 rfl rfl fun _ a w G1 hG HT H fin=>?_;refine Ip _ H (wg H rfl rfl (aC c1)) rfl rfl rfl (by omega) (by omega) rfl ?_;clear H;intro a H;exact fin H iJ rfl
    · refine pE 11 66 16 71 10 65 rfl rfl fun _ a w G1 hG HT H fin=>?_;refine gV TP (Li:=[]) (L:=gD b s i p (.slice A lit.length c) (.slice B parts.length d) pl e :: Lt) H (wg H rfl rfl (aC c1)) rfl (TA _ Lt _ b s i p _ _ pl e (i+2) (by omega) (Hp.owns (Li:=[]) H.hp)) rfl ?_;clear H;rintro v72 ZM L72 a w ⟨rfl,rfl,rfl⟩ Oe H;dsimp only [List.nil_append] at H;exact fin H Oe (rfl)
    clear H;intro a w G xB H hv;have H:=H.aQ (hv 19 54 rfl rfl) rfl;clear hv;refine aI ⟨rfl,?_⟩;refine K5 _ _ ?_;clear K5;refine lW H rfl ?_ ?_
    · intro iw
      try have p54:=dT iw
      have hd2:=Tz iw;refine bG (fun _ K6=>?_);refine dI hmx [[],[],[1],[1,2],[1,2,3],[],[5],[5,6],[5,6,7],(ra 5 4),(ra 1 9),(ra 0 11)] [11] (by kernel_rfl) [_,_,_,_,.string s,_,_,_,vi i,_,.int .u8 (gL s (i+2))] H (aG (Z0 rfl (Rm rfl)) (Z0 rfl (Rm rfl)) (Z1 1 75 rfl (Rk rfl)) (Z1 2 76 rfl (Rf uX rfl)) (aG (Z1 3 77 rfl (Ro gG 0 rfl)) (Z0 rfl (Rm rfl)) (Z1 5 79 rfl (Rk rfl)) (Z1 6 80 rfl (Rf oG rfl)) (aG (Z1 7 81 rfl (Ro aH 0 rfl)) (Z1 8 82 rfl (Rd rfl)) ?_ (bN rfl) bZ))) ?_
      · refine dG 4 78 9 83 rfl rfl fun _ a w G1 hG HT H fin=>?_;refine nP (i+2) gy H wn rfl rfl rfl hd2.1 rfl ?_;clear H;intro a H;rw [← lV] at H;exact fin H iJ rfl
      clear H;intro a w G qQ H hv;have H:=H.aQ (hv 0 74 rfl rfl) rfl;have H:=H.aQ (hv 10 84 rfl rfl) rfl;clear hv;refine gV TQ (Li:=[]) (L:=gD b s i p (.slice A lit.length c) (.slice B parts.length d) pl e :: Lt) H wn rfl (by subst og;exact Xu _ Lp Lo _ b s i p _ _ pl e lit parts (gL s (i+2)) true hR (Hp.owns (Li:=[]) H.hp) (by omega) (by omega) hd2.2 (by omega)) rfl ?_;clear H;rintro v85 G85 L85 a w ⟨p46,akT,q46,F6,CF,rfl,Aj⟩ ame H;dsimp only [List.nil_append] at H;obtain ⟨Zk,c46,rfl,-,-⟩:=Aj.buf.shape;obtain ⟨Zo,d46,rfl,-,-⟩:=Aj.prt.shape;refine aI ⟨rfl,?_⟩;refine K6 _ _ ?_;clear K6;refine kP H (SC (Rm rfl (Rk rfl (aW oG aH 0 rfl rfl (Rd rfl (Rk rfl (Rf oG rfl ?_)))))));clear H;intro a H;refine bM aH 0 (vs:=[_]) _ H wn rfl rfl rfl rfl rfl rfl rfl rfl ?_;clear H;intro w H;dsimp only [List.set,setRow] at H;refine aI ?_;refine (leave0 H results158 ?_).2
      have uz:¬ qD (s.extract i s.size) ⟨#[37,37]⟩=true:=by simp [h5]
      have uy:¬ sP s (i+1)=true:=by simp [h27]
      first
        | exact H.hp.eP ⟨_,_,_,F6,CF,by rw [nN,ah uz,ah uy,au ⟨c1,iw⟩];rfl,by rw [nN,ah uz,ah uy,au ⟨c1,iw⟩];exact Aj⟩
        | (have BJ:¬ (qD (s.extract i s.size) ⟨#[37,100]⟩=true∧sP s (i+2)=true):=by simp_all
           exact H.hp.eP ⟨_,_,_,Lp,Lo,by rw [nN,ah uz,ah uy,ah BJ,og],by rw [nN,ah uz,ah uy,ah BJ];exact hR⟩)
    intro iw
    try have p54:=dF iw
    refine kP H (SC (Rm rfl (Rk rfl (Rf yN rfl ?_))));clear H;intro a H;refine bM gF 0 (vs:=[_]) _ H wn rfl rfl rfl rfl rfl rfl rfl rfl ?_;clear H;intro w H;dsimp only [List.set,setRow] at H;refine aI ?_;refine (leave0 H results158 ?_).2
    have uz:¬ qD (s.extract i s.size) ⟨#[37,37]⟩=true:=by simp [h5]
    have uy:¬ sP s (i+1)=true:=by simp [h27]
    first
      | exact H.hp.eP ⟨_,_,_,F6,CF,by rw [nN,ah uz,ah uy,au ⟨c1,iw⟩];rfl,by rw [nN,ah uz,ah uy,au ⟨c1,iw⟩];exact Aj⟩
      | (have BJ:¬ (qD (s.extract i s.size) ⟨#[37,100]⟩=true∧sP s (i+2)=true):=by simp_all
         exact H.hp.eP ⟨_,_,_,Lp,Lo,by rw [nN,ah uz,ah uy,ah BJ,og],by rw [nN,ah uz,ah uy,ah BJ];exact hR⟩)
  skip;refine dI hmx [[],[0],[0,1],[0,1,2],[],[4],[4,5],[4,5,6],(ra 0 8),(ra 0 9),(ra 0 10),(ra 0 11),(ra 0 11),(ra 0 11++[12]),(ra 0 11++[12,13]),(ra 0 11++[12,13,14]),(ra 0 11++ra 12 4),(ra 0 17),(ra 0 18),(ra 0 19)] [] (by kernel_rfl) [_,_,_,.string s,_,_,_,vi i,.string (s.extract i s.size),.bool (qD (s.extract i s.size) ⟨#[37,100]⟩),.bool (decide (qD (s.extract i s.size) ⟨#[37,100]⟩=true)),undef,undef,undef,undef,undef,undef,undef,_,_] H (aG (Z0 rfl (Rm rfl)) (Z1 0 55 rfl (Rk rfl)) (Z1 1 56 rfl (Rf uX rfl)) (Z1 2 57 rfl (Ro gG 0 rfl)) (aG (Z0 rfl (Rm rfl)) (Z1 4 59 rfl (Rk rfl)) (Z1 5 60 rfl (Rf oG rfl)) (Z1 6 61 rfl (Ro aH 0 rfl)) (aG ?_ ?_ ?_ (aN (j:=10) (by kernel_rfl) (fun _ _ _ _ _ h=>h) rfl rfl rfl rfl rfl (fun _ _ h=>aO h (aB (aK c1))) rfl (fun _=>rfl)) (aG (aN (j:=10) (by kernel_rfl) (fun _ _ _ _ _ h=>h) rfl rfl rfl rfl rfl (fun _ _ h=>aO h (aB (aK c1))) rfl (fun _=>rfl)) (aN (j:=10) (by kernel_rfl) (fun _ _ _ _ _ h=>h) rfl rfl rfl rfl rfl (fun _ _ h=>aO h (aB (aK c1))) rfl (fun _=>rfl)) (aN (j:=10) (by kernel_rfl) (fun _ _ _ _ _ h=>h) rfl rfl rfl rfl rfl (fun _ _ h=>aO h (aB (aK c1))) rfl (fun _=>rfl)) (aN (j:=10) (by kernel_rfl) (fun _ _ _ _ _ h=>h) rfl rfl rfl rfl rfl (fun _ _ h=>aO h (aB (aK c1))) rfl (fun _=>rfl)) (aG (aN (j:=10) (by kernel_rfl) (fun _ _ _ _ _ h=>h) rfl rfl rfl rfl rfl (fun _ _ h=>aO h (aB (aK c1))) rfl (fun _=>rfl)) (aN (j:=10) (by kernel_rfl) (fun _ _ _ _ _ h=>h) rfl rfl rfl rfl rfl (fun _ _ h=>aO h (aB (aK c1))) rfl (fun _=>rfl)) (Z2 10 65 17 72 rfl (Pf (aK c1) rfl)) (Z1 18 73 rfl (Ra rfl)) bZ))))) ?_
  · refine dG 3 58 7 62 rfl rfl fun _ a w G1 hG HT H fin=>?_;refine Qq i gy H wn rfl rfl rfl (by omega) rfl ?_;clear H;intro a H;exact fin H iJ rfl
  · refine dO 8 63 rfl rfl fun _ a w G1 hG HT H fin=>?_;refine s_call M8 H wn rfl (Oq _ _ H.ro _ _ hex (by decide)) rfl ?_;clear H;rintro v64 Rh a w ⟨rfl,rfl⟩ Od H;exact fin H Od (rfl)
  · refine dO 9 64 rfl rfl fun _ a w G1 hG HT H fin=>?_;refine kH H (Rm rfl ?_);clear H;intro a H;exact fin H iJ (by show _=_;simp)
  clear H;intro a w G xB H hv;have H:=H.aQ (hv 19 54 rfl rfl) rfl;clear hv;refine aI ⟨rfl,?_⟩;refine K5 _ _ ?_;clear K5;refine lI H rfl rfl ?_;refine kP H (SC (Rm rfl (Rk rfl (Rf yN rfl ?_))));clear H;intro a H;refine bM gF 0 (vs:=[_]) _ H wn rfl rfl rfl rfl rfl rfl rfl rfl ?_;clear H;intro w H;dsimp only [List.set,setRow] at H;refine aI ?_;refine (leave0 H results158 ?_).2
  have uz:¬ qD (s.extract i s.size) ⟨#[37,37]⟩=true:=by simp [h5]
  have uy:¬ sP s (i+1)=true:=by simp [h27]
  first
    | exact H.hp.eP ⟨_,_,_,F6,CF,by rw [nN,ah uz,ah uy,au ⟨c1,iw⟩];rfl,by rw [nN,ah uz,ah uy,au ⟨c1,iw⟩];exact Aj⟩
    | (have BJ:¬ (qD (s.extract i s.size) ⟨#[37,100]⟩=true∧sP s (i+2)=true):=by simp_all
       exact H.hp.eP ⟨_,_,_,Lp,Lo,by rw [nN,ah uz,ah uy,ah BJ,og],by rw [nN,ah uz,ah uy,ah BJ];exact hR⟩)
end
section
open Go.RowKit
theorem ade:∀ args w,(callFunc 158 args).run prog w=.ok (.enter 158 args) w:=enters func158 rfl (by kernel_rfl)
def Js (s:ByteArray) (i:Nat):UInt8:=if h:i < s.size then s[i] else 0
theorem aay (s:ByteArray) (i:Nat):gL s i=((Js s i).toNat:Int):=by
 unfold gL Js;split <;> rfl
def nu (s:ByteArray) (x:sK):sK:=if gL s x.i=37 then nN s x else ⟨x.i+1,x.lit++[Js s x.i],x.parts,x.pl,x.e⟩
def AQ (s:ByteArray):Nat→sK→sK
 | 0,x=>x
 | f+1,x=>if x.i < s.size∧x.e=0 then AQ s f (nu s x) else x
def mS (s:ByteArray) (x:sK):Nat:=if x.e=0 then s.size - x.i else 0
theorem X8 {s:ByteArray} {f:Nat} {x:sK} (h:¬ (x.i < s.size∧x.e=0)):AQ s f x=x:=by
 cases f with
 | zero=>rfl
 | succ f=>rw [AQ,ah h]
theorem aeR (lit:List UInt8) (parts:List iU):(sS lit parts).length≤parts.length+1:=by unfold sS;split <;> simp
theorem Yp (s:ByteArray) (x:sK) (h:x.i < s.size∧x.e=0) (h1:x.lit.length≤x.i) (h2:x.parts.length≤2*x.i) (h3:x.pl≤x.i) :
  (nu s x).i≤x.i+3∧(nu s x).lit.length≤(nu s x).i∧(nu s x).parts.length≤2*(nu s x).i∧(nu s x).pl≤(nu s x).i∧mS s (nu s x) < mS s x∧mS s x≤s.size:=by
 have hf:=aeR x.lit x.parts;have hm:mS s x=s.size - x.i:=au h.2
 unfold nu nN
 split
 ·split
  ·refine ⟨?_,?_,?_,?_,?_,?_⟩ <;> simp only [mS,lF,nV,List.length_nil] at*<;> simp only [h.2,if_true] at*<;> omega
  split
  ·refine ⟨?_,?_,?_,?_,?_,?_⟩ <;> simp only [mS,lF,nV,List.length_nil] at*<;> simp only [h.2,if_true] at*<;> omega
  split
  ·refine ⟨?_,?_,?_,?_,?_,?_⟩ <;> simp only [mS,lF,nV,List.length_nil] at*<;> simp only [h.2,if_true] at*<;> omega
  refine ⟨?_,?_,?_,?_,?_,?_⟩ <;> simp only [mS,lF,nV,List.length_nil] at*<;> simp only [h.2,if_true] at*<;> (try omega) <;> (simp;omega)
 refine ⟨?_,?_,?_,?_,?_,?_⟩ <;> simp only [mS,lF,nV,List.length_nil] at*<;> simp only [h.2,if_true] at*<;> omega
def zm:sK:=⟨0,[],[],0,0⟩
def jO (s:ByteArray):sK:=AQ s s.size zm
def rY (x:sK):Int:=if x.e=0∧9 < (x.pl:Int) then 9 else x.e
set_option maxHeartbeats 1000000 in
theorem ajP (G:GH) (Ji Jg:OL) (w0:World) (b:Nat) (s:ByteArray) (p0 v0 q0:aj) (hR:yD b [] [] p0 v0 q0 Ji Jg) (hO:gX G (uH b s zm p0 v0 q0 :: (Ji++Jg)) w0) (hs:s.size≤1073741824) :
  Calls prog 154 #[(aJ b 0)] w0 (gH w0 G (uH b s zm p0 v0 q0 :: (Ji++Jg)) fun u G' L'=>∃ p' v' q' pz fC,L'=gD b s (jO s).i p' v' q' (jO s).pl (rY (jO s)) :: (pz++fC)∧yD b [] (sS (jO s).lit (jO s).parts) p' v' q' pz fC):=by
 obtain ⟨A0,c0,rfl,-,-⟩:=hR.buf.shape;obtain ⟨B0,d0,rfl,-,-⟩:=hR.prt.shape;refine kg (N:=68) (T:=[(0,_)]) func154 rfl ntmps154 rfl rfl hO ?_;intro a H;refine bG (fun _ K1=>?_);refine yI ?_;skip;refine eU (ι:=Nat × sK × aj × Option Addr × Nat × Option Addr × Nat × OL × OL × GH) (Tc:=[(0,_)]) (Lc:=[]) (fun gh=>[]) (fun gh=>[uH b s gh.2.1 gh.2.2.1 (.slice gh.2.2.2.1 gh.2.1.lit.length gh.2.2.2.2.1) (.slice gh.2.2.2.2.2.1 gh.2.1.parts.length gh.2.2.2.2.2.2.1)]++(gh.2.2.2.2.2.2.2.1++gh.2.2.2.2.2.2.2.2.1)) (fun gh=>gh.2.2.2.2.2.2.2.2.2) (fun gh=>yD b gh.2.1.lit gh.2.1.parts gh.2.2.1 (.slice gh.2.2.2.1 gh.2.1.lit.length gh.2.2.2.2.1) (.slice gh.2.2.2.2.2.1 gh.2.1.parts.length gh.2.2.2.2.2.2.1) gh.2.2.2.2.2.2.2.1 gh.2.2.2.2.2.2.2.2.1∧AQ s gh.1 gh.2.1=jO s∧mS s gh.2.1≤gh.1∧gh.1≤s.size∧gh.2.1.i≤s.size+3∧gh.2.1.lit.length≤gh.2.1.i∧gh.2.1.parts.length≤2*gh.2.1.i∧gh.2.1.pl≤gh.2.1.i) (fun gh=>gh.1) ((s.size,zm,p0,A0,c0,B0,d0,Ji,Jg,G)) (by exact (H).sub ⟨rfl,aD⟩) ?_ ?_
 ·exact ⟨hR,rfl,by simp [mS,zm],bV _,by simp [zm],by simp [zm],by simp [zm],by simp [zm]⟩
 clear H;intro gh a w hI H;obtain ⟨k,x,p,vA,vc,qA,qc,Lp,Lo,g⟩:=gh;dsimp only at hI H;obtain ⟨hR,hsc,hmk,hks,hxi,hx1,hx2,hx3⟩:=hI;dsimp only [lca,bD] at H;refine bG (fun _ K2=>?_);refine bG (fun _ K3=>?_)
 by_cases c0:(x.i:Int) < (s.size:Int)
 ·skip
  by_cases c1:x.e=0
  ·skip;refine dI hmx [[],[0],[0,1],[0,1,2],[],[4],[4,5],[4,5,6],(ra 4 4),(ra 0 9),(ra 0 10),(ra 0 11),(ra 0 12),(ra 0 13),(ra 0 14),(ra 0 15),(ra 0 16)] [] (by kernel_rfl) [_,_,_,vi x.i,_,_,_,.string s,_,_,_,_,(aJ b 0),_,vi x.e,_,_] H (aG (Z0 rfl (Rm rfl)) (Z1 0 2 rfl (Rk rfl)) (Z1 1 3 rfl (Rf oG rfl)) (Z1 2 4 rfl (Ro aH 0 rfl)) (aG (Z0 rfl (Rm rfl)) (Z1 4 6 rfl (Rk rfl)) (Z1 5 7 rfl (Rf uX rfl)) (Z1 6 8 rfl (Ro gG 0 rfl)) (aG (Z1 7 9 rfl (Rv gy rfl)) (Z2 3 5 8 10 rfl (Rc rfl)) (Z1 9 11 rfl (Rm rfl)) (Z1 10 12 rfl (YM (aC c0) rfl)) (aG ?_ (Z2 12 14 10 12 rfl (YF yN (aC c0) rfl)) (Z2 13 15 10 12 rfl (YO gF 0 (aC c0) rfl)) (Z2 14 16 10 12 rfl (YC (aC c0) rfl)) (aU (Z2 10 12 15 17 rfl (Pt (aC c0) rfl)) bZ))))) ?_
   ·refine dG 11 13 10 12 rfl rfl fun _ a w G1 hG HT H fin=>?_;refine rX H (wg H rfl rfl (aC c0)) rfl rfl ?_;clear H;intro a H;exact fin H iJ rfl
   clear H;intro a w G U5 H hv;have H:=H.aQ (hv 16 18 rfl rfl) rfl;clear hv;refine aI ⟨rfl,?_⟩;refine K3 _ _ ?_;clear K3;refine qL H rfl (aC c1) ?_;refine kP H (Kc K2 (SB (SQ fun _ K4=>SQ fun _ K5=>?_)));clear H K2;intro a H;refine dI hmx [[],[0],[0,1],[0,1,2],[],[4],[4,5],[4,5,6],(ra 0 8),(ra 0 9)] [] (by kernel_rfl) [_,_,_,.string s,_,_,_,vi x.i,.int .u8 (gL s x.i),_] H (aG (Z0 rfl (Rm rfl)) (Z1 0 19 rfl (Rk rfl)) (Z1 1 20 rfl (Rf uX rfl)) (Z1 2 21 rfl (Ro gG 0 rfl)) (aG (Z0 rfl (Rm rfl)) (Z1 4 23 rfl (Rk rfl)) (Z1 5 24 rfl (Rf oG rfl)) (Z1 6 25 rfl (Ro aH 0 rfl)) (aU ?_ (aU (Z1 8 27 rfl (Rc rfl)) bZ)))) ?_
   ·refine dG 3 22 7 26 rfl rfl fun _ a w G1 hG HT H fin=>?_;refine nP x.i gy H wn rfl rfl rfl (by omega) rfl ?_;clear H;intro a H;rw [← lV] at H;exact fin H iJ rfl
   clear H;intro a w G ng H hv;have H:=H.aQ (hv 9 28 rfl rfl) rfl;clear hv;refine aI ⟨rfl,?_⟩;refine K5 _ _ ?_;clear K5;refine lW H rfl ?_ ?_
   ·intro fE
    try have p28:=dT fE
    refine kP H (SR fun _ K6=>Rm rfl ?_);clear H;intro a H;refine gV ade (Li:=[]) (L:=uH b s x p (.slice vA x.lit.length vc) (.slice qA x.parts.length qc) :: (Lp++Lo)) H wn rfl (aiV _ Lp Lo _ b s x p _ _ hR (Hp.owns (Li:=[]) H.hp) (by omega) (by omega) (by omega) (by omega) (by omega)) rfl ?_;clear H;rintro v30 Cu L30 a w ⟨p',v',q',pz,fC,rfl,JX⟩ Dq H;dsimp only [List.nil_append] at H;have hst:nu s x=nN s x:=au p28;have hok:=Yp s x ⟨by omega,c1⟩ hx1 hx2 hx3
    have hkk:k=(k - 1)+1:=by omega
    have O5:AQ s (k - 1) (nu s x)=jO s:=by rw [hkk,AQ,au ⟨by omega,c1⟩] at hsc;exact hsc
    rw [← hst] at H JX;obtain ⟨Zi,c30,rfl,-,-⟩:=JX.buf.shape;obtain ⟨Zn,d30,rfl,-,-⟩:=JX.prt.shape;refine K6 _ _ ?_;clear K6;refine dQ ?_;refine cK ((k - 1,nu s x,p',Zi,c30,Zn,d30,pz,fC,Cu)) (by exact (H).sub ⟨rfl,aD⟩) ?_ ?_
    ·(try dsimp only);exact ⟨JX,O5,by omega,by omega,by omega,by omega,by omega,by omega⟩
    first|omega|(dsimp only;omega)
   intro fE
   try have p28:=dF fE
   refine fT ?_;refine K4 _ _ ?_;clear K4;refine bG (fun _ K7=>?_);refine dI hmx [[],[0],[0,1],[],[3],[3,4],[3,4,5],[],[7],[7,8],[7,8,9],(ra 3 8),(ra 0 12)] [12] (by kernel_rfl) [_,_,_,_,_,_,.string s,_,_,_,vi x.i,.int .u8 (gL s x.i)] H (aG (Z0 rfl (Rm rfl)) (Z1 0 31 rfl (Rk rfl)) (Z1 1 32 rfl (Rf GQ rfl)) (Z0 rfl (Rm rfl)) (aG (Z1 3 34 rfl (Rk rfl)) (Z1 4 35 rfl (Rf uX rfl)) (Z1 5 36 rfl (Ro gG 0 rfl)) (Z0 rfl (Rm rfl)) (aG (Z1 7 38 rfl (Rk rfl)) (Z1 8 39 rfl (Rf oG rfl)) (Z1 9 40 rfl (Ro aH 0 rfl)) ?_ (aU (bN rfl) bZ)))) ?_
   ·refine dG 6 37 10 41 rfl rfl fun _ a w G1 hG HT H fin=>?_;refine nP x.i gy H wn rfl rfl rfl (by omega) rfl ?_;clear H;intro a H;rw [← lV] at H;exact fin H iJ rfl
   clear H;intro a w G afj H hv;have H:=H.aQ (hv 2 33 rfl rfl) rfl;have H:=H.aQ (hv 11 42 rfl rfl) rfl;clear hv;refine gV TM (Li:=[]) (L:=uH b s x p (.slice vA x.lit.length vc) (.slice qA x.parts.length qc) :: (Lp++Lo)) H wn rfl (YU _ Lp Lo _ b s x.i p _ qA x.parts.length qc x.pl x.e x.lit.length _ (gL s x.i) hR.ptr (Hp.owns (Li:=[]) H.hp) hR.buf (by omega)) rfl ?_;clear H;rintro v43 _ L43 a w ⟨amE,L8,rfl,VT,rfl⟩ BH H;dsimp only [List.nil_append] at H;obtain ⟨IV,Jt,rfl,-,-⟩:=VT.shape;have hst:nu s x=⟨x.i+1,x.lit++[Js s x.i],x.parts,x.pl,x.e⟩:=ah p28;have hok:=Yp s x ⟨by omega,c1⟩ hx1 hx2 hx3
   have hkk:k=(k - 1)+1:=by omega
   have O5:AQ s (k - 1) (nu s x)=jO s:=by rw [hkk,AQ,au ⟨by omega,c1⟩] at hsc;exact hsc
   have afC:yD b (nu s x).lit (nu s x).parts (aJ b 2) (.slice IV (nu s x).lit.length Jt) (.slice qA (nu s x).parts.length qc) Lp L8:=by
    rw [hst];exact ⟨.inr rfl,by simpa [Lib.byteCells,aay] using VT,hR.prt⟩
   refine aI ⟨rfl,?_⟩;refine K7 _ _ ?_;clear K7;refine kP H (SC (Rm rfl (Rk rfl (aW oG aH 0 rfl rfl (Rd rfl (Rk rfl (Rf oG rfl ?_)))))));clear H;intro a H;refine bM aH 0 (vs:=[_]) _ H wn rfl rfl rfl rfl rfl rfl rfl rfl ?_;clear H;intro w H;dsimp only [List.set,setRow] at H;replace H:St _ _ _ _ _ _ (uH b s (nu s x) (aJ b 2) (.slice IV (nu s x).lit.length Jt) (.slice qA (nu s x).parts.length qc) :: (Lp++L8)) _ _ _:=H.cast (by rw [hst];simp [uH,gD]);refine aI ?_;refine cK ((k - 1,nu s x,(aJ b 2),IV,Jt,qA,qc,Lp,L8,_)) (by exact (H).sub ⟨rfl,aD⟩) ?_ ?_
   ·(try dsimp only);exact ⟨afC,O5,by omega,by omega,by omega,by omega,by omega,by omega⟩
   first|omega|(dsimp only;omega)
  skip;refine dI hmx [[],[0],[0,1],[0,1,2],[],[4],[4,5],[4,5,6],(ra 4 4),(ra 0 9),(ra 0 10),(ra 0 11),(ra 0 12),(ra 0 13),(ra 0 14),(ra 0 15),(ra 0 16)] [] (by kernel_rfl) [_,_,_,vi x.i,_,_,_,.string s,_,_,_,_,(aJ b 0),_,vi x.e,_,_] H (aG (Z0 rfl (Rm rfl)) (Z1 0 2 rfl (Rk rfl)) (Z1 1 3 rfl (Rf oG rfl)) (Z1 2 4 rfl (Ro aH 0 rfl)) (aG (Z0 rfl (Rm rfl)) (Z1 4 6 rfl (Rk rfl)) (Z1 5 7 rfl (Rf uX rfl)) (Z1 6 8 rfl (Ro gG 0 rfl)) (aG (Z1 7 9 rfl (Rv gy rfl)) (Z2 3 5 8 10 rfl (Rc rfl)) (Z1 9 11 rfl (Rm rfl)) (Z1 10 12 rfl (YM (aC c0) rfl)) (aG ?_ (Z2 12 14 10 12 rfl (YF yN (aC c0) rfl)) (Z2 13 15 10 12 rfl (YO gF 0 (aC c0) rfl)) (Z2 14 16 10 12 rfl (YC (aC c0) rfl)) (aU (Z2 10 12 15 17 rfl (Pt (aC c0) rfl)) bZ))))) ?_
  ·refine dG 11 13 10 12 rfl rfl fun _ a w G1 hG HT H fin=>?_;refine rX H (wg H rfl rfl (aC c0)) rfl rfl ?_;clear H;intro a H;exact fin H iJ rfl
  clear H;intro a w G U5 H hv;have H:=H.aQ (hv 16 18 rfl rfl) rfl;clear hv;refine aI ⟨rfl,?_⟩;refine K3 _ _ ?_;clear K3;refine lI H rfl (aK c1) ?_;refine dQ ?_;refine K1 _ _ ?_;clear K1;refine bG (fun _ K8=>?_)
  have Ph:x=jO s:=by
   rw [X8 (by first|exact fun h=>c0 (by omega)|exact fun h=>c1 h.2)] at hsc;exact hsc
  subst Ph;refine kP H (SC (Rm rfl ?_));clear H;intro a H;refine gV M7 (Li:=[]) (L:=uH b s (jO s) p (.slice vA (jO s).lit.length vc) (.slice qA (jO s).parts.length qc) :: (Lp++Lo)) H wn rfl (Nw _ Lp Lo _ b s (jO s).i p _ _ (jO s).pl (jO s).e (jO s).lit (jO s).parts hR (Hp.owns (Li:=[]) H.hp) (by omega) (by omega)) rfl ?_;clear H;rintro v52 ZE ZQ a w ⟨p52,akU,q52,Z6,ZW,rfl,qR⟩ agm H;dsimp only [List.nil_append] at H;obtain ⟨Zl,c52,rfl,-,-⟩:=qR.buf.shape;obtain ⟨Zp,d52,rfl,-,-⟩:=qR.prt.shape;refine kH H (Kn K8 (SR fun _ K9=>Rm rfl (Rk rfl (aW yN gF 0 rfl rfl (Rc rfl (Rm rfl (Sp 58 rfl ?_ ?_))))))) <;> clear H K8
  ·intro jL a H
   try have p58:=dT jL
   refine kH H (YM jL rfl ?_);clear H;intro a H;refine rX H (wg H rfl rfl jL) rfl rfl ?_;clear H;intro a H;refine kH H (YF JJ jL rfl (YO aH 0 jL rfl (YC jL rfl (Pt jL rfl (Kz K9 (Cd rfl ?_ ?_)))))) <;> clear H K9
   ·intro h64 a H
    try have p64:=dT h64
    refine kP H (SC (Rm rfl (Rk rfl (Rf yN rfl ?_))));clear H;intro a H;refine bM gF 0 (vs:=[_]) _ H wn rfl rfl rfl rfl rfl rfl rfl rfl ?_;clear H;intro w H;dsimp only [List.set,setRow] at H;refine aI ?_;refine (leave0 H results154 ?_).2
    first
     | exact H.hp.eP ⟨_,_,_,_,_,by rw [rY,au ⟨by assumption,by assumption⟩],qR⟩
     | exact H.hp.eP ⟨_,_,_,_,_,by rw [rY,ah (by first|exact fun h=>p58 h.1|exact fun h=>p64 h.2)],qR⟩
   intro h64 a H
   try have p64:=dF h64
   refine fT ?_;refine (leave0 H results154 ?_).2
   first
    | exact H.hp.eP ⟨_,_,_,_,_,by rw [rY,au ⟨by assumption,by assumption⟩],qR⟩
    | exact H.hp.eP ⟨_,_,_,_,_,by rw [rY,ah (by first|exact fun h=>p58 h.1|exact fun h=>p64 h.2)],qR⟩
  intro jL a H
  try have p58:=dF jL
  refine kH H (aY jL rfl (aS jL rfl (Pf jL rfl (Kz K9 (Cf rfl rfl ?_)))));clear H K9;intro a H;refine fT ?_;refine (leave0 H results154 ?_).2
  first
   | exact H.hp.eP ⟨_,_,_,_,_,by rw [rY,au ⟨by assumption,by assumption⟩],qR⟩
   | exact H.hp.eP ⟨_,_,_,_,_,by rw [rY,ah (by first|exact fun h=>p58 h.1|exact fun h=>p64 h.2)],qR⟩
 skip;refine dI hmx [[],[0],[0,1],[0,1,2],[],[4],[4,5],[4,5,6],(ra 4 4),(ra 0 9),(ra 0 10),(ra 0 11),(ra 0 12),(ra 0 13),(ra 0 14),(ra 0 15),(ra 0 16)] [] (by kernel_rfl) [_,_,_,vi x.i,_,_,_,.string s,_,_,_,undef,undef,undef,undef,undef,_] H (aG (Z0 rfl (Rm rfl)) (Z1 0 2 rfl (Rk rfl)) (Z1 1 3 rfl (Rf oG rfl)) (Z1 2 4 rfl (Ro aH 0 rfl)) (aG (Z0 rfl (Rm rfl)) (Z1 4 6 rfl (Rk rfl)) (Z1 5 7 rfl (Rf uX rfl)) (Z1 6 8 rfl (Ro gG 0 rfl)) (aG (Z1 7 9 rfl (Rv gy rfl)) (Z2 3 5 8 10 rfl (Rc rfl)) (Z1 9 11 rfl (Rm rfl)) (aN (j:=10) (by kernel_rfl) (fun _ _ _ _ _ h=>h) rfl rfl rfl rfl rfl (fun _ _ h=>aO h (aB (aK c0))) rfl (fun _=>rfl)) (aG (aN (j:=10) (by kernel_rfl) (fun _ _ _ _ _ h=>h) rfl rfl rfl rfl rfl (fun _ _ h=>aO h (aB (aK c0))) rfl (fun _=>rfl)) (aN (j:=10) (by kernel_rfl) (fun _ _ _ _ _ h=>h) rfl rfl rfl rfl rfl (fun _ _ h=>aO h (aB (aK c0))) rfl (fun _=>rfl)) (aN (j:=10) (by kernel_rfl) (fun _ _ _ _ _ h=>h) rfl rfl rfl rfl rfl (fun _ _ h=>aO h (aB (aK c0))) rfl (fun _=>rfl)) (aN (j:=10) (by kernel_rfl) (fun _ _ _ _ _ h=>h) rfl rfl rfl rfl rfl (fun _ _ h=>aO h (aB (aK c0))) rfl (fun _=>rfl)) (aU (Z2 10 12 15 17 rfl (Pf (aK c0) rfl)) bZ))))) ?_
 clear H;intro a w G U5 H hv;have H:=H.aQ (hv 16 18 rfl rfl) rfl;clear hv;refine aI ⟨rfl,?_⟩;refine K3 _ _ ?_;clear K3;refine lI H rfl rfl ?_;refine dQ ?_;refine K1 _ _ ?_;clear K1;refine bG (fun _ aT=>?_)
 have Ph:x=jO s:=by
  rw [X8 (by first|exact fun h=>c0 (by omega)|exact fun h=>c1 h.2)] at hsc;exact hsc
 subst Ph;refine kP H (SC (Rm rfl ?_));clear H;intro a H;refine gV M7 (Li:=[]) (L:=uH b s (jO s) p (.slice vA (jO s).lit.length vc) (.slice qA (jO s).parts.length qc) :: (Lp++Lo)) H wn rfl (Nw _ Lp Lo _ b s (jO s).i p _ _ (jO s).pl (jO s).e (jO s).lit (jO s).parts hR (Hp.owns (Li:=[]) H.hp) (by omega) (by omega)) rfl ?_;clear H;rintro v52 ZE ZQ a w ⟨p52,akU,q52,Z6,ZW,rfl,qR⟩ agm H;dsimp only [List.nil_append] at H;obtain ⟨Zl,c52,rfl,-,-⟩:=qR.buf.shape;obtain ⟨Zp,d52,rfl,-,-⟩:=qR.prt.shape;refine kH H (Kn aT (SR fun _ bC=>Rm rfl (Rk rfl (aW yN gF 0 rfl rfl (Rc rfl (Rm rfl (Sp 58 rfl ?_ ?_))))))) <;> clear H aT
 ·intro jL a H
  try have p58:=dT jL
  refine kH H (YM jL rfl ?_);clear H;intro a H;refine rX H (wg H rfl rfl jL) rfl rfl ?_;clear H;intro a H;refine kH H (YF JJ jL rfl (YO aH 0 jL rfl (YC jL rfl (Pt jL rfl (Kz bC (Cd rfl ?_ ?_)))))) <;> clear H bC
  ·intro h64 a H
   try have p64:=dT h64
   refine kP H (SC (Rm rfl (Rk rfl (Rf yN rfl ?_))));clear H;intro a H;refine bM gF 0 (vs:=[_]) _ H wn rfl rfl rfl rfl rfl rfl rfl rfl ?_;clear H;intro w H;dsimp only [List.set,setRow] at H;refine aI ?_;refine (leave0 H results154 ?_).2
   first
    | exact H.hp.eP ⟨_,_,_,_,_,by rw [rY,au ⟨by assumption,by assumption⟩],qR⟩
    | exact H.hp.eP ⟨_,_,_,_,_,by rw [rY,ah (by first|exact fun h=>p58 h.1|exact fun h=>p64 h.2)],qR⟩
  intro h64 a H
  try have p64:=dF h64
  refine fT ?_;refine (leave0 H results154 ?_).2
  first
   | exact H.hp.eP ⟨_,_,_,_,_,by rw [rY,au ⟨by assumption,by assumption⟩],qR⟩
   | exact H.hp.eP ⟨_,_,_,_,_,by rw [rY,ah (by first|exact fun h=>p58 h.1|exact fun h=>p64 h.2)],qR⟩
 intro jL a H
 try have p58:=dF jL
 refine kH H (aY jL rfl (aS jL rfl (Pf jL rfl (Kz bC (Cf rfl rfl ?_)))));clear H bC;intro a H;refine fT ?_;refine (leave0 H results154 ?_).2
 first
  | exact H.hp.eP ⟨_,_,_,_,_,by rw [rY,au ⟨by assumption,by assumption⟩],qR⟩
  | exact H.hp.eP ⟨_,_,_,_,_,by rw [rY,ah (by first|exact fun h=>p58 h.1|exact fun h=>p64 h.2)],qR⟩
end
section
open Go.RowKit
def yh (c:Int):List Dat:=[.lf (.int .u8 c)]
theorem Yw {G:GH} {c:Int} {cs:List aj} (h:aZ G (yh c) cs):cs=[.int .u8 c]:=by
 simp only [yh,aZ,av] at h
 obtain ⟨_,_,rfl,⟨rfl,_⟩,rfl⟩:=h
 rfl
def EB (s:ByteArray):List Int:=s.data.toList.map fun b=>(b.toNat:Int)
theorem aaD (G:GH) (l:List Int):fD G 1 (l.map yh) (l.map fun c=>Value.int .u8 c):=by
 refine ⟨l.map fun c=>[.int .u8 c],by induction l with|nil=>rfl|cons x r ih=>simp [ih],by simp,fun j r cs hr hc=>?_⟩
 rw [qp] at hr hc
 obtain ⟨x,hx,rfl⟩:=lu.1 hr
 rw [hx] at hc
 cases hc
 exact ⟨by simp only [yh,aZ];exact ⟨_,_,rfl,by simp [av,Value.oneCell'],rfl⟩,rfl⟩
theorem ajn {G:GH} {sz b o n cap:Nat} {cur:Array aj} {e:TypeId} {fz:Nat × Nat} {rows:List (List Dat)} (hb:G b=some (.cells cur e fz)) (h:av (fun k=>if k=b then some (.cells cur e (0,0)) else G k) (.sl sz rows) (.slice (some ⟨b,o,none⟩) n cap)) (hr:∀ r∈rows,∃ c,r=yh c):av G (.sl sz rows) (.slice (some ⟨b,o,none⟩) n cap):=by
 simp only [av] at h ⊢
 obtain ⟨A,c,h1,h2,h3,h4⟩:=h
 refine ⟨A,c,h1,h2,h3,fun hn=>?_⟩
 obtain ⟨b',o',e',hrr⟩:=h4 hn
 injection h1 with e1
 subst e1
 injection e' with e2
 injection e2 with e3 e4
 subst e3;subst e4
 refine ⟨_,_,rfl,lg.mk fun k r hk=>?_⟩
 obtain ⟨cs,g1,g2,g3⟩:=hrr.get hk
 refine ⟨cs,g1,fun j u hj=>?_,?_⟩
 ·have:=g2 j u hj
  unfold aL at this ⊢
  simp only [if_true] at this
  rw [hb];exact this
 ·obtain ⟨c,rfl⟩:=hr r (lU hk)
  have:=Yw g3
  subst this
  simp only [yh,aZ];exact ⟨_,_,rfl,by simp [av,Value.oneCell'],rfl⟩
section
variable {N:Nat} {D:List Deferred} {w0:World} {F:Nat→Prop} {G0 G:GH} {L:OL} {T:List (Nat × aj)}
variable {r:Option Nat} {P:Program} {ops:Array Oper} {Q:Exit→Act→World→Prop} {rest:List Oper} {a:Act} {w:World}
variable {d:Nat} {ty:TypeId} {pos:String} {aP:Array Edge} {g:Option (Nat × Bool)}
theorem akQ {w:World} {b o n:Nat} {c:Array aj} {e:TypeId} {fz:Nat × Nat} (h:w.heap[b]?=some (.cells c e fz)) (hn:n≠0):∃ C8,tK b (.cells c e C8) w (w.freeze ⟨b,o,none⟩ n):=by
 unfold World.freeze
 rw [ah hn]
 refine ⟨if fz.1 == fz.2 then (o,o+n) else (min fz.1 o,max fz.2 (o+n)),rfl,rfl,rfl,by simp,?_,fun k hk=>?_⟩
 ·simp [Array.getElem?_modify,h]
 ·simp [Array.getElem?_modify,Ne.symm hk]
theorem ajC {t u e:TypeId} {x:Operand} {s:ByteArray} (ht:P.underlying t=some .string) (hu:P.underlying u=some (.slice e)) (he:P.underlying e=some (.int .u8)) (H:St N D w0 F G0 G L T a w) (hw:Region.wanted ⟨some d,.convert t u x,ty,pos,aP,g⟩ (yielded ops a.tmps)=true) (hx:ev T x=some (.string s)) (hz:s.size≤4294967296) (hd:Nat.blt d N=true)
  (k:∀ v G' a' w',(∀ k o,G k=some o→G' k=some o)→av G' (.sl 1 ((EB s).map yh)) v→St N D w0 F G0 G' L ((d,v) :: T) a' w'→WL r P ops Q rest a' w'):WL r P ops Q (⟨some d,.convert t u x,ty,pos,aP,g⟩ :: rest) a w:=by
 have hc:=Lib.run_convert_string_bytes (P:=P) w t u e s ht hu he
 have hge:=grownCap_ge w s.size 0 e
 have hml:s.size≤maxLen:=by
  have:maxLen=9223372036854775807:=rfl
  omega
 have hgm:=grownCap_le_maxLen w s.size 0 e hml
 have H1:=H.hp.drew.alloc (.cells (Lib.bytesCells w e s) e)
 have hw1:(w.drew.alloc (.cells (Lib.bytesCells w e s) e)).heap[w.drew.heap.size]?=some (.cells (Lib.bytesCells w e s) e (0,0)):=H1.own _ iC
 obtain ⟨fz,hu2⟩:=akQ (o:=(Lib.bytesCells w e s).size) (n:=1) hw1 (by decide)
 have H2:=H1.upd (i:=0) rfl hu2
 have H3:St N D w0 F G0 G ((w.heap.size,.cells (Lib.bytesCells w e s) e fz) :: L) ((d,.slice (some ⟨w.heap.size,0,none⟩) s.size (grownCap w s.size 0 e)) :: T) (a.put (some d) (.slice (some ⟨w.heap.size,0,none⟩) s.size (grownCap w s.size 0 e))) (Lib.bytesWorld w e s):=H.put hd _ H2
 obtain ⟨G',hm,hb,H4⟩:=H3.dS
 have hlen:(EB s).length=s.size:=by rw [EB,bU,uO];rfl
 have hrep:av G' (.sl 1 ((EB s).map yh)) (.slice (some ⟨w.heap.size,0,none⟩) s.size (grownCap w s.size 0 e)):=by
  refine ajn hb ?_ (fun r hr=>by obtain ⟨c,-,rfl⟩:=List.mem_map.1 hr;exact ⟨c,rfl⟩)
  refine av.eO (cur:=Lib.bytesCells w e s) (e:=e) (n:=s.size) (cap:=grownCap w s.size 0 e) (by simp) (by rw [bU,hlen]) hge hgm ?_ (aaD _ _)
  rw [Lib.bytesCells,Array.toList_append,Nat.mul_one,List.take_left' (by rw [Array.toList_map,bU,uO];rfl)]
  simp [EB]
 have k2:=k _ _ _ _ hm hrep H4
 refine fO (v:=.slice (some ⟨w.heap.size,0,none⟩) s.size (grownCap w s.size 0 e)) (w':=Lib.bytesWorld w e s) hw rfl ?_ k2
 simp only [execOp,H.ev hx,cO,hc,jW,qw]
theorem ajG {t yt:TypeId} {x y:Operand} {p q:ByteArray} (H:St N D w0 F G0 G L T a w) (hw:Region.wanted ⟨some d,.binOp .lss t x y yt,ty,pos,aP,g⟩ (yielded ops a.tmps)=true) (hx:ev T x=some (.string p)) (hy:ev T y=some (.string q)) (hd:Nat.blt d N=true)
  (k:∀ a',St N D w0 F G0 G L ((d,.bool (Op.bytesLess p.toList q.toList)) :: T) a' w→WL r P ops Q rest a' w):WL r P ops Q (⟨some d,.binOp .lss t x y yt,ty,pos,aP,g⟩ :: rest) a w:=by
 refine fO (v:=.bool (Op.bytesLess p.toList q.toList)) (w':=w) hw rfl ?_ (k _ (H.put hd _ H.hp))
 simp [execOp,H.ev hx,H.ev hy,cO,eqGuard,binOp,Op.stringOp]
end
end
section
open Go.RowKit
theorem adb:∀ args w,(callFunc 157 args).run prog w=.ok (.enter 157 args) w:=enters func157 rfl (by kernel_rfl)
theorem acZ:∀ args w,(callFunc 154 args).run prog w=.ok (.enter 154 args) w:=enters func154 rfl (by kernel_rfl)
theorem acX:∀ args w,(callFunc 152 args).run prog w=.ok (.enter 152 args) w:=enters func152 rfl (by kernel_rfl)
theorem akq:qm prog 259 [(0,1),(1,1),(2,2),(4,1),(5,1),(6,1)] [.string ⟨#[]⟩,.int .i64 0,.pointer none,.slice none 0 0,.slice none 0 0,.int .i64 0,.int .i64 0]:=⟨by kernel_rfl,by kernel_rfl⟩
theorem ada:∀ args w,(callFunc 155 args).run prog w=.ok (.enter 155 args) w:=enters func155 rfl (by kernel_rfl)
theorem aeB:bY prog 247 1 1:=⟨by kernel_rfl⟩
theorem acP:∀ args w,(callFunc 144 args).run prog w=.ok (.enter 144 args) w:=enters func144 rfl (by kernel_rfl)
theorem acQ:∀ args w,(callFunc 145 args).run prog w=.ok (.enter 145 args) w:=enters func145 rfl (by kernel_rfl)
theorem acY:∀ args w,(callFunc 153 args).run prog w=.ok (.enter 153 args) w:=enters func153 rfl (by kernel_rfl)
theorem acR:∀ args w,(callFunc 146 args).run prog w=.ok (.enter 146 args) w:=enters func146 rfl (by kernel_rfl)
def Mi (fv:aj) (G:GH) (c:Int) (b:Bool):Prop:=∀ (G1:GH) (w1:World),(∀ b o,G b=some o→G1 b=some o)→Hold G1 w1→sH prog fv [.int .u8 c] w1 (bF w1 G1 fun u G'=>u=.bool b)
theorem ahr (G:GH) (w0:World) (hG:Hold G w0) (l:List Int) (p:Int→Bool) (v fv:aj) (hv:av G (.sl 1 (l.map yh)) v) (hf:∀ c∈l,Mi fv G c (p c)) :
  Calls prog 157 #[v,fv] w0 (bF w0 G fun u G'=>u=vi (nK (l.findIdx? p))):=by
 obtain ⟨A,c,rfl,hc1,hc2,hg⟩:=hv.slice;have hml:maxLen=9223372036854775807:=rfl;rw [bU] at *;refine eN [(0,_),(1,_)] func157 rfl ntmps157 rfl rfl hG ?_;intro a H;refine kP H (SR fun _ K1=>ak K1 rfl (SQ fun _ K2=>SR fun _ K3=>Rm rfl (Rl Ba rfl (Rm rfl (Kz K3 (SB ?_))))));clear H K1 K3;intro a H;skip;refine eU (ι:=Nat × GH) (Tc:=[(0,_),(1,_),(7,_)]) (Lc:=[]) (fun gh=>[(8,vi gh.1)]) (fun gh=>[]) (fun gh=>gh.2) (fun gh=>gh.1≤l.length∧(l.take gh.1).findIdx? p=none∧(∀ b o,G b=some o→gh.2 b=some o)) (fun gh=>l.length - gh.1) ((0,G)) (by exact (H).sub ⟨rfl,rfl,rfl,rfl,aD⟩) ?_ ?_
 ·exact ⟨by omega,rfl,fun _ _ h=>h⟩
 clear H;intro gh a w hI H;obtain ⟨k,g⟩:=gh;dsimp only at hI H;obtain ⟨hk,hno,hgm⟩:=hI;dsimp only [lca,bD] at H;refine kP H (SR fun _ K4=>Rc rfl (Kz K4 (SQ fun _ K5=>Cd rfl ?_ ?_))) <;> clear H K4
 ·intro h9 a H
  try have p9:=dT h9
  have hk2:k < l.length:=by omega
  obtain ⟨b,o,cs,rfl,hcl,hrow,hr⟩:=hg k (yh l[k]) (by simp [hk2]);obtain rfl:=Yw hr
  have hcell:aL G b (o+k*1)=some (.int .u8 l[k]):=by simpa using hrow 0 _ rfl
  refine kP H (Kc K5 (SQ fun _ K6=>SB (SR fun _ K7=>Rm rfl (ak K7 rfl (SR fun _ K8=>Rm rfl (Rm rfl (Rm rfl (Ri Ba LD rfl rfl (Rg LD rfl (aM hgm hcell) ?_)))))))));clear H K5 K7;intro a H;refine oq H wn rfl rfl (hf _ (iM hk2) _ _ hgm H.ro) rfl ?_;clear H;rintro v16 oW a w rfl kV H;refine K8 _ _ ?_;clear K8;refine lW H rfl ?_ ?_
  ·intro h16
   try have p16:=dT h16
   refine kP H (SR fun _ K9=>Rm rfl (ak K9 rfl ?_));clear H K9;intro a H;refine lr H results157 rfl ?_
   first
    | exact H.rt (by rw [uF hk2 hno h16];rfl)
    | exact H.rt (by rw [show l.take k=l from jQ (by omega)] at hno;rw [hno];rfl)
  intro h16
  try have p16:=dF h16
  refine kP H (Kc K6 (SC (Rd rfl (Rm rfl ?_))));clear H K6;intro a H;refine aI ?_;refine cK ((k+1,oW)) (by exact (H).sub ⟨rfl,rfl,rfl,rfl,aD⟩) ?_ ?_
  ·(try dsimp only);exact ⟨by omega,Aw hk2 hno h16,fun b o h=>kV b o (hgm b o h)⟩
  first|omega|(dsimp only;omega)
 intro h9 a H
 try have p9:=dF h9
 refine dQ ?_;refine K2 _ _ ?_;clear K2;refine kP H (SR fun _ aT=>ak aT rfl ?_);clear H aT;intro a H;refine lr H results157 rfl ?_
 first
  | exact H.rt (by rw [uF hk2 hno h16];rfl)
  | exact H.rt (by rw [show l.take k=l from jQ (by omega)] at hno;rw [hno];rfl)
theorem Pv (o:Option Nat):decide (0≤nK o)=o.isSome:=by cases o <;> simp [nK]
theorem abK (G:GH) (w0:World) (hG:Hold G w0) (l:List Int) (p:Int→Bool) (v fv:aj) (hv:av G (.sl 1 (l.map yh)) v) (hf:∀ c∈l,Mi fv G c (p c)) :
  Calls prog 152 #[v,fv] w0 (bF w0 G fun u G'=>u=.bool (l.findIdx? p).isSome):=by
 obtain ⟨A,c,rfl,hc1,hc2,-⟩:=hv.slice;rw [bU] at *;refine eN [(0,_),(1,_)] func152 rfl ntmps152 rfl rfl hG ?_;intro a H;refine kP H (SR fun _ K1=>ak K1 rfl (SR fun _ K2=>Rm rfl (Rm rfl ?_)));clear H K1;intro a H;refine s_call adb H wn rfl (ahr _ _ H.ro l p _ _ hv hf) rfl ?_;clear H;rintro v7 G7 a w rfl Ao H;exact kH H (Rc rfl (ak K2 rfl (LR results152 rfl fun H=>H.rt (aB (Pv _)))))
def Gx (c:Int):Bool:=decide (c < 32) || decide (c=127)
theorem abQ (G:GH) (c:Int):Mi (.func (.func 153) #[] #[]) G c (Gx c):=by
 intro G1 w0 hm hG;refine mo (caps:=[]) acY ?_;refine eN [(0,_)] func153 rfl ntmps153 rfl rfl hG ?_;intro a H;refine kP H (SR fun _ K1=>ak K1 rfl (SR fun _ K2=>Rm rfl (Rc rfl (Rm rfl (Sp 5 rfl ?_ ?_))))) <;> clear H K1
 ·intro h5 a H
  try have p5:=dT h5
  exact kH H (aS h5 rfl (Pt h5 rfl (ak K2 rfl (LR results153 rfl fun H=>H.rt (aB (by unfold Gx;first|(simp_all;done)|(simp_all;omega)))))))
 intro h5 a H
 try have p5:=dF h5
 exact kH H (YM h5 rfl (YC h5 rfl (Pf h5 rfl (ak K2 rfl (LR results153 rfl fun H=>H.rt (aB (by unfold Gx;first|(simp_all;done)|(simp_all;omega))))))))
def vF (t:ByteArray):Int:=if 64 < t.size then 10 else if qg t=false then 12 else if ((EB t).findIdx? Gx).isSome=true then 5 else rY (jO t)
def wG (t:ByteArray):List iU:=if vF t=0 then sS (jO t).lit (jO t).parts else []
theorem aib (G:GH) (l:List iU):fD G 3 (l.map iU.dat) (BO l):=by
 refine ⟨l.map iU.cells,rfl,by simp,fun j r cs hr hc=>?_⟩;rw [qp] at hr hc;obtain ⟨x,hx,rfl⟩:=lu.1 hr;rw [hx] at hc
 cases hc
 exact ⟨WM G x,rfl⟩
theorem aiU (G:GH) (w0:World) (hG:Hold G w0) (t:ByteArray) (ht:t.size < 4611686018427387904) :
  Calls prog 144 #[.string t] w0 (bF w0 G fun u G'=>∃ x,u=.tuple #[x,vi (vF t)]∧av G' (.sl 3 ((wG t).map iU.dat)) x):=by
 refine eN [(0,_)] func144 rfl ntmps144 rfl rfl hG ?_;intro a H;refine kP H (SR fun _ K1=>Ra rfl (ak K1 rfl (SQ fun _ K2=>SB (SR fun _ K3=>Rm rfl (Rv gy rfl (Rc rfl (ak K3 rfl (Cd rfl ?_ ?_)))))))) <;> clear H K1 K3
 ·intro h5 a H
  try have p5:=dT h5
  refine bG (fun _ K4=>?_)
  have he:vF t=10:=by rw [vF,au (by omega)]
  refine kP H (SC (Ra rfl (aV K4 rfl ?_)));clear H K4;intro a H;refine cB ?_;refine (eB H results144 (.cons (aR H rfl) (.cons (aR H rfl) .nil)) ?_).1
  first
   | exact H.rt ⟨_,by rw [he0],by rw [wG,au he0];exact hrep⟩
   | exact H.rt ⟨_,by rw [he],by rw [wG,ah (by rw [he];first|decide|assumption)];exact av.jo rfl (by decide)⟩
 intro h5 a H
 try have p5:=dF h5
 refine kP H (SR fun _ K5=>Rm rfl ?_);clear H;intro a H;refine s_call GI H wn rfl (IG _ _ H.ro t ht) rfl ?_;clear H;rintro v11 _ a w ⟨rfl,rfl⟩ - H;refine kH H (Rn rfl (ak K5 rfl (Cd rfl ?_ ?_))) <;> clear H K5
 ·intro h9 a H
  try have p9:=dT h9
  refine bG (fun _ K6=>?_)
  have he:vF t=12:=by rw [vF,ah (by omega),au (by simpa using h9)]
  refine kP H (SC (Ra rfl (aV K6 rfl ?_)));clear H K6;intro a H;refine cB ?_;refine (eB H results144 (.cons (aR H rfl) (.cons (aR H rfl) .nil)) ?_).1
  first
   | exact H.rt ⟨_,by rw [he0],by rw [wG,au he0];exact hrep⟩
   | exact H.rt ⟨_,by rw [he],by rw [wG,ah (by rw [he];first|decide|assumption)];exact av.jo rfl (by decide)⟩
 intro h9 a H
 try have p9:=dF h9
 refine kP H (SR fun _ K7=>Rm rfl ?_);clear H;intro a H;refine ajC gy Ba IB H wn rfl (by omega) rfl ?_;clear H;intro v15 Em a w rP V3 H;obtain ⟨Zf,c15,rfl,-,-,-⟩:=V3.slice;refine s_call acX H wn rfl (abK _ _ H.ro _ Gx _ _ V3 (fun c _=>abQ _ c)) rfl ?_;clear H;rintro v16 oW a w rfl kV H;refine kH H (ak K7 rfl (Cd rfl ?_ ?_)) <;> clear H K7
 ·intro gu a H
  try have qF:=dT gu
  refine bG (fun _ K8=>?_)
  have he:vF t=5:=by rw [vF,ah (by omega),ah (by simpa using h9),au gu]
  refine kP H (SC (Ra rfl (aV K8 rfl ?_)));clear H K8;intro a H;refine cB ?_;refine (eB H results144 (.cons (aR H rfl) (.cons (aR H rfl) .nil)) ?_).1
  first
   | exact H.rt ⟨_,by rw [he0],by rw [wG,au he0];exact hrep⟩
   | exact H.rt ⟨_,by rw [he],by rw [wG,ah (by rw [he];first|decide|assumption)];exact av.jo rfl (by decide)⟩
 intro gu a H
 try have qF:=dF gu
 refine kP H (Kc K2 (SR fun _ K9=>Rm rfl ?_));clear H K2;intro a H;refine ku akq [_,_,_,_,_,_,_] H wn rfl rfl rfl rfl ?_;clear H;intro a H;refine fq (cs:=[_,_,_,_,_,_,_]) H wn rfl rfl rfl ?_;clear H;intro b19 a w alF H;refine kH H (ak K9 rfl (SQ fun _ aT=>SR fun _ bC=>Rm rfl ?_));clear H K9;intro a H;refine gV acZ (Li:=[]) (L:=[uH b19 t zm (.pointer none) (.slice none 0 0) (.slice none 0 0)]) H wn rfl (ajP _ [] [] _ b19 t _ _ _ ⟨.inl rfl,dJ.nil,dJ.nil⟩ (Hp.owns (Li:=[]) H.hp) (by omega)) rfl ?_;clear H;rintro v21 LV L21 a w ⟨p',v',q',pz,fC,rfl,Oo⟩ xE H;dsimp only [List.nil_append] at H;obtain ⟨A21,c21,rfl,-,-⟩:=Oo.buf.shape;obtain ⟨Zm,d21,rfl,-,-⟩:=Oo.prt.shape;refine bC _ _ ?_;clear bC;refine bG (fun _ bJ=>?_)
 have he:vF t=rY (jO t):=by rw [vF,ah (by omega),ah (by simpa using h9),ah (by simp [gu])]
 refine kP H (SC (Rm rfl (Rk rfl (aW yN gF 0 rfl rfl (Rc rfl (Kn bJ (Cd rfl ?_ ?_))))))) <;> clear H bJ
 ·intro gP a H
  try have p26:=dT gP
  refine bG (fun _ bT=>?_);have H:=H.sub (T':=[(4,_)]) ⟨rfl,aD⟩;refine dI hmx [[],[0],[0,1],[0,1,2],[],(ra 0 5)] [] (by kernel_rfl) [_,_,_,vi (rY (jO t)),_,_] H (aG (Z0 rfl (Rm rfl)) (Z1 0 27 rfl (Rk rfl)) (Z1 1 28 rfl (Rf yN rfl)) (Z1 2 29 rfl (Ro gF 0 rfl)) (aU (Z0 rfl (Ra rfl)) (aU (Z1 3 30 rfl (Ra rfl)) bZ))) ?_
  clear H;intro a w G ni H hv;have H:=H.aQ (hv 4 2 rfl rfl) rfl;have H:=H.aQ (hv 5 3 rfl rfl) rfl;clear hv;refine aI ⟨rfl,?_⟩;refine bT _ _ ?_;clear bT;refine cB ?_;refine (eB H results144 (.cons (aR H rfl) (.cons (aR H rfl) .nil)) ?_).1
  first
   | exact H.rt ⟨_,by rw [he0],by rw [wG,au he0];exact hrep⟩
   | exact H.rt ⟨_,by rw [he],by rw [wG,ah (by rw [he];first|decide|assumption)];exact av.jo rfl (by decide)⟩
 intro gP a H
 try have p26:=dF gP
 refine fT ?_;refine aT _ _ ?_;clear aT;refine bG (fun _ bS=>?_)
 have he0:vF t=0:=by rw [he];omega
 have H:=(St.cast H (show _=[_]++(pz++fC) from rfl)).perm (List.Perm.append_left _ zR);have H:=St.un H;obtain ⟨Gr,hmr,hrep,H⟩:=St.uh (Li:=[_]++fC) (Lo:=pz) H Oo.prt (rows:=(sS (jO t).lit (jO t).parts).map iU.dat) (by simp) (aib _ _);dsimp only [lca,bD] at H;refine kP H (SC (Rm rfl (Rk rfl (aW GR Iw 0 rfl rfl (Ra rfl (aV bS rfl ?_))))));clear H bS;intro a H;refine cB ?_;refine (eB H results144 (.cons (aR H rfl) (.cons (aR H rfl) .nil)) ?_).1
 first
  | exact H.rt ⟨_,by rw [he0],by rw [wG,au he0];exact hrep⟩
  | exact H.rt ⟨_,by rw [he],by rw [wG,ah (by rw [he];first|decide|assumption)];exact av.jo rfl (by decide)⟩
structure oC where
 fmt:Int
 start:Int
 xZ:ByteArray
 restart:Int
def oC.dat (x:oC):List Dat:=[li x.fmt,li x.start,.lf (.string x.xZ),li x.restart]
abbrev oC.cells (x:oC):List aj:=[vi x.fmt,vi x.start,.string x.xZ,vi x.restart]
theorem aie {G:GH} {x:oC} {cs:List aj} (h:aZ G x.dat cs):cs=x.cells:=by
 simp only [oC.dat,aZ,av] at h
 obtain ⟨_,_,rfl,⟨rfl,_⟩,_,_,rfl,⟨rfl,_⟩,_,_,rfl,⟨rfl,_⟩,_,_,rfl,⟨rfl,_⟩,rfl⟩:=h
 rfl
theorem ahp (G:GH) (w0:World) (hG:Hold G w0) (l:List iU) (p:iU→Bool) (v fv:aj) (hv:av G (.sl 3 (l.map iU.dat)) v) (hf:∀ x∈l,vQ fv G x.dat (p x)) :
  Calls prog 155 #[v,fv] w0 (bF w0 G fun u G'=>u=vi (nK (l.findIdx? p))):=by
 obtain ⟨A,c,rfl,hc1,hc2,hg⟩:=hv.slice;have hml:maxLen=9223372036854775807:=rfl;rw [bU] at *;refine eN [(0,_),(1,_)] func155 rfl ntmps155 rfl rfl hG ?_;intro a H;refine kP H (SR fun _ K1=>ak K1 rfl (SQ fun _ K2=>SR fun _ K3=>Rm rfl (Rl FN rfl (Rm rfl (Kz K3 (SB ?_))))));clear H K1 K3;intro a H;skip;refine eU (ι:=Nat × GH) (Tc:=[(0,_),(1,_),(7,_)]) (Lc:=[]) (fun gh=>[(8,vi gh.1)]) (fun gh=>[]) (fun gh=>gh.2) (fun gh=>gh.1≤l.length∧(l.take gh.1).findIdx? p=none∧(∀ b o,G b=some o→gh.2 b=some o)) (fun gh=>l.length - gh.1) ((0,G)) (by exact (H).sub ⟨rfl,rfl,rfl,rfl,aD⟩) ?_ ?_
 ·exact ⟨by omega,rfl,fun _ _ h=>h⟩
 clear H;intro gh a w hI H;obtain ⟨k,g⟩:=gh;dsimp only at hI H;obtain ⟨hk,hno,hgm⟩:=hI;dsimp only [lca,bD] at H;refine kP H (SR fun _ K4=>Rc rfl (Kz K4 (SQ fun _ K5=>Cd rfl ?_ ?_))) <;> clear H K4
 ·intro h9 a H
  try have p9:=dT h9
  have hk2:k < l.length:=by omega
  obtain ⟨b,o,cs,rfl,hcl,hrow,hr⟩:=hg k l[k].dat (by simp [hk2]);obtain rfl:=WK hr;refine kP H (Kc K5 (SQ fun _ K6=>SB (SR fun _ K7=>Rm rfl (ak K7 rfl (SR fun _ K8=>Rm rfl (Rm rfl (Rm rfl (Ri FN FK rfl rfl ?_))))))));clear H K5 K7;intro a H;refine bK FK (cs:=l[k].cells) H wn rfl rfl (fun j v hj=>H.hp.aL (aM hgm (hrow j v hj))) rfl ?_;clear H;intro a H;refine oq H wn rfl rfl (hf _ (iM hk2) _ _ _ hgm H.ro (WM _ l[k])) rfl ?_;clear H;rintro v16 oW a w rfl kV H;refine K8 _ _ ?_;clear K8;refine lW H rfl ?_ ?_
  ·intro h16
   try have p16:=dT h16
   refine kP H (SR fun _ K9=>Rm rfl (ak K9 rfl ?_));clear H K9;intro a H;refine lr H results155 rfl ?_
   first
    | exact H.rt (by rw [uF hk2 hno h16];rfl)
    | exact H.rt (by rw [show l.take k=l from jQ (by omega)] at hno;rw [hno];rfl)
  intro h16
  try have p16:=dF h16
  refine kP H (Kc K6 (SC (Rd rfl (Rm rfl ?_))));clear H K6;intro a H;refine aI ?_;refine cK ((k+1,oW)) (by exact (H).sub ⟨rfl,rfl,rfl,rfl,aD⟩) ?_ ?_
  ·(try dsimp only);exact ⟨by omega,Aw hk2 hno h16,fun b o h=>kV b o (hgm b o h)⟩
  first|omega|(dsimp only;omega)
 intro h9 a H
 try have p9:=dF h9
 refine dQ ?_;refine K2 _ _ ?_;clear K2;refine kP H (SR fun _ aT=>ak aT rfl ?_);clear H aT;intro a H;refine lr H results155 rfl ?_
 first
  | exact H.rt (by rw [uF hk2 hno h16];rfl)
  | exact H.rt (by rw [show l.take k=l from jQ (by omega)] at hno;rw [hno];rfl)
theorem abJ (G:GH) (w0:World) (hG:Hold G w0) (l:List iU) (p:iU→Bool) (v fv:aj) (hv:av G (.sl 3 (l.map iU.dat)) v) (hf:∀ x∈l,vQ fv G x.dat (p x)) :
  Calls prog 145 #[v,fv] w0 (bF w0 G fun u G'=>u=.bool (l.findIdx? p).isSome):=by
 obtain ⟨A,c,rfl,hc1,hc2,-⟩:=hv.slice;rw [bU] at *;refine eN [(0,_),(1,_)] func145 rfl ntmps145 rfl rfl hG ?_;intro a H;refine kP H (SR fun _ K1=>ak K1 rfl (SR fun _ K2=>Rm rfl (Rm rfl ?_)));clear H K1;intro a H;refine s_call ada H wn rfl (ahp _ _ H.ro l p _ _ hv hf) rfl ?_;clear H;rintro v7 G7 a w rfl Ao H;exact kH H (Rc rfl (ak K2 rfl (LR results145 rfl fun H=>H.rt (aB (Pv _)))))
theorem aif {G:GH} {bl:Nat} {k:Int} (hb:aL G bl 0=some (vi k)) (x:iU):vQ (.func (.func 146) #[] #[(aJ bl 0)]) G x.dat (decide (k < x.level)):=by
 intro G1 w0 cs hm hG hr;refine mo (caps:=[(aJ bl 0)]) acR ?_;obtain rfl:=WK hr;replace hb:=aM hm hb;refine eN [(0,_),(1,_)] func146 rfl ntmps146 rfl rfl hG ?_;intro a H;refine dH (fun _ K1=>?_);refine fq (cs:=[_,_,_]) H wn rfl rfl rfl ?_;clear H;intro b2 a w hb2 H;refine kH H (ak K1 rfl (SR fun _ K2=>aW aeB aH 0 rfl rfl (Rg aH rfl (by assumption) ?_)));clear H K1;intro a H;exact kH H (Rc rfl (ak K2 rfl (LR results146 rfl fun H=>H.rt rfl)))
def za (t:ByteArray) (k:Int):Int:=if k < 1∨9 < k then 2 else if vF t=0∧((wG t).findIdx? fun x=>decide (k < x.level)).isSome=true then 6 else vF t
theorem aic (G:GH) (w0:World) (hG:Hold G w0) (t:ByteArray) (k:Int) (ht:t.size < 4611686018427387904) :
  Calls prog 136 #[.string t,vi k] w0 (bF w0 G fun u G'=>u=vi (za t k)):=by
 refine eN [(0,_),(1,_)] func136 rfl ntmps136 rfl rfl hG ?_;intro a H;refine dH (fun _ K1=>?_);refine fq (cs:=[_]) H wn rfl rfl rfl ?_;clear H;intro b3 a w hb3 H;refine kH H (ak K1 rfl (SQ fun _ K2=>SR fun _ K3=>Ro aH 0 rfl (Rc rfl (Rm rfl (Sp 9 rfl ?_ ?_))))) <;> clear H K1
 ·intro h9 a H
  try have p9:=dT h9
  refine kH H (aS h9 rfl (Pt h9 rfl (Kz K3 (Ct rfl rfl (SR fun _ K4=>ak K4 rfl ?_)))));clear H K3 K4;intro a H;refine lr H results136 rfl ?_
  exact H.rt (aF vi (by unfold za;(repeat' split) <;> first|rfl|(exfalso;simp_all;done)|(exfalso;simp_all;omega)|(simp_all;done)))
 intro h9 a H
 try have p9:=dF h9
 refine kH H (YO aH 0 h9 rfl (YC h9 rfl (Pf h9 rfl (Kz K3 (Cd rfl ?_ ?_))))) <;> clear H K3
 ·intro h12 a H
  try have pX:=dT h12
  refine kP H (SR fun _ K5=>ak K5 rfl ?_);clear H K5;intro a H;refine lr H results136 rfl ?_
  exact H.rt (aF vi (by unfold za;(repeat' split) <;> first|rfl|(exfalso;simp_all;done)|(exfalso;simp_all;omega)|(simp_all;done)))
 intro h12 a H
 try have pX:=dF h12
 refine fT ?_;refine K2 _ _ ?_;clear K2;refine bG (fun _ K6=>?_);obtain ⟨Ga,hma,um,H⟩:=H.dS
 have hbk:aL Ga b3 0=some (vi k):=by unfold aL;rw [um];rfl
 refine kP H (SC (Rm rfl ?_));clear H;intro a H;refine s_call acP H wn rfl (aiU _ _ H.ro t ht) rfl ?_;clear H;rintro v15 Em a w ⟨x15,rfl,V7⟩ rP H;obtain ⟨Zf,c15,rfl,-,-,-⟩:=V7.slice;replace hbk:=aM rP hbk;refine kH H (Rm rfl ?_);clear H;intro a H;(iterate 2 refine jN H wn rfl rfl rfl ?_;clear H;intro a H);refine kH H (Ra rfl (aV K6 rfl (SQ fun _ K7=>SR fun _ K8=>Rm rfl (Rc rfl (Rm rfl (Sp 20 rfl ?_ ?_)))))) <;> clear H K6
 ·intro h20 a H
  try have BR:=dT h20
  refine kH H (YM h20 rfl ?_);clear H;intro a H;refine qd H (wg H rfl rfl h20) rfl rfl ?_;clear H;intro a H;refine s_call acQ H (wg H rfl rfl h20) rfl (abJ _ _ H.ro _ (fun x=>decide (k < x.level)) _ _ V7 (fun x _=>aif hbk x)) rfl ?_;clear H;rintro v23 I6 a w rfl nJ H;refine kH H (Pt h20 rfl (Kz K8 (Cd rfl ?_ ?_))) <;> clear H K8
  ·intro dY a H
   try have kG:=dT dY
   refine kP H (SC (aV K7 rfl (SR fun _ K9=>Rm rfl (ak K9 rfl ?_))));clear H K7 K9;intro a H;refine lr H results136 rfl ?_
   exact H.rt (aF vi (by unfold za;(repeat' split) <;> first|rfl|(exfalso;simp_all;done)|(exfalso;simp_all;omega)|(simp_all;done)))
  intro dY a H
  try have kG:=dF dY
  refine kP H (Kc K7 (SR fun _ aT=>Rm rfl (ak aT rfl ?_)));clear H K7 aT;intro a H;refine lr H results136 rfl ?_
  exact H.rt (aF vi (by unfold za;(repeat' split) <;> first|rfl|(exfalso;simp_all;done)|(exfalso;simp_all;omega)|(simp_all;done)))
 intro h20 a H
 try have BR:=dF h20
 refine kH H (aY h20 rfl (Pf h20 rfl (Kz K8 (Cf rfl rfl (Kc K7 (SR fun _ bC=>Rm rfl (ak bC rfl ?_)))))));clear H K8 K7 bC;intro a H;refine lr H results136 rfl ?_
 exact H.rt (aF vi (by unfold za;(repeat' split) <;> first|rfl|(exfalso;simp_all;done)|(exfalso;simp_all;omega)|(simp_all;done)))
end
section
open Go.RowKit
theorem LA:Ty prog 230 4 40 [.int .i64 0,.int .i64 0,.string ⟨#[]⟩,.int .i64 0] true:=⟨by kernel_rfl,by kernel_rfl⟩
theorem LH:prog.underlying 182=some (.slice 230):=by kernel_rfl
theorem Ux:bY prog 230 0 0:=⟨by kernel_rfl⟩
theorem Uy:bY prog 230 1 1:=⟨by kernel_rfl⟩
theorem aew:bY prog 230 2 2:=⟨by kernel_rfl⟩
theorem acJ:∀ args w,(callFunc 136 args).run prog w=.ok (.enter 136 args) w:=enters func136 rfl (by kernel_rfl)
theorem Uz:bY prog 230 3 3:=⟨by kernel_rfl⟩
def CU:Nat→List oC→Int
 | _,[]=>0
 | i,x :: r=>if x.fmt < 1∨7 < x.fmt then 3 else if x.start < 0∨32767 < x.start then 2 else if za x.xZ ((i+1:Nat):Int)≠0 then za x.xZ ((i+1:Nat):Int) else if x.restart < 0∨(i:Int) < x.restart then 5 else CU (i+1) r
def dR (l:List oC):Int:=if l.length=0 then 11 else if 9 < l.length then 9 else CU 0 l
theorem iO {l:List oC} {k:Nat} (h:k < l.length):CU k (l.drop k)=if l[k].fmt < 1∨7 < l[k].fmt then 3 else if l[k].start < 0∨32767 < l[k].start then 2 else if za l[k].xZ ((k+1:Nat):Int)≠0 then za l[k].xZ ((k+1:Nat):Int) else if l[k].restart < 0∨(k:Int) < l[k].restart then 5 else CU (k+1) (l.drop (k+1)):=by
 rw [kS h,CU]
theorem abg (G:GH) (w0:World) (hG:Hold G w0) (l:List oC) (v:aj) (hv:av G (.sl 4 (l.map oC.dat)) v) (ht:∀ x∈l,x.xZ.size < 4611686018427387904) :
  Calls prog 118 #[v] w0 (bF w0 G fun u G'=>u=vi (dR l)):=by
 obtain ⟨A,c,rfl,hc1,hc2,hg⟩:=hv.slice;have hml:maxLen=9223372036854775807:=rfl;rw [bU] at *;refine eN [(0,_)] func118 rfl ntmps118 rfl rfl hG ?_;intro a H;refine kP H (SR fun _ K1=>ak K1 rfl (SQ fun _ K2=>SB (SR fun _ K3=>Rm rfl (Rl LH rfl (Rc rfl (ak K3 rfl (Cd rfl ?_ ?_))))))) <;> clear H K1 K3
 ·intro h6 a H
  try have p6:=dT h6
  refine kP H (SR fun _ K4=>ak K4 rfl ?_);clear H K4;intro a H;refine lr H results118 rfl ?_
  first
   | exact H.rt (aF vi (by rw [dR,au (by omega)]))
   | exact H.rt (aF vi (by rw [dR,ah (by omega),au (by omega)]))
   | exact H.rt (aF vi (by rw [dR,ah (by omega),ah (by omega),← he,iO hk2,au (by omega)]))
   | exact H.rt (aF vi (by rw [dR,ah (by omega),ah (by omega),← he,iO hk2,ah (by omega),au (by omega)]))
   | exact H.rt (aF vi (by rw [dR,ah (by omega),ah (by omega),← he,iO hk2,ah (by omega),ah (by omega),au p45]))
   | exact H.rt (aF vi (by rw [dR,ah (by omega),ah (by omega),← he,iO hk2,ah (by omega),ah (by omega),ah p45,au (by omega)]))
   | exact H.rt (aF vi (by rw [dR,ah (by omega),ah (by omega),← he,iq (by omega)];rfl))
 intro h6 a H
 try have p6:=dF h6
 refine kP H (SR fun _ K5=>Rm rfl (Rl LH rfl (Rc rfl (ak K5 rfl (Cd rfl ?_ ?_))))) <;> clear H K5
 ·intro h10 a H
  try have lN:=dT h10
  refine kP H (SR fun _ K6=>ak K6 rfl ?_);clear H K6;intro a H;refine lr H results118 rfl ?_
  first
   | exact H.rt (aF vi (by rw [dR,au (by omega)]))
   | exact H.rt (aF vi (by rw [dR,ah (by omega),au (by omega)]))
   | exact H.rt (aF vi (by rw [dR,ah (by omega),ah (by omega),← he,iO hk2,au (by omega)]))
   | exact H.rt (aF vi (by rw [dR,ah (by omega),ah (by omega),← he,iO hk2,ah (by omega),au (by omega)]))
   | exact H.rt (aF vi (by rw [dR,ah (by omega),ah (by omega),← he,iO hk2,ah (by omega),ah (by omega),au p45]))
   | exact H.rt (aF vi (by rw [dR,ah (by omega),ah (by omega),← he,iO hk2,ah (by omega),ah (by omega),ah p45,au (by omega)]))
   | exact H.rt (aF vi (by rw [dR,ah (by omega),ah (by omega),← he,iq (by omega)];rfl))
 intro h10 a H
 try have lN:=dF h10
 refine kP H (Kc K2 (SQ fun _ K7=>SR fun _ K8=>Rm rfl (Rl LH rfl (Rm rfl (Kz K8 (SB ?_))))));clear H K2 K8;intro a H;skip;refine eU (ι:=Nat × GH) (Tc:=[(14,_),(15,_)]) (Lc:=[]) (fun gh=>[(16,vi gh.1)]) (fun gh=>[]) (fun gh=>gh.2) (fun gh=>gh.1≤l.length∧CU gh.1 (l.drop gh.1)=CU 0 l∧(∀ b o,G b=some o→gh.2 b=some o)) (fun gh=>l.length - gh.1) ((0,G)) (by exact (H).sub ⟨rfl,rfl,rfl,aD⟩) ?_ ?_
 ·exact ⟨ig _,rfl,fun _ _ h=>h⟩
 clear H;intro gh a w hI H;obtain ⟨k,g⟩:=gh;dsimp only at hI H;obtain ⟨hk,he,hgm⟩:=hI;dsimp only [lca,bD] at H;refine kP H (SR fun _ K9=>Rc rfl (Kz K9 (SQ fun _ aT=>Cd rfl ?_ ?_))) <;> clear H K9
 ·intro eu a H
  try have mI:=dT eu
  have hk2:k < l.length:=by omega
  obtain ⟨b,o,cs,rfl,hcl,hrow,hr⟩:=hg k l[k].dat (by simp [hk2]);obtain rfl:=aie hr;refine kP H (Kc aT (SQ fun _ bC=>SB (SR fun _ bJ=>Rm rfl (Ri LH LA rfl rfl ?_))));clear H aT;intro a H;refine bK LA (cs:=l[k].cells) H wn rfl rfl (fun j v hj=>H.hp.aL (aM hgm (hrow j v hj))) rfl ?_;clear H;intro a H;refine eZ LA H wn rfl ?_;clear H;intro b4 a w hb4 H;refine kH H (Ra rfl ?_);clear H;intro a H;refine bM LA 0 (vs:=[_,_,_,_]) _ H wn rfl rfl rfl rfl rfl rfl rfl rfl ?_;clear H;intro w H;dsimp only [List.set,setRow] at H;refine bJ _ _ ?_;clear bJ;refine kP H (SQ fun _ bT=>SB (SR fun _ bS=>aW Ux aH 0 rfl rfl (Rc rfl (Rm rfl (Sp 25 rfl ?_ ?_))))) <;> clear H
  ·intro lY a H
   try have p25:=dT lY
   refine kH H (aY lY rfl (Pt lY rfl (ak bS rfl (Ct rfl rfl (SR fun _ dD=>ak dD rfl ?_)))));clear H bS dD;intro a H;refine lr H results118 rfl ?_
   first
    | exact H.rt (aF vi (by rw [dR,au (by omega)]))
    | exact H.rt (aF vi (by rw [dR,ah (by omega),au (by omega)]))
    | exact H.rt (aF vi (by rw [dR,ah (by omega),ah (by omega),← he,iO hk2,au (by omega)]))
    | exact H.rt (aF vi (by rw [dR,ah (by omega),ah (by omega),← he,iO hk2,ah (by omega),au (by omega)]))
    | exact H.rt (aF vi (by rw [dR,ah (by omega),ah (by omega),← he,iO hk2,ah (by omega),ah (by omega),au p45]))
    | exact H.rt (aF vi (by rw [dR,ah (by omega),ah (by omega),← he,iO hk2,ah (by omega),ah (by omega),ah p45,au (by omega)]))
    | exact H.rt (aF vi (by rw [dR,ah (by omega),ah (by omega),← he,iq (by omega)];rfl))
  intro lY a H
  try have p25:=dF lY
  refine kH H (YF Ux lY rfl (YO aH 0 lY rfl (YC lY rfl (Pf lY rfl (ak bS rfl (Cd rfl ?_ ?_)))))) <;> clear H bS
  ·intro h21 a H
   try have qb:=dT h21
   refine kP H (SR fun _ dM=>ak dM rfl ?_);clear H dM;intro a H;refine lr H results118 rfl ?_
   first
    | exact H.rt (aF vi (by rw [dR,au (by omega)]))
    | exact H.rt (aF vi (by rw [dR,ah (by omega),au (by omega)]))
    | exact H.rt (aF vi (by rw [dR,ah (by omega),ah (by omega),← he,iO hk2,au (by omega)]))
    | exact H.rt (aF vi (by rw [dR,ah (by omega),ah (by omega),← he,iO hk2,ah (by omega),au (by omega)]))
    | exact H.rt (aF vi (by rw [dR,ah (by omega),ah (by omega),← he,iO hk2,ah (by omega),ah (by omega),au p45]))
    | exact H.rt (aF vi (by rw [dR,ah (by omega),ah (by omega),← he,iO hk2,ah (by omega),ah (by omega),ah p45,au (by omega)]))
    | exact H.rt (aF vi (by rw [dR,ah (by omega),ah (by omega),← he,iq (by omega)];rfl))
  intro h21 a H
  try have qb:=dF h21
  refine kP H (SR fun _ cZ=>aW Uy aH 0 rfl rfl (Rc rfl (Rm rfl (Sp 34 rfl ?_ ?_)))) <;> clear H
  ·intro fF a H
   try have p34:=dT fF
   refine kH H (aY fF rfl (Pt fF rfl (ak cZ rfl (Ct rfl rfl (SR fun _ dW=>ak dW rfl ?_)))));clear H cZ dW;intro a H;refine lr H results118 rfl ?_
   first
    | exact H.rt (aF vi (by rw [dR,au (by omega)]))
    | exact H.rt (aF vi (by rw [dR,ah (by omega),au (by omega)]))
    | exact H.rt (aF vi (by rw [dR,ah (by omega),ah (by omega),← he,iO hk2,au (by omega)]))
    | exact H.rt (aF vi (by rw [dR,ah (by omega),ah (by omega),← he,iO hk2,ah (by omega),au (by omega)]))
    | exact H.rt (aF vi (by rw [dR,ah (by omega),ah (by omega),← he,iO hk2,ah (by omega),ah (by omega),au p45]))
    | exact H.rt (aF vi (by rw [dR,ah (by omega),ah (by omega),← he,iO hk2,ah (by omega),ah (by omega),ah p45,au (by omega)]))
    | exact H.rt (aF vi (by rw [dR,ah (by omega),ah (by omega),← he,iq (by omega)];rfl))
  intro fF a H
  try have p34:=dF fF
  refine kH H (YF Uy fF rfl (YO aH 0 fF rfl (YC fF rfl (Pf fF rfl (ak cZ rfl (Cd rfl ?_ ?_)))))) <;> clear H cZ
  ·intro qM a H
   try have p30:=dT qM
   refine kP H (SR fun _ fZ=>ak fZ rfl ?_);clear H fZ;intro a H;refine lr H results118 rfl ?_
   first
    | exact H.rt (aF vi (by rw [dR,au (by omega)]))
    | exact H.rt (aF vi (by rw [dR,ah (by omega),au (by omega)]))
    | exact H.rt (aF vi (by rw [dR,ah (by omega),ah (by omega),← he,iO hk2,au (by omega)]))
    | exact H.rt (aF vi (by rw [dR,ah (by omega),ah (by omega),← he,iO hk2,ah (by omega),au (by omega)]))
    | exact H.rt (aF vi (by rw [dR,ah (by omega),ah (by omega),← he,iO hk2,ah (by omega),ah (by omega),au p45]))
    | exact H.rt (aF vi (by rw [dR,ah (by omega),ah (by omega),← he,iO hk2,ah (by omega),ah (by omega),ah p45,au (by omega)]))
    | exact H.rt (aF vi (by rw [dR,ah (by omega),ah (by omega),← he,iq (by omega)];rfl))
  intro qM a H
  try have p30:=dF qM
  refine kP H (Kc bT (SQ fun _ eG=>SR fun _ gq=>aW aew gG 0 rfl rfl (Rm rfl (Rd rfl ?_))));clear H bT;intro a H;rw [show ((k:Int)+1)=((k+1:Nat):Int) from rfl] at H;refine s_call acJ H wn rfl (aic _ _ H.ro l[k].xZ ((k+1:Nat):Int) (ht _ (iM hk2))) rfl ?_;clear H;rintro v43 FY a w rfl BH H;refine kH H (ak gq rfl (SR fun _ iB=>Rm rfl (Rc rfl (Kz iB (Cd rfl ?_ ?_))))) <;> clear H gq iB
  ·intro h45 a H
   try have p45:=dT h45
   refine kP H (SR fun _ jv=>Rm rfl (ak jv rfl ?_));clear H jv;intro a H;refine lr H results118 rfl ?_
   first
    | exact H.rt (aF vi (by rw [dR,au (by omega)]))
    | exact H.rt (aF vi (by rw [dR,ah (by omega),au (by omega)]))
    | exact H.rt (aF vi (by rw [dR,ah (by omega),ah (by omega),← he,iO hk2,au (by omega)]))
    | exact H.rt (aF vi (by rw [dR,ah (by omega),ah (by omega),← he,iO hk2,ah (by omega),au (by omega)]))
    | exact H.rt (aF vi (by rw [dR,ah (by omega),ah (by omega),← he,iO hk2,ah (by omega),ah (by omega),au p45]))
    | exact H.rt (aF vi (by rw [dR,ah (by omega),ah (by omega),← he,iO hk2,ah (by omega),ah (by omega),ah p45,au (by omega)]))
    | exact H.rt (aF vi (by rw [dR,ah (by omega),ah (by omega),← he,iq (by omega)];rfl))
  intro h45 a H
  try have p45:=dF h45
  refine kP H (Kc eG (SR fun _ jB=>aW Uz aH 0 rfl rfl (Rc rfl (Rm rfl (Sp 50 rfl ?_ ?_))))) <;> clear H eG
  ·intro h50 a H
   try have p50:=dT h50
   refine kH H (aS h50 rfl (aS h50 rfl (Pt h50 rfl (Kz jB (Ct rfl rfl (SR fun _ iX=>ak iX rfl ?_))))));clear H jB iX;intro a H;refine lr H results118 rfl ?_
   first
    | exact H.rt (aF vi (by rw [dR,au (by omega)]))
    | exact H.rt (aF vi (by rw [dR,ah (by omega),au (by omega)]))
    | exact H.rt (aF vi (by rw [dR,ah (by omega),ah (by omega),← he,iO hk2,au (by omega)]))
    | exact H.rt (aF vi (by rw [dR,ah (by omega),ah (by omega),← he,iO hk2,ah (by omega),au (by omega)]))
    | exact H.rt (aF vi (by rw [dR,ah (by omega),ah (by omega),← he,iO hk2,ah (by omega),ah (by omega),au p45]))
    | exact H.rt (aF vi (by rw [dR,ah (by omega),ah (by omega),← he,iO hk2,ah (by omega),ah (by omega),ah p45,au (by omega)]))
    | exact H.rt (aF vi (by rw [dR,ah (by omega),ah (by omega),← he,iq (by omega)];rfl))
  intro h50 a H
  try have p50:=dF h50
  refine kH H (YF Uz h50 rfl (YO aH 0 h50 rfl (YM h50 rfl (YC h50 rfl (Pf h50 rfl (Kz jB (Cd rfl ?_ ?_))))))) <;> clear H jB
  ·intro lK a H
   try have p55:=dT lK
   refine kP H (SR fun _ kD=>ak kD rfl ?_);clear H kD;intro a H;refine lr H results118 rfl ?_
   first
    | exact H.rt (aF vi (by rw [dR,au (by omega)]))
    | exact H.rt (aF vi (by rw [dR,ah (by omega),au (by omega)]))
    | exact H.rt (aF vi (by rw [dR,ah (by omega),ah (by omega),← he,iO hk2,au (by omega)]))
    | exact H.rt (aF vi (by rw [dR,ah (by omega),ah (by omega),← he,iO hk2,ah (by omega),au (by omega)]))
    | exact H.rt (aF vi (by rw [dR,ah (by omega),ah (by omega),← he,iO hk2,ah (by omega),ah (by omega),au p45]))
    | exact H.rt (aF vi (by rw [dR,ah (by omega),ah (by omega),← he,iO hk2,ah (by omega),ah (by omega),ah p45,au (by omega)]))
    | exact H.rt (aF vi (by rw [dR,ah (by omega),ah (by omega),← he,iq (by omega)];rfl))
  intro lK a H
  try have p55:=dF lK
  refine kP H (Kc bC (SC (Rd rfl (Rm rfl ?_))));clear H bC;intro a H;refine aI ?_;refine cK ((k+1,FY)) (by exact (H.dV (Pl:=[_]) (dz:=[]) [] (by decide) rfl).sub ⟨rfl,rfl,rfl,aD⟩) ?_ ?_
  ·(try dsimp only);exact ⟨by omega,by rw [iO hk2,ah (by omega),ah (by omega),ah p45,ah (by omega)] at he;exact he,fun b o h=>BH b o (hgm b o h)⟩
  first|omega|(dsimp only;omega)
 intro eu a H
 try have mI:=dF eu
 refine dQ ?_;refine K7 _ _ ?_;clear K7;refine kP H (SR fun _ kZ=>ak kZ rfl ?_);clear H kZ;intro a H;refine lr H results118 rfl ?_
 first
  | exact H.rt (aF vi (by rw [dR,au (by omega)]))
  | exact H.rt (aF vi (by rw [dR,ah (by omega),au (by omega)]))
  | exact H.rt (aF vi (by rw [dR,ah (by omega),ah (by omega),← he,iO hk2,au (by omega)]))
  | exact H.rt (aF vi (by rw [dR,ah (by omega),ah (by omega),← he,iO hk2,ah (by omega),au (by omega)]))
  | exact H.rt (aF vi (by rw [dR,ah (by omega),ah (by omega),← he,iO hk2,ah (by omega),ah (by omega),au p45]))
  | exact H.rt (aF vi (by rw [dR,ah (by omega),ah (by omega),← he,iO hk2,ah (by omega),ah (by omega),ah p45,au (by omega)]))
  | exact H.rt (aF vi (by rw [dR,ah (by omega),ah (by omega),← he,iq (by omega)];rfl))
end
section
open Go.RowKit
theorem Ed:Ty prog 32 1 24 [.slice none 0 0] false:=⟨by kernel_rfl,by kernel_rfl⟩
theorem Eh:prog.underlying 32=some (.slice 184):=by kernel_rfl
theorem FJ:Ty prog 184 2 32 [.int .i64 0,.slice none 0 0] true:=⟨by kernel_rfl,by kernel_rfl⟩
theorem Us:bY prog 184 0 0:=⟨by kernel_rfl⟩
theorem akJ:Ty prog 182 1 24 [.slice none 0 0] false:=⟨by kernel_rfl,by kernel_rfl⟩
theorem Ni:∀ args w,(callFunc 86 args).run prog w=.ok (.enter 86 args) w:=enters func86 rfl (by kernel_rfl)
theorem aeu:bY prog 184 1 1:=⟨by kernel_rfl⟩
theorem acw:∀ args w,(callFunc 118 args).run prog w=.ok (.enter 118 args) w:=enters func118 rfl (by kernel_rfl)
theorem EI:∀ args w,(callFunc 84 args).run prog w=.ok (.enter 84 args) w:=enters func84 rfl (by kernel_rfl)
theorem acv:∀ args w,(callFunc 117 args).run prog w=.ok (.enter 117 args) w:=enters func117 rfl (by kernel_rfl)
theorem acu:∀ args w,(callFunc 116 args).run prog w=.ok (.enter 116 args) w:=enters func116 rfl (by kernel_rfl)
structure fV where
 id:Int
 levels:List oC
def fV.dat (x:fV):List Dat:=[li x.id,.sl 4 (x.levels.map oC.dat)]
structure iL where
 id:Int
 parent:Int
 author:ByteArray
 time:Int
 text:ByteArray
 done:Bool
def iL.dat (x:iL):List Dat:=[li x.id,li x.parent,.lf (.string x.author),li x.time,.lf (.string x.text),.lf (.bool x.done)]
abbrev iL.cells (x:iL):List aj:=[vi x.id,vi x.parent,.string x.author,vi x.time,.string x.text,.bool x.done]
structure mh where
 name:ByteArray
 value:ByteArray
def mh.dat (x:mh):List Dat:=[.lf (.string x.name),.lf (.string x.value)]
abbrev mh.cells (x:mh):List aj:=[.string x.name,.string x.value]
theorem Tj {G:GH} {x:iL} {cs:List aj} (h:aZ G x.dat cs):cs=x.cells:=by
 simp only [iL.dat,aZ,av] at h
 obtain ⟨_,_,rfl,⟨rfl,_⟩,_,_,rfl,⟨rfl,_⟩,_,_,rfl,⟨rfl,_⟩,_,_,rfl,⟨rfl,_⟩,_,_,rfl,⟨rfl,_⟩,_,_,rfl,⟨rfl,_⟩,rfl⟩:=h
 rfl
theorem akW {G:GH} {x:mh} {cs:List aj} (h:aZ G x.dat cs):cs=x.cells:=by
 simp only [mh.dat,aZ,av] at h
 obtain ⟨_,_,rfl,⟨rfl,_⟩,_,_,rfl,⟨rfl,_⟩,rfl⟩:=h
 rfl
theorem PE {G:GH} {l:List fV} {A:Option Addr} {n c k:Nat} (hv:av G (.sl 2 (l.map fV.dat)) (.slice A n c)) (hk:k < l.length):∃ b o B d,A=some ⟨b,o,none⟩∧(∀ j u,[vi l[k].id,.slice B l[k].levels.length d][j]?=some u→aL G b (o+k*2+j)=some u)∧av G (.sl 4 (l[k].levels.map oC.dat)) (.slice B l[k].levels.length d):=by
 obtain ⟨A',c',he,_,_,hg⟩:=hv.slice
 injection he with e1 e2 e3
 subst e1;obtain ⟨b,o,cs,h1,h2,h3,h4⟩:=hg k l[k].dat (by simp [hk])
 simp only [fV.dat,aZ] at h4
 obtain ⟨v1,_,rfl,⟨rfl,-⟩,v2,_,rfl,hl,rfl⟩:∃ v vs,cs=v :: vs∧av G (li l[k].id) v∧∃ v2 vs2,vs=v2 :: vs2∧av G (.sl 4 (l[k].levels.map oC.dat)) v2∧vs2=[]:=h4;obtain ⟨B,d,rfl,-,-,-⟩:=hl.slice;rw [bU] at *;exact ⟨b,o,B,d,h1,h3,hl⟩
theorem ahT {G:GH} {bl:Nat} {l:List fV} {A:Option Addr} {n c:Nat} (hb:aL G bl 0=some (.slice A n c)) (hv:av G (.sl 2 (l.map fV.dat)) (.slice A n c)):rD (.func (.func 117) #[] #[(aJ bl 0)]) G l.length fun k=>(l[k]?.map fV.id).getD 0:=by
 intro k hk G1 w0 hm hG;refine mo (caps:=[(aJ bl 0)]) acv ?_;replace hb:=aM hm hb
 obtain rfl:n=l.length:=by have:=hv.len;simpa using this
 obtain ⟨b,o,B,d,rfl,hrow,-⟩:=PE (hv.mono hm) hk;have hq:=hrow 0 _ rfl;refine eN [(0,_),(1,_)] func117 rfl ntmps117 rfl rfl hG ?_;intro a H;refine kP H (SR fun _ K1=>ak K1 rfl (SR fun _ K2=>Rg Ed rfl (by assumption) ?_));clear H K1;intro a H;refine kH H (Rm rfl (Ri Eh FJ rfl rfl (Rf Us rfl (Rg aH rfl (by assumption) ?_))));clear H;intro a H;exact kH H (ak K2 rfl (LR results117 rfl fun H=>H.rt (by dsimp only;rw [gY hk];rfl)))
def DR (l:List fV) (i:Nat):Int:=dK [oL (fun k=>(l[k]?.map fV.id).getD 0) i,dR ((l[i]?.map fV.levels).getD [])]
theorem ahW {G:GH} {bl:Nat} {l:List fV} {A:Option Addr} {n c:Nat} (hb:aL G bl 0=some (.slice A n c)) (hv:av G (.sl 2 (l.map fV.dat)) (.slice A n c)) (hl:l.length≤4294967296) (ht:∀ x∈l,∀ y∈x.levels,y.xZ.size < 4611686018427387904):rD (.func (.func 116) #[] #[(aJ bl 0)]) G l.length (DR l):=by
 intro k hk G1 w0 hm hG;refine mo (caps:=[(aJ bl 0)]) acu ?_;replace hb:=aM hm hb;replace hv:=hv.mono hm;have hcb:=ahT hb hv
 obtain rfl:n=l.length:=by have:=hv.len;simpa using this
 obtain ⟨b,o,B,d,rfl,hrow,hlv⟩:=PE hv hk;have hq:=hrow 1 _ rfl
 have he:DR l k=dK [oL (fun k=>(l[k]?.map fV.id).getD 0) k,dR l[k].levels]:=by unfold DR;rw [gY hk];rfl
 refine eN [(0,_),(1,_)] func116 rfl ntmps116 rfl rfl hG ?_;intro a H;refine kP H (SR fun _ K1=>ak K1 rfl (SQ fun _ K2=>?_));clear H K1;intro a H;have H:=H.sub (T':=[(0,_),(1,_)]) ⟨rfl,rfl,aD⟩;refine dI hmx [[],[],[0,1],[],[],[3,4],[3,4,5],(ra 3 4),(ra 0 8),(ra 0 9),(ra 0 10),(ra 0 11)] [9,10,11] (by kernel_rfl) [_,.func (.func 117) #[] #[(aJ bl 0)],vi (oL (fun k=>(l[k]?.map fV.id).getD 0) k),_,_,_,_,_,vi (dR l[k].levels)] H (aG (Z0 rfl (Rm rfl)) ?_ ?_ (X0 rfl fun hG=>Rg Ed rfl (aM hG hb)) (aG (Z0 rfl (Rm rfl)) (Z2 3 7 4 8 rfl (Ri Eh FJ rfl rfl)) (Z1 5 9 rfl (Rf aeu rfl)) (X1 6 10 rfl fun hG=>Rg akJ rfl (aM hG hq)) (aG ?_ (bN rfl) (bN rfl) (bN rfl) bZ))) ?_
 ·refine uN rfl fun _ a w G1 hG HT H fin=>?_;refine qd H wn rfl rfl ?_;clear H;intro a H;exact fin H iJ rfl
 ·refine dG 0 4 1 5 rfl rfl fun _ a w G1 hG HT H fin=>?_;refine s_call Ni H wn rfl (Pm _ _ H.ro k _ _ (by omega) (fun i hi=>(hcb.mono hG) i (by omega))) rfl ?_;clear H;rintro v6 G6 a w rfl gM H;exact fin H gM (rfl)
 ·refine dO 7 11 rfl rfl fun _ a w G1 hG HT H fin=>?_;refine s_call acw H wn rfl (abg _ _ H.ro _ _ (hlv.mono hG) (ht _ (iM hk))) rfl ?_;clear H;rintro v12 zI a w rfl qC H;exact fin H qC (rfl)
 clear H;intro a w G ng H hv;have H:=H.aQ (hv 2 6 rfl rfl) rfl;have H:=H.aQ (hv 8 12 rfl rfl) rfl;clear hv;refine gU ou gF [_,_] [_,_] H wn rfl rfl rfl rfl rfl (by intro i q h;match i,h with|0,h=>exact h|1,h=>exact h|n+2,h=>simp at h) rfl rfl ?_;clear H;intro b13 a w JZ H;obtain ⟨FV,J9,afH,H⟩:=H.dS;refine s_call pK H wn rfl (pR _ _ H.ro _ _ (wH afH)) rfl ?_;clear H;rintro v14 _ a w ⟨rfl,rfl⟩ - H;refine kH H (Ra rfl ?_);clear H;intro a H;refine aI ⟨rfl,?_⟩;refine K2 _ _ ?_;clear K2;refine lr H results116 rfl ?_;exact H.rt (by rw [he])
def Gn (l:List fV):Int:=dK [cu (decide (64 < (l.length:Int))) 9,kE (DR l) (min l.length 64)]
theorem rD.le {fv:aj} {G:GH} {n m:Nat} {E:Nat→Int} (h:rD fv G n E) (hm:m≤n):rD fv G m E:=fun i hi=>h i (by omega)
theorem abh (G:GH) (w0:World) (hG:Hold G w0) (l:List fV) (v:aj) (hv:av G (.sl 2 (l.map fV.dat)) v) (hl:l.length≤4294967296) (ht:∀ x∈l,∀ y∈x.levels,y.xZ.size < 4611686018427387904) :
  Calls prog 81 #[v] w0 (bF w0 G fun u G'=>u=vi (Gn l)):=by
 obtain ⟨A,c,rfl,hc1,hc2,-⟩:=hv.slice;rw [bU] at *;refine eN [(0,_)] func81 rfl ntmps81 rfl rfl hG ?_;intro a H;refine dH (fun _ K1=>?_);refine fq (cs:=[_]) H wn rfl rfl rfl ?_;clear H;intro b1 a w hb1 H;refine kH H (ak K1 rfl (SQ fun _ K2=>?_));clear H K1;intro a H;have H:=H.sub (T':=[(1,_)]) ⟨rfl,aD⟩;obtain ⟨Ga,hma,hb1',H⟩:=H.dS
 have hbl:aL Ga b1 0=some (.slice A l.length c):=by unfold aL;rw [hb1'];rfl
 have hcb:=ahW hbl (hv.mono hma) hl ht;refine dI hmx [[],[0],[0,1],[0,1,2],[],[4],[4,5],[],(ra 0 8),(ra 0 9),(ra 0 10),(ra 0 11)] [9,10,11] (by kernel_rfl) [_,_,_,vi (cu (decide (64 < (l.length:Int))) 9),_,_,vi ((min l.length 64:Nat):Int),.func (.func 116) #[] #[(aJ b1 0)],vi (kE (DR l) (min l.length 64))] H (aG (X0 rfl fun hG=>Rg Ed rfl (aM hG hbl)) (Z1 0 3 rfl (Rl Eh rfl)) (Z1 1 4 rfl (Rc rfl)) ?_ (aG (X0 rfl fun hG=>Rg Ed rfl (aM hG hbl)) (Z1 4 7 rfl (Rl Eh rfl)) ?_ ?_ (aG ?_ (bN rfl) (bN rfl) (bN rfl) bZ))) ?_
 ·refine dO 2 5 rfl rfl fun _ a w G1 hG HT H fin=>?_;refine s_call iZ H wn rfl (jf _ _ H.ro _ 9) rfl ?_;clear H;rintro v6 G6 a w ⟨rfl,-⟩ gM H;exact fin H gM (rfl)
 ·refine dO 5 8 rfl rfl fun _ a w G1 hG HT H fin=>?_;refine KW H wn rfl rfl rfl ?_;clear H;intro a H;exact fin H iJ (aF vi (by omega))
 ·refine uN rfl fun _ a w G1 hG HT H fin=>?_;refine qd H wn rfl rfl ?_;clear H;intro a H;exact fin H iJ rfl
 ·refine dG 6 9 7 10 rfl rfl fun _ a w G1 hG HT H fin=>?_;refine s_call EI H wn rfl (Gf _ _ H.ro (min l.length 64) (DR l) _ (by omega) ((hcb.mono hG).le (Nat.min_le_left _ _))) rfl ?_;clear H;rintro v11 wM a w rfl jS H;exact fin H jS (rfl)
 clear H;intro a w G ng H hv;have H:=H.aQ (hv 3 6 rfl rfl) rfl;have H:=H.aQ (hv 8 11 rfl rfl) rfl;clear hv;refine gU ou gF [_,_] [_,_] H wn rfl rfl rfl rfl rfl (by intro i q h;match i,h with|0,h=>exact h|1,h=>exact h|n+2,h=>simp at h) rfl rfl ?_;clear H;intro b12 a w BD H;obtain ⟨zI,xD,Dm,H⟩:=H.dS;refine s_call pK H wn rfl (pR _ _ H.ro _ _ (wH Dm)) rfl ?_;clear H;rintro v13 _ a w ⟨rfl,rfl⟩ - H;refine kH H (Ra rfl ?_);clear H;intro a H;refine aI ⟨rfl,?_⟩;refine K2 _ _ ?_;clear K2;refine lr H results81 rfl ?_;exact H.rt rfl
end
section
open Go.RowKit
theorem nC:prog.underlying 31=some (.slice 181):=by kernel_rfl
theorem kC:Ty prog 181 6 72 [.int .i64 0,.int .i64 0,.string ⟨#[]⟩,.int .i64 0,.int .i64 0,.slice none 0 0] true:=⟨by kernel_rfl,by kernel_rfl⟩
theorem wh:bY prog 181 1 1:=⟨by kernel_rfl⟩
theorem EK:bY prog 181 2 2:=⟨by kernel_rfl⟩
theorem tX:bY prog 181 0 0:=⟨by kernel_rfl⟩
theorem TK:∀ args w,(callFunc 141 args).run prog w=.ok (.enter 141 args) w:=enters func141 rfl (by kernel_rfl)
theorem acI:∀ args w,(callFunc 134 args).run prog w=.ok (.enter 134 args) w:=enters func134 rfl (by kernel_rfl)
theorem acN:∀ args w,(callFunc 142 args).run prog w=.ok (.enter 142 args) w:=enters func142 rfl (by kernel_rfl)
theorem acO:∀ args w,(callFunc 143 args).run prog w=.ok (.enter 143 args) w:=enters func143 rfl (by kernel_rfl)
structure bR where
 id:Int
 kind:Int
 name:ByteArray
 base:Int
 next:Int
 props:List iH
def bR.dat (x:bR):List Dat:=[li x.id,li x.kind,.lf (.string x.name),li x.base,li x.next,.sl 2 (x.props.map iH.dat)]
theorem Qx {G:GH} {x:bR} {cs:List aj} (h:aZ G x.dat cs):∃ A c,cs=[vi x.id,vi x.kind,.string x.name,vi x.base,vi x.next,.slice A x.props.length c]∧av G (.sl 2 (x.props.map iH.dat)) (.slice A x.props.length c):=by
 simp only [bR.dat,aZ] at h
 obtain ⟨v1,_,rfl,h1,v2,_,rfl,h2,v3,_,rfl,h3,v4,_,rfl,h4,v5,_,rfl,h5,v6,_,rfl,h6,rfl⟩:=h
 simp only [av] at h1 h2 h3 h4 h5
 obtain ⟨rfl,-⟩:=h1;obtain ⟨rfl,-⟩:=h2;obtain ⟨rfl,-⟩:=h3;obtain ⟨rfl,-⟩:=h4;obtain ⟨rfl,-⟩:=h5;obtain ⟨A,c,rfl,-,-,-⟩:=h6.slice;rw [bU] at *;exact ⟨A,c,rfl,h6⟩
theorem AV {G:GH} {l:List bR} {A:Option Addr} {n c k:Nat} (hv:av G (.sl 6 (l.map bR.dat)) (.slice A n c)) (hk:k < l.length):∃ b o pA pc,A=some ⟨b,o,none⟩∧(∀ j u,[vi l[k].id,vi l[k].kind,.string l[k].name,vi l[k].base,vi l[k].next,.slice pA l[k].props.length pc][j]?=some u→aL G b (o+k*6+j)=some u)∧av G (.sl 2 (l[k].props.map iH.dat)) (.slice pA l[k].props.length pc) ∧
  aZ G l[k].dat [vi l[k].id,vi l[k].kind,.string l[k].name,vi l[k].base,vi l[k].next,.slice pA l[k].props.length pc]:=by
 obtain ⟨A',c',he,_,_,hg⟩:=hv.slice
 injection he with e1 e2 e3
 subst e1;obtain ⟨b,o,cs,h1,h2,h3,h4⟩:=hg k l[k].dat (by simp [hk]);obtain ⟨pA,pc,rfl,hp⟩:=Qx h4;exact ⟨b,o,pA,pc,h1,h3,hp,h4⟩
def okB (x:Int):Bool:=decide (32≤x∧x≤126)
def DW (s:ByteArray) (k:Nat):Bool:=(List.range k).all fun i=>okB (gL s i)
def mU (s:ByteArray):Bool:=decide (s.size≠0∧s.size≤40∧gL s 0≠32∧gL s (s.size - 1)≠32) && DW s s.size
theorem aiu (s:ByteArray) (k:Nat):DW s (k+1)=(DW s k && okB (gL s k)):=by simp [DW,List.range_succ]
theorem DY {s:ByteArray} {k:Nat} (hk:k < s.size) (h:okB (gL s k)=false):DW s s.size=false:=by
 rw [DW,List.all_eq_false];exact ⟨k,by simpa using hk,by simp [h]⟩
theorem Kv (G:GH) (w0:World) (hG:Hold G w0) (s:ByteArray) (hs:s.size≤4611686018427387904):Calls prog 131 #[.string s] w0 (bF w0 G fun u G'=>u=.bool (mU s)):=by
 refine eN [(0,_)] func131 rfl ntmps131 rfl rfl hG ?_;intro a H;refine kP H (SR fun _ K1=>ak K1 rfl (SQ fun _ K2=>SR fun _ K3=>Rm rfl (Rv gy rfl (Rc rfl (Rm rfl (Sp 7 rfl ?_ ?_)))))) <;> clear H K1
 ·intro h7 a H
  try have p7:=dT h7
  refine kH H (aY h7 rfl (Pt h7 rfl (Rm rfl (aY rfl rfl (Pt rfl rfl (Rm rfl (aY rfl rfl (aY rfl rfl (Pt rfl rfl (Kz K3 (Ct rfl rfl (SR fun _ K4=>ak K4 rfl ?_))))))))))));clear H K3 K4;intro a H;refine lr H results131 rfl ?_
  first
   | exact H.rt (aB (by rw [mU,jk (by omega),uQ]))
   | exact H.rt (aB (by rw [mU,jY (by omega),show s.size=k by omega,hno];rfl))
   | exact H.rt (aB (by rw [mU,DY (k:=k) (by omega) (jk (by omega)),Bool.and_false]))
 intro h7 a H
 try have p7:=dF h7
 refine kH H (YM h7 rfl ?_);clear H;intro a H;refine Ca gy H (wg H rfl rfl h7) rfl rfl ?_;clear H;intro a H;refine kH H (YC h7 rfl (Pf h7 rfl (Rm rfl (Sp 12 rfl ?_ ?_)))) <;> clear H
 ·intro h12 a H
  try have pX:=dT h12
  refine kH H (aY h12 rfl (Pt h12 rfl (Rm rfl (aY rfl rfl (aY rfl rfl (Pt rfl rfl (Kz K3 (Ct rfl rfl (SR fun _ K5=>ak K5 rfl ?_)))))))));clear H K3 K5;intro a H;refine lr H results131 rfl ?_
  first
   | exact H.rt (aB (by rw [mU,jk (by omega),uQ]))
   | exact H.rt (aB (by rw [mU,jY (by omega),show s.size=k by omega,hno];rfl))
   | exact H.rt (aB (by rw [mU,DY (k:=k) (by omega) (jk (by omega)),Bool.and_false]))
 intro h12 a H
 try have pX:=dF h12
 refine kH H (YM h12 rfl ?_);clear H;intro a H;refine nP 0 gy H (wg H rfl rfl h12) rfl rfl rfl (by omega) rfl ?_;clear H;intro a H;rw [← lV] at H;refine kH H (YC h12 rfl (Pf h12 rfl (Rm rfl (Sp 17 rfl ?_ ?_)))) <;> clear H
 ·intro eu a H
  try have mI:=dT eu
  refine kH H (aY eu rfl (aY eu rfl (Pt eu rfl (Kz K3 (Ct rfl rfl (SR fun _ K6=>ak K6 rfl ?_))))));clear H K3 K6;intro a H;refine lr H results131 rfl ?_
  first
   | exact H.rt (aB (by rw [mU,jk (by omega),uQ]))
   | exact H.rt (aB (by rw [mU,jY (by omega),show s.size=k by omega,hno];rfl))
   | exact H.rt (aB (by rw [mU,DY (k:=k) (by omega) (jk (by omega)),Bool.and_false]))
 intro eu a H
 try have mI:=dF eu
 refine kH H (YM eu rfl (YM eu rfl ?_));clear H;intro a H;refine Ca gy H (wg H rfl rfl eu) rfl rfl ?_;clear H;intro a H;refine mW _ H (wg H rfl rfl eu) rfl rfl rfl (by omega) (by omega) rfl ?_;clear H;intro a H;refine nP (s.size - 1) gy H (wg H rfl rfl eu) rfl rfl (by omega) (by omega) rfl ?_;clear H;intro a H;rw [← lV] at H;refine kH H (YC eu rfl (Pf eu rfl (Kz K3 (Cd rfl ?_ ?_)))) <;> clear H K3
 ·intro dY a H
  try have kG:=dT dY
  refine kP H (SR fun _ K7=>ak K7 rfl ?_);clear H K7;intro a H;refine lr H results131 rfl ?_
  first
   | exact H.rt (aB (by rw [mU,jk (by omega),uQ]))
   | exact H.rt (aB (by rw [mU,jY (by omega),show s.size=k by omega,hno];rfl))
   | exact H.rt (aB (by rw [mU,DY (k:=k) (by omega) (jk (by omega)),Bool.and_false]))
 intro dY a H
 try have kG:=dF dY
 refine kP H (Kc K2 (SQ fun _ K8=>SR fun _ K9=>Rm rfl (Rv gy rfl (Rm rfl (Kz K9 (SB ?_))))));clear H K2 K9;intro a H;skip;refine eU (ι:=Nat) (Tc:=[(0,_),(26,_)]) (Lc:=[]) (fun gh=>[(27,vi gh)]) (fun gh=>[]) (fun gh=>G) (fun gh=>gh≤s.size∧DW s gh=true) (fun gh=>s.size - gh) (0) (by exact (H).sub ⟨rfl,rfl,rfl,aD⟩) ?_ ?_
 ·exact ⟨ig _,rfl⟩
 clear H;intro gh a w hI H;obtain ⟨k,hgh⟩:∃ x,x=gh:=⟨_,rfl⟩;subst hgh;obtain ⟨hk,hno⟩:=hI;dsimp only [lca,bD] at H;refine kP H (SR fun _ aT=>Rc rfl (Kz aT (SQ fun _ bC=>Cd rfl ?_ ?_))) <;> clear H aT
 ·intro fE a H
  try have p28:=dT fE
  refine kP H (Kc bC (SQ fun _ bJ=>SB (SR fun _ bT=>Rm rfl (ak bT rfl (SR fun _ bS=>Rm rfl (Rm rfl ?_))))));clear H bC bT;intro a H;refine nP k gy H wn rfl rfl rfl (by omega) rfl ?_;clear H;intro a H;rw [← lV] at H;refine kH H (Rc rfl (Rm rfl (Sp 34 rfl ?_ ?_))) <;> clear H
  ·intro fF a H
   try have p34:=dT fF
   refine kH H (aS fF rfl (aS fF rfl (Pt fF rfl (Kz bS (Ct rfl rfl (SR fun _ dD=>ak dD rfl ?_))))));clear H bS dD;intro a H;refine lr H results131 rfl ?_
   first
    | exact H.rt (aB (by rw [mU,jk (by omega),uQ]))
    | exact H.rt (aB (by rw [mU,jY (by omega),show s.size=k by omega,hno];rfl))
    | exact H.rt (aB (by rw [mU,DY (k:=k) (by omega) (jk (by omega)),Bool.and_false]))
  intro fF a H
  try have p34:=dF fF
  refine kH H (YM fF rfl (YM fF rfl ?_));clear H;intro a H;refine nP k gy H (wg H rfl rfl fF) rfl rfl rfl (by omega) rfl ?_;clear H;intro a H;rw [← lV] at H;refine kH H (YC fF rfl (Pf fF rfl (Kz bS (Cd rfl ?_ ?_)))) <;> clear H bS
  ·intro kU a H
   try have p39:=dT kU
   refine kP H (SR fun _ dM=>ak dM rfl ?_);clear H dM;intro a H;refine lr H results131 rfl ?_
   first
    | exact H.rt (aB (by rw [mU,jk (by omega),uQ]))
    | exact H.rt (aB (by rw [mU,jY (by omega),show s.size=k by omega,hno];rfl))
    | exact H.rt (aB (by rw [mU,DY (k:=k) (by omega) (jk (by omega)),Bool.and_false]))
  intro kU a H
  try have p39:=dF kU
  refine kP H (Kc bJ (SC (Rd rfl (Rm rfl ?_))));clear H bJ;intro a H;refine aI ?_;refine cK ((k+1)) (by exact (H).sub ⟨rfl,rfl,rfl,aD⟩) ?_ ?_
  ·exact ⟨by omega,by rw [aiu,hno];simp [okB];omega⟩
  first|omega|(dsimp only;omega)
 intro fE a H
 try have p28:=dF fE
 refine dQ ?_;refine K8 _ _ ?_;clear K8;refine kP H (SR fun _ cZ=>ak cZ rfl ?_);clear H cZ;intro a H;refine lr H results131 rfl ?_
 first
  | exact H.rt (aB (by rw [mU,jk (by omega),uQ]))
  | exact H.rt (aB (by rw [mU,jY (by omega),show s.size=k by omega,hno];rfl))
  | exact H.rt (aB (by rw [mU,DY (k:=k) (by omega) (jk (by omega)),Bool.and_false]))
theorem Wp (G:GH) (w0:World) (hG:Hold G w0) (l:List bR) (p:bR→Bool) (v fv:aj) (hv:av G (.sl 6 (l.map bR.dat)) v) (hf:∀ x∈l,vQ fv G x.dat (p x)) :
  Calls prog 141 #[v,fv] w0 (bF w0 G fun u G'=>u=vi (nK (l.findIdx? p))):=by
 obtain ⟨A,c,rfl,hc1,hc2,-⟩:=hv.slice;have hml:maxLen=9223372036854775807:=rfl;rw [bU] at *;refine eN [(0,_),(1,_)] func141 rfl ntmps141 rfl rfl hG ?_;intro a H;refine kP H (SR fun _ K1=>ak K1 rfl (SQ fun _ K2=>SR fun _ K3=>Rm rfl (Rl nC rfl (Rm rfl (Kz K3 (SB ?_))))));clear H K1 K3;intro a H;skip;refine eU (ι:=Nat × GH) (Tc:=[(0,_),(1,_),(7,_)]) (Lc:=[]) (fun gh=>[(8,vi gh.1)]) (fun gh=>[]) (fun gh=>gh.2) (fun gh=>gh.1≤l.length∧(l.take gh.1).findIdx? p=none∧(∀ b o,G b=some o→gh.2 b=some o)) (fun gh=>l.length - gh.1) ((0,G)) (by exact (H).sub ⟨rfl,rfl,rfl,rfl,aD⟩) ?_ ?_
 ·exact ⟨by omega,rfl,fun _ _ h=>h⟩
 clear H;intro gh a w hI H;obtain ⟨k,g⟩:=gh;dsimp only at hI H;obtain ⟨hk,hno,hgm⟩:=hI;dsimp only [lca,bD] at H;refine kP H (SR fun _ K4=>Rc rfl (Kz K4 (SQ fun _ K5=>Cd rfl ?_ ?_))) <;> clear H K4
 ·intro h9 a H
  try have p9:=dT h9
  have hk2:k < l.length:=by omega
  obtain ⟨b,o,pA,pc,rfl,hrow,hp,hrep⟩:=AV (hv.mono hgm) hk2;refine kP H (Kc K5 (SQ fun _ K6=>SB (SR fun _ K7=>Rm rfl (ak K7 rfl (SR fun _ K8=>Rm rfl (Rm rfl (Rm rfl (Ri nC kC rfl rfl ?_))))))));clear H K5 K7;intro a H;refine bK kC (cs:=[_,_,_,_,_,_]) H wn rfl rfl (fun j v hj=>H.hp.aL (hrow j v hj)) rfl ?_;clear H;intro a H;refine oq H wn rfl rfl (hf _ (iM hk2) _ _ _ hgm H.ro hrep) rfl ?_;clear H;rintro v16 oW a w rfl kV H;refine K8 _ _ ?_;clear K8;refine lW H rfl ?_ ?_
  ·intro h16
   try have p16:=dT h16
   refine kP H (SR fun _ K9=>Rm rfl (ak K9 rfl ?_));clear H K9;intro a H;refine lr H results141 rfl ?_
   first
    | exact H.rt (by rw [uF hk2 hno h16];rfl)
    | exact H.rt (by rw [show l.take k=l from jQ (by omega)] at hno;rw [hno];rfl)
  intro h16
  try have p16:=dF h16
  refine kP H (Kc K6 (SC (Rd rfl (Rm rfl ?_))));clear H K6;intro a H;refine aI ?_;refine cK ((k+1,oW)) (by exact (H).sub ⟨rfl,rfl,rfl,rfl,aD⟩) ?_ ?_
  ·(try dsimp only);exact ⟨by omega,Aw hk2 hno h16,fun b o h=>kV b o (hgm b o h)⟩
  first|omega|(dsimp only;omega)
 intro h9 a H
 try have p9:=dF h9
 refine dQ ?_;refine K2 _ _ ?_;clear K2;refine kP H (SR fun _ aT=>ak aT rfl ?_);clear H aT;intro a H;refine lr H results141 rfl ?_
 first
  | exact H.rt (by rw [uF hk2 hno h16];rfl)
  | exact H.rt (by rw [show l.take k=l from jQ (by omega)] at hno;rw [hno];rfl)
def Il (p q:ByteArray):Bool:=p.toList == q.toList
theorem aeH {G:GH} {bk bn:Nat} {kind:Int} {name:ByteArray} (hk:aL G bk 0=some (vi kind)) (hn:aL G bn 0=some (.string name)) (x:bR):vQ (.func (.func 142) #[] #[(aJ bk 0),(aJ bn 0)]) G x.dat (decide (x.kind=kind) && Il x.name name):=by
 intro G1 w0 cs hm hG hr;refine mo (caps:=[(aJ bk 0),(aJ bn 0)]) acN ?_;obtain ⟨pA,pc,rfl,-⟩:=Qx hr;replace hk:=aM hm hk;replace hn:=aM hm hn;refine eN [(0,_),(1,_),(2,_)] func142 rfl ntmps142 rfl rfl hG ?_;intro a H;refine dH (fun _ K1=>?_);refine fq (cs:=[_,_,_,_,_,_]) H wn rfl rfl rfl ?_;clear H;intro b3 a w hb3 H;refine kH H (ak K1 rfl (SR fun _ K2=>aW wh aH 0 rfl rfl (Rg aH rfl (by assumption) ?_)));clear H K1;intro a H;refine kH H (Rc rfl (Rm rfl (Sp 9 rfl ?_ ?_))) <;> clear H
 ·intro h9 a H
  try have p9:=dT h9
  refine kH H (YF EK h9 rfl (YO gG 0 h9 rfl (YR gG h9 rfl (by assumption) ?_)));clear H;intro a H;refine BZ H (wg H rfl rfl h9) rfl rfl rfl ?_;clear H;intro a H;exact kH H (Pt h9 rfl (ak K2 rfl (LR results142 rfl fun H=>H.rt (by unfold Il;simp_all))))
 intro h9 a H
 try have p9:=dF h9
 exact kH H (aS h9 rfl (aS h9 rfl (Pf h9 rfl (ak K2 rfl (LR results142 rfl fun H=>H.rt (by unfold Il;simp_all))))))
theorem aeG {G:GH} {bi:Nat} {id:Int} (hb:aL G bi 0=some (vi id)) (x:bR):vQ (.func (.func 143) #[] #[(aJ bi 0)]) G x.dat (decide (x.id=id)):=by
 intro G1 w0 cs hm hG hr;refine mo (caps:=[(aJ bi 0)]) acO ?_;obtain ⟨pA,pc,rfl,-⟩:=Qx hr;replace hb:=aM hm hb;refine eN [(0,_),(1,_)] func143 rfl ntmps143 rfl rfl hG ?_;intro a H;refine dH (fun _ K1=>?_);refine fq (cs:=[_,_,_,_,_,_]) H wn rfl rfl rfl ?_;clear H;intro b2 a w hb2 H;refine kH H (ak K1 rfl (SR fun _ K2=>aW tX aH 0 rfl rfl (Rg aH rfl (by assumption) ?_)));clear H K1;intro a H;exact kH H (Rc rfl (ak K2 rfl (LR results143 rfl fun H=>H.rt rfl)))
def Br (l:List bR) (kind:Int) (name:ByteArray):Option Nat:=l.findIdx? fun x=>decide (x.kind=kind) && Il x.name name
def JM (l:List bR) (id:Int):Option Nat:=l.findIdx? fun x=>decide (x.id=id)
theorem Ww (o:Option Nat):decide (0≤nK o)=o.isSome:=by cases o <;> simp [nK]
theorem aeI (G:GH) (w0:World) (hG:Hold G w0) (l:List bR) (kind:Int) (name:ByteArray) (v:aj) (hv:av G (.sl 6 (l.map bR.dat)) v) :
  Calls prog 132 #[v,vi kind,.string name] w0 (bF w0 G fun u G'=>u=.tuple #[vi (max (nK (Br l kind name)) 0),.bool (Br l kind name).isSome]):=by
 obtain ⟨A,c,rfl,hc1,hc2,-⟩:=hv.slice;rw [bU] at *;refine eN [(0,_),(1,_),(2,_)] func132 rfl ntmps132 rfl rfl hG ?_;intro a H;refine dH (fun _ K1=>?_);refine fq (cs:=[_]) H wn rfl rfl rfl ?_;clear H;intro b4 a w hb4 H;refine fq (cs:=[_]) H wn rfl rfl rfl ?_;clear H;intro b5 a w hb5 H;refine kH H (Ra rfl (ak K1 rfl (SQ fun _ K2=>?_)));clear H K1;intro a H;obtain ⟨Ga,hma,yR,H⟩:=H.dS;obtain ⟨Gb,hmb,uo,H⟩:=H.dS
 have q4:aL Gb b4 0=some (vi kind):=by unfold aL;rw [uo];rfl
 have q5:aL Gb b5 0=some (.string name):=by unfold aL;rw [hmb _ _ yR];rfl
 refine kP H (SC (Rm rfl ?_));clear H;intro a H;refine qd H wn rfl rfl ?_;clear H;intro a H;refine s_call TK H wn rfl (Wp _ _ H.ro l (fun x=>decide (x.kind=kind) && Il x.name name) _ _ ((hv.mono hma).mono hmb) (fun x _=>aeH q4 q5 x)) rfl ?_;clear H;rintro v11 wM a w rfl J8 H;refine kH H (aV K2 rfl (SR fun _ K3=>Rm rfl ?_));clear H K2;intro a H;refine KV H wn rfl rfl rfl ?_;clear H;intro a H;refine kH H (Rm rfl (Rc rfl (Ra rfl (ak K3 rfl ?_))));clear H K3;intro a H;refine cB ?_;refine (eB H results132 (.cons (aR H rfl) (.cons (aR H rfl) .nil)) ?_).1;exact H.rt (by rw [← Ww];rfl)
theorem aeL (G:GH) (w0:World) (hG:Hold G w0) (l:List bR) (id:Int) (v:aj) (hv:av G (.sl 6 (l.map bR.dat)) v) :
  Calls prog 134 #[v,vi id] w0 (bF w0 G fun u G'=>u=.tuple #[vi (max (nK (JM l id)) 0),.bool (JM l id).isSome]):=by
 obtain ⟨A,c,rfl,hc1,hc2,-⟩:=hv.slice;rw [bU] at *;refine eN [(0,_),(1,_)] func134 rfl ntmps134 rfl rfl hG ?_;intro a H;refine dH (fun _ K1=>?_);refine fq (cs:=[_]) H wn rfl rfl rfl ?_;clear H;intro b3 a w hb3 H;refine kH H (Ra rfl (ak K1 rfl (SQ fun _ K2=>?_)));clear H K1;intro a H;obtain ⟨Ga,hma,um,H⟩:=H.dS
 have q3:aL Ga b3 0=some (vi id):=by unfold aL;rw [um];rfl
 refine kP H (SC (Rm rfl ?_));clear H;intro a H;refine qd H wn rfl rfl ?_;clear H;intro a H;refine s_call TK H wn rfl (Wp _ _ H.ro l (fun x=>decide (x.id=id)) _ _ (hv.mono hma) (fun x _=>aeG q3 x)) rfl ?_;clear H;rintro v9 G9 a w rfl xG H;refine kH H (aV K2 rfl (SR fun _ K3=>Rm rfl ?_));clear H K2;intro a H;refine KV H wn rfl rfl rfl ?_;clear H;intro a H;refine kH H (Rm rfl (Rc rfl (Ra rfl (ak K3 rfl ?_))));clear H K3;intro a H;refine cB ?_;refine (eB H results134 (.cons (aR H rfl) (.cons (aR H rfl) .nil)) ?_).1;exact H.rt (by rw [← Ww];rfl)
def DJ (l:List bR) (kind id:Int):Bool:=match JM l id with|some i=>decide ((l[i]?.map bR.kind)=some kind)|none=>false
theorem Pn (G:GH) (w0:World) (hG:Hold G w0) (l:List bR) (kind id:Int) (v:aj) (hv:av G (.sl 6 (l.map bR.dat)) v) :
  Calls prog 114 #[v,vi kind,vi id] w0 (bF w0 G fun u G'=>u=.bool (DJ l kind id)):=by
 obtain ⟨A,c,rfl,hc1,hc2,-⟩:=hv.slice;rw [bU] at *;refine eN [(0,_),(1,_),(2,_)] func114 rfl ntmps114 rfl rfl hG ?_;intro a H;refine kP H (SR fun _ K1=>ak K1 rfl (SR fun _ K2=>Rm rfl (Rm rfl ?_)));clear H K1;intro a H;refine s_call acI H wn rfl (aeL _ _ H.ro l id _ hv) rfl ?_;clear H;rintro v12 zI a w rfl xD H;obtain ⟨o,ho⟩:∃ o,o=JM l id:=⟨_,rfl⟩;rw [← ho] at H;refine kH H (Rm rfl ?_);clear H;intro a H;(iterate 2 refine jN H wn rfl rfl rfl ?_;clear H;intro a H);refine kH H (Ra rfl (ak K2 rfl (SR fun _ K3=>Rm rfl (Rm rfl (Sp 16 rfl ?_ ?_))))) <;> clear H K2
 ·intro h16 a H
  try have p16:=dT h16
  obtain ⟨i,rfl⟩:=Option.isSome_iff_exists.1 h16
  have hil:i < l.length:=by
   obtain ⟨hi,-⟩:=List.findIdx?_eq_some_iff_getElem.1 ho.symm;exact hi
  rw [show max (nK (some i)) 0=(i:Int) by simp [nK]] at H;obtain ⟨b,o',pA,pc,rfl,hrow,hp,hrep⟩:=AV (hv.mono xD) hil;have r1:aL zI b (o'+i*6+1)=some (vi l[i].kind):=hrow 1 _ rfl;refine kH H (YM h16 rfl (YM h16 rfl (YI nC kC h16 rfl rfl (YF wh h16 rfl (YR aH h16 rfl (by assumption) ?_)))));clear H;intro a H;refine kH H (YM h16 rfl (YC h16 rfl (Pt h16 rfl (ak K3 rfl ?_))));clear H K3;intro a H;refine lr H results114 rfl ?_
  first
   | exact H.rt (aB (by rw [DJ,← ho];dsimp only;rw [gY hil];simp))
   | exact H.rt (aB (by rw [DJ,← ho];cases o <;> simp_all))
 intro h16 a H
 try have p16:=dF h16
 refine kH H (aY h16 rfl (aS h16 rfl (aS h16 rfl (Pf h16 rfl (ak K3 rfl ?_)))));clear H K3;intro a H;refine lr H results114 rfl ?_
 first
  | exact H.rt (aB (by rw [DJ,← ho];dsimp only;rw [gY hil];simp))
  | exact H.rt (aB (by rw [DJ,← ho];cases o <;> simp_all))
end
section
open Go.RowKit
section
variable {N:Nat} {D:List Deferred} {w0:World} {F:Nat→Prop} {G0 G:GH} {L Li Lo:OL} {T:List (Nat × aj)}
variable {r:Option Nat} {P:Program} {ops:Array Oper} {Q:Exit→Act→World→Prop} {rest:List Oper} {a:Act} {w:World}
variable {d:Nat} {ty:TypeId} {pos:String} {aP:Array Edge} {g:Option (Nat × Bool)}
theorem X5 {t e:TypeId} {sz bytes:Nat} {zero:List aj} {agg:Bool} (hs:P.underlying t=some (.slice e)) (ht:Ty P e sz bytes zero agg) {x z:Operand} {A:Option Addr} {n c:Nat} (hi:Nat) {q:Int} (H:St N D w0 F G0 G L T a w)
  (hw:Region.wanted ⟨some d,.slice t x none (some z) none,ty,pos,aP,g⟩ (yielded ops a.tmps)=true) (hx:ev T x=some (.slice A n c)) (hz:ev T z=some (.int .i64 q)) (hq:q=(hi:Int)) (h2:hi≤c) (hd:Nat.blt d N=true)
  (k:∀ a',St N D w0 F G0 G L ((d,.slice A hi c) :: T) a' w→WL r P ops Q rest a' w):WL r P ops Q (⟨some d,.slice t x none (some z) none,ty,pos,aP,g⟩ :: rest) a w:=by
 subst hq
 refine fO (v:=.slice A hi c) (w':=w) hw rfl ?_ (k _ (H.put hd _ H.hp))
 simp [execOp,H.ev hx,H.ev hz,Instr.sliceAt,Instr.slice,Instr.sliceBounds,Instr.sliceBound,cO,mg hs,ht.AL,asIntOf,h2]
 intro _
 cases A with
 | none=>rfl
 | some p=>simp [Addr.add]
end
end
section
open Go.RowKit
theorem JC:∀ args w,(callFunc 131 args).run prog w=.ok (.enter 131 args) w:=enters func131 rfl (by kernel_rfl)
theorem acG:∀ args w,(callFunc 132 args).run prog w=.ok (.enter 132 args) w:=enters func132 rfl (by kernel_rfl)
theorem Ur:bY prog 181 5 5:=⟨by kernel_rfl⟩
theorem acH:∀ args w,(callFunc 133 args).run prog w=.ok (.enter 133 args) w:=enters func133 rfl (by kernel_rfl)
theorem Uf:∀ args w,(callFunc 90 args).run prog w=.ok (.enter 90 args) w:=enters func90 rfl (by kernel_rfl)
theorem av.pre {G:GH} {sz:Nat} {rows:List (List Dat)} {A:Option Addr} {n c:Nat} (h:av G (.sl sz rows) (.slice A n c)) (k:Nat) (hk:k≤rows.length):av G (.sl sz (rows.take k)) (.slice A k c):=by
 have h:=h.part 0 k (ig _) hk
 have e:(if c=0 then A else A.map (·.add (0*sz)))=A:=by
  split
  ·rfl
  cases A <;> simp [Addr.add]
 rw [e] at h
 simpa using h
theorem abZ (G:GH) (w0:World) (hG:Hold G w0) (kind:Int):Calls prog 133 #[vi kind] w0 (bF w0 G fun u G'=>u=vi (if kind=1 then 2 else 1)):=by
 refine eN [(0,_)] func133 rfl ntmps133 rfl rfl hG ?_;intro a H;refine kP H (SR fun _ K1=>ak K1 rfl (SQ fun _ K2=>SR fun _ K3=>Rm rfl (Rc rfl (Kz K3 (Cd rfl ?_ ?_))))) <;> clear H K1 K3
 ·intro h4 a H
  try have p4:=dT h4
  exact kP H (SR fun _ K4=>ak K4 rfl (LR results133 rfl fun H=>H.rt (by first|(rw [au (by omega)];done)|rw [ah (by omega)])))
 intro h4 a H
 try have p4:=dF h4
 exact kP H (Kc K2 (SR fun _ K5=>ak K5 rfl (LR results133 rfl fun H=>H.rt (by first|(rw [au (by omega)];done)|rw [ah (by omega)]))))
def wF (l:List bR) (k:Nat):Option Int:=if k=0 then none else l[k - 1]?.map bR.id
theorem KN {l:List bR} {k:Nat} (h:k=0):wF l k=none:=au h
def Ez (k:Int):Bool:=decide (k=20) || decide (k=1)
def kX (q:Option Int) (dup:Bool) (s:bR):Int :=
 if s.id < 1∨1073741824 < s.id then 18 else if q=some s.id then 7 else if Fj q s.id=true then 6 else if s.kind≠1∧s.kind≠2 then 3 else if mU s.name=false then 13 else if dup=true then 7
 else if s.props.any (fun p=>Ez p.key)=true then 4 else gI (if s.kind=1 then 2 else 1) s.props
def iK (l:List bR) (k:Nat) (s:bR):Int:=kX (wF l k) (Br (l.take k) s.kind s.name).isSome s
set_option maxHeartbeats 1000000 in
theorem aiJ (G:GH) (w0:World) (hG:Hold G w0) (l:List bR) (k:Nat) (v:aj) (hv:av G (.sl 6 (l.map bR.dat)) v) (hk:k < l.length) (hs:l[k].name.size≤4611686018427387904) :
  Calls prog 113 #[v,vi k] w0 (bF w0 G fun u G'=>u=vi (iK l k l[k])):=by
 obtain ⟨A,c,rfl,hc1,hc2,-⟩:=hv.slice;have hml:maxLen=9223372036854775807:=rfl;rw [bU] at *;obtain ⟨b,o,pA,pc,rfl,hrow,hp,hrep⟩:=AV hv hk;obtain ⟨x,hx⟩:∃ x,x=l[k]:=⟨_,rfl⟩;rw [← hx] at hs hrow hp hrep ⊢;have hdp:∀ j v,[vi x.id,vi x.kind,.string x.name,vi x.base,vi x.next,.slice pA x.props.length pc][j]?=some v→aL G b (o+k*6+j)=some v:=hrow;obtain ⟨_,_,he0,amg,amh,-⟩:=hp.slice
 injection he0 with _ he1 he2
 rw [bU] at *;subst he2
 obtain ⟨pk,hpk⟩:∃ pk,0 < k→aL G b (o+(k - 1)*6+0)=some (vi pk)∧wF l k=some pk:=by
  by_cases h0:0 < k
  ·obtain ⟨b',o',_,_,he,hr',-,-⟩:=AV hv (show k - 1 < l.length by omega)
   injection he with he
   injection he with e1 e2 e3
   subst e1;subst e2;exact ⟨_,fun _=>⟨hr' 0 _ rfl,by rw [wF,ah (by omega),gY (by omega)];rfl⟩⟩
  exact ⟨0,fun h=>absurd h h0⟩
 refine eN [(0,_),(1,_)] func113 rfl ntmps113 rfl rfl hG ?_;intro a H;refine kP H (SR fun _ K1=>ak K1 rfl (SR fun _ K2=>Rm rfl (Rm rfl (Ri nC kC rfl rfl ?_))));clear H K1;intro a H;refine bK kC (cs:=[_,_,_,_,_,_]) H wn rfl rfl (fun j v hj=>H.hp.aL (hrow j v hj)) rfl ?_;clear H;intro a H;refine eZ kC H wn rfl ?_;clear H;intro b5 a w hb5 H;refine bM kC 0 (vs:=[_,_,_,_,_,_]) _ H wn rfl rfl rfl rfl rfl rfl rfl rfl ?_;clear H;intro w H;dsimp only [List.set,setRow] at H;refine K2 _ _ ?_;clear K2;refine qy (ι:=GH) (Tc:=[(0,_),(1,_),(5,_)]) (Lc:=[(_,_)]) (fun gh=>[]) (fun gh=>[]) (fun gh=>gh) (fun gh=>¬ (x.id < 1∨1073741824 < x.id)∧¬ wF l k=some x.id∧¬ Fj (wF l k) x.id=true∧¬ (x.kind≠1∧x.kind≠2)∧¬ mU x.name=false∧(∀ b o,G b=some o→gh b=some o)) (by exact (H).sub ⟨rfl,rfl,rfl,aD⟩) ?_ ?_
 ·skip;refine kP H (SB (SR fun _ K3=>aW tX aH 0 rfl rfl (Rc rfl (Rm rfl (Sp 18 rfl ?_ ?_))))) <;> clear H
  ·intro h18 a H
   try have rV:=dT h18
   refine kH H (aY h18 rfl (Pt h18 rfl (ak K3 rfl (Ct rfl rfl (SR fun _ K4=>ak K4 rfl ?_)))));clear H K3 K4;intro a H;refine lr H results113 rfl ?_
   first
    | exact H.rt (aF vi e0.symm)
    | exact H.rt (aF vi e4.symm)
    | exact H.rt (aF vi e7.symm)
    | exact H.rt (aF vi e13.symm)
    | exact H.rt (aF vi e3.symm)
    | exact H.rt (aF vi e6.symm)
    | exact H.rt (aF vi (by rw [iK,kX,au (by omega)]))
  intro h18 a H
  try have rV:=dF h18
  refine kH H (YF tX h18 rfl (YO aH 0 h18 rfl (YC h18 rfl (Pf h18 rfl (ak K3 rfl (Cd rfl ?_ ?_)))))) <;> clear H K3
  ·intro dN a H
   try have mH:=dT dN
   refine kP H (SR fun _ K5=>ak K5 rfl ?_);clear H K5;intro a H;refine lr H results113 rfl ?_
   first
    | exact H.rt (aF vi e0.symm)
    | exact H.rt (aF vi e4.symm)
    | exact H.rt (aF vi e7.symm)
    | exact H.rt (aF vi e13.symm)
    | exact H.rt (aF vi e3.symm)
    | exact H.rt (aF vi e6.symm)
    | exact H.rt (aF vi (by rw [iK,kX,au (by omega)]))
  intro dN a H
  try have mH:=dF dN
  refine bG (fun _ K6=>?_)
  by_cases c0:0 < (k:Int)
  ·skip
   by_cases c1:x.id=pk
   ·skip;refine dI hmx [[],[0],[0,1],[0,1,2],(ra 0 4),[0,1,2],[0,1,2],[0,1,2,6],[0,1,2,5,6,7],[0,1,2,5,6,7,8],[0,1,2,5,6,7,8,9],(ra 0 11),(ra 0 12),(ra 0 13)] [13] (by kernel_rfl) [_,_,_,_,vi x.id,_,_,vi ((k - 1:Nat):Int),_,_,_,_,_] H (aG (Z0 rfl (Rm rfl)) (Z1 0 24 rfl (Rc rfl)) (Z1 1 25 rfl (Rm rfl)) (Z1 2 26 rfl (YF tX (aC c0) rfl)) (aG (Z2 3 27 2 26 rfl (YO aH 0 (aC c0) rfl)) (Z1 2 26 rfl (YM (aC c0) rfl)) (Z1 2 26 rfl (YM (aC c0) rfl)) ?_ (aG (Z3 5 29 7 31 2 26 rfl (YI nC kC (aC c0) rfl rfl)) (Z2 8 32 2 26 rfl (YF tX (aC c0) rfl)) (X2 9 33 2 26 rfl fun hG=>YR aH (aC c0) rfl (aM hG (hpk (by omega)).1)) (Z3 4 28 10 34 2 26 rfl (YC (aC c0) rfl)) (aU (Z2 2 26 11 35 rfl (Pt (aC c0) rfl)) (aU (bN rfl) bZ))))) ?_
    ·refine dG 6 30 2 26 rfl rfl fun _ a w G1 hG HT H fin=>?_;refine mW _ H (wg H rfl rfl (aC c0)) rfl rfl rfl (by omega) (by omega) rfl ?_;clear H;intro a H;exact fin H iJ (by show _=_;first|rfl|exact aF vi (by omega))
    clear H;intro a w G Ai H hv;have H:=H.aQ (hv 12 36 rfl rfl) rfl;clear hv;refine kH H (Ra rfl ?_);clear H;intro a H;refine aI ⟨rfl,?_⟩;refine K6 _ _ ?_;clear K6;refine qL H rfl (aC c1) ?_;refine bG (fun _ K7=>?_)
    have e7:iK l k x=7:=by rw [iK,kX,ah (by omega),au (by rw [(hpk (by omega)).2,c1])]
    refine kP H (SC (aV K7 rfl ?_));clear H K7;intro a H;refine lr H results113 rfl ?_
    first
     | exact H.rt (aF vi e0.symm)
     | exact H.rt (aF vi e4.symm)
     | exact H.rt (aF vi e7.symm)
     | exact H.rt (aF vi e13.symm)
     | exact H.rt (aF vi e3.symm)
     | exact H.rt (aF vi e6.symm)
     | exact H.rt (aF vi (by rw [iK,kX,au (by omega)]))
   skip;refine dI hmx [[],[0],[0,1],[0,1,2],(ra 0 4),[0,1,2],[0,1,2],[0,1,2,6],[0,1,2,5,6,7],[0,1,2,5,6,7,8],[0,1,2,5,6,7,8,9],(ra 0 11),(ra 0 12),(ra 0 13)] [13] (by kernel_rfl) [_,_,_,_,vi x.id,_,_,vi ((k - 1:Nat):Int),_,_,_,_,_] H (aG (Z0 rfl (Rm rfl)) (Z1 0 24 rfl (Rc rfl)) (Z1 1 25 rfl (Rm rfl)) (Z1 2 26 rfl (YF tX (aC c0) rfl)) (aG (Z2 3 27 2 26 rfl (YO aH 0 (aC c0) rfl)) (Z1 2 26 rfl (YM (aC c0) rfl)) (Z1 2 26 rfl (YM (aC c0) rfl)) ?_ (aG (Z3 5 29 7 31 2 26 rfl (YI nC kC (aC c0) rfl rfl)) (Z2 8 32 2 26 rfl (YF tX (aC c0) rfl)) (X2 9 33 2 26 rfl fun hG=>YR aH (aC c0) rfl (aM hG (hpk (by omega)).1)) (Z3 4 28 10 34 2 26 rfl (YC (aC c0) rfl)) (aU (Z2 2 26 11 35 rfl (Pt (aC c0) rfl)) (aU (bN rfl) bZ))))) ?_
   ·refine dG 6 30 2 26 rfl rfl fun _ a w G1 hG HT H fin=>?_;refine mW _ H (wg H rfl rfl (aC c0)) rfl rfl rfl (by omega) (by omega) rfl ?_;clear H;intro a H;exact fin H iJ (by show _=_;first|rfl|exact aF vi (by omega))
   clear H;intro a w G Ai H hv;have H:=H.aQ (hv 12 36 rfl rfl) rfl;clear hv;refine kH H (Ra rfl ?_);clear H;intro a H;refine aI ⟨rfl,?_⟩;refine K6 _ _ ?_;clear K6;refine lI H rfl (aK c1) ?_;refine bG (fun _ K8=>?_)
   have q1:¬ (0 < (k:Int)∧x.id=pk):=by first|exact fun h=>c1 h.2|exact fun h=>c0 h.1
   have q1':¬ wF l k=some x.id:=fun h=>q1 (by
    by_cases h0:0 < k
    ·rw [(hpk h0).2] at h
     injection h with h
     exact ⟨by omega,h.symm⟩
    rw [KN (by omega)] at h
    cases h)
   by_cases c3:x.id < pk
   ·skip;refine dI hmx [[],[0],[0,1],[0,1,2],(ra 0 4),[0,1,2],[0,1,2],[0,1,2,6],[0,1,2,5,6,7],[0,1,2,5,6,7,8],[0,1,2,5,6,7,8,9],(ra 0 11),(ra 0 12),(ra 0 13)] [13] (by kernel_rfl) [_,_,_,_,vi x.id,_,_,vi ((k - 1:Nat):Int),_,_,_,_,_] H (aG (Z0 rfl (Rm rfl)) (Z1 0 38 rfl (Rc rfl)) (Z1 1 39 rfl (Rm rfl)) (Z1 2 40 rfl (YF tX (aC c0) rfl)) (aG (Z2 3 41 2 40 rfl (YO aH 0 (aC c0) rfl)) (Z1 2 40 rfl (YM (aC c0) rfl)) (Z1 2 40 rfl (YM (aC c0) rfl)) ?_ (aG (Z3 5 43 7 45 2 40 rfl (YI nC kC (aC c0) rfl rfl)) (Z2 8 46 2 40 rfl (YF tX (aC c0) rfl)) (X2 9 47 2 40 rfl fun hG=>YR aH (aC c0) rfl (aM hG (aM Ai (hpk (by omega)).1))) (Z3 4 42 10 48 2 40 rfl (YC (aC c0) rfl)) (aU (Z2 2 40 11 49 rfl (Pt (aC c0) rfl)) (aU (bN rfl) bZ))))) ?_
    ·refine dG 6 44 2 40 rfl rfl fun _ a w G1 hG HT H fin=>?_;refine mW _ H (wg H rfl rfl (aC c0)) rfl rfl rfl (by omega) (by omega) rfl ?_;clear H;intro a H;exact fin H iJ (by show _=_;first|rfl|exact aF vi (by omega))
    clear H;intro a w G gM H hv;have H:=H.aQ (hv 12 50 rfl rfl) rfl;clear hv;refine kH H (Ra rfl ?_);clear H;intro a H;refine aI ⟨rfl,?_⟩;refine K8 _ _ ?_;clear K8;refine qL H rfl (aC c3) ?_;refine bG (fun _ K9=>?_)
    have e6:iK l k x=6:=by rw [iK,kX,ah (by omega),ah q1',au (by rw [(hpk (by omega)).2];exact aC c3)]
    refine kP H (SC (aV K9 rfl ?_));clear H K9;intro a H;refine lr H results113 rfl ?_
    first
     | exact H.rt (aF vi e0.symm)
     | exact H.rt (aF vi e4.symm)
     | exact H.rt (aF vi e7.symm)
     | exact H.rt (aF vi e13.symm)
     | exact H.rt (aF vi e3.symm)
     | exact H.rt (aF vi e6.symm)
     | exact H.rt (aF vi (by rw [iK,kX,au (by omega)]))
   skip;refine dI hmx [[],[0],[0,1],[0,1,2],(ra 0 4),[0,1,2],[0,1,2],[0,1,2,6],[0,1,2,5,6,7],[0,1,2,5,6,7,8],[0,1,2,5,6,7,8,9],(ra 0 11),(ra 0 12),(ra 0 13)] [13] (by kernel_rfl) [_,_,_,_,vi x.id,_,_,vi ((k - 1:Nat):Int),_,_,_,_,_] H (aG (Z0 rfl (Rm rfl)) (Z1 0 38 rfl (Rc rfl)) (Z1 1 39 rfl (Rm rfl)) (Z1 2 40 rfl (YF tX (aC c0) rfl)) (aG (Z2 3 41 2 40 rfl (YO aH 0 (aC c0) rfl)) (Z1 2 40 rfl (YM (aC c0) rfl)) (Z1 2 40 rfl (YM (aC c0) rfl)) ?_ (aG (Z3 5 43 7 45 2 40 rfl (YI nC kC (aC c0) rfl rfl)) (Z2 8 46 2 40 rfl (YF tX (aC c0) rfl)) (X2 9 47 2 40 rfl fun hG=>YR aH (aC c0) rfl (aM hG (aM Ai (hpk (by omega)).1))) (Z3 4 42 10 48 2 40 rfl (YC (aC c0) rfl)) (aU (Z2 2 40 11 49 rfl (Pt (aC c0) rfl)) (aU (bN rfl) bZ))))) ?_
   ·refine dG 6 44 2 40 rfl rfl fun _ a w G1 hG HT H fin=>?_;refine mW _ H (wg H rfl rfl (aC c0)) rfl rfl rfl (by omega) (by omega) rfl ?_;clear H;intro a H;exact fin H iJ (by show _=_;first|rfl|exact aF vi (by omega))
   clear H;intro a w G gM H hv;have H:=H.aQ (hv 12 50 rfl rfl) rfl;clear hv;refine kH H (Ra rfl ?_);clear H;intro a H;refine aI ⟨rfl,?_⟩;refine K8 _ _ ?_;clear K8;refine lI H rfl (aK c3) ?_;refine bG (fun _ aT=>?_)
   have q2:¬ (0 < (k:Int)∧x.id < pk):=by first|exact fun h=>c3 h.2|exact fun h=>c0 h.1
   have q2':¬ Fj (wF l k) x.id=true:=fun h=>q2 (by
    by_cases h0:0 < k
    ·rw [(hpk h0).2] at h;exact ⟨by omega,rF h⟩
    rw [KN (by omega)] at h
    cases h)
   refine kP H (SC (aW wh aH 0 rfl rfl (Rc rfl (Rm rfl (Sp 55 rfl ?_ ?_))))) <;> clear H
   ·intro lK a H
    try have p55:=dT lK
    refine kH H (YF wh lK rfl (YO aH 0 lK rfl (YC lK rfl (Pt lK rfl (aV aT rfl (Cd rfl ?_ ?_)))))) <;> clear H aT
    ·intro jl a H
     try have p51:=dT jl
     refine bG (fun _ bC=>?_)
     have e3:iK l k x=3:=by rw [iK,kX,ah (by omega),ah q1',ah q2',au (by omega)]
     refine kP H (SC (aV bC rfl ?_));clear H bC;intro a H;refine lr H results113 rfl ?_
     first
      | exact H.rt (aF vi e0.symm)
      | exact H.rt (aF vi e4.symm)
      | exact H.rt (aF vi e7.symm)
      | exact H.rt (aF vi e13.symm)
      | exact H.rt (aF vi e3.symm)
      | exact H.rt (aF vi e6.symm)
      | exact H.rt (aF vi (by rw [iK,kX,au (by omega)]))
    intro jl a H
    try have p51:=dF jl
    refine kP H (SR fun _ bJ=>aW EK gG 0 rfl rfl ?_);clear H;intro a H;refine s_call JC H wn rfl (Kv _ _ H.ro x.name hs) rfl ?_;clear H;rintro v63 Cv a w rfl hm63 H;refine kH H (Rn rfl (ak bJ rfl (Cd rfl ?_ ?_))) <;> clear H bJ
    ·intro jm a H
     try have p60:=dT jm
     refine bG (fun _ bT=>?_)
     have e13:iK l k x=13:=by rw [iK,kX,ah (by omega),ah q1',ah q2',ah (by omega),au (by simpa using jm)]
     refine kP H (SC (aV bT rfl ?_));clear H bT;intro a H;refine lr H results113 rfl ?_
     first
      | exact H.rt (aF vi e0.symm)
      | exact H.rt (aF vi e4.symm)
      | exact H.rt (aF vi e7.symm)
      | exact H.rt (aF vi e13.symm)
      | exact H.rt (aF vi e3.symm)
      | exact H.rt (aF vi e6.symm)
      | exact H.rt (aF vi (by rw [iK,kX,au (by omega)]))
    intro jm a H
    try have p60:=dF jm
    refine fT ?_;refine ⟨Cv,by exact (H).sub ⟨rfl,rfl,rfl,aD⟩,?_⟩;exact ⟨by omega,q1',q2',by omega,by simpa using jm,fun b o h=>hm63 b o (gM b o (Ai b o h))⟩
   intro lK a H
   try have p55:=dF lK
   refine kH H (aY lK rfl (Pf lK rfl (aV aT rfl (Cf rfl rfl (SR fun _ bS=>aW EK gG 0 rfl rfl ?_)))));clear H aT;intro a H;refine s_call JC H wn rfl (Kv _ _ H.ro x.name hs) rfl ?_;clear H;rintro v63 Cv a w rfl hm63 H;refine kH H (Rn rfl (ak bS rfl (Cd rfl ?_ ?_))) <;> clear H bS
   ·intro jm a H
    try have p60:=dT jm
    refine bG (fun _ dD=>?_)
    have e13:iK l k x=13:=by rw [iK,kX,ah (by omega),ah q1',ah q2',ah (by omega),au (by simpa using jm)]
    refine kP H (SC (aV dD rfl ?_));clear H dD;intro a H;refine lr H results113 rfl ?_
    first
     | exact H.rt (aF vi e0.symm)
     | exact H.rt (aF vi e4.symm)
     | exact H.rt (aF vi e7.symm)
     | exact H.rt (aF vi e13.symm)
     | exact H.rt (aF vi e3.symm)
     | exact H.rt (aF vi e6.symm)
     | exact H.rt (aF vi (by rw [iK,kX,au (by omega)]))
   intro jm a H
   try have p60:=dF jm
   refine fT ?_;refine ⟨Cv,by exact (H).sub ⟨rfl,rfl,rfl,aD⟩,?_⟩;exact ⟨by omega,q1',q2',by omega,by simpa using jm,fun b o h=>hm63 b o (gM b o (Ai b o h))⟩
  skip;refine dI hmx [[],[0],[0,1],[0,1,2],(ra 0 4),[0,1,2],[0,1,2],[0,1,2,6],[0,1,2,5,6,7],[0,1,2,5,6,7,8],[0,1,2,5,6,7,8,9],(ra 0 11),(ra 0 12),(ra 0 13)] [13] (by kernel_rfl) [_,_,_,undef,undef,undef,undef,undef,undef,undef,undef,undef,_] H (aG (Z0 rfl (Rm rfl)) (Z1 0 24 rfl (Rc rfl)) (Z1 1 25 rfl (Rm rfl)) (aN (j:=2) (by kernel_rfl) (fun _ _ _ _ _ h=>h) rfl rfl rfl rfl rfl (fun _ _ h=>aO h (aB (aK c0))) rfl (fun _=>rfl)) (aG (aN (j:=2) (by kernel_rfl) (fun _ _ _ _ _ h=>h) rfl rfl rfl rfl rfl (fun _ _ h=>aO h (aB (aK c0))) rfl (fun _=>rfl)) (aN (j:=2) (by kernel_rfl) (fun _ _ _ _ _ h=>h) rfl rfl rfl rfl rfl (fun _ _ h=>aO h (aB (aK c0))) rfl (fun _=>rfl)) (aN (j:=2) (by kernel_rfl) (fun _ _ _ _ _ h=>h) rfl rfl rfl rfl rfl (fun _ _ h=>aO h (aB (aK c0))) rfl (fun _=>rfl)) (aN (j:=2) (by kernel_rfl) (fun _ _ _ _ _ h=>h) rfl rfl rfl rfl rfl (fun _ _ h=>aO h (aB (aK c0))) rfl (fun _=>rfl)) (aG (aN (j:=2) (by kernel_rfl) (fun _ _ _ _ _ h=>h) rfl rfl rfl rfl rfl (fun _ _ h=>aO h (aB (aK c0))) rfl (fun _=>rfl)) (aN (j:=2) (by kernel_rfl) (fun _ _ _ _ _ h=>h) rfl rfl rfl rfl rfl (fun _ _ h=>aO h (aB (aK c0))) rfl (fun _=>rfl)) (aN (j:=2) (by kernel_rfl) (fun _ _ _ _ _ h=>h) rfl rfl rfl rfl rfl (fun _ _ h=>aO h (aB (aK c0))) rfl (fun _=>rfl)) (aN (j:=2) (by kernel_rfl) (fun _ _ _ _ _ h=>h) rfl rfl rfl rfl rfl (fun _ _ h=>aO h (aB (aK c0))) rfl (fun _=>rfl)) (aU (Z2 2 26 11 35 rfl (Pf (aK c0) rfl)) (aU (bN rfl) bZ))))) ?_
  clear H;intro a w G Ai H hv;have H:=H.aQ (hv 12 36 rfl rfl) rfl;clear hv;refine kH H (Ra rfl ?_);clear H;intro a H;refine aI ⟨rfl,?_⟩;refine K6 _ _ ?_;clear K6;refine lI H rfl rfl ?_;refine bG (fun _ dM=>?_)
  have q1:¬ (0 < (k:Int)∧x.id=pk):=by first|exact fun h=>c1 h.2|exact fun h=>c0 h.1
  have q1':¬ wF l k=some x.id:=fun h=>q1 (by
   by_cases h0:0 < k
   ·rw [(hpk h0).2] at h
    injection h with h
    exact ⟨by omega,h.symm⟩
   rw [KN (by omega)] at h
   cases h)
  refine dI hmx [[],[0],[0,1],[0,1,2],(ra 0 4),[0,1,2],[0,1,2],[0,1,2,6],[0,1,2,5,6,7],[0,1,2,5,6,7,8],[0,1,2,5,6,7,8,9],(ra 0 11),(ra 0 12),(ra 0 13)] [13] (by kernel_rfl) [_,_,_,undef,undef,undef,undef,undef,undef,undef,undef,undef,_] H (aG (Z0 rfl (Rm rfl)) (Z1 0 38 rfl (Rc rfl)) (Z1 1 39 rfl (Rm rfl)) (aN (j:=2) (by kernel_rfl) (fun _ _ _ _ _ h=>h) rfl rfl rfl rfl rfl (fun _ _ h=>aO h (aB (aK c0))) rfl (fun _=>rfl)) (aG (aN (j:=2) (by kernel_rfl) (fun _ _ _ _ _ h=>h) rfl rfl rfl rfl rfl (fun _ _ h=>aO h (aB (aK c0))) rfl (fun _=>rfl)) (aN (j:=2) (by kernel_rfl) (fun _ _ _ _ _ h=>h) rfl rfl rfl rfl rfl (fun _ _ h=>aO h (aB (aK c0))) rfl (fun _=>rfl)) (aN (j:=2) (by kernel_rfl) (fun _ _ _ _ _ h=>h) rfl rfl rfl rfl rfl (fun _ _ h=>aO h (aB (aK c0))) rfl (fun _=>rfl)) (aN (j:=2) (by kernel_rfl) (fun _ _ _ _ _ h=>h) rfl rfl rfl rfl rfl (fun _ _ h=>aO h (aB (aK c0))) rfl (fun _=>rfl)) (aG (aN (j:=2) (by kernel_rfl) (fun _ _ _ _ _ h=>h) rfl rfl rfl rfl rfl (fun _ _ h=>aO h (aB (aK c0))) rfl (fun _=>rfl)) (aN (j:=2) (by kernel_rfl) (fun _ _ _ _ _ h=>h) rfl rfl rfl rfl rfl (fun _ _ h=>aO h (aB (aK c0))) rfl (fun _=>rfl)) (aN (j:=2) (by kernel_rfl) (fun _ _ _ _ _ h=>h) rfl rfl rfl rfl rfl (fun _ _ h=>aO h (aB (aK c0))) rfl (fun _=>rfl)) (aN (j:=2) (by kernel_rfl) (fun _ _ _ _ _ h=>h) rfl rfl rfl rfl rfl (fun _ _ h=>aO h (aB (aK c0))) rfl (fun _=>rfl)) (aU (Z2 2 40 11 49 rfl (Pf (aK c0) rfl)) (aU (bN rfl) bZ))))) ?_
  clear H;intro a w G gM H hv;have H:=H.aQ (hv 12 50 rfl rfl) rfl;clear hv;refine kH H (Ra rfl ?_);clear H;intro a H;refine aI ⟨rfl,?_⟩;refine dM _ _ ?_;clear dM;refine lI H rfl rfl ?_;refine bG (fun _ cZ=>?_)
  have q2:¬ (0 < (k:Int)∧x.id < pk):=by first|exact fun h=>c3 h.2|exact fun h=>c0 h.1
  have q2':¬ Fj (wF l k) x.id=true:=fun h=>q2 (by
   by_cases h0:0 < k
   ·rw [(hpk h0).2] at h;exact ⟨by omega,rF h⟩
   rw [KN (by omega)] at h
   cases h)
  refine kP H (SC (aW wh aH 0 rfl rfl (Rc rfl (Rm rfl (Sp 55 rfl ?_ ?_))))) <;> clear H
  ·intro lK a H
   try have p55:=dT lK
   refine kH H (YF wh lK rfl (YO aH 0 lK rfl (YC lK rfl (Pt lK rfl (aV cZ rfl (Cd rfl ?_ ?_)))))) <;> clear H cZ
   ·intro jl a H
    try have p51:=dT jl
    refine bG (fun _ dW=>?_)
    have e3:iK l k x=3:=by rw [iK,kX,ah (by omega),ah q1',ah q2',au (by omega)]
    refine kP H (SC (aV dW rfl ?_));clear H dW;intro a H;refine lr H results113 rfl ?_
    first
     | exact H.rt (aF vi e0.symm)
     | exact H.rt (aF vi e4.symm)
     | exact H.rt (aF vi e7.symm)
     | exact H.rt (aF vi e13.symm)
     | exact H.rt (aF vi e3.symm)
     | exact H.rt (aF vi e6.symm)
     | exact H.rt (aF vi (by rw [iK,kX,au (by omega)]))
   intro jl a H
   try have p51:=dF jl
   refine kP H (SR fun _ fZ=>aW EK gG 0 rfl rfl ?_);clear H;intro a H;refine s_call JC H wn rfl (Kv _ _ H.ro x.name hs) rfl ?_;clear H;rintro v63 Cv a w rfl hm63 H;refine kH H (Rn rfl (ak fZ rfl (Cd rfl ?_ ?_))) <;> clear H fZ
   ·intro jm a H
    try have p60:=dT jm
    refine bG (fun _ eG=>?_)
    have e13:iK l k x=13:=by rw [iK,kX,ah (by omega),ah q1',ah q2',ah (by omega),au (by simpa using jm)]
    refine kP H (SC (aV eG rfl ?_));clear H eG;intro a H;refine lr H results113 rfl ?_
    first
     | exact H.rt (aF vi e0.symm)
     | exact H.rt (aF vi e4.symm)
     | exact H.rt (aF vi e7.symm)
     | exact H.rt (aF vi e13.symm)
     | exact H.rt (aF vi e3.symm)
     | exact H.rt (aF vi e6.symm)
     | exact H.rt (aF vi (by rw [iK,kX,au (by omega)]))
   intro jm a H
   try have p60:=dF jm
   refine fT ?_;refine ⟨Cv,by exact (H).sub ⟨rfl,rfl,rfl,aD⟩,?_⟩;exact ⟨by omega,q1',q2',by omega,by simpa using jm,fun b o h=>hm63 b o (gM b o (Ai b o h))⟩
  intro lK a H
  try have p55:=dF lK
  refine kH H (aY lK rfl (Pf lK rfl (aV cZ rfl (Cf rfl rfl (SR fun _ gq=>aW EK gG 0 rfl rfl ?_)))));clear H cZ;intro a H;refine s_call JC H wn rfl (Kv _ _ H.ro x.name hs) rfl ?_;clear H;rintro v63 Cv a w rfl hm63 H;refine kH H (Rn rfl (ak gq rfl (Cd rfl ?_ ?_))) <;> clear H gq
  ·intro jm a H
   try have p60:=dT jm
   refine bG (fun _ iB=>?_)
   have e13:iK l k x=13:=by rw [iK,kX,ah (by omega),ah q1',ah q2',ah (by omega),au (by simpa using jm)]
   refine kP H (SC (aV iB rfl ?_));clear H iB;intro a H;refine lr H results113 rfl ?_
   first
    | exact H.rt (aF vi e0.symm)
    | exact H.rt (aF vi e4.symm)
    | exact H.rt (aF vi e7.symm)
    | exact H.rt (aF vi e13.symm)
    | exact H.rt (aF vi e3.symm)
    | exact H.rt (aF vi e6.symm)
    | exact H.rt (aF vi (by rw [iK,kX,au (by omega)]))
  intro jm a H
  try have p60:=dF jm
  refine fT ?_;refine ⟨Cv,by exact (H).sub ⟨rfl,rfl,rfl,aD⟩,?_⟩;exact ⟨by omega,q1',q2',by omega,by simpa using jm,fun b o h=>hm63 b o (gM b o (Ai b o h))⟩
 clear H;intro gh a w hI H;obtain ⟨g,hgh⟩:∃ x,x=gh:=⟨_,rfl⟩;subst hgh;obtain ⟨q0,q1',q2',q3,q4,hgm⟩:=hI;dsimp only [lca,bD] at H;refine bG (fun _ jv=>?_);refine bG (fun _ jB=>?_);have VZ:=(hv.mono hgm).pre k (by rw [bU];omega);rw [← List.map_take] at VZ;have agD:=hp.mono hgm;refine dI hmx [[],[],[0,1],[],[3],[],[5],(ra 0 7),(ra 0 8),(ra 0 9),(ra 0 9),(ra 0 10),(ra 0 12)] [12] (by kernel_rfl) [_,_,.slice (some ⟨b,o,none⟩) k c,_,vi x.kind,_,.string x.name,.tuple #[vi (max (nK (Br (l.take k) x.kind x.name)) 0),.bool (Br (l.take k) x.kind x.name).isSome],_,vi (max (nK (Br (l.take k) x.kind x.name)) 0),.bool (Br (l.take k) x.kind x.name).isSome,_] H (aG (Z0 rfl (Rm rfl)) (Z0 rfl (Rm rfl)) ?_ (Z0 rfl (Rf wh rfl)) (aG (Z1 3 69 rfl (Ro aH 0 rfl)) (Z0 rfl (Rf EK rfl)) (Z1 5 71 rfl (Ro gG 0 rfl)) ?_ (aG (Z1 7 73 rfl (Rm rfl)) ?_ ?_ (Z1 9 74 rfl (Ra rfl)) (aU (bN rfl) bZ)))) ?_
 ·refine dG 0 66 1 67 rfl rfl fun _ a w G1 hG HT H fin=>?_;refine X5 nC kC k H wn rfl rfl rfl (by omega) rfl ?_;clear H;intro a H;exact fin H iJ rfl
 ·refine pE 2 68 4 70 6 72 rfl rfl fun _ a w G1 hG HT H fin=>?_;refine s_call acG H wn rfl (aeI _ _ H.ro (l.take k) x.kind x.name _ (VZ.mono hG)) rfl ?_;clear H;rintro v73 G73 a w rfl afq H;exact fin H afq (rfl)
 ·refine dO 8 65 rfl rfl fun _ a w G1 hG HT H fin=>?_;refine jN H wn rfl rfl rfl ?_;clear H;intro a H;exact fin H iJ rfl
 ·refine dO 8 65 rfl rfl fun _ a w G1 hG HT H fin=>?_;refine jN H wn rfl rfl rfl ?_;clear H;intro a H;exact fin H iJ rfl
 clear H;intro a w G qC H hv;have H:=H.aQ (hv 10 75 rfl rfl) rfl;clear hv;refine kH H (Ra rfl ?_);clear H;intro a H;refine aI ⟨rfl,?_⟩;refine jB _ _ ?_;clear jB;refine kP H (SR fun _ iX=>Rm rfl (Kz iX (Cd rfl ?_ ?_))) <;> clear H iX
 ·intro Ae a H
  try have P6:=dT Ae
  refine bG (fun _ kD=>?_)
  have e7:iK l k x=7:=by rw [iK,kX,ah (by omega),ah q1',ah q2',ah q3,ah q4,au Ae]
  refine kP H (SC (aV kD rfl ?_));clear H kD;intro a H;refine lr H results113 rfl ?_
  first
   | exact H.rt (aF vi e0.symm)
   | exact H.rt (aF vi e4.symm)
   | exact H.rt (aF vi e7.symm)
   | exact H.rt (aF vi e13.symm)
   | exact H.rt (aF vi e3.symm)
   | exact H.rt (aF vi e6.symm)
   | exact H.rt (aF vi (by rw [iK,kX,au (by omega)]))
 intro Ae a H
 try have P6:=dF Ae
 refine kP H (Kc jv (SQ fun _ kZ=>SQ fun _ jC=>?_));clear H jv;intro a H
 have q5:¬ (Br (l.take k) x.kind x.name).isSome=true:=by simpa using Ae
 have BK:=agD.mono qC;refine kP H (SC (aW Ur AZ 0 rfl rfl (Rl oU rfl (Rm rfl (Kn jC (SB ?_))))));clear H jC;intro a H;skip;refine eU (ι:=Nat) (Tc:=[(5,_),(78,_),(79,_)]) (Lc:=[(_,_)]) (fun gh=>[(80,vi gh)]) (fun gh=>[]) (fun gh=>G) (fun gh=>gh≤x.props.length∧(x.props.take gh).any (fun p=>Ez p.key)=false) (fun gh=>x.props.length - gh) (0) (by exact (H).sub ⟨rfl,rfl,rfl,rfl,aD⟩) ?_ ?_
 ·exact ⟨ig _,rfl⟩
 clear H;intro gh a w hI H;obtain ⟨n,hgh⟩:∃ x,x=gh:=⟨_,rfl⟩;subst hgh;obtain ⟨hn,hno⟩:=hI;dsimp only [lca,bD] at H;refine kP H (SR fun _ oz=>Rc rfl (Kz oz (SQ fun _ oZ=>Cd rfl ?_ ?_))) <;> clear H oz
 ·intro NP a H
  try have p81:=dT NP
  have hn2:n < x.props.length:=by omega
  obtain ⟨pb,po,rfl,hrow2⟩:=KO BK hn2;have hrow:=hrow2;refine kP H (Kc oZ (SQ fun _ qj=>SB (SR fun _ qJ=>Ri oU nA rfl rfl ?_)));clear H oZ;intro a H;refine bK nA (cs:=[_,_]) H wn rfl rfl (fun j v hj=>H.hp.aL (hrow j v hj)) rfl ?_;clear H;intro a H;refine eZ nA H wn rfl ?_;clear H;intro b9 a w yS H;refine bM nA 0 (vs:=[_,_]) _ H wn rfl rfl rfl rfl rfl rfl rfl rfl ?_;clear H;intro w H;dsimp only [List.set,setRow] at H;refine qJ _ _ ?_;clear qJ;refine kP H (SR fun _ ql=>aW uW aH 0 rfl rfl (Rc rfl (Rm rfl (Sp 87 rfl ?_ ?_)))) <;> clear H
  ·intro h87 a H
   try have P9:=dT h87
   refine kH H (aY h87 rfl (Pt h87 rfl (Kz ql (Ct rfl rfl (SQ fun _ sJ=>?_)))));clear H ql;intro a H
   have e4:iK l k x=4:=by
    rw [iK,kX,ah (by omega),ah q1',ah q2',ah q3,ah q4,ah q5,au];rw [List.any_eq_true];exact ⟨x.props[n],iM hn2,by simp [Ez];omega⟩
   refine kP H (SC (aV sJ rfl ?_));clear H sJ;intro a H;refine lr H results113 rfl ?_
   first
    | exact H.rt (aF vi e0.symm)
    | exact H.rt (aF vi e4.symm)
    | exact H.rt (aF vi e7.symm)
    | exact H.rt (aF vi e13.symm)
    | exact H.rt (aF vi e3.symm)
    | exact H.rt (aF vi e6.symm)
    | exact H.rt (aF vi (by rw [iK,kX,au (by omega)]))
  intro h87 a H
  try have P9:=dF h87
  refine kH H (YF uW h87 rfl (YO aH 0 h87 rfl (YC h87 rfl (Pf h87 rfl (Kz ql (Cd rfl ?_ ?_)))))) <;> clear H ql
  ·intro NR a H
   try have p91:=dT NR
   refine bG (fun _ uM=>?_)
   have e4:iK l k x=4:=by
    rw [iK,kX,ah (by omega),ah q1',ah q2',ah q3,ah q4,ah q5,au];rw [List.any_eq_true];exact ⟨x.props[n],iM hn2,by simp [Ez];omega⟩
   refine kP H (SC (aV uM rfl ?_));clear H uM;intro a H;refine lr H results113 rfl ?_
   first
    | exact H.rt (aF vi e0.symm)
    | exact H.rt (aF vi e4.symm)
    | exact H.rt (aF vi e7.symm)
    | exact H.rt (aF vi e13.symm)
    | exact H.rt (aF vi e3.symm)
    | exact H.rt (aF vi e6.symm)
    | exact H.rt (aF vi (by rw [iK,kX,au (by omega)]))
  intro NR a H
  try have p91:=dF NR
  refine kP H (Kc qj (SC (Rd rfl (Rm rfl ?_))));clear H qj;intro a H;refine aI ?_;refine cK ((n+1)) (by exact (H.dV (Pl:=[_,_]) (dz:=[_]) [1] (by decide) rfl).sub ⟨rfl,rfl,rfl,rfl,aD⟩) ?_ ?_
  ·exact ⟨by omega,by rw [jF hn2,List.any_append,hno];simp [Ez];omega⟩
  first|omega|(dsimp only;omega)
 intro NP a H
 try have p81:=dF NP
 refine dQ ?_;refine kZ _ _ ?_;clear kZ;refine bG (fun _ rE=>?_)
 have q6:¬ x.props.any (fun p=>Ez p.key)=true:=by
  rw [show x.props.take n=x.props from jQ (by omega)] at hno;rw [hno];decide
 have e0:iK l k x=gI (if x.kind=1 then 2 else 1) x.props:=by rw [iK,kX,ah (by omega),ah q1',ah q2',ah q3,ah q4,ah q5,ah q6]
 refine dI hmx [[],[0],[0,1],[],[3],(ra 0 5),(ra 0 6)] [5,6] (by kernel_rfl) [_,vi x.kind,vi (if x.kind=1 then 2 else 1),_,.slice pA x.props.length pc] H (aG (Z0 rfl (Rf wh rfl)) (Z1 0 93 rfl (Ro aH 0 rfl)) ?_ (Z0 rfl (Rf Ur rfl)) (aU (Z1 3 96 rfl (Ro AZ 0 rfl)) (aU (bN rfl) (aU (bN rfl) bZ)))) ?_
 ·refine dO 1 94 rfl rfl fun _ a w G1 hG HT H fin=>?_;refine s_call acH H wn rfl (abZ _ _ H.ro x.kind) rfl ?_;clear H;rintro v95 G95 a w rfl afw H;exact fin H afw (rfl)
 clear H;intro a w G EO H hv;have H:=H.aQ (hv 2 95 rfl rfl) rfl;have H:=H.aQ (hv 4 97 rfl rfl) rfl;clear hv;refine s_call Uf H wn rfl (Xx _ _ H.ro _ x.props _ (BK.mono EO)) rfl ?_;clear H;rintro v98 G98 a w rfl amf H;refine kH H (Ra rfl ?_);clear H;intro a H;refine aI ⟨rfl,?_⟩;refine rE _ _ ?_;clear rE;refine lr H results113 rfl ?_
 first
  | exact H.rt (aF vi e0.symm)
  | exact H.rt (aF vi e4.symm)
  | exact H.rt (aF vi e7.symm)
  | exact H.rt (aF vi e13.symm)
  | exact H.rt (aF vi e3.symm)
  | exact H.rt (aF vi e6.symm)
  | exact H.rt (aF vi (by rw [iK,kX,au (by omega)]))
end
section
open Go.RowKit
theorem Ee:Ty prog 33 1 24 [.slice none 0 0] false:=⟨by kernel_rfl,by kernel_rfl⟩
theorem Cj:prog.underlying 33=some (.slice 67):=by kernel_rfl
theorem Cg:Ty prog 67 6 64 [.int .i64 0,.int .i64 0,.string ⟨#[]⟩,.int .i64 0,.string ⟨#[]⟩,.bool false] true:=⟨by kernel_rfl,by kernel_rfl⟩
theorem UF:bY prog 67 0 0:=⟨by kernel_rfl⟩
theorem UG:bY prog 67 1 1:=⟨by kernel_rfl⟩
theorem acp:∀ args w,(callFunc 112 args).run prog w=.ok (.enter 112 args) w:=enters func112 rfl (by kernel_rfl)
theorem adI:∀ args w,(callFunc 78 args).run prog w=.ok (.enter 78 args) w:=enters func78 rfl (by kernel_rfl)
theorem aeD:bY prog 67 2 2:=⟨by kernel_rfl⟩
theorem Ue:∀ args w,(callFunc 88 args).run prog w=.ok (.enter 88 args) w:=enters func88 rfl (by kernel_rfl)
theorem aeE:bY prog 67 3 3:=⟨by kernel_rfl⟩
theorem aeF:bY prog 67 4 4:=⟨by kernel_rfl⟩
theorem MX:∀ args w,(callFunc 122 args).run prog w=.ok (.enter 122 args) w:=enters func122 rfl (by kernel_rfl)
theorem acB:∀ args w,(callFunc 121 args).run prog w=.ok (.enter 121 args) w:=enters func121 rfl (by kernel_rfl)
theorem acA:∀ args w,(callFunc 120 args).run prog w=.ok (.enter 120 args) w:=enters func120 rfl (by kernel_rfl)
theorem acy:∀ args w,(callFunc 119 args).run prog w=.ok (.enter 119 args) w:=enters func119 rfl (by kernel_rfl)
theorem DI {G:GH} {b:Nat} (l:List Int) (h:G b=some (.cells (l.map vi).toArray 56 (0,0))) (hl:l.length≤maxLen):av G (.sl 1 (l.map fun k=>[li k])) (.slice (some ⟨b,0,none⟩) l.length l.length) :=
 av.eO h (by simp) (bV _) hl (jQ (by simp)) (fu G l)
theorem MK {G:GH} {l:List iL} {A:Option Addr} {n c k:Nat} (hv:av G (.sl 6 (l.map iL.dat)) (.slice A n c)) (hk:k < l.length):∃ b o,A=some ⟨b,o,none⟩∧(∀ j u,l[k].cells[j]?=some u→aL G b (o+k*6+j)=some u)∧aZ G l[k].dat l[k].cells:=by
 obtain ⟨A',c',he,_,_,hg⟩:=hv.slice
 injection he with e1 e2 e3
 subst e1;obtain ⟨b,o,cs,h1,h2,h3,h4⟩:=hg k l[k].dat (by simp [hk]);have:=Tj h4;subst this;exact ⟨b,o,h1,h3,h4⟩
theorem abC {G:GH} {bl:Nat} {l:List iL} {A:Option Addr} {n c:Nat} (hb:aL G bl 0=some (.slice A n c)) (hv:av G (.sl 6 (l.map iL.dat)) (.slice A n c)):rD (.func (.func 121) #[] #[(aJ bl 0)]) G l.length fun k=>(l[k]?.map iL.id).getD 0:=by
 intro k hk G1 w0 hm hG;refine mo (caps:=[(aJ bl 0)]) acB ?_;replace hb:=aM hm hb
 obtain rfl:n=l.length:=by have:=hv.len;simpa using this
 obtain ⟨b,o,rfl,hrow,-⟩:=MK (hv.mono hm) hk;have hq:=hrow 0 _ rfl;refine eN [(0,_),(1,_)] func121 rfl ntmps121 rfl rfl hG ?_;intro a H;refine kP H (SR fun _ K1=>ak K1 rfl (SR fun _ K2=>Rg Ee rfl (by assumption) ?_));clear H K1;intro a H;refine kH H (Rm rfl (Ri Cj Cg rfl rfl (Rf UF rfl (Rg aH rfl (by assumption) ?_))));clear H;intro a H;exact kH H (ak K2 rfl (LR results121 rfl fun H=>H.rt (by dsimp only;rw [gY hk];rfl)))
theorem abE {G:GH} {bc:Nat} {x:iL} (hb:aL G bc 1=some (vi x.parent)) (y:iL):vQ (.func (.func 120) #[] #[(aJ bc 0)]) G y.dat (decide (y.id=x.parent)):=by
 intro G1 w0 cs hm hG hr;refine mo (caps:=[(aJ bc 0)]) acA ?_;obtain rfl:=Tj hr;replace hb:=aM hm hb;refine eN [(0,_),(1,_)] func120 rfl ntmps120 rfl rfl hG ?_;intro a H;refine dH (fun _ K1=>?_);refine fq (cs:=[_,_,_,_,_,_]) H wn rfl rfl rfl ?_;clear H;intro b2 a w hb2 H;refine kH H (ak K1 rfl (SR fun _ K2=>aW UF aH 0 rfl rfl (Rf UG rfl (Rg aH rfl (by assumption) ?_))));clear H K1;intro a H;exact kH H (Rc rfl (ak K2 rfl (LR results120 rfl fun H=>H.rt rfl)))
theorem ahm (G:GH) (w0:World) (hG:Hold G w0) (l:List iL) (p:iL→Bool) (v fv:aj) (hv:av G (.sl 6 (l.map iL.dat)) v) (hf:∀ x∈l,vQ fv G x.dat (p x)) :
  Calls prog 112 #[v,fv] w0 (bF w0 G fun u G'=>u=vi (nK (l.findIdx? p))):=by
 obtain ⟨A,c,rfl,hc1,hc2,hg⟩:=hv.slice;have hml:maxLen=9223372036854775807:=rfl;rw [bU] at *;refine eN [(0,_),(1,_)] func112 rfl ntmps112 rfl rfl hG ?_;intro a H;refine kP H (SR fun _ K1=>ak K1 rfl (SQ fun _ K2=>SR fun _ K3=>Rm rfl (Rl Cj rfl (Rm rfl (Kz K3 (SB ?_))))));clear H K1 K3;intro a H;skip;refine eU (ι:=Nat × GH) (Tc:=[(0,_),(1,_),(7,_)]) (Lc:=[]) (fun gh=>[(8,vi gh.1)]) (fun gh=>[]) (fun gh=>gh.2) (fun gh=>gh.1≤l.length∧(l.take gh.1).findIdx? p=none∧(∀ b o,G b=some o→gh.2 b=some o)) (fun gh=>l.length - gh.1) ((0,G)) (by exact (H).sub ⟨rfl,rfl,rfl,rfl,aD⟩) ?_ ?_
 ·exact ⟨by omega,rfl,fun _ _ h=>h⟩
 clear H;intro gh a w hI H;obtain ⟨k,g⟩:=gh;dsimp only at hI H;obtain ⟨hk,hno,hgm⟩:=hI;dsimp only [lca,bD] at H;refine kP H (SR fun _ K4=>Rc rfl (Kz K4 (SQ fun _ K5=>Cd rfl ?_ ?_))) <;> clear H K4
 ·intro h9 a H
  try have p9:=dT h9
  have hk2:k < l.length:=by omega
  obtain ⟨b,o,rfl,hrow,hrep⟩:=MK hv hk2;refine kP H (Kc K5 (SQ fun _ K6=>SB (SR fun _ K7=>Rm rfl (ak K7 rfl (SR fun _ K8=>Rm rfl (Rm rfl (Rm rfl (Ri Cj Cg rfl rfl ?_))))))));clear H K5 K7;intro a H;refine bK Cg (cs:=l[k].cells) H wn rfl rfl (fun j v hj=>H.hp.aL (aM hgm (hrow j v hj))) rfl ?_;clear H;intro a H;refine oq H wn rfl rfl (hf _ (iM hk2) _ _ _ hgm H.ro (hrep.mono hgm)) rfl ?_;clear H;rintro v16 oW a w rfl kV H;refine K8 _ _ ?_;clear K8;refine lW H rfl ?_ ?_
  ·intro h16
   try have p16:=dT h16
   refine kP H (SR fun _ K9=>Rm rfl (ak K9 rfl ?_));clear H K9;intro a H;refine lr H results112 rfl ?_
   first
    | exact H.rt (by rw [uF hk2 hno h16];rfl)
    | exact H.rt (by rw [show l.take k=l from jQ (by omega)] at hno;rw [hno];rfl)
  intro h16
  try have p16:=dF h16
  refine kP H (Kc K6 (SC (Rd rfl (Rm rfl ?_))));clear H K6;intro a H;refine aI ?_;refine cK ((k+1,oW)) (by exact (H).sub ⟨rfl,rfl,rfl,rfl,aD⟩) ?_ ?_
  ·(try dsimp only);exact ⟨by omega,Aw hk2 hno h16,fun b o h=>kV b o (hgm b o h)⟩
  first|omega|(dsimp only;omega)
 intro h9 a H
 try have p9:=dF h9
 refine dQ ?_;refine K2 _ _ ?_;clear K2;refine kP H (SR fun _ aT=>ak aT rfl ?_);clear H aT;intro a H;refine lr H results112 rfl ?_
 first
  | exact H.rt (by rw [uF hk2 hno h16];rfl)
  | exact H.rt (by rw [show l.take k=l from jQ (by omega)] at hno;rw [hno];rfl)
theorem abH (G:GH) (w0:World) (hG:Hold G w0) (l:List iL) (p:iL→Bool) (v fv:aj) (hv:av G (.sl 6 (l.map iL.dat)) v) (hf:∀ x∈l,vQ fv G x.dat (p x)) :
  Calls prog 78 #[v,fv] w0 (bF w0 G fun u G'=>u=.bool (l.findIdx? p).isSome):=by
 obtain ⟨A,c,rfl,hc1,hc2,-⟩:=hv.slice;rw [bU] at *;refine eN [(0,_),(1,_)] func78 rfl ntmps78 rfl rfl hG ?_;intro a H;refine kP H (SR fun _ K1=>ak K1 rfl (SR fun _ K2=>Rm rfl (Rm rfl ?_)));clear H K1;intro a H;refine s_call acp H wn rfl (ahm _ _ H.ro l p _ _ hv hf) rfl ?_;clear H;rintro v7 G7 a w rfl Ao H;exact kH H (Rc rfl (ak K2 rfl (LR results78 rfl fun H=>H.rt (aB (Pv _)))))
def EA (l:List iL) (i:Nat) (x:iL):Bool:=decide (x.parent=0) || ((l.take i).findIdx? fun y=>decide (y.id=x.parent)).isSome
def MJ (l:List iL) (i:Nat) (x:iL):Int:=dK [oL (fun k=>(l[k]?.map iL.id).getD 0) i,cu (!EA l i x) 8,cu (!vV x.author) 39,cu (!decide (0≤x.time∧x.time≤1099511627776)) 40,AX x.text]
def EF (l:List iL) (i:Nat):Int:=match l[i]? with|some x=>MJ l i x|none=>0
theorem abB {G:GH} {bl:Nat} {l:List iL} {A:Option Addr} {n c:Nat} (hb:aL G bl 0=some (.slice A n c)) (hv:av G (.sl 6 (l.map iL.dat)) (.slice A n c)) (hl:l.length≤4294967296) (ht:∀ x∈l,x.author.size < 4611686018427387904∧x.text.size < 4611686018427387904):rD (.func (.func 119) #[] #[(aJ bl 0)]) G l.length (EF l):=by
 intro k hk G1 w0 hm hG;refine mo (caps:=[(aJ bl 0)]) acy ?_;replace hb:=aM hm hb;replace hv:=hv.mono hm;have hcb:=abC hb hv;obtain ⟨_,_,hee,hvc,-,-⟩:=hv.slice
 injection hee with _ _ hcc
 subst hcc;rw [bU] at hvc
 obtain rfl:n=l.length:=by have:=hv.len;simpa using this
 obtain ⟨b,o,rfl,hrow,hrep⟩:=MK hv hk;have hte:=ht _ (iM hk);obtain ⟨x,hx⟩:∃ x,x=l[k]:=⟨_,rfl⟩;rw [← hx] at hrow hte
 have he:EF l k=MJ l k x:=by unfold EF;rw [gY hk,hx]
 refine eN [(0,_),(1,_)] func119 rfl ntmps119 rfl rfl hG ?_;intro a H;refine kP H (SR fun _ K1=>ak K1 rfl (SR fun _ K2=>Rg Ee rfl (by assumption) ?_));clear H K1;intro a H;refine kH H (Rm rfl (Ri Cj Cg rfl rfl ?_));clear H;intro a H;refine bK Cg (cs:=x.cells) H wn rfl rfl (fun j v hj=>H.hp.aL (hrow j v hj)) rfl ?_;clear H;intro a H;refine eZ Cg H wn rfl ?_;clear H;intro b4 a w hb4 H;refine bM Cg 0 (vs:=[_,_,_,_,_,_]) _ H wn rfl rfl rfl rfl rfl rfl rfl rfl ?_;clear H;intro w H;dsimp only [List.set,setRow] at H;obtain ⟨Ga,hma,uo,H⟩:=H.dS
 have hcell:∀ (j:Nat) (u:aj),x.cells[j]?=some u→aL Ga b4 j=some u:=fun j u hj=>by unfold aL;rw [uo];simpa using hj
 have q1:=hcell 1 _ rfl;have hbA:=aM hma hb;have V4:=(hv.mono hma).pre k (by rw [bU];omega);rw [← List.map_take] at V4;refine K2 _ _ ?_;clear K2;refine qy (ι:=Bool × GH) (Tc:=[(0,_),(1,_),(4,_)]) (Lc:=[]) (fun gh=>[(5,.bool gh.1)]) (fun gh=>[]) (fun gh=>gh.2) (fun gh=>gh.1=EA l k x∧(∀ b o,Ga b=some o→gh.2 b=some o)) (by exact (H).sub ⟨rfl,rfl,rfl,aD⟩) ?_ ?_
 ·skip;refine kP H (SC (Rf UG rfl (Rg aH rfl (by assumption) ?_)));clear H;intro a H;refine kH H (Rc rfl (Rm rfl (Sp 13 rfl ?_ ?_))) <;> clear H
  ·intro gu a H
   try have qF:=dT gu
   refine kH H (aY gu rfl (aS gu rfl (Pt gu rfl (Ra rfl ?_))));clear H;intro a H;refine aI ?_;refine ⟨(_,_),by exact (H).sub ⟨rfl,rfl,rfl,rfl,aD⟩,?_⟩;(try dsimp only)
   first
   | exact ⟨by unfold EA;rw [jY (by assumption)];rfl,fun _ _ h=>h⟩
   | exact ⟨by unfold EA;rw [jk (by assumption)];rfl,hm18⟩
  intro gu a H
  try have qF:=dF gu
  refine kH H (YR Ee gu rfl (by assumption) ?_);clear H;intro a H;refine kH H (YM gu rfl ?_);clear H;intro a H;refine X5 Cj Cg k H (wg H rfl rfl gu) rfl rfl rfl (by omega) rfl ?_;clear H;intro a H;refine qd H (wg H rfl rfl gu) rfl rfl ?_;clear H;intro a H;refine s_call adI H (wg H rfl rfl gu) rfl (abH _ _ H.ro (l.take k) (fun y=>decide (y.id=x.parent)) _ _ V4 (fun y _=>abE q1 y)) rfl ?_;clear H;rintro v18 Q6 a w rfl hm18 H;refine kH H (Pf gu rfl (Ra rfl ?_));clear H;intro a H;refine aI ?_;refine ⟨(_,_),by exact (H).sub ⟨rfl,rfl,rfl,rfl,aD⟩,?_⟩;(try dsimp only)
  first
  | exact ⟨by unfold EA;rw [jY (by assumption)];rfl,fun _ _ h=>h⟩
  | exact ⟨by unfold EA;rw [jk (by assumption)];rfl,hm18⟩
 clear H;intro gh a w hI H;obtain ⟨bf,g⟩:=gh;dsimp only at hI H;obtain ⟨hbf,hgm⟩:=hI;replace hcell:=fun j u hj=>aM hgm (hcell j u hj);replace hcb:=(hcb.mono hma).mono hgm;dsimp only [lca,bD] at H;refine bG (fun _ K3=>?_);have H:=H.sub (T':=[(0,_),(1,_),(4,_),(5,_)]) ⟨rfl,rfl,rfl,rfl,aD⟩;refine dI hmx [[],[],[0,1],[],[3],(ra 0 5),[],[6],(ra 0 8),(ra 0 9),(ra 0 10),[],[11],(ra 0 13),(ra 0 14),(ra 0 15),[],[16],(ra 0 18),(ra 0 19),(ra 0 20),(ra 0 21)] [19,20,21] (by kernel_rfl) [_,.func (.func 121) #[] #[(aJ bl 0)],vi (oL (fun k=>(l[k]?.map iL.id).getD 0) k),_,_,vi (cu (!bf) 8),_,_,.bool (vV x.author),_,vi (cu (!vV x.author) 39),_,_,.bool (decide (0≤x.time∧x.time≤1099511627776)),_,vi (cu (!decide (0≤x.time∧x.time≤1099511627776)) 40),_,_,vi (AX x.text)] H (aG (Z0 rfl (Rm rfl)) ?_ ?_ (Z0 rfl (Rm rfl)) (aG (Z1 3 23 rfl (Rn rfl)) ?_ (Z0 rfl (Rf aeD rfl)) (X1 6 26 rfl fun hG=>Rg gG rfl (aM hG (hcell 2 _ rfl))) (aG ?_ (Z1 8 28 rfl (Rn rfl)) ?_ (Z0 rfl (Rf aeE rfl)) (aG (X1 11 31 rfl fun hG=>Rg aH rfl (aM hG (hcell 3 _ rfl))) ?_ (Z1 13 33 rfl (Rn rfl)) ?_ (aG (Z0 rfl (Rf aeF rfl)) (X1 16 36 rfl fun hG=>Rg gG rfl (aM hG (hcell 4 _ rfl))) ?_ (bN rfl) (aU (bN rfl) (aU (bN rfl) bZ))))))) ?_
 ·refine uN rfl fun _ a w G1 hG HT H fin=>?_;refine qd H wn rfl rfl ?_;clear H;intro a H;exact fin H iJ rfl
 ·refine dG 0 20 1 21 rfl rfl fun _ a w G1 hG HT H fin=>?_;refine s_call Ni H wn rfl (Pm _ _ H.ro k _ _ (by omega) (fun i hi=>(hcb.mono hG) i (by omega))) rfl ?_;clear H;rintro v22 Zu a w rfl NV H;exact fin H NV (rfl)
 ·refine dO 4 24 rfl rfl fun _ a w G1 hG HT H fin=>?_;refine s_call iZ H wn rfl (jf _ _ H.ro _ 8) rfl ?_;clear H;rintro v25 Zv a w ⟨rfl,-⟩ afh H;exact fin H afh (rfl)
 ·refine dO 7 27 rfl rfl fun _ a w G1 hG HT H fin=>?_;refine s_call Ue H wn rfl (Sz _ _ H.ro x.author hte.1) rfl ?_;clear H;rintro v28 Zw a w ⟨rfl,-⟩ afi H;exact fin H afi (rfl)
 ·refine dO 9 29 rfl rfl fun _ a w G1 hG HT H fin=>?_;refine s_call iZ H wn rfl (jf _ _ H.ro _ 39) rfl ?_;clear H;rintro v30 Cu a w ⟨rfl,-⟩ NY H;exact fin H NY (rfl)
 ·refine dO 12 32 rfl rfl fun _ a w G1 hG HT H fin=>?_;refine s_call uV H wn rfl (vo _ _ H.ro x.time 0 1099511627776) rfl ?_;clear H;rintro v33 Zx a w ⟨rfl,-⟩ afk H;exact fin H afk (rfl)
 ·refine dO 14 34 rfl rfl fun _ a w G1 hG HT H fin=>?_;refine s_call iZ H wn rfl (jf _ _ H.ro _ 40) rfl ?_;clear H;rintro v35 Q9 a w ⟨rfl,-⟩ NZ H;exact fin H NZ (rfl)
 ·refine dO 17 37 rfl rfl fun _ a w G1 hG HT H fin=>?_;refine s_call MX H wn rfl (QF _ _ H.ro x.text hte.2) rfl ?_;clear H;rintro v38 I8 a w rfl N7 H;exact fin H N7 (rfl)
 clear H;intro a w G afj H hv;have H:=H.aQ (hv 2 22 rfl rfl) rfl;have H:=H.aQ (hv 5 25 rfl rfl) rfl;have H:=H.aQ (hv 10 30 rfl rfl) rfl;have H:=H.aQ (hv 15 35 rfl rfl) rfl;have H:=H.aQ (hv 18 38 rfl rfl) rfl;clear hv;refine gU ou gF [_,_,_,_,_] [_,_,_,_,_] H wn rfl rfl rfl rfl rfl (by intro i q h;match i,h with|0,h=>exact h|1,h=>exact h|2,h=>exact h|3,h=>exact h|4,h=>exact h|n+5,h=>simp at h) rfl rfl ?_;clear H;intro b39 a w alL H;obtain ⟨LW,agk,afM,H⟩:=H.dS;refine s_call pK H wn rfl (pR _ _ H.ro _ _ (DI [oL (fun k=>(l[k]?.map iL.id).getD 0) k,cu (!bf) 8,cu (!vV x.author) 39,cu (!decide (0≤x.time∧x.time≤1099511627776)) 40,AX x.text] afM (show 5≤maxLen by decide))) rfl ?_;clear H;rintro v40 _ a w ⟨rfl,rfl⟩ - H;refine kH H (Ra rfl ?_);clear H;intro a H;refine aI ⟨rfl,?_⟩;refine K3 _ _ ?_;clear K3;refine lr H results119 rfl ?_;exact H.rt (by rw [he,MJ,← hbf])
def Jv (l:List iL):Int:=dK [cu (decide (1024 < (l.length:Int))) 9,kE (EF l) (min l.length 1024)]
theorem abf (G:GH) (w0:World) (hG:Hold G w0) (l:List iL) (v:aj) (hv:av G (.sl 6 (l.map iL.dat)) v) (hl:l.length≤4294967296) (ht:∀ x∈l,x.author.size < 4611686018427387904∧x.text.size < 4611686018427387904) :
  Calls prog 82 #[v] w0 (bF w0 G fun u G'=>u=vi (Jv l)):=by
 obtain ⟨A,c,rfl,hc1,hc2,-⟩:=hv.slice;rw [bU] at *;refine eN [(0,_)] func82 rfl ntmps82 rfl rfl hG ?_;intro a H;refine dH (fun _ K1=>?_);refine fq (cs:=[_]) H wn rfl rfl rfl ?_;clear H;intro b1 a w hb1 H;refine kH H (ak K1 rfl (SQ fun _ K2=>?_));clear H K1;intro a H;have H:=H.sub (T':=[(1,_)]) ⟨rfl,aD⟩;obtain ⟨Ga,hma,hb1',H⟩:=H.dS
 have hbl:aL Ga b1 0=some (.slice A l.length c):=by unfold aL;rw [hb1'];rfl
 have hcb:=abB hbl (hv.mono hma) hl ht;refine dI hmx [[],[0],[0,1],[0,1,2],[],[4],[4,5],[],(ra 0 8),(ra 0 9),(ra 0 10),(ra 0 11)] [9,10,11] (by kernel_rfl) [_,_,_,vi (cu (decide (1024 < (l.length:Int))) 9),_,_,vi ((min l.length 1024:Nat):Int),.func (.func 119) #[] #[(aJ b1 0)],vi (kE (EF l) (min l.length 1024))] H (aG (X0 rfl fun hG=>Rg Ee rfl (aM hG hbl)) (Z1 0 3 rfl (Rl Cj rfl)) (Z1 1 4 rfl (Rc rfl)) ?_ (aG (X0 rfl fun hG=>Rg Ee rfl (aM hG hbl)) (Z1 4 7 rfl (Rl Cj rfl)) ?_ ?_ (aG ?_ (bN rfl) (bN rfl) (bN rfl) bZ))) ?_
 ·refine dO 2 5 rfl rfl fun _ a w G1 hG HT H fin=>?_;refine s_call iZ H wn rfl (jf _ _ H.ro _ 9) rfl ?_;clear H;rintro v6 G6 a w ⟨rfl,-⟩ gM H;exact fin H gM (rfl)
 ·refine dO 5 8 rfl rfl fun _ a w G1 hG HT H fin=>?_;refine KW H wn rfl rfl rfl ?_;clear H;intro a H;exact fin H iJ (aF vi (by omega))
 ·refine uN rfl fun _ a w G1 hG HT H fin=>?_;refine qd H wn rfl rfl ?_;clear H;intro a H;exact fin H iJ rfl
 ·refine dG 6 9 7 10 rfl rfl fun _ a w G1 hG HT H fin=>?_;refine s_call EI H wn rfl (Gf _ _ H.ro (min l.length 1024) (EF l) _ (by omega) ((hcb.mono hG).le (Nat.min_le_left _ _))) rfl ?_;clear H;rintro v11 wM a w rfl jS H;exact fin H jS (rfl)
 clear H;intro a w G ng H hv;have H:=H.aQ (hv 3 6 rfl rfl) rfl;have H:=H.aQ (hv 8 11 rfl rfl) rfl;clear hv;refine gU ou gF [_,_] [_,_] H wn rfl rfl rfl rfl rfl (by intro i q h;match i,h with|0,h=>exact h|1,h=>exact h|n+2,h=>simp at h) rfl rfl ?_;clear H;intro b12 a w BD H;obtain ⟨zI,xD,Dm,H⟩:=H.dS;refine s_call pK H wn rfl (pR _ _ H.ro _ _ (wH Dm)) rfl ?_;clear H;rintro v13 _ a w ⟨rfl,rfl⟩ - H;refine kH H (Ra rfl ?_);clear H;intro a H;refine aI ⟨rfl,?_⟩;refine K2 _ _ ?_;clear K2;refine lr H results82 rfl ?_;exact H.rt rfl
end
section
open Go.RowKit
def vD:Nat→List Int→List MapEntry
 | _,[]=>[]
 | i,k :: r=>⟨.int .i64 k,.int .i64 (i:Int),i⟩ :: vD (i+1) r
theorem WR (x:Int):∀ (i:Nat) (l:List Int),vD i (l++[x])=vD i l++[⟨.int .i64 x,.int .i64 ((i+l.length:Nat):Int),i+l.length⟩]
 | _,[]=>rfl
 | i,k :: r=>by
  rw [nH,vD,WR x (i+1) r,vD,nH,nV,show i+1+r.length=i+(r.length+1) by omega]
def sZ (x:Int):Nat→List Int→Option Nat
 | _,[]=>none
 | i,k :: r=>if k=x then some i else sZ x (i+1) r
theorem Wd {x:Int}:∀ {l:List Int} {i n:Nat},sZ x i l=some n→i≤n
 | [],_,_,h=>by cases h
 | k :: r,i,n,h=>by
  rw [sZ] at h;split at h
  ·cases h;exact bV _
  ·have:=Wd h;omega
theorem Wi {x:Int}:∀ {l:List Int} {i:Nat},x∉l→sZ x i l=none
 | [],_,_=>rfl
 | k :: r,i,h=>by
  rw [sZ,ah (fun e=>h (by simp [e])),Wi (fun hm=>h (jZ _ hm))]
theorem Ns (x:Int):∀ (i j:Nat) (l:List Int),Instr.findNow (.int .i64) (.int .i64 x) (vD i l) j=some ((sZ x i l).map fun n=>(j+(n - i),.int .i64 (n:Int)))
 | _,_,[]=>rfl
 | i,j,k :: r=>by
  have ih:=Ns x (i+1) (j+1) r
  by_cases e:k=x
  ·subst e
   simp only [vD,Instr.findNow,Instr.sameNow,au,sZ,beq_self_eq_true]
   simp
  ·have hb:(x == k)=false:=by simp;exact fun h=>e h.symm
   simp only [vD,Instr.findNow,Instr.sameNow,au,hb,sZ,ah e,ih]
   cases h:sZ x (i+1) r with
   | none=>rfl
   | some n =>
    have:=Wd h
    simp only [Option.map_some,nG,gK,and_true]
    omega
abbrev aaz (b:Nat) (l:List Int):Nat × Obj:=(b,.map (vD 0 l).toArray l.length)
theorem ail (l:List Int) (x:Int):(vD 0 l).toArray.push ⟨.int .i64 x,.int .i64 (l.length:Int),l.length⟩=(vD 0 (l++[x])).toArray:=by
 rw [WR,List.push_toArray,kT]
end
section
open Go.RowKit
section
variable {P:Program} {N:Nat} {D:List Deferred} {w0 w w':World} {F:Nat→Prop} {G0 G G':GH} {L L' Li Lo:OL} {T:List (Nat × aj)} {a a':Act} {Q:Exit→Act→World→Prop}
variable {r:Option Nat} {ops:Array Oper} {rest:List Oper}
def LZ (P:Program) (Gi:GH) (B:OL) (gv:aj) (xs:List AP):Prop :=
 ∀ (J:Nat→GH→OL→Prop) (Jx:GH→OL→Prop) (fv:aj) (G:GH) (L:OL) (w:World),fv.cells=#[fv]→(∀ b o,Gi b=some o→G b=some o)→Cw J→Ev Jx→J 0 G L→gX G (B++L) w→FU P fv G xs J Jx →
  sH P gv [fv] w (gH w G (B++L) fun _ G' L'=>J xs.length G' L'∨Jx G' L')
theorem LZ.mono {Gi Bg:GH} {B:OL} {gv:aj} {xs:List AP} (h:LZ P Gi B gv xs) (hm:∀ b o,Gi b=some o→Bg b=some o):LZ P Bg B gv xs :=
 fun J Jx fv G L w h0 h1=>h J Jx fv G L w h0 fun b o hb=>h1 b o (hm b o hb)
end
end
section
open Go.RowKit
section
variable {P:Program} {N:Nat} {D:List Deferred} {w0 w w':World} {F:Nat→Prop} {G0 G G':GH} {L L' Li Lo:OL} {T:List (Nat × aj)} {a a':Act} {Q:Exit→Act→World→Prop}
variable {r:Option Nat} {ops:Array Oper} {rest:List Oper}
def Ep (P:Program) (Gi:GH) (B:OL) (gv:aj) (xs:List AP) (fin:Bool):Prop :=
 ∀ (J:Nat→GH→OL→Prop) (Jx:GH→OL→Prop) (fv:aj) (G:GH) (L:OL) (w:World),fv.cells=#[fv]→(∀ b o,Gi b=some o→G b=some o)→Cw J→Ev Jx→J 0 G L→gX G (B++L) w→FU P fv G xs J Jx→(fin=false→∀ g l,¬ J xs.length g l) →
  sH P gv [fv] w (gH w G (B++L) fun _ G' L'=>J xs.length G' L'∨Jx G' L')
theorem Ep.mono {Gi Bg:GH} {B:OL} {gv:aj} {xs:List AP} {fin:Bool} (h:Ep P Gi B gv xs fin) (hm:∀ b o,Gi b=some o→Bg b=some o):Ep P Bg B gv xs fin :=
 fun J Jx fv G L w h0 h1=>h J Jx fv G L w h0 fun b o hb=>h1 b o (hm b o hb)
theorem aaK {fin:Bool} {B:OL} {wZ:Operand} {ps:List Nat} {assign body:Code} {gf:FuncId} {caps:List aj} {xs:List AP} {Gi:GH}
  (H:St N D w0 F G0 G (B++L) T a w) (hg:ev T wZ=some (.func (.func gf) #[] caps.toArray)) (en:∀ args w,(callFunc gf args).run P w=.ok (.enter gf args) w) (hit:Ep P Gi B (.func (.func gf) #[] caps.toArray) xs fin) (hGi:∀ b o,Gi b=some o→G b=some o)
  (hps:ps.all (Nat.blt · N)=true) (hlen:∀ k args g,uK xs k args g→args.length=ps.length)
  (J:Nat→GH→OL→Prop) (Jx:Code→GH→OL→Prop) (hno:fin=false→∀ g l,¬ J xs.length g l) (vg:Cw J) (hJx:∀ c,Ev (Jx c)) (h0:J 0 G L) (O4:Me P N ps assign body T G J Jx xs)
  (hdone:∀ Dk G1 L1 a1 w1,(∀ b o,G b=some o→G1 b=some o)→J xs.length G1 L1→St N ({ target:=.collected Dk,args:=#[] } :: D) w0 F G0 G1 ((Dk,.deferred (some [])) :: L1) T a1 w1→Q .normal a1 w1)
  (hstop:∀ Dk c G1 L1 a1 w1,(∀ b o,G b=some o→G1 b=some o)→Jx c G1 L1→St N ({ target:=.collected Dk,args:=#[] } :: D) w0 F G0 G1 ((Dk,.deferred (some [])) :: L1) T a1 w1→WP none P c Q a1 w1) :
  WP none P (.rangeFunc wZ ps.toArray assign body) Q a w:=by
 refine wpIn_rangeFunc ?_
 intro fn _
 have hev:=H.ev hg
 let q:Rec:=⟨fn,a.tmps,ps.toArray,assign,body,w.heap.size⟩
 obtain ⟨W1,hW1⟩:∃ W1,W1=(w.alloc (.deferred (some []))).alloc (q.at .ready none):=⟨_,rfl⟩
 have H1:Hp w0 F G0 G (B++((w.heap.size+1,q.at .ready none) :: (w.heap.size,.deferred (some [])) :: L)) W1:=by
  have:=(H.hp.alloc (.deferred (some []))).alloc (q.at .ready none)
  rw [World.size_alloc] at this
  rw [hW1]
  refine this.perm ?_
  have e:=zR (l₁:=[(w.heap.size+1,q.at .ready none),(w.heap.size,Obj.deferred (some []))]) (l₂:=B)
  have e2:=List.Perm.append_right L e
  rw [nW,nW] at e2
  exact e2
 refine ⟨w.heap.size+1,[{ target:=.collected w.heap.size,args:=#[] }],W1,{ target:=.fn (.func gf) caps.toArray,args:=#[.func (.yield (w.heap.size+1)) #[] #[]] },W1,gf,
  #[.func (.yield (w.heap.size+1)) #[] #[]]++caps.toArray,W1,by rw [hW1];exact run_enterLoop_outer fn a.tmps ps.toArray assign body,?_,fun _ _=>trivial,?_,I5 none,?_⟩
 ·simp only [resolve,rangeCall,hev]
  simp [Deferred.ofValue,Act.eval]
 ·simp [invoke,en]
 ·have hcv:=hit (fun k=>Jr (w.heap.size+1) q [(w.heap.size,.deferred (some []))] (J k)) (Jb (w.heap.size+1) q [(w.heap.size,.deferred (some []))] Jx) (.func (.yield (w.heap.size+1)) #[] #[]) G
   ((w.heap.size+1,q.at .ready none) :: (w.heap.size,.deferred (some [])) :: L) W1 rfl hGi (fun k G G' L hm ⟨Lu,e,h⟩=>⟨Lu,e,vg k G G' Lu hm h⟩) (fun G G' L hm ⟨c,Lu,e,h⟩=>⟨c,Lu,e,hJx c G G' Lu hm h⟩) ⟨L,rfl,h0⟩ (Hp.owns (Li:=[]) H1) (S9 H.lH H.get hps hlen O4) (fun e g l ⟨Lu,_,h⟩=>hno e g Lu h)
  replace hcv:=hcv.go
  have e:(do let d ← Deferred.ofValue (.func (.func gf) #[] caps.toArray) [Value.func (.yield (w.heap.size+1)) #[] #[]].toArray;invoke d.target d.args:Sem Next).run P W1=.ok (.enter gf (#[.func (.yield (w.heap.size+1)) #[] #[]]++caps.toArray)) W1:=by
   simp [Deferred.ofValue,invoke,en]
  rw [e] at hcv
  refine (ME hcv).mono ?_
  rintro e w2 ⟨v,G2,L2,rfl,hch,hJ⟩
  have H2:=Hp.change (Li:=[]) H1 hch
  rcases hJ with ⟨Lu,rfl,hJ⟩|⟨c,Lu,rfl,hJ⟩
  ·have hl:=H2.own _ (iC)
   have H3:=(H2.upd (i:=0) rfl (Ck (q.at .exhausted none) hl)).drop (zQ _ _)
   exact ⟨none,_,run_endLoop hl (by simp),hdone _ G2 Lu _ _ hch.gm hJ ⟨H.lH,H.get,by simp [H.qB],H3⟩⟩
  ·have hl:=H2.own _ (iC)
   have H3:=(H2.upd (i:=0) rfl (Ck (q.at .exhausted (some c)) hl)).drop (zQ _ _)
   exact ⟨some c,_,run_endLoop hl (by simp),hstop _ c G2 Lu _ _ hch.gm hJ ⟨H.lH,H.get,by simp [H.qB],H3⟩⟩
theorem aaL {fin:Bool} {B:OL} {ι κ:Type} {Lc:OL} {wZ:Operand} {ps:List Nat} {assign body:Code} {gf:FuncId} {caps:List aj} {xs:List AP} {Gi:GH}
  (Lv:Nat→ι→OL) (Lt:Nat→ι→OL) (inv:Nat→ι→GH→Prop) (cx:κ→Code) (Lx CG:κ→OL) (xP:κ→GH→Prop) (i0:ι)
  (H:St N D w0 F G0 G (B++(Lc++Lv 0 i0++Lt 0 i0)) T a w) (hg:ev T wZ=some (.func (.func gf) #[] caps.toArray)) (en:∀ args w,(callFunc gf args).run P w=.ok (.enter gf args) w) (hit:Ep P Gi B (.func (.func gf) #[] caps.toArray) xs fin) (hGi:∀ b o,Gi b=some o→G b=some o)
  (hno:fin=false→∀ i g,¬ inv xs.length i g) (hps:ps.all (Nat.blt · N)=true) (hlen:∀ k args g,uK xs k args g→args.length=ps.length) (hinv:∀ k i (G G':GH),(∀ b o,G b=some o→G' b=some o)→inv k i G→inv k i G') (OG:∀ x (G G':GH),(∀ b o,G b=some o→G' b=some o)→xP x G→xP x G') (h0:inv 0 i0 G)
  (round:∀ (l:Nat) (BS yH:Obj) (bk:OL) (k:Nat) (args:List aj) (i:ι) (G1:GH) (w1:World) (F1:Nat→Prop) (B1:Code→Exit→Act→World→Prop) (a1:Act),uK xs k args G1→(∀ b o,G b=some o→G1 b=some o)→inv k i G1 →
   (∀ T' G2 L2 a2 w2 c,St N [] w1 F1 G1 G2 ((l,BS) :: L2) T' a2 w2→(∀ w3,St N [] w1 F1 G1 G2 ((l,yH) :: L2) T' a2 w3→WP (some l) P c (B1 c) a2 w3)→Exit.then (fun a2 w2=>∃ w3,(Instr.beginRound l).run P w2=.ok () w3∧c.wpIn (FW (some l)) 0 P (B1 c) a2 w3) (fun _ _ _=>False) .normal a2 w2) →
   (∀ i' T' G2 a2 w2 c,St N [] w1 F1 G1 G2 ((l,yH) :: (Lc++Lv (k+1) i'++(bk++Lt (k+1) i'))) T' a2 w2→inv (k+1) i' G2→B1 c .normal a2 w2) →
   (∀ x T' G2 a2 w2 c,St N [] w1 F1 G1 G2 ((l,yH) :: (Lc++Lx x++(bk++CG x))) T' a2 w2→xP x G2→(cx x=.ret→B1 c .ret a2 w2)∧∀ n,cx x=.exit n→B1 c (.exit n) a2 w2) →
   St N [] w1 F1 G1 G1 ((l,BS) :: (Lc++Lv k i++(bk++Lt k i))) (wP ps args T) a1 w1 →
   WP (some l) P assign (Exit.then (fun a2 w2=>∃ w3,(Instr.beginRound l).run P w2=.ok () w3∧body.wpIn (FW (some l)) 0 P (B1 body) a2 w3) (fun _ _ _=>False)) a1 w1)
  (hdone:∀ Dk i G1 a1 w1,(∀ b o,G b=some o→G1 b=some o)→inv xs.length i G1→St N ({ target:=.collected Dk,args:=#[] } :: D) w0 F G0 G1 ((Dk,.deferred (some [])) :: (Lc++Lv xs.length i++Lt xs.length i)) T a1 w1→Q .normal a1 w1)
  (hstop:∀ Dk x G1 a1 w1,(∀ b o,G b=some o→G1 b=some o)→xP x G1→St N ({ target:=.collected Dk,args:=#[] } :: D) w0 F G0 G1 ((Dk,.deferred (some [])) :: (Lc++Lx x++CG x)) T a1 w1→WP none P (cx x) Q a1 w1) :
  WP none P (.rangeFunc wZ ps.toArray assign body) Q a w:=by
 refine aaK (J:=fun k g L=>∃ i,L=Lc++Lv k i++Lt k i∧inv k i g) (Jx:=fun c g L=>∃ x,c=cx x∧L=Lc++Lx x++CG x∧xP x g) H hg en hit hGi hps hlen (hno:=fun e g l ⟨i,_,h⟩=>hno e i g h) (fun k G G' L hm ⟨i,e,h⟩=>⟨i,e,hinv k i G G' hm h⟩) (fun c G G' L hm ⟨x,e1,e2,h⟩=>⟨x,e1,e2,OG x G G' hm h⟩) ⟨i0,rfl,h0⟩ ?_ ?_ ?_
 ·rintro l q bk k args G1 L1 w1 a1 hk hm ⟨i,rfl,hi⟩ H1
  have pm:∀ A B:OL,(bk++(A++B)).Perm (A++(bk++B)):=fun A B=>by
   rw [← nW,← nW]
   exact List.Perm.append_right B zR
  refine round l (q.at .ready none) (q.at .busy none) bk k args i G1 w1 _ (fun _=>roundPost P l _) a1 hk hm hi ?_ ?_ ?_ (H1.perm (List.Perm.cons _ (pm _ _)))
  ·intro T' G2 L2 a2 w2 c H2 h
   exact SS H2 h
  ·intro i' T' G2 a2 w2 c H2 h2
   exact Fw none (H2.perm (List.Perm.cons _ (pm _ _).symm)) ⟨_,rfl,i',rfl,h2⟩
  ·intro x T' G2 a2 w2 c H2 h2
   have H3:=H2.perm (List.Perm.cons _ (pm _ _).symm)
   refine ⟨fun e=>?_,fun n e=>?_⟩
   ·exact Fw (some .ret) H3 ⟨_,_,rfl,x,e.symm,rfl,h2⟩
   ·exact Fw (some (.exit n)) H3 ⟨_,_,rfl,x,e.symm,rfl,h2⟩
 ·rintro Dk G1 L1 a1 w1 hm ⟨i,rfl,hi⟩ H1
  exact hdone Dk i G1 a1 w1 hm hi H1
 ·rintro Dk c G1 L1 a1 w1 hm ⟨x,rfl,rfl,hx⟩ H1
  exact hstop Dk x G1 a1 w1 hm hx H1
end
end
section
open Go.RowKit
theorem Ef:prog.underlying 114=some (.map 3 3):=by kernel_rfl
theorem sF:Ty prog 31 1 24 [.slice none 0 0] false:=⟨by kernel_rfl,by kernel_rfl⟩
theorem Nn:bY prog 181 3 3:=⟨by kernel_rfl⟩
theorem TI:∀ args w,(callFunc 135 args).run prog w=.ok (.enter 135 args) w:=enters func135 rfl (by kernel_rfl)
theorem Wh {x:Int}:∀ {l:List Int} {i n:Nat},sZ x i l=some n→n < i+l.length
 | [],_,_,h=>by cases h
 | k :: r,i,n,h=>by
  rw [sZ] at h;split at h
  ·cases h;simp
  have:=Wh h;simp only [nV];omega
def vX (l:List bR):Nat→Int→List bR
 | 0,_=>[]
 | f+1,id=>if id=0 then [] else match sZ id 0 (l.map bR.id) with|none=>[]|some i=>match l[i]? with|none=>[]|some s=>s :: vX l f s.base
def ED (l:List bR) (id:Int):List bR:=vX l (l.length+1) id
theorem abb {l:List bR} {f:Nat} {id:Int} (h:id=0):vX l f id=[]:=by
 cases f with
 | zero=>rfl
 | succ f=>rw [vX,au h]
theorem aaY {l:List bR} {f:Nat} {id:Int} (h0:¬ id=0) (h:sZ id 0 (l.map bR.id)=none):vX l f id=[]:=by
 cases f with
 | zero=>rfl
 | succ f=>rw [vX,ah h0,h]
theorem aaZ {l:List bR} {f i:Nat} {id:Int} (h0:¬ id=0) (h:sZ id 0 (l.map bR.id)=some i) (hi:i < l.length):vX l (f+1) id=l[i] :: vX l f l[i].base:=by
 rw [vX,ah h0,h];dsimp only;rw [gY hi]
def stP (x:bR):AP:=fun args g=>∃ cs,args=[.agg cs.toArray]∧aZ g x.dat cs
theorem Yo {A:List bR} {k:Nat} {args:List aj} {g:GH} (h:uK (A.map stP) k args g):∃ (hk:k < A.length) (cs:List aj),args=[.agg cs.toArray]∧aZ g A[k].dat cs:=by
 obtain ⟨p,hp,hargs⟩:=h;rw [qp] at hp;obtain ⟨q,hq,rfl⟩:=lu.1 hp;obtain ⟨hk,rfl⟩:=ji.1 hq;obtain ⟨cs,h1,h2⟩:=hargs;exact ⟨hk,cs,h1,h2⟩
abbrev bI (b:Nat) (n:Int):Nat × Obj:=(b,.cells #[vi n] 3 (0,0))
set_option maxHeartbeats 1000000 in
theorem abd {G:GH} {bl bi:Nat} {l:List bR} {id:Int} {v:aj} (hb:aL G bl 0=some v) (hv:av G (.sl 6 (l.map bR.dat)) v) (hnd:∀ (k:Nat) (h:k < l.length),l[k].id∉(l.take k).map bR.id) :
  Ep prog G [bI bi id] (.func (.func 135) #[] #[(aJ bl 0),(aJ bi 0)]) ((ED l id).map stP) (decide ((ED l id).length≤l.length)):=by
 intro J Jx fv G1 L w0 Vk hGi vg hJx hJ hO hcb hfin;refine mo (caps:=[(aJ bl 0),(aJ bi 0)]) TI ?_;obtain ⟨A,c,rfl,hc1,hc2,-⟩:=hv.slice;have hml:maxLen=9223372036854775807:=rfl;rw [bU] at *;replace hb:=aM hGi hb;replace hv:=hv.mono hGi;refine kg (N:=46) (T:=[(0,_),(1,_),(2,_)]) func135 rfl ntmps135 rfl rfl hO ?_;intro a H;refine dH (fun _ K1=>?_);refine D8 H wn rfl ?_;clear H;intro bm a w J3 H;refine kH H (ak K1 rfl (SQ fun _ K2=>SR fun _ K3=>Rg sF rfl (by assumption) ?_));clear H K1;intro a H;refine kH H (Rl nC rfl (Rm rfl (Kz K3 (SB ?_))));clear H K3;intro a H;skip;refine eU (ι:=Nat) (Tc:=[(0,_),(1,_),(2,_),(4,_),(10,_),(11,_)]) (Lc:=[(_,_)]) (fun gh=>[(12,vi gh)]) (fun gh=>[aaz bm ((l.take gh).map bR.id)]++L) (fun gh=>G1) (fun gh=>gh≤l.length) (fun gh=>l.length - gh) (0) (by exact (H.dV (Pl:=[_,_]) (dz:=[_,_]) [1,0] (by decide) rfl).sub ⟨rfl,rfl,rfl,rfl,rfl,rfl,rfl,aD⟩) ?_ ?_
 ·exact ig _
 clear H;intro gh a w hI H;obtain ⟨k,hgh⟩:∃ x,x=gh:=⟨_,rfl⟩;subst hgh;have hk:=hI;dsimp only [lca,bD] at H;refine kP H (SR fun _ K4=>Rc rfl (Kz K4 (SQ fun _ K5=>Cd rfl ?_ ?_))) <;> clear H K4
 ·intro gu a H
  try have qF:=dT gu
  have hk2:k < l.length:=by omega
  obtain ⟨b,o,pA,pc,rfl,hrow,hp,hrep⟩:=AV hv hk2;have agy:=hnd k hk2
  have hlk:((l.take k).map bR.id).length=k:=by rw [bU,List.length_take];omega
  have hnx:(l.take k).map bR.id++[l[k].id]=(l.take (k+1)).map bR.id:=by rw [jF hk2,lG];rfl
  refine kP H (Kc K5 (SQ fun _ K6=>SB (SR fun _ K7=>Rm rfl (Ri nC kC rfl rfl ?_))));clear H K5;intro a H;refine bK kC (cs:=[_,_,_,_,_,_]) H wn rfl rfl (fun j v hj=>H.hp.aL (hrow j v hj)) rfl ?_;clear H;intro a H;refine eZ kC H wn rfl ?_;clear H;intro b6 a w hb6 H;refine kH H (Ra rfl ?_);clear H;intro a H;refine bM kC 0 (vs:=[_,_,_,_,_,_]) _ H wn rfl rfl rfl rfl rfl rfl rfl rfl ?_;clear H;intro w H;dsimp only [List.set,setRow] at H;refine K7 _ _ ?_;clear K7;refine kP H (SC (Rm rfl (aW tX aH 0 rfl rfl (Rm rfl ?_))));clear H;intro a H;refine XT (i:=2) (ky:=vi l[k].id) (v:=vi k) Ef nD H wn rfl rfl rfl rfl (by trivial) (by rw [List.toList_toArray,Ns,Wi agy];rfl) ?_;clear H;intro w H
  have hpush:((vD 0 ((l.take k).map bR.id)).toArray.push ⟨vi l[k].id,vi k,((l.take k).map bR.id).length⟩)=(vD 0 ((l.take (k+1)).map bR.id)).toArray:=by rw [← hnx,← ail,hlk]
  rw [hpush,show ((l.take k).map bR.id).length+1=((l.take (k+1)).map bR.id).length by rw [← hnx];simp] at H;refine kH H (Kn K6 (SC (Rd rfl (Rm rfl ?_))));clear H K6;intro a H;refine aI ?_;refine cK ((k+1)) (by exact (H.dV (Pl:=[_,_,_]) (dz:=[_,_]) [1,2] (by decide) rfl).sub ⟨rfl,rfl,rfl,rfl,rfl,rfl,rfl,aD⟩) ?_ ?_
  ·exact by omega
  first|omega|(dsimp only;omega)
 intro gu a H
 try have qF:=dF gu
 obtain rfl:k=l.length:=by omega
 rw [uP] at H;refine dQ ?_;refine K2 _ _ ?_;clear K2;refine yI ?_;skip;refine eU (ι:=Int × Nat × Nat × OL × GH) (Tc:=[(0,_),(1,_),(2,_),(4,_)]) (Lc:=[(_,_)]) (fun gh=>[]) (fun gh=>[bI bi gh.1]++gh.2.2.2.1) (fun gh=>gh.2.2.2.2) (fun gh=>(∀ b o,G1 b=some o→gh.2.2.2.2 b=some o)∧Now ((ED l id).map stP) stP J (ED l id).length gh.2.2.1 (vX l gh.2.1 gh.1) gh.2.2.2.2 gh.2.2.2.1∧gh.2.2.1+gh.2.1=l.length+1) (fun gh=>gh.2.1) ((id,l.length+1,0,L,G1)) (by exact (H.dV (Pl:=[_,_]) (dz:=[_,_]) [1,0] (by decide) rfl).sub ⟨rfl,rfl,rfl,rfl,aD⟩) ?_ ?_
 ·exact ⟨fun _ _ h=>h,⟨hJ,fun i a h=>by rw [kT,qp];rw [show vX l (l.length+1) id=ED l id from rfl] at h;rw [h];rfl,kT _⟩,kT _⟩
 clear H;intro gh a w hI H;obtain ⟨i,f,j1,Lt,g⟩:=gh;dsimp only at hI H;obtain ⟨hgm,eH,hjf⟩:=hI;have hbg:=aM hgm hb;dsimp only [lca,bD] at H;refine kP H (SQ fun _ K8=>SR fun _ K9=>Ro aH 1 rfl (Rc rfl (Kz K9 (Cd rfl ?_ ?_)))) <;> clear H K9
 ·intro h23 a H
  try have rW:=dT h23
  have h0:¬ i=0:=by simpa using h23
  obtain ⟨an,han⟩:∃ an,an=sZ i 0 (l.map bR.id):=⟨_,rfl⟩;have hfn:=Ns i 0 0 (l.map bR.id);rw [← han] at hfn;refine kP H (Kc K8 (SB (SR fun _ aT=>Rm rfl (Ro aH 1 rfl ?_))));clear H K8;intro a H;refine ajE (i:=0) (zv:=vi 0) _ Ef nD (by kernel_rfl) H wn rfl rfl rfl (by trivial) (by simpa using hfn) rfl ?_;clear H;intro a H;refine kH H (Rm rfl ?_);clear H;intro a H;(iterate 2 refine jN H wn rfl rfl rfl ?_;clear H;intro a H);refine kH H (Ra rfl (ak aT rfl (SQ fun _ bC=>SR fun _ bJ=>Rm rfl (Rn rfl (Rm rfl (Sp 32 rfl ?_ ?_)))))) <;> clear H aT
  ·intro h32 a H
   try have p32:=dT h32
   obtain rfl:an=none:=by
    cases an with
    | none=>rfl
    | some n=>simp [AA] at h32
   rw [aaY h0 han.symm] at eH;refine kH H (aY h32 rfl (aS h32 rfl (aS h32 rfl (Pt h32 rfl (Kz bJ (Ct rfl rfl ?_))))));clear H bJ;intro a H;refine cB ?_;refine (leave0 H results135 ?_).1;refine H.hp.gT (L':=Lt) (by repeat (first|exact iN _|apply List.Sublist.cons)) (.inl ?_);have h:=eH.len
   simp only [List.length_nil,tN] at h
   rw [← h];exact eH.now
  intro h32 a H
  try have p32:=dF h32
  obtain ⟨n,rfl⟩:∃ n,an=some n:=by
   cases an with
   | none=>simp [AA] at h32
   | some n=>exact ⟨n,rfl⟩
  have hnl:n < l.length:=by have:=Wh han.symm;simpa using this
  obtain ⟨f',rfl⟩:∃ f',f=f'+1:=by
   cases f with
   | succ f'=>exact ⟨f',rfl⟩
   | zero =>
    exfalso
    have hl:=eH.len
    simp only [vX,List.length_nil,tN] at hl
    refine hfin (jk (by omega)) g Lt ?_;rw [← hl];exact eH.now
  rw [aaZ h0 han.symm hnl] at eH;dsimp only [AA,Option.map_some] at H;obtain ⟨b,o,pA,pc,rfl,hrow,hp,hrep⟩:=AV (hv.mono hgm) hnl;refine kH H (YM h32 rfl (YR sF h32 rfl (by assumption) ?_));clear H;intro a H;refine kH H (YM h32 rfl (YI nC kC h32 rfl rfl ?_));clear H;intro a H;refine bK kC (cs:=[_,_,_,_,_,_]) H (wg H rfl rfl h32) rfl rfl (fun j v hj=>H.hp.aL (hrow j v hj)) rfl ?_;clear H;intro a H;refine FB (Li:=[_,_]) (L:=Lt) H (wg H rfl rfl h32) rfl rfl (hcb j1 _ _ _ _ ⟨_,eH.head,_,rfl,hrep⟩ hgm eH.now (Hp.owns (Li:=[_,_]) H.hp)) rfl ?_;clear H;rintro v38 I8 R8 a w ⟨SE,rfl,hb1,hb2⟩ EX H;have hbg:=aM EX hbg;have r3:=aM EX (hrow 3 _ rfl);refine kH H (YN h32 rfl (Pf h32 rfl (Kz bJ (Cd rfl ?_ ?_)))) <;> clear H bJ
  ·intro lJ a H
   try have p40:=dT lJ
   refine cB ?_;refine (leave0 H results135 ?_).1;exact H.hp.gT (L':=R8) (by repeat (first|exact iN _|apply List.Sublist.cons)) (.inr (hb2 (by simpa using lJ)))
  intro lJ a H
  try have p40:=dF lJ
  refine kP H (Kc bC (SC (Rg sF rfl (by assumption) ?_)));clear H bC;intro a H;refine kH H (Rm rfl (Ri nC kC rfl rfl (Rf Nn rfl (Rg aH rfl (by assumption) ?_))));clear H;intro a H;refine bM aH 1 (vs:=[_]) _ H wn rfl rfl rfl rfl rfl rfl rfl rfl ?_;clear H;intro w H;dsimp only [List.set,setRow] at H;refine aI ?_;refine cK ((l[n].base,f',j1+1,R8,I8)) (by exact (H).sub ⟨rfl,rfl,rfl,rfl,aD⟩) ?_ ?_
  ·(try dsimp only);exact ⟨fun b o h=>EX b o (hgm b o h),eH.step (hb1 (by simpa using lJ)),by omega⟩
  first|omega|(dsimp only;omega)
 intro h23 a H
 try have rW:=dF h23
 refine dQ ?_;refine (leave0 H results135 ?_).2;rw [abb (by simpa using h23)] at eH;refine H.hp.gT (L':=Lt) (by repeat (first|exact iN _|apply List.Sublist.cons)) (.inl ?_);have h:=eH.len
 simp only [List.length_nil,tN] at h
 rw [← h];exact eH.now
end
section
open Go.RowKit
theorem acs:∀ args w,(callFunc 115 args).run prog w=.ok (.enter 115 args) w:=enters func115 rfl (by kernel_rfl)
theorem acr:∀ args w,(callFunc 113 args).run prog w=.ok (.enter 113 args) w:=enters func113 rfl (by kernel_rfl)
theorem MW:∀ args w,(callFunc 114 args).run prog w=.ok (.enter 114 args) w:=enters func114 rfl (by kernel_rfl)
theorem JI:bY prog 181 4 4:=⟨by kernel_rfl⟩
theorem abe {G:GH} {w0:World} (hO:gX G [] w0) (l:List bR) (id:Int) (v:aj) (hv:av G (.sl 6 (l.map bR.dat)) v) :
  Calls prog 115 #[v,vi id] w0 (gH w0 G [] fun u G' L'=>∃ bl bi,u=.func (.func 135) #[] #[(aJ bl 0),(aJ bi 0)]∧L'=[bI bi id]∧aL G' bl 0=some v):=by
 obtain ⟨A,c,rfl,hc1,hc2,-⟩:=hv.slice;refine kg (N:=6) (T:=[(0,_),(1,_)]) func115 rfl ntmps115 rfl rfl hO ?_;intro a H;refine dH (fun _ K1=>?_);refine fq (cs:=[_]) H wn rfl rfl rfl ?_;clear H;intro b2 a w hb2 H;refine fq (cs:=[_]) H wn rfl rfl rfl ?_;clear H;intro b3 a w hb3 H;refine kH H (ak K1 rfl (SR fun _ K2=>?_));clear H K1;intro a H;refine qd H wn rfl rfl ?_;clear H;intro a H;refine kH H (ak K2 rfl ?_);clear H K2;intro a H;refine lr H results115 rfl ?_;have H:=H.dV (Pl:=[_,_]) (dz:=[_,_]) [1,0] (by decide) rfl;obtain ⟨Ga,hma,hb2',H⟩:=H.dS;exact H.hp.eP ⟨b2,b3,rfl,rfl,by unfold aL;rw [hb2'];rfl⟩
def rM (p:Nat→Int):Nat→Nat→Int
 | _,0=>0
 | k,n+1=>if p k=0 then rM p (k+1) n else p k
theorem aeg {p:Nat→Int} {k m:Nat} (h:k < m):rM p k (m - k)=if p k=0 then rM p (k+1) (m - (k+1)) else p k:=by
 obtain ⟨n,hn⟩:∃ n,m - k=n+1:=⟨m - k - 1,by omega⟩;rw [hn,rM,show m - (k+1)=n by omega]
theorem aef {p:Nat→Int} {k m:Nat} (h:m≤k):rM p k (m - k)=0:=by rw [show m - k=0 by omega];rfl
theorem Uj {p:Nat→Int}:∀ {n k:Nat},rM p k n=0→∀ j,k≤j→j < k+n→p j=0
 | 0,k,_,j,h1,h2=>by omega
 | n+1,k,h,j,h1,h2=>by
  rw [rM] at h;split at h
  ·rename_i hp
   by_cases e:j=k
   ·rw [e];exact hp
   exact Uj h j (by omega) (by omega)
  rename_i hp;exact absurd h hp
def xU (l:List bR) (k:Nat):Int:=match l[k]? with|some s=>iK l k s|none=>0
theorem Xo {l:List bR} {k:Nat} (h:k < l.length):xU l k=iK l k l[k]:=by unfold xU;rw [gY h]
def rH (l:List bR) (s:bR):Bool:=(decide (s.base≠0) && !DJ l s.kind s.base) || (decide (s.next≠0) && (decide (s.kind=2) || !DJ l 1 s.next))
def MP (l:List bR) (s:bR):Bool:=decide (l.length < (ED l s.id).length)
def gB (l:List bR):Int:=if 128 < l.length then 9 else if rM (xU l) 0 l.length≠0 then rM (xU l) 0 l.length else if l.any (rH l)=true then 25 else if l.any (MP l)=true then 16 else 0
theorem aiI {l:List bR} (h:rM (xU l) 0 l.length=0) {k:Nat} (hk:k+1 < l.length):l[k].id < l[k+1].id:=by
 have h1:=Uj h (k+1) (ig _) (by omega);rw [Xo hk,iK,kX] at h1
 have hp:wF l (k+1)=some l[k].id:=by rw [wF,ah (by omega),Nat.add_sub_cancel,gY (by omega)];rfl
 rw [hp] at h1
 split at h1
 ·cases h1
 split at h1
 ·cases h1
 split at h1
 ·cases h1
 rename_i _ h2 h3
 have h2':¬ l[k].id=l[k+1].id:=fun e=>h2 (by rw [e]);have h3':¬ l[k+1].id < l[k].id:=fun e=>h3 (aC e)
 omega
theorem Xp {l:List bR} (h:rM (xU l) 0 l.length=0):∀ {k j:Nat} (hk:k < l.length) (hj:j < k),l[j].id < l[k].id
 | k+1,j,hk,hj=>by
  have h1:=aiI h hk
  by_cases e:j=k
  ·subst e;exact h1
  have:=Xp h (k:=k) (j:=j) (by omega) (by omega)
  omega
theorem Xq {l:List bR} (h:rM (xU l) 0 l.length=0) (k:Nat) (hk:k < l.length):l[k].id∉(l.take k).map bR.id:=by
 intro hm;obtain ⟨x,hx1,hx2⟩:=List.mem_map.1 hm;obtain ⟨j,hj,rfl⟩:=List.getElem_of_mem hx1;rw [List.getElem_take] at hx2;rw [List.length_take] at hj;have:=Xp h hk (j:=j) (by omega)
 omega
theorem Gm {α:Type} {p:α→Bool} {l:List α} {k:Nat} (hk:k < l.length) (h:(l.take k).any p=false) (hp:p l[k]=false):(l.take (k+1)).any p=false:=by
 rw [jF hk,List.any_append,h];simp [hp]
theorem tO {α:Type} {p:α→Bool} {l:List α} {k:Nat} (hk:k < l.length) (hp:p l[k]=true):l.any p=true:=List.any_eq_true.2 ⟨_,iM hk,hp⟩
theorem yF {α:Type} {p:α→Bool} {l:List α} {k:Nat} (hk:l.length≤k) (h:(l.take k).any p=false):¬ l.any p=true:=by
 rw [jQ hk] at h;rw [h];decide
set_option maxHeartbeats 1000000 in
theorem abo (G:GH) (w0:World) (hG:Hold G w0) (l:List bR) (v:aj) (hv:av G (.sl 6 (l.map bR.dat)) v) (hN:∀ s∈l,s.name.size≤4611686018427387904) :
  Calls prog 80 #[v] w0 (bF w0 G fun u G'=>u=vi (gB l)):=by
 obtain ⟨A,c,rfl,hc1,hc2,-⟩:=hv.slice;have hml:maxLen=9223372036854775807:=rfl;rw [bU] at *;refine eN [(0,_)] func80 rfl ntmps80 rfl rfl hG ?_;intro a H;refine dH (fun _ K1=>?_);refine fq (cs:=[_]) H wn rfl rfl rfl ?_;clear H;intro b1 a w hb1 H;refine eZ gF H wn rfl ?_;clear H;intro b2 a w hb2 H;refine K1 _ _ ?_;clear K1;refine kP H (SQ fun _ K2=>SR fun _ K3=>Ro sF 1 rfl (Rl nC rfl (Rc rfl (Kz K3 (Cd rfl ?_ ?_))))) <;> clear H K3
 ·intro h12 a H
  try have pX:=dT h12
  refine dH (fun _ K4=>?_);refine bM gF 0 (vs:=[_]) _ H wn rfl rfl rfl rfl rfl rfl rfl rfl ?_;clear H;intro w H;dsimp only [List.set,setRow] at H;refine K4 _ _ ?_;clear K4;refine cB ?_;refine (leave1 H results80 (.cons (tC gF H rfl (H.hp.nL 0 rfl rfl)) .nil) ?_).1
  first
   | exact H.rt (aF vi (by rw [gB,au (by omega)]))
   | exact H.rt (aF vi (by rw [ah (by simpa using iA)] at heq;rw [gB,ah (by omega),← heq,au (by simpa using iA)]))
   | exact H.rt (aF vi (by rw [gB,ah (by omega),ah (by rw [hok];decide),au hbad]))
   | exact H.rt (aF vi (by rw [gB,ah (by omega),ah (by rw [hok];decide),ah hbad,au (tO hj2 hI)]))
   | exact H.rt (aF vi (by rw [gB,ah (by omega),ah (by rw [hok];decide),ah hbad,ah (yF (by omega) hnc)]))
 intro h12 a H
 try have pX:=dF h12
 refine kP H (Kc K2 (SQ fun _ K5=>SR fun _ K6=>Ro sF 1 rfl (Rl nC rfl (Rm rfl (Kz K6 (SB ?_))))));clear H K2 K6;intro a H;skip;refine eU (ι:=Nat × GH) (Tc:=[(1,_),(2,_),(14,_)]) (Lc:=[(_,_),(_,_)]) (fun gh=>[(15,vi gh.1)]) (fun gh=>[]) (fun gh=>gh.2) (fun gh=>gh.1≤l.length∧rM (xU l) gh.1 (l.length - gh.1)=rM (xU l) 0 l.length∧(∀ b o,G b=some o→gh.2 b=some o)) (fun gh=>l.length - gh.1) ((0,G)) (by exact (H).sub ⟨rfl,rfl,rfl,rfl,aD⟩) ?_ ?_
 ·exact ⟨ig _,rfl,fun _ _ h=>h⟩
 clear H;intro gh a w hI H;obtain ⟨k,g⟩:=gh;dsimp only at hI H;obtain ⟨hk,heq,hgm⟩:=hI;dsimp only [lca,bD] at H;refine kP H (SR fun _ K7=>Rc rfl (Kz K7 (SQ fun _ K8=>Cd rfl ?_ ?_))) <;> clear H K7
 ·intro h16 a H
  try have p16:=dT h16
  have hk2:k < l.length:=by omega
  rw [aeg hk2,Xo hk2] at heq;refine kP H (Kc K8 (SQ fun _ K9=>SB (SR fun _ aT=>Rm rfl (ak aT rfl (SR fun _ bC=>Ro sF 1 rfl (Rm rfl ?_))))));clear H K8 aT;intro a H;refine s_call acr H wn rfl (aiJ _ _ H.ro l k _ (hv.mono hgm) hk2 (hN _ (iM hk2))) rfl ?_;clear H;rintro v20 En a w rfl BG H;refine kH H (ak bC rfl (SR fun _ bJ=>Rm rfl (Rc rfl (Kz bJ (Cd rfl ?_ ?_))))) <;> clear H bC bJ
  ·intro h22 a H
   try have iA:=dT h22
   refine kP H (SR fun _ bT=>Rm rfl ?_);clear H;intro a H;refine bM gF 0 (vs:=[_]) _ H wn rfl rfl rfl rfl rfl rfl rfl rfl ?_;clear H;intro w H;dsimp only [List.set,setRow] at H;refine bT _ _ ?_;clear bT;refine cB ?_;refine (leave1 H results80 (.cons (tC gF H rfl (H.hp.nL 0 rfl rfl)) .nil) ?_).1
   first
    | exact H.rt (aF vi (by rw [gB,au (by omega)]))
    | exact H.rt (aF vi (by rw [ah (by simpa using iA)] at heq;rw [gB,ah (by omega),← heq,au (by simpa using iA)]))
    | exact H.rt (aF vi (by rw [gB,ah (by omega),ah (by rw [hok];decide),au hbad]))
    | exact H.rt (aF vi (by rw [gB,ah (by omega),ah (by rw [hok];decide),ah hbad,au (tO hj2 hI)]))
    | exact H.rt (aF vi (by rw [gB,ah (by omega),ah (by rw [hok];decide),ah hbad,ah (yF (by omega) hnc)]))
  intro h22 a H
  try have iA:=dF h22
  refine kP H (Kc K9 (SC (Rd rfl (Rm rfl ?_))));clear H K9;intro a H;refine aI ?_;refine cK ((k+1,En)) (by exact (H).sub ⟨rfl,rfl,rfl,rfl,aD⟩) ?_ ?_
  ·(try dsimp only);exact ⟨by omega,by rw [au (by simpa using iA)] at heq;exact heq,fun b o h=>BG b o (hgm b o h)⟩
  first|omega|(dsimp only;omega)
 intro h16 a H
 try have p16:=dF h16
 have hok:rM (xU l) 0 l.length=0:=by rw [← heq];exact aef (by omega)
 clear heq;have DC:=hv.mono hgm;refine dQ ?_;refine K5 _ _ ?_;clear K5;refine kP H (SQ fun _ bS=>SR fun _ dD=>Ro sF 1 rfl (Rl nC rfl (Rm rfl (Kz dD (SB ?_)))));clear H dD;intro a H;skip;refine eU (ι:=Nat × GH) (Tc:=[(1,_),(2,_),(25,_),(26,_)]) (Lc:=[(_,_),(_,_)]) (fun gh=>[(27,vi gh.1)]) (fun gh=>[]) (fun gh=>gh.2) (fun gh=>gh.1≤l.length∧(l.take gh.1).any (rH l)=false∧(∀ b o,g b=some o→gh.2 b=some o)) (fun gh=>l.length - gh.1) ((0,g)) (by exact (H).sub ⟨rfl,rfl,rfl,rfl,rfl,aD⟩) ?_ ?_
 ·exact ⟨ig _,rfl,fun _ _ h=>h⟩
 clear H;intro gh a w hI H;obtain ⟨k,g2⟩:=gh;dsimp only at hI H;obtain ⟨hk3,hno,oK⟩:=hI;have xO:=DC.mono oK;dsimp only [lca,bD] at H;refine kP H (SR fun _ dM=>Rc rfl (Kz dM (SQ fun _ cZ=>Cd rfl ?_ ?_))) <;> clear H dM
 ·intro fE a H
  try have p28:=dT fE
  have hk4:k < l.length:=by omega
  obtain ⟨b,o,pA,pc,rfl,hrow,hp,hrep⟩:=AV xO hk4;refine kP H (Kc cZ (SQ fun _ dW=>SB (SR fun _ fZ=>Ri nC kC rfl rfl ?_)));clear H cZ;intro a H;refine bK kC (cs:=[_,_,_,_,_,_]) H wn rfl rfl (fun j v hj=>H.hp.aL (hrow j v hj)) rfl ?_;clear H;intro a H;refine eZ kC H wn rfl ?_;clear H;intro b6 a w hb6 H;refine bM kC 0 (vs:=[_,_,_,_,_,_]) _ H wn rfl rfl rfl rfl rfl rfl rfl rfl ?_;clear H;intro w H;dsimp only [List.set,setRow] at H;refine fZ _ _ ?_;clear fZ;refine kP H (SR fun _ eG=>aW Nn aH 0 rfl rfl (Rc rfl (Rm rfl (Sp 34 rfl ?_ ?_)))) <;> clear H
  ·intro fF a H
   try have p34:=dT fF
   refine kH H (YO sF 2 fF rfl (YF wh fF rfl (YO aH 0 fF rfl (YF Nn fF rfl (YO aH 0 fF rfl ?_)))));clear H;intro a H;refine s_call MW H (wg H rfl rfl fF) rfl (Pn _ _ H.ro l l[k].kind l[k].base _ xO) rfl ?_;clear H;rintro v40 g2 a w rfl Ke H;replace oK:=fun b o (h:g b=some o)=>Ke b o (oK b o h);replace xO:=xO.mono Ke;refine kH H (YN fF rfl (Pt fF rfl (Rm rfl (Sp 43 rfl ?_ ?_)))) <;> clear H
   ·intro h43 a H
    try have p43:=dT h43
    refine kH H (aS h43 rfl (aS h43 rfl (Ku rfl (Ku rfl (Ku rfl (Ku rfl (Ku rfl (Ku rfl (Ku rfl (Ku rfl (Ku rfl (Ku rfl (Ks h43 rfl (Pt h43 rfl (Kz eG (Ct rfl rfl (SQ fun _ gq=>?_)))))))))))))))));clear H eG;intro a H;have hbad:l.any (rH l)=true:=tO hk4 (by unfold rH;simp_all);refine nY ?_;refine bM gF 1 (vs:=[_]) _ H wn rfl rfl rfl rfl rfl rfl rfl rfl ?_;clear H;intro w H;dsimp only [List.set,setRow] at H;refine aI ?_;refine gq _ _ ?_;clear gq;refine cB ?_;refine (leave1 H results80 (.cons (tC gF H rfl (H.hp.nL 1 rfl rfl)) .nil) ?_).1
    first
     | exact H.rt (aF vi (by rw [gB,au (by omega)]))
     | exact H.rt (aF vi (by rw [ah (by simpa using iA)] at heq;rw [gB,ah (by omega),← heq,au (by simpa using iA)]))
     | exact H.rt (aF vi (by rw [gB,ah (by omega),ah (by rw [hok];decide),au hbad]))
     | exact H.rt (aF vi (by rw [gB,ah (by omega),ah (by rw [hok];decide),ah hbad,au (tO hj2 hI)]))
     | exact H.rt (aF vi (by rw [gB,ah (by omega),ah (by rw [hok];decide),ah hbad,ah (yF (by omega) hnc)]))
   intro h43 a H
   try have p43:=dF h43
   refine kH H (YF JI h43 rfl (YO aH 0 h43 rfl (YC h43 rfl (YM h43 rfl (Sp 47 rfl ?_ ?_))))) <;> clear H
   ·intro h47 a H
    try have p47:=dT h47
    refine kH H (YF wh h47 rfl (YO aH 0 h47 rfl (YC h47 rfl (YM h47 rfl (Sp 51 rfl ?_ ?_))))) <;> clear H
    ·intro jl a H
     try have p51:=dT jl
     refine kH H (aY jl rfl (aS jl rfl (PT h47 jl rfl (PT h43 h47 rfl (Pf h43 rfl (Kz eG (Ct rfl rfl (SQ fun _ iB=>?_))))))));clear H eG;intro a H;have hbad:l.any (rH l)=true:=tO hk4 (by unfold rH;simp_all);refine nY ?_;refine bM gF 1 (vs:=[_]) _ H wn rfl rfl rfl rfl rfl rfl rfl rfl ?_;clear H;intro w H;dsimp only [List.set,setRow] at H;refine aI ?_;refine iB _ _ ?_;clear iB;refine cB ?_;refine (leave1 H results80 (.cons (tC gF H rfl (H.hp.nL 1 rfl rfl)) .nil) ?_).1
     first
      | exact H.rt (aF vi (by rw [gB,au (by omega)]))
      | exact H.rt (aF vi (by rw [ah (by simpa using iA)] at heq;rw [gB,ah (by omega),← heq,au (by simpa using iA)]))
      | exact H.rt (aF vi (by rw [gB,ah (by omega),ah (by rw [hok];decide),au hbad]))
      | exact H.rt (aF vi (by rw [gB,ah (by omega),ah (by rw [hok];decide),ah hbad,au (tO hj2 hI)]))
      | exact H.rt (aF vi (by rw [gB,ah (by omega),ah (by rw [hok];decide),ah hbad,ah (yF (by omega) hnc)]))
    intro jl a H
    try have p51:=dF jl
    refine kH H (YO sF 2 jl rfl (YF JI jl rfl (YO aH 0 jl rfl ?_)));clear H;intro a H;refine s_call MW H (wg H rfl rfl jl) rfl (Pn _ _ H.ro l 1 l[k].next _ xO) rfl ?_;clear H;rintro v55 g2 a w rfl uw H;replace oK:=fun b o (h:g b=some o)=>uw b o (oK b o h);replace xO:=xO.mono uw;refine kH H (YN jl rfl (PF h47 jl rfl (PT h43 h47 rfl (Pf h43 rfl (Kz eG (Cd rfl ?_ ?_)))))) <;> clear H eG
    ·intro iE a H
     try have p59:=dT iE
     refine bG (fun _ jv=>?_);have hbad:l.any (rH l)=true:=tO hk4 (by unfold rH;simp_all);refine nY ?_;refine bM gF 1 (vs:=[_]) _ H wn rfl rfl rfl rfl rfl rfl rfl rfl ?_;clear H;intro w H;dsimp only [List.set,setRow] at H;refine aI ?_;refine jv _ _ ?_;clear jv;refine cB ?_;refine (leave1 H results80 (.cons (tC gF H rfl (H.hp.nL 1 rfl rfl)) .nil) ?_).1
     first
      | exact H.rt (aF vi (by rw [gB,au (by omega)]))
      | exact H.rt (aF vi (by rw [ah (by simpa using iA)] at heq;rw [gB,ah (by omega),← heq,au (by simpa using iA)]))
      | exact H.rt (aF vi (by rw [gB,ah (by omega),ah (by rw [hok];decide),au hbad]))
      | exact H.rt (aF vi (by rw [gB,ah (by omega),ah (by rw [hok];decide),ah hbad,au (tO hj2 hI)]))
      | exact H.rt (aF vi (by rw [gB,ah (by omega),ah (by rw [hok];decide),ah hbad,ah (yF (by omega) hnc)]))
    intro iE a H
    try have p59:=dF iE
    refine kP H (Kc dW (SC (Rd rfl (Rm rfl ?_))));clear H dW;intro a H;refine aI ?_;refine cK ((k+1,g2)) (by exact (H.dV (Pl:=[_,_,_]) (dz:=[_,_]) [1,2] (by decide) rfl).sub ⟨rfl,rfl,rfl,rfl,rfl,aD⟩) ?_ ?_
    ·(try dsimp only);exact ⟨by omega,Gm hk4 hno (by unfold rH;simp_all),oK⟩
    first|omega|(dsimp only;omega)
   intro h47 a H
   try have p47:=dF h47
   refine kH H (aS h47 rfl (aS h47 rfl (Ku rfl (Ku rfl (Ku rfl (Ku rfl (Ku rfl (Ks h47 rfl (PF h43 h47 rfl (Pf h43 rfl (Kz eG (Cf rfl rfl (Kc dW (SC (Rd rfl (Rm rfl ?_))))))))))))))));clear H eG dW;intro a H;refine aI ?_;refine cK ((k+1,g2)) (by exact (H.dV (Pl:=[_,_,_]) (dz:=[_,_]) [1,2] (by decide) rfl).sub ⟨rfl,rfl,rfl,rfl,rfl,aD⟩) ?_ ?_
   ·(try dsimp only);exact ⟨by omega,Gm hk4 hno (by unfold rH;simp_all),oK⟩
   first|omega|(dsimp only;omega)
  intro fF a H
  try have p34:=dF fF
  refine kH H (aY fF rfl (aS fF rfl (aS fF rfl (Pf fF rfl (Rm rfl ?_)))));clear H;intro a H;refine FE JI H (wg H rfl rfl rfl) rfl rfl ?_;clear H;intro a H;refine tF aH H (wg H rfl rfl rfl) rfl (H.hp.nL 0 rfl rfl) rfl ?_;clear H;intro a H;refine FC H (wg H rfl rfl rfl) rfl rfl rfl rfl ?_;clear H;intro a H;refine vG H (wg H rfl rfl rfl) rfl rfl ?_;clear H;intro a H;refine Qp H 47 rfl ?_ ?_
  ·intro h47
   try have p47:=dT h47
   refine kH H (YF wh h47 rfl (YO aH 0 h47 rfl (YC h47 rfl (YM h47 rfl (Sp 51 rfl ?_ ?_))))) <;> clear H
   ·intro jl a H
    try have p51:=dT jl
    refine kH H (aY jl rfl (aS jl rfl (PT h47 jl rfl ?_)));clear H;intro a H;refine Iq H (wg H rfl rfl rfl) rfl h47 rfl rfl ?_;clear H;intro a H;refine kH H (Pf rfl rfl (Kz eG (Ct rfl rfl (SQ fun _ jB=>?_))));clear H eG;intro a H;have hbad:l.any (rH l)=true:=tO hk4 (by unfold rH;simp_all);refine nY ?_;refine bM gF 1 (vs:=[_]) _ H wn rfl rfl rfl rfl rfl rfl rfl rfl ?_;clear H;intro w H;dsimp only [List.set,setRow] at H;refine aI ?_;refine jB _ _ ?_;clear jB;refine cB ?_;refine (leave1 H results80 (.cons (tC gF H rfl (H.hp.nL 1 rfl rfl)) .nil) ?_).1
    first
     | exact H.rt (aF vi (by rw [gB,au (by omega)]))
     | exact H.rt (aF vi (by rw [ah (by simpa using iA)] at heq;rw [gB,ah (by omega),← heq,au (by simpa using iA)]))
     | exact H.rt (aF vi (by rw [gB,ah (by omega),ah (by rw [hok];decide),au hbad]))
     | exact H.rt (aF vi (by rw [gB,ah (by omega),ah (by rw [hok];decide),ah hbad,au (tO hj2 hI)]))
     | exact H.rt (aF vi (by rw [gB,ah (by omega),ah (by rw [hok];decide),ah hbad,ah (yF (by omega) hnc)]))
   intro jl a H
   try have p51:=dF jl
   refine kH H (YO sF 2 jl rfl (YF JI jl rfl (YO aH 0 jl rfl ?_)));clear H;intro a H;refine s_call MW H (wg H rfl rfl jl) rfl (Pn _ _ H.ro l 1 l[k].next _ xO) rfl ?_;clear H;rintro v55 g2 a w rfl uw H;replace oK:=fun b o (h:g b=some o)=>uw b o (oK b o h);replace xO:=xO.mono uw;refine kH H (YN jl rfl (PF h47 jl rfl ?_));clear H;intro a H;refine Iq H (wg H rfl rfl rfl) rfl h47 rfl rfl ?_;clear H;intro a H;refine kH H (Pf rfl rfl (Kz eG (Cd rfl ?_ ?_))) <;> clear H eG
   ·intro iE a H
    try have p59:=dT iE
    refine bG (fun _ iX=>?_);have hbad:l.any (rH l)=true:=tO hk4 (by unfold rH;simp_all);refine nY ?_;refine bM gF 1 (vs:=[_]) _ H wn rfl rfl rfl rfl rfl rfl rfl rfl ?_;clear H;intro w H;dsimp only [List.set,setRow] at H;refine aI ?_;refine iX _ _ ?_;clear iX;refine cB ?_;refine (leave1 H results80 (.cons (tC gF H rfl (H.hp.nL 1 rfl rfl)) .nil) ?_).1
    first
     | exact H.rt (aF vi (by rw [gB,au (by omega)]))
     | exact H.rt (aF vi (by rw [ah (by simpa using iA)] at heq;rw [gB,ah (by omega),← heq,au (by simpa using iA)]))
     | exact H.rt (aF vi (by rw [gB,ah (by omega),ah (by rw [hok];decide),au hbad]))
     | exact H.rt (aF vi (by rw [gB,ah (by omega),ah (by rw [hok];decide),ah hbad,au (tO hj2 hI)]))
     | exact H.rt (aF vi (by rw [gB,ah (by omega),ah (by rw [hok];decide),ah hbad,ah (yF (by omega) hnc)]))
   intro iE a H
   try have p59:=dF iE
   refine kP H (Kc dW (SC (Rd rfl (Rm rfl ?_))));clear H dW;intro a H;refine aI ?_;refine cK ((k+1,g2)) (by exact (H.dV (Pl:=[_,_,_]) (dz:=[_,_]) [1,2] (by decide) rfl).sub ⟨rfl,rfl,rfl,rfl,rfl,aD⟩) ?_ ?_
   ·(try dsimp only);exact ⟨by omega,Gm hk4 hno (by unfold rH;simp_all),oK⟩
   first|omega|(dsimp only;omega)
  intro h47
  try have p47:=dF h47
  refine kH H (aS h47 rfl (aS h47 rfl (Ku rfl (Ku rfl (Ku rfl (Ku rfl (Ku rfl (Ks h47 rfl ?_))))))));clear H;intro a H;refine KX H (wg H rfl rfl rfl) rfl h47 rfl rfl ?_;clear H;intro a H;refine kH H (Pf rfl rfl (Kz eG (Cf rfl rfl (Kc dW (SC (Rd rfl (Rm rfl ?_)))))));clear H eG dW;intro a H;refine aI ?_;refine cK ((k+1,g2)) (by exact (H.dV (Pl:=[_,_,_]) (dz:=[_,_]) [1,2] (by decide) rfl).sub ⟨rfl,rfl,rfl,rfl,rfl,aD⟩) ?_ ?_
  ·(try dsimp only);exact ⟨by omega,Gm hk4 hno (by unfold rH;simp_all),oK⟩
  first|omega|(dsimp only;omega)
 intro fE a H
 try have p28:=dF fE
 have hbad:=yF (by omega) hno;refine dQ ?_;refine bS _ _ ?_;clear bS;refine kP H (SQ fun _ kD=>SR fun _ kZ=>Ro sF 1 rfl (Rl nC rfl (Rm rfl (Kz kZ (SB ?_)))));clear H kZ;intro a H;skip;refine aaI (ι:=Nat × GH × List Nat) (Tc:=[(1,_),(2,_),(61,_),(62,_)]) (Lc:=[(_,_),(_,_)]) (fun gh=>PL gh.2.2) (fun gh=>[(63,vi gh.1)]) (fun gh=>[]++(DV gh.2.2++[])) (fun gh=>gh.2.1) (fun gh=>gh.1≤l.length∧(l.take gh.1).any (MP l)=false∧(∀ b o,g2 b=some o→gh.2.1 b=some o)) (fun gh=>l.length - gh.1) ((0,g2,[])) (by exact (H).sub ⟨rfl,rfl,rfl,rfl,rfl,aD⟩) ?_ ?_
 ·exact ⟨ig _,rfl,fun _ _ h=>h⟩
 clear H;intro gh a w hI H;obtain ⟨j,g3,ds⟩:=gh;dsimp only at hI H;obtain ⟨hj,hnc,Al⟩:=hI;have Pb:=xO.mono Al;dsimp only [lca,bD] at H;refine kP H (SR fun _ jC=>Rc rfl (Kz jC (SQ fun _ oz=>Cd rfl ?_ ?_))) <;> clear H jC
 ·intro h64 a H
  try have p64:=dT h64
  have hj2:j < l.length:=by omega
  obtain ⟨b,o,pA,pc,rfl,hrow,hp,hrep⟩:=AV Pb hj2;refine kP H (Kc oz (SQ fun _ oZ=>SB (SR fun _ qj=>Ri nC kC rfl rfl ?_)));clear H oz;intro a H;refine bK kC (cs:=[_,_,_,_,_,_]) H wn rfl rfl (fun j v hj=>H.hp.aL (hrow j v hj)) rfl ?_;clear H;intro a H;refine eZ kC H wn rfl ?_;clear H;intro b8 a w Hf H;refine bM kC 0 (vs:=[_,_,_,_,_,_]) _ H wn rfl rfl rfl rfl rfl rfl rfl rfl ?_;clear H;intro w H;dsimp only [List.set,setRow] at H;refine qj _ _ ?_;clear qj;refine dH (fun _ qJ=>?_);refine eZ aH H wn rfl ?_;clear H;intro b9 a w yS H;refine bM aH 0 (vs:=[_]) _ H wn rfl rfl rfl rfl rfl rfl rfl rfl ?_;clear H;intro w H;dsimp only [List.set,setRow] at H;refine qJ _ _ ?_;clear qJ;refine kP H (SR fun _ ql=>Ro sF 3 rfl (aW tX aH 1 rfl rfl ?_));clear H;intro a H;refine gV acs (Li:=[_,_,_,_]++DV ds) (L:=[]) (St.un (A:=[_,_,_,_]) H) wn rfl (abe (Hp.owns (Li:=[_,_,_,_]++DV ds) (St.un (A:=[_,_,_,_]) H).hp) l l[j].id _ Pb) rfl ?_;clear H;rintro v70 g4 L70 a w ⟨bl,bi,rfl,rfl,hbl⟩ Vu H;have H:=(St.Xi (A:=[_,_,_,_,_]) (B:=DV ds) (H.perm zR));dsimp only [lca,bD] at H;have hit:=abd (l:=l) (id:=l[j].id) (bi:=bi) hbl (Pb.mono Vu) (Xq hok);refine ql _ _ ?_;clear ql;refine yI ?_;skip;refine aaL (B:=[(_,_)]) (ι:=Unit) (κ:=Int) (Lc:=[(_,_),(_,_)]) (fun (k:Nat) (gh:Unit)=>[(b9,.cells #[vi k] 3 (0,0)),(b2,.cells #[vi 0] 56 (0,0))]) (fun (k:Nat) (gh:Unit)=>(DV ds++[])) (fun (k:Nat) (gh:Unit) (g:GH)=>k≤l.length) (fun (gx:Int)=>Code.ret) (fun (gx:Int)=>[(b9,.cells #[vi gx] 3 (0,0)),(b2,.cells #[vi 16] 56 (0,0))]) (fun (gx:Int)=>(DV ds++[])) (fun (gx:Int) (g:GH)=>MP l l[j]=true) (()) (by exact H.dV (Pl:=[_,_,_,_,_]) (dz:=[_,_,_,_,_]) [0,2,4,1,3] (by decide) rfl) rfl TI (hit) (fun _ _ h=>h) (fun e i g h=>absurd (of_decide_eq_false e) (by rw [bU] at h;omega)) rfl (fun k args g h=>by obtain ⟨_,_,rfl,_⟩:=Yo h;rfl) (fun _ _ _ _ _ h=>h) (fun _ _ _ _ h=>h) (ig _) ?_ ?_ ?_
  ·clear H;intro l21 BS yH bk k args gh LV w21 F21 Zm a Vp xE hI afR agx agP H;obtain ⟨Vp,alz,rfl,ami⟩:=Yo Vp;dsimp only [wP,List.cons_append,List.nil_append] at H;refine fT ?_;refine afR _ _ _ _ _ _ (by exact H) ?_;clear H;intro w H;refine kP H (SB (SR fun _ sJ=>Ro aH 3 rfl (Rd rfl ?_)));clear H;intro a H;refine bM aH 3 (vs:=[_]) _ H wn rfl rfl rfl rfl rfl rfl rfl rfl ?_;clear H;intro w H;dsimp only [List.set,setRow] at H;refine sJ _ _ ?_;clear sJ;refine kP H (SR fun _ uM=>Ro aH 3 rfl (Ro sF 2 rfl (Rl nC rfl (Rc rfl (Kz uM (Cd rfl ?_ ?_)))))) <;> clear H uM
   ·intro Dc a H
    try have Fq:=dT Dc
    refine dH (fun _ rE=>?_);refine bM gF 4 (vs:=[_]) _ H wn rfl rfl rfl rfl rfl rfl rfl rfl ?_;clear H;intro w H;dsimp only [List.set,setRow] at H;refine rE _ _ ?_;clear rE;refine cB ?_;refine (agP ((k:Int)+1) _ _ _ _ _ (by exact H) ?_).1 rfl;exact jY (by omega)
   intro Dc a H
   try have Fq:=dF Dc
   refine fT ?_;refine agx (()) _ _ _ _ _ (by exact H) ?_
   omega
  ·clear H;intro QZ gh Rq a w xE hI H;dsimp only [lca,bD] at H;refine oZ _ _ ?_;clear oZ;refine kP H (SC (Rd rfl (Rm rfl ?_)));clear H;intro a H;refine aI ?_;refine aia ((j+1,Rq,QZ :: ds)) (by exact (H.dV (Pl:=[_,_,_,_,_]) (dz:=[_,_,_]) [4,2,0] (by decide) rfl).sub ⟨rfl,rfl,rfl,rfl,rfl,aD⟩) ?_ ?_
   ·(try dsimp only);exact ⟨by omega,Gm hj2 hnc (jk (by rw [bU] at hI;omega)),fun b o h=>xE b o (Vu b o (Al b o h))⟩
   first|omega|(dsimp only;omega)
  clear H;intro QZ gx Rq a w xE hI H;obtain ⟨x,hgh⟩:∃ x,x=gx:=⟨_,rfl⟩;subst hgh;dsimp only [lca,bD] at H;refine cB ?_;refine (Ih H 0 rfl ?_).1;clear H;intro a w H;dsimp only [List.eraseIdx_cons_succ,List.eraseIdx_cons_zero] at H;refine (Py (Lh:=[_,_,_,_]) _ H ?_).1;clear H;intro a w H;dsimp only [lca,bD] at H;refine (leave1 H results80 (.cons (tC gF H rfl (H.hp.nL 3 rfl rfl)) .nil) ?_).1
  first
   | exact H.rt (aF vi (by rw [gB,au (by omega)]))
   | exact H.rt (aF vi (by rw [ah (by simpa using iA)] at heq;rw [gB,ah (by omega),← heq,au (by simpa using iA)]))
   | exact H.rt (aF vi (by rw [gB,ah (by omega),ah (by rw [hok];decide),au hbad]))
   | exact H.rt (aF vi (by rw [gB,ah (by omega),ah (by rw [hok];decide),ah hbad,au (tO hj2 hI)]))
   | exact H.rt (aF vi (by rw [gB,ah (by omega),ah (by rw [hok];decide),ah hbad,ah (yF (by omega) hnc)]))
 intro h64 a H
 try have p64:=dF h64
 refine dQ ?_;refine kD _ _ ?_;clear kD;refine dH (fun _ wN=>?_);refine bM gF 0 (vs:=[_]) _ H wn rfl rfl rfl rfl rfl rfl rfl rfl ?_;clear H;intro w H;dsimp only [List.set,setRow] at H;refine wN _ _ ?_;clear wN;refine cB ?_;refine (Py (Lh:=[_,_]) _ H ?_).1;clear H;intro a w H;dsimp only [lca,bD] at H;refine (leave1 H results80 (.cons (tC gF H rfl (H.hp.nL 0 rfl rfl)) .nil) ?_).1
 first
  | exact H.rt (aF vi (by rw [gB,au (by omega)]))
  | exact H.rt (aF vi (by rw [ah (by simpa using iA)] at heq;rw [gB,ah (by omega),← heq,au (by simpa using iA)]))
  | exact H.rt (aF vi (by rw [gB,ah (by omega),ah (by rw [hok];decide),au hbad]))
  | exact H.rt (aF vi (by rw [gB,ah (by omega),ah (by rw [hok];decide),ah hbad,au (tO hj2 hI)]))
  | exact H.rt (aF vi (by rw [gB,ah (by omega),ah (by rw [hok];decide),ah hbad,ah (yF (by omega) hnc)]))
end
section
open Go.RowKit
theorem wJ:Ty prog 34 1 24 [.slice none 0 0] false:=⟨by kernel_rfl,by kernel_rfl⟩
theorem yj:prog.underlying 34=some (.slice 219):=by kernel_rfl
theorem Cc:Ty prog 219 2 32 [.string ⟨#[]⟩,.string ⟨#[]⟩] true:=⟨by kernel_rfl,by kernel_rfl⟩
theorem EM:bY prog 219 0 0:=⟨by kernel_rfl⟩
theorem MZ:∀ args w,(callFunc 124 args).run prog w=.ok (.enter 124 args) w:=enters func124 rfl (by kernel_rfl)
theorem Uw:bY prog 219 1 1:=⟨by kernel_rfl⟩
theorem Np:bY prog 36 0 0:=⟨by kernel_rfl⟩
theorem adJ:∀ args w,(callFunc 80 args).run prog w=.ok (.enter 80 args) w:=enters func80 rfl (by kernel_rfl)
theorem Nq:bY prog 36 1 1:=⟨by kernel_rfl⟩
theorem adK:∀ args w,(callFunc 81 args).run prog w=.ok (.enter 81 args) w:=enters func81 rfl (by kernel_rfl)
theorem UA:bY prog 36 2 2:=⟨by kernel_rfl⟩
theorem adL:∀ args w,(callFunc 82 args).run prog w=.ok (.enter 82 args) w:=enters func82 rfl (by kernel_rfl)
theorem UC:bY prog 36 3 3:=⟨by kernel_rfl⟩
theorem adM:∀ args w,(callFunc 83 args).run prog w=.ok (.enter 83 args) w:=enters func83 rfl (by kernel_rfl)
theorem acC:∀ args w,(callFunc 123 args).run prog w=.ok (.enter 123 args) w:=enters func123 rfl (by kernel_rfl)
theorem YK {G:GH} {l:List mh} {A:Option Addr} {n c k:Nat} (hv:av G (.sl 2 (l.map mh.dat)) (.slice A n c)) (hk:k < l.length):∃ b o,A=some ⟨b,o,none⟩∧(∀ j u,l[k].cells[j]?=some u→aL G b (o+k*2+j)=some u):=by
 obtain ⟨A',c',he,_,_,hg⟩:=hv.slice
 injection he with e1 e2 e3
 subst e1;obtain ⟨b,o,cs,h1,h2,h3,h4⟩:=hg k l[k].dat (by simp [hk]);have:=akW h4;subst this;exact ⟨b,o,h1,h3⟩
def YJ (k:Nat) (x:mh) (pn:ByteArray):Int:=dK [cu (!pJ x.name) 13,cu (decide (0 < (k:Int)) && (x.name.toList == pn.toList)) 7,cu (decide (0 < (k:Int)) && Op.bytesLess x.name.toList pn.toList) 6,AX x.value]
def FQ (l:List mh) (k:Nat):Int:=match l[k]? with|some x=>YJ k x ((l[k - 1]?.map mh.name).getD ⟨#[]⟩)|none=>0
set_option maxHeartbeats 2000000 in
theorem akV {G:GH} {bl:Nat} {l:List mh} {A:Option Addr} {n c:Nat} (hb:aL G bl 0=some (.slice A n c)) (hv:av G (.sl 2 (l.map mh.dat)) (.slice A n c)) (hl:l.length≤4294967296) (ht:∀ x∈l,x.name.size < 4611686018427387904∧x.value.size < 4611686018427387904):rD (.func (.func 123) #[] #[(aJ bl 0)]) G l.length (FQ l):=by
 intro k hk G1 w0 hm hG;refine mo (caps:=[(aJ bl 0)]) acC ?_;replace hb:=aM hm hb;replace hv:=hv.mono hm
 obtain rfl:n=l.length:=by have:=hv.len;simpa using this
 obtain ⟨b,o,rfl,hrow⟩:=YK hv hk
 have hk1:k - 1 < l.length:=by omega
 obtain ⟨b',o',he',hrow'⟩:=YK hv hk1
 injection he' with he'
 injection he' with e1 e2
 subst e1;subst e2;have hte:=ht _ (iM hk)
 have he:FQ l k=YJ k l[k] l[k - 1].name:=by unfold FQ;rw [gY hk,gY hk1];rfl
 obtain ⟨x,hx⟩:∃ x,x=l[k]:=⟨_,rfl⟩;obtain ⟨y,hy⟩:∃ y,y=l[k - 1]:=⟨_,rfl⟩;rw [← hx] at hrow hte he;rw [← hy] at hrow' he;refine eN [(0,_),(1,_)] func123 rfl ntmps123 rfl rfl hG ?_;intro a H;refine kP H (SR fun _ K1=>ak K1 rfl (SQ fun _ K2=>?_));clear H K1;intro a H;have H:=H.sub (T':=[(0,_),(1,_)]) ⟨rfl,rfl,aD⟩
 by_cases c0:0 < (k:Int)
 ·skip;refine dI hmx [[],[],[0,1],[0,1,2],(ra 0 4),(ra 0 5),(ra 0 6),(ra 0 7),[],[8],(ra 0 10),(ra 0 11),(ra 0 11),(ra 0 13),(ra 0 14),(ra 0 15),(ra 0 11),(ra 0 11),(ra 0 11++[17]),(ra 0 11++[17,18]),(ra 0 11++ra 16 4),(ra 0 11++ra 16 5),(ra 0 11++ra 16 6),(ra 0 23),(ra 0 24),(ra 0 25),[],[26],(ra 0 28),(ra 0 29),(ra 0 29),(ra 0 31),(ra 0 32),(ra 0 33),(ra 0 29),(ra 0 29),(ra 0 29++[35]),(ra 0 29++[35,36]),(ra 0 29++ra 34 4),(ra 0 29++ra 34 5),(ra 0 29++ra 34 6),(ra 0 41),(ra 0 42),(ra 0 43),[],[],[44,45],[44,45,46],(ra 44 4),(ra 0 49),(ra 0 50),(ra 0 51),(ra 0 52)] [50,51,52] (by kernel_rfl) [_,_,_,_,_,.bool (pJ x.name),_,vi (cu (!pJ x.name) 13),_,_,_,_,_,_,_,_,_,_,vi ((max k 1:Nat):Int),vi ((k - 1:Nat):Int),_,_,_,.bool (x.name.toList == y.name.toList),.bool (decide (0 < (k:Int)) && (x.name.toList == y.name.toList)),vi (cu (decide (0 < (k:Int)) && (x.name.toList == y.name.toList)) 7),_,_,_,_,_,_,_,_,_,_,vi ((max k 1:Nat):Int),vi ((k - 1:Nat):Int),_,_,_,.bool (Op.bytesLess x.name.toList y.name.toList),.bool (decide (0 < (k:Int)) && Op.bytesLess x.name.toList y.name.toList),vi (cu (decide (0 < (k:Int)) && Op.bytesLess x.name.toList y.name.toList) 6),_,_,_,_,_,vi (AX x.value)] H (aG (X0 rfl fun hG=>Rg wJ rfl (aM hG hb)) (Z0 rfl (Rm rfl)) (Z2 0 4 1 5 rfl (Ri yj Cc rfl rfl)) (Z1 2 6 rfl (Rf EM rfl)) (aG (X1 3 7 rfl fun hG=>Rg gG rfl (aM hG (hrow 0 _ rfl))) ?_ (Z1 5 9 rfl (Rn rfl)) ?_ (aG (Z0 rfl (Rm rfl)) (Z1 8 12 rfl (Rc rfl)) (Z1 9 13 rfl (Rm rfl)) (X1 10 14 rfl fun hG=>YR wJ (aC c0) rfl (aM hG hb)) (aG (Z1 10 14 rfl (YM (aC c0) rfl)) (Z3 11 15 12 16 10 14 rfl (YI yj Cc (aC c0) rfl rfl)) (Z2 13 17 10 14 rfl (YF EM (aC c0) rfl)) (X2 14 18 10 14 rfl fun hG=>YR gG (aC c0) rfl (aM hG (hrow 0 _ rfl))) (aG (X1 10 14 rfl fun hG=>YR wJ (aC c0) rfl (aM hG hb)) (Z1 10 14 rfl (YM (aC c0) rfl)) ?_ ?_ (aG (Z3 16 20 19 23 10 14 rfl (YI yj Cc (aC c0) rfl rfl)) (Z2 20 24 10 14 rfl (YF EM (aC c0) rfl)) (X2 21 25 10 14 rfl fun hG=>YR gG (aC c0) rfl (aM hG (hrow' 0 _ rfl))) ?_ (aG ?_ ?_ (Z0 rfl (Rm rfl)) (Z1 26 30 rfl (Rc rfl)) (aG (Z1 27 31 rfl (Rm rfl)) (X1 28 32 rfl fun hG=>YR wJ (aC c0) rfl (aM hG hb)) (Z1 28 32 rfl (YM (aC c0) rfl)) (Z3 29 33 30 34 28 32 rfl (YI yj Cc (aC c0) rfl rfl)) (aG (Z2 31 35 28 32 rfl (YF EM (aC c0) rfl)) (X2 32 36 28 32 rfl fun hG=>YR gG (aC c0) rfl (aM hG (hrow 0 _ rfl))) (X1 28 32 rfl fun hG=>YR wJ (aC c0) rfl (aM hG hb)) (Z1 28 32 rfl (YM (aC c0) rfl)) (aG ?_ ?_ (Z3 34 38 37 41 28 32 rfl (YI yj Cc (aC c0) rfl rfl)) (Z2 38 42 28 32 rfl (YF EM (aC c0) rfl)) (aG (X2 39 43 28 32 rfl fun hG=>YR gG (aC c0) rfl (aM hG (hrow' 0 _ rfl))) ?_ ?_ ?_ (aG (X0 rfl fun hG=>Rg wJ rfl (aM hG hb)) (Z0 rfl (Rm rfl)) (Z2 44 48 45 49 rfl (Ri yj Cc rfl rfl)) (Z1 46 50 rfl (Rf Uw rfl)) (aG (X1 47 51 rfl fun hG=>Rg gG rfl (aM hG (hrow 1 _ rfl))) ?_ (bN rfl) (bN rfl) (aU (bN rfl) bZ)))))))))))))) ?_
  ·refine dO 4 8 rfl rfl fun _ a w G1 hG HT H fin=>?_;refine s_call MZ H wn rfl (MO _ _ H.ro x.name hte.1) rfl ?_;clear H;rintro v9 G9 a w ⟨rfl,-⟩ Og H;exact fin H Og (rfl)
  ·refine dO 6 10 rfl rfl fun _ a w G1 hG HT H fin=>?_;refine s_call iZ H wn rfl (jf _ _ H.ro _ 13) rfl ?_;clear H;rintro v11 wM a w ⟨rfl,-⟩ jS H;exact fin H jS (rfl)
  ·refine dG 17 21 10 14 rfl rfl fun _ a w G1 hG HT H fin=>?_;refine KV H (wg H rfl rfl (aC c0)) rfl rfl rfl ?_;clear H;intro a H;exact fin H iJ (by show _=_;first|rfl|exact aF vi (by omega))
  ·refine dG 18 22 10 14 rfl rfl fun _ a w G1 hG HT H fin=>?_;refine mW _ H (wg H rfl rfl (aC c0)) rfl rfl rfl (by omega) (by omega) rfl ?_;clear H;intro a H;exact fin H iJ (by show _=_;first|rfl|exact aF vi (by omega))
  ·refine pE 15 19 22 26 10 14 rfl rfl fun _ a w G1 hG HT H fin=>?_;refine BZ H (wg H rfl rfl (aC c0)) rfl rfl rfl ?_;clear H;intro a H;exact fin H iJ rfl
  ·refine dG 10 14 23 27 rfl rfl fun _ a w G1 hG HT H fin=>?_;refine kH H (Pt (aC c0) rfl ?_);clear H;intro a H;exact fin H iJ (aB (by first|(rw [jY c0,CK];done)|(rw [jk c0,uQ];done)))
  ·refine dO 24 28 rfl rfl fun _ a w G1 hG HT H fin=>?_;refine s_call iZ H wn rfl (jf _ _ H.ro _ 7) rfl ?_;clear H;rintro v29 Q7 a w ⟨rfl,-⟩ NW H;exact fin H NW (rfl)
  ·refine dG 35 39 28 32 rfl rfl fun _ a w G1 hG HT H fin=>?_;refine KV H (wg H rfl rfl (aC c0)) rfl rfl rfl ?_;clear H;intro a H;exact fin H iJ (by show _=_;first|rfl|exact aF vi (by omega))
  ·refine dG 36 40 28 32 rfl rfl fun _ a w G1 hG HT H fin=>?_;refine mW _ H (wg H rfl rfl (aC c0)) rfl rfl rfl (by omega) (by omega) rfl ?_;clear H;intro a H;exact fin H iJ (by show _=_;first|rfl|exact aF vi (by omega))
  ·refine pE 33 37 40 44 28 32 rfl rfl fun _ a w G1 hG HT H fin=>?_;refine ajG H (wg H rfl rfl (aC c0)) rfl rfl rfl ?_;clear H;intro a H;exact fin H iJ rfl
  ·refine dG 28 32 41 45 rfl rfl fun _ a w G1 hG HT H fin=>?_;refine kH H (Pt (aC c0) rfl ?_);clear H;intro a H;exact fin H iJ (aB (by first|(rw [jY c0,CK];done)|(rw [jk c0,uQ];done)))
  ·refine dO 42 46 rfl rfl fun _ a w G1 hG HT H fin=>?_;refine s_call iZ H wn rfl (jf _ _ H.ro _ 6) rfl ?_;clear H;rintro v47 ZC a w ⟨rfl,-⟩ N9 H;exact fin H N9 (rfl)
  ·refine dO 48 52 rfl rfl fun _ a w G1 hG HT H fin=>?_;refine s_call MX H wn rfl (QF _ _ H.ro x.value hte.2) rfl ?_;clear H;rintro v53 ZF a w rfl Oa H;exact fin H Oa (rfl)
  clear H;intro a w G ng H hv;have H:=H.aQ (hv 7 11 rfl rfl) rfl;have H:=H.aQ (hv 25 29 rfl rfl) rfl;have H:=H.aQ (hv 43 47 rfl rfl) rfl;have H:=H.aQ (hv 49 53 rfl rfl) rfl;clear hv;refine gU ou gF [_,_,_,_] [_,_,_,_] H wn rfl rfl rfl rfl rfl (by intro i q h;match i,h with|0,h=>exact h|1,h=>exact h|2,h=>exact h|3,h=>exact h|n+4,h=>simp at h) rfl rfl ?_;clear H;intro b54 a w afO H;obtain ⟨ZG,agn,Ow,H⟩:=H.dS;refine s_call pK H wn rfl (pR _ _ H.ro _ _ (DI [cu (!pJ x.name) 13,cu (decide (0 < (k:Int)) && (x.name.toList == y.name.toList)) 7,cu (decide (0 < (k:Int)) && Op.bytesLess x.name.toList y.name.toList) 6,AX x.value] Ow (show 4≤maxLen by decide))) rfl ?_;clear H;rintro v55 _ a w ⟨rfl,rfl⟩ - H;refine kH H (Ra rfl ?_);clear H;intro a H;refine aI ⟨rfl,?_⟩;refine K2 _ _ ?_;clear K2;refine lr H results123 rfl ?_;exact H.rt (by rw [he];rfl)
 skip;refine dI hmx [[],[],[0,1],[0,1,2],(ra 0 4),(ra 0 5),(ra 0 6),(ra 0 7),[],[8],(ra 0 10),(ra 0 11),(ra 0 11),(ra 0 13),(ra 0 14),(ra 0 15),(ra 0 11),(ra 0 11),(ra 0 11++[17]),(ra 0 11++[17,18]),(ra 0 11++ra 16 4),(ra 0 11++ra 16 5),(ra 0 11++ra 16 6),(ra 0 23),(ra 0 24),(ra 0 25),[],[26],(ra 0 28),(ra 0 29),(ra 0 29),(ra 0 31),(ra 0 32),(ra 0 33),(ra 0 29),(ra 0 29),(ra 0 29++[35]),(ra 0 29++[35,36]),(ra 0 29++ra 34 4),(ra 0 29++ra 34 5),(ra 0 29++ra 34 6),(ra 0 41),(ra 0 42),(ra 0 43),[],[],[44,45],[44,45,46],(ra 44 4),(ra 0 49),(ra 0 50),(ra 0 51),(ra 0 52)] [50,51,52] (by kernel_rfl) [_,_,_,_,_,.bool (pJ x.name),_,vi (cu (!pJ x.name) 13),_,_,_,undef,undef,undef,undef,undef,undef,undef,undef,undef,undef,undef,undef,undef,.bool (decide (0 < (k:Int)) && (x.name.toList == y.name.toList)),vi (cu (decide (0 < (k:Int)) && (x.name.toList == y.name.toList)) 7),_,_,_,undef,undef,undef,undef,undef,undef,undef,undef,undef,undef,undef,undef,undef,.bool (decide (0 < (k:Int)) && Op.bytesLess x.name.toList y.name.toList),vi (cu (decide (0 < (k:Int)) && Op.bytesLess x.name.toList y.name.toList) 6),_,_,_,_,_,vi (AX x.value)] H (aG (X0 rfl fun hG=>Rg wJ rfl (aM hG hb)) (Z0 rfl (Rm rfl)) (Z2 0 4 1 5 rfl (Ri yj Cc rfl rfl)) (Z1 2 6 rfl (Rf EM rfl)) (aG (X1 3 7 rfl fun hG=>Rg gG rfl (aM hG (hrow 0 _ rfl))) ?_ (Z1 5 9 rfl (Rn rfl)) ?_ (aG (Z0 rfl (Rm rfl)) (Z1 8 12 rfl (Rc rfl)) (Z1 9 13 rfl (Rm rfl)) (aN (j:=10) (by kernel_rfl) (fun _ _ _ _ _ h=>h) rfl rfl rfl rfl rfl (fun _ _ h=>aO h (aB (aK c0))) rfl (fun _=>rfl)) (aG (aN (j:=10) (by kernel_rfl) (fun _ _ _ _ _ h=>h) rfl rfl rfl rfl rfl (fun _ _ h=>aO h (aB (aK c0))) rfl (fun _=>rfl)) (aN (j:=10) (by kernel_rfl) (fun _ _ _ _ _ h=>h) rfl rfl rfl rfl rfl (fun _ _ h=>aO h (aB (aK c0))) rfl (fun _=>rfl)) (aN (j:=10) (by kernel_rfl) (fun _ _ _ _ _ h=>h) rfl rfl rfl rfl rfl (fun _ _ h=>aO h (aB (aK c0))) rfl (fun _=>rfl)) (aN (j:=10) (by kernel_rfl) (fun _ _ _ _ _ h=>h) rfl rfl rfl rfl rfl (fun _ _ h=>aO h (aB (aK c0))) rfl (fun _=>rfl)) (aG (aN (j:=10) (by kernel_rfl) (fun _ _ _ _ _ h=>h) rfl rfl rfl rfl rfl (fun _ _ h=>aO h (aB (aK c0))) rfl (fun _=>rfl)) (aN (j:=10) (by kernel_rfl) (fun _ _ _ _ _ h=>h) rfl rfl rfl rfl rfl (fun _ _ h=>aO h (aB (aK c0))) rfl (fun _=>rfl)) (aN (j:=10) (by kernel_rfl) (fun _ _ _ _ _ h=>h) rfl rfl rfl rfl rfl (fun _ _ h=>aO h (aB (aK c0))) rfl (fun _=>rfl)) (aN (j:=10) (by kernel_rfl) (fun _ _ _ _ _ h=>h) rfl rfl rfl rfl rfl (fun _ _ h=>aO h (aB (aK c0))) rfl (fun _=>rfl)) (aG (aN (j:=10) (by kernel_rfl) (fun _ _ _ _ _ h=>h) rfl rfl rfl rfl rfl (fun _ _ h=>aO h (aB (aK c0))) rfl (fun _=>rfl)) (aN (j:=10) (by kernel_rfl) (fun _ _ _ _ _ h=>h) rfl rfl rfl rfl rfl (fun _ _ h=>aO h (aB (aK c0))) rfl (fun _=>rfl)) (aN (j:=10) (by kernel_rfl) (fun _ _ _ _ _ h=>h) rfl rfl rfl rfl rfl (fun _ _ h=>aO h (aB (aK c0))) rfl (fun _=>rfl)) (aN (j:=10) (by kernel_rfl) (fun _ _ _ _ _ h=>h) rfl rfl rfl rfl rfl (fun _ _ h=>aO h (aB (aK c0))) rfl (fun _=>rfl)) (aG ?_ ?_ (Z0 rfl (Rm rfl)) (Z1 26 30 rfl (Rc rfl)) (aG (Z1 27 31 rfl (Rm rfl)) (aN (j:=28) (by kernel_rfl) (fun _ _ _ _ _ h=>h) rfl rfl rfl rfl rfl (fun _ _ h=>aO h (aB (aK c0))) rfl (fun _=>rfl)) (aN (j:=28) (by kernel_rfl) (fun _ _ _ _ _ h=>h) rfl rfl rfl rfl rfl (fun _ _ h=>aO h (aB (aK c0))) rfl (fun _=>rfl)) (aN (j:=28) (by kernel_rfl) (fun _ _ _ _ _ h=>h) rfl rfl rfl rfl rfl (fun _ _ h=>aO h (aB (aK c0))) rfl (fun _=>rfl)) (aG (aN (j:=28) (by kernel_rfl) (fun _ _ _ _ _ h=>h) rfl rfl rfl rfl rfl (fun _ _ h=>aO h (aB (aK c0))) rfl (fun _=>rfl)) (aN (j:=28) (by kernel_rfl) (fun _ _ _ _ _ h=>h) rfl rfl rfl rfl rfl (fun _ _ h=>aO h (aB (aK c0))) rfl (fun _=>rfl)) (aN (j:=28) (by kernel_rfl) (fun _ _ _ _ _ h=>h) rfl rfl rfl rfl rfl (fun _ _ h=>aO h (aB (aK c0))) rfl (fun _=>rfl)) (aN (j:=28) (by kernel_rfl) (fun _ _ _ _ _ h=>h) rfl rfl rfl rfl rfl (fun _ _ h=>aO h (aB (aK c0))) rfl (fun _=>rfl)) (aG (aN (j:=28) (by kernel_rfl) (fun _ _ _ _ _ h=>h) rfl rfl rfl rfl rfl (fun _ _ h=>aO h (aB (aK c0))) rfl (fun _=>rfl)) (aN (j:=28) (by kernel_rfl) (fun _ _ _ _ _ h=>h) rfl rfl rfl rfl rfl (fun _ _ h=>aO h (aB (aK c0))) rfl (fun _=>rfl)) (aN (j:=28) (by kernel_rfl) (fun _ _ _ _ _ h=>h) rfl rfl rfl rfl rfl (fun _ _ h=>aO h (aB (aK c0))) rfl (fun _=>rfl)) (aN (j:=28) (by kernel_rfl) (fun _ _ _ _ _ h=>h) rfl rfl rfl rfl rfl (fun _ _ h=>aO h (aB (aK c0))) rfl (fun _=>rfl)) (aG (aN (j:=28) (by kernel_rfl) (fun _ _ _ _ _ h=>h) rfl rfl rfl rfl rfl (fun _ _ h=>aO h (aB (aK c0))) rfl (fun _=>rfl)) (aN (j:=28) (by kernel_rfl) (fun _ _ _ _ _ h=>h) rfl rfl rfl rfl rfl (fun _ _ h=>aO h (aB (aK c0))) rfl (fun _=>rfl)) ?_ ?_ (aG (X0 rfl fun hG=>Rg wJ rfl (aM hG hb)) (Z0 rfl (Rm rfl)) (Z2 44 48 45 49 rfl (Ri yj Cc rfl rfl)) (Z1 46 50 rfl (Rf Uw rfl)) (aG (X1 47 51 rfl fun hG=>Rg gG rfl (aM hG (hrow 1 _ rfl))) ?_ (bN rfl) (bN rfl) (aU (bN rfl) bZ)))))))))))))) ?_
 ·refine dO 4 8 rfl rfl fun _ a w G1 hG HT H fin=>?_;refine s_call MZ H wn rfl (MO _ _ H.ro x.name hte.1) rfl ?_;clear H;rintro v9 G9 a w ⟨rfl,-⟩ Og H;exact fin H Og (rfl)
 ·refine dO 6 10 rfl rfl fun _ a w G1 hG HT H fin=>?_;refine s_call iZ H wn rfl (jf _ _ H.ro _ 13) rfl ?_;clear H;rintro v11 wM a w ⟨rfl,-⟩ jS H;exact fin H jS (rfl)
 ·refine dG 10 14 23 27 rfl rfl fun _ a w G1 hG HT H fin=>?_;refine kH H (Pf (aK c0) rfl ?_);clear H;intro a H;exact fin H iJ (aB (by first|(rw [jY c0,CK];done)|(rw [jk c0,uQ];done)))
 ·refine dO 24 28 rfl rfl fun _ a w G1 hG HT H fin=>?_;refine s_call iZ H wn rfl (jf _ _ H.ro _ 7) rfl ?_;clear H;rintro v29 Q7 a w ⟨rfl,-⟩ NW H;exact fin H NW (rfl)
 ·refine dG 28 32 41 45 rfl rfl fun _ a w G1 hG HT H fin=>?_;refine kH H (Pf (aK c0) rfl ?_);clear H;intro a H;exact fin H iJ (aB (by first|(rw [jY c0,CK];done)|(rw [jk c0,uQ];done)))
 ·refine dO 42 46 rfl rfl fun _ a w G1 hG HT H fin=>?_;refine s_call iZ H wn rfl (jf _ _ H.ro _ 6) rfl ?_;clear H;rintro v47 ZC a w ⟨rfl,-⟩ N9 H;exact fin H N9 (rfl)
 ·refine dO 48 52 rfl rfl fun _ a w G1 hG HT H fin=>?_;refine s_call MX H wn rfl (QF _ _ H.ro x.value hte.2) rfl ?_;clear H;rintro v53 ZF a w rfl Oa H;exact fin H Oa (rfl)
 clear H;intro a w G ng H hv;have H:=H.aQ (hv 7 11 rfl rfl) rfl;have H:=H.aQ (hv 25 29 rfl rfl) rfl;have H:=H.aQ (hv 43 47 rfl rfl) rfl;have H:=H.aQ (hv 49 53 rfl rfl) rfl;clear hv;refine gU ou gF [_,_,_,_] [_,_,_,_] H wn rfl rfl rfl rfl rfl (by intro i q h;match i,h with|0,h=>exact h|1,h=>exact h|2,h=>exact h|3,h=>exact h|n+4,h=>simp at h) rfl rfl ?_;clear H;intro b54 a w afO H;obtain ⟨ZG,agn,Ow,H⟩:=H.dS;refine s_call pK H wn rfl (pR _ _ H.ro _ _ (DI [cu (!pJ x.name) 13,cu (decide (0 < (k:Int)) && (x.name.toList == y.name.toList)) 7,cu (decide (0 < (k:Int)) && Op.bytesLess x.name.toList y.name.toList) 6,AX x.value] Ow (show 4≤maxLen by decide))) rfl ?_;clear H;rintro v55 _ a w ⟨rfl,rfl⟩ - H;refine kH H (Ra rfl ?_);clear H;intro a H;refine aI ⟨rfl,?_⟩;refine K2 _ _ ?_;clear K2;refine lr H results123 rfl ?_;exact H.rt (by rw [he];rfl)
def Jy (l:List mh):Int:=dK [cu (decide (128 < (l.length:Int))) 9,kE (FQ l) (min l.length 128)]
theorem abl (G:GH) (w0:World) (hG:Hold G w0) (l:List mh) (v:aj) (hv:av G (.sl 2 (l.map mh.dat)) v) (hl:l.length≤4294967296) (ht:∀ x∈l,x.name.size < 4611686018427387904∧x.value.size < 4611686018427387904) :
  Calls prog 83 #[v] w0 (bF w0 G fun u G'=>u=vi (Jy l)):=by
 obtain ⟨A,c,rfl,hc1,hc2,-⟩:=hv.slice;rw [bU] at *;refine eN [(0,_)] func83 rfl ntmps83 rfl rfl hG ?_;intro a H;refine dH (fun _ K1=>?_);refine fq (cs:=[_]) H wn rfl rfl rfl ?_;clear H;intro b1 a w hb1 H;refine kH H (ak K1 rfl (SQ fun _ K2=>?_));clear H K1;intro a H;have H:=H.sub (T':=[(1,_)]) ⟨rfl,aD⟩;obtain ⟨Ga,hma,hb1',H⟩:=H.dS
 have hbl:aL Ga b1 0=some (.slice A l.length c):=by unfold aL;rw [hb1'];rfl
 have hcb:=akV hbl (hv.mono hma) hl ht;refine dI hmx [[],[0],[0,1],[0,1,2],[],[4],[4,5],[],(ra 0 8),(ra 0 9),(ra 0 10),(ra 0 11)] [9,10,11] (by kernel_rfl) [_,_,_,vi (cu (decide (128 < (l.length:Int))) 9),_,_,vi ((min l.length 128:Nat):Int),.func (.func 123) #[] #[(aJ b1 0)],vi (kE (FQ l) (min l.length 128))] H (aG (X0 rfl fun hG=>Rg wJ rfl (aM hG hbl)) (Z1 0 3 rfl (Rl yj rfl)) (Z1 1 4 rfl (Rc rfl)) ?_ (aG (X0 rfl fun hG=>Rg wJ rfl (aM hG hbl)) (Z1 4 7 rfl (Rl yj rfl)) ?_ ?_ (aG ?_ (bN rfl) (bN rfl) (bN rfl) bZ))) ?_
 ·refine dO 2 5 rfl rfl fun _ a w G1 hG HT H fin=>?_;refine s_call iZ H wn rfl (jf _ _ H.ro _ 9) rfl ?_;clear H;rintro v6 G6 a w ⟨rfl,-⟩ gM H;exact fin H gM (rfl)
 ·refine dO 5 8 rfl rfl fun _ a w G1 hG HT H fin=>?_;refine KW H wn rfl rfl rfl ?_;clear H;intro a H;exact fin H iJ (aF vi (by omega))
 ·refine uN rfl fun _ a w G1 hG HT H fin=>?_;refine qd H wn rfl rfl ?_;clear H;intro a H;exact fin H iJ rfl
 ·refine dG 6 9 7 10 rfl rfl fun _ a w G1 hG HT H fin=>?_;refine s_call EI H wn rfl (Gf _ _ H.ro (min l.length 128) (FQ l) _ (by omega) ((hcb.mono hG).le (Nat.min_le_left _ _))) rfl ?_;clear H;rintro v11 wM a w rfl jS H;exact fin H jS (rfl)
 clear H;intro a w G ng H hv;have H:=H.aQ (hv 3 6 rfl rfl) rfl;have H:=H.aQ (hv 8 11 rfl rfl) rfl;clear hv;refine gU ou gF [_,_] [_,_] H wn rfl rfl rfl rfl rfl (by intro i q h;match i,h with|0,h=>exact h|1,h=>exact h|n+2,h=>simp at h) rfl rfl ?_;clear H;intro b12 a w BD H;obtain ⟨zI,xD,Dm,H⟩:=H.dS;refine s_call pK H wn rfl (pR _ _ H.ro _ _ (wH Dm)) rfl ?_;clear H;rintro v13 _ a w ⟨rfl,rfl⟩ - H;refine kH H (Ra rfl ?_);clear H;intro a H;refine aI ⟨rfl,?_⟩;refine K2 _ _ ?_;clear K2;refine lr H results83 rfl ?_;exact H.rt rfl
structure zL where
 styles:List bR
 lists:List fV
 comments:List iL
 vars:List mh
structure Et (G:GH) (s:zL) (a b c d:aj):Prop where
 st:av G (.sl 6 (s.styles.map bR.dat)) a
 li:av G (.sl 2 (s.lists.map fV.dat)) b
 cm:av G (.sl 6 (s.comments.map iL.dat)) c
 va:av G (.sl 2 (s.vars.map mh.dat)) d
structure Mh (s:zL):Prop where
 sn:∀ x∈s.styles,x.name.size≤4611686018427387904
 ln:s.lists.length≤4294967296
 lt:∀ x∈s.lists,∀ y∈x.levels,y.xZ.size < 4611686018427387904
 cn:s.comments.length≤4294967296
 ct:∀ x∈s.comments,x.author.size < 4611686018427387904∧x.text.size < 4611686018427387904
 vn:s.vars.length≤4294967296
 vt:∀ x∈s.vars,x.name.size < 4611686018427387904∧x.value.size < 4611686018427387904
def Jw (s:zL):Int:=dK [gB s.styles,Gn s.lists,Jv s.comments,Jy s.vars]
theorem abk (G:GH) (w0:World) (hG:Hold G w0) (s:zL) (a b c d:aj) (hR:Et G s a b c d) (hz:Mh s) :
  Calls prog 55 #[.agg #[a,b,c,d]] w0 (bF w0 G fun u G'=>u=vi (Jw s)):=by
 obtain ⟨sA,sn,sc,rfl⟩:=hR.st.form;obtain ⟨lA,ln,lc,rfl⟩:=hR.li.form;obtain ⟨cA,cn,cc,rfl⟩:=hR.cm.form;obtain ⟨vA,vn,vc,rfl⟩:=hR.va.form;refine eN [(0,_)] func55 rfl ntmps55 rfl rfl hG ?_;intro a H;refine dH (fun _ K1=>?_);refine fq (cs:=[_,_,_,_]) H wn rfl rfl rfl ?_;clear H;intro b1 a w hb1 H;refine kH H (ak K1 rfl (SQ fun _ K2=>?_));clear H K1;intro a H;have H:=H.sub (T':=[(1,_)]) ⟨rfl,aD⟩;obtain ⟨Ga,hma,hb1',H⟩:=H.dS
 have hc0:aL Ga b1 0=some (.slice sA sn sc):=by unfold aL;rw [hb1'];rfl
 have hc1:aL Ga b1 1=some (.slice lA ln lc):=by unfold aL;rw [hb1'];rfl
 have hc2:aL Ga b1 2=some (.slice cA cn cc):=by unfold aL;rw [hb1'];rfl
 have hc3:aL Ga b1 3=some (.slice vA vn vc):=by unfold aL;rw [hb1'];rfl
 refine dI hmx [[],[0],[0,1],[],[3],(ra 0 5),[],[6],(ra 0 8),[],[9],(ra 0 11),(ra 0 12),(ra 0 13),(ra 0 14)] [12,13,14] (by kernel_rfl) [_,_,vi (gB s.styles),_,_,vi (Gn s.lists),_,_,vi (Jv s.comments),_,_,vi (Jy s.vars)] H (aG (Z0 rfl (Rf Np rfl)) (X1 0 3 rfl fun hG=>Rg sF rfl (aM hG hc0)) ?_ (Z0 rfl (Rf Nq rfl)) (aG (X1 3 6 rfl fun hG=>Rg Ed rfl (aM hG hc1)) ?_ (Z0 rfl (Rf UA rfl)) (X1 6 9 rfl fun hG=>Rg Ee rfl (aM hG hc2)) (aG ?_ (Z0 rfl (Rf UC rfl)) (X1 9 12 rfl fun hG=>Rg wJ rfl (aM hG hc3)) ?_ (aU (bN rfl) (aU (bN rfl) (aU (bN rfl) bZ)))))) ?_
 ·refine dO 1 4 rfl rfl fun _ a w G1 hG HT H fin=>?_;refine s_call adJ H wn rfl (abo _ _ H.ro s.styles _ ((hR.st.mono hma).mono hG) hz.sn) rfl ?_;clear H;rintro v5 G5 a w rfl lM H;exact fin H lM (rfl)
 ·refine dO 4 7 rfl rfl fun _ a w G1 hG HT H fin=>?_;refine s_call adK H wn rfl (abh _ _ H.ro s.lists _ ((hR.li.mono hma).mono hG) hz.ln hz.lt) rfl ?_;clear H;rintro v8 G8 a w rfl qQ H;exact fin H qQ (rfl)
 ·refine dO 7 10 rfl rfl fun _ a w G1 hG HT H fin=>?_;refine s_call adL H wn rfl (abf _ _ H.ro s.comments _ ((hR.cm.mono hma).mono hG) hz.cn hz.ct) rfl ?_;clear H;rintro v11 wM a w rfl jS H;exact fin H jS (rfl)
 ·refine dO 10 13 rfl rfl fun _ a w G1 hG HT H fin=>?_;refine s_call adM H wn rfl (abl _ _ H.ro s.vars _ ((hR.va.mono hma).mono hG) hz.vn hz.vt) rfl ?_;clear H;rintro v14 FX a w rfl GX H;exact fin H GX (rfl)
 clear H;intro a w G ng H hv;have H:=H.aQ (hv 2 5 rfl rfl) rfl;have H:=H.aQ (hv 5 8 rfl rfl) rfl;have H:=H.aQ (hv 8 11 rfl rfl) rfl;have H:=H.aQ (hv 11 14 rfl rfl) rfl;clear hv;refine gU ou gF [_,_,_,_] [_,_,_,_] H wn rfl rfl rfl rfl rfl (by intro i q h;match i,h with|0,h=>exact h|1,h=>exact h|2,h=>exact h|3,h=>exact h|n+4,h=>simp at h) rfl rfl ?_;clear H;intro b15 a w afJ H;obtain ⟨Em,rP,afK,H⟩:=H.dS;refine s_call pK H wn rfl (pR _ _ H.ro _ _ (DI [gB s.styles,Gn s.lists,Jv s.comments,Jy s.vars] afK (show 4≤maxLen by decide))) rfl ?_;clear H;rintro v16 _ a w ⟨rfl,rfl⟩ - H;refine kH H (Ra rfl ?_);clear H;intro a H;refine aI ⟨rfl,?_⟩;refine K2 _ _ ?_;clear K2;refine lr H results55 rfl ?_;exact H.rt rfl
end
section
open Go.RowKit
def uG:Nat→List (Int × aj)→List MapEntry
 | _,[]=>[]
 | i,(k,v) :: r=>⟨.int .i64 k,v,i⟩ :: uG (i+1) r
theorem WS (x:Int × aj):∀ (i:Nat) (l:List (Int × aj)),uG i (l++[x])=uG i l++[⟨.int .i64 x.1,x.2,i+l.length⟩]
 | _,[]=>rfl
 | i,k :: r=>by
  rw [nH,uG,WS x (i+1) r,uG,nH,nV,show i+1+r.length=i+(r.length+1) by omega]
def qX (x:Int):List (Int × aj)→Option aj
 | []=>none
 | (k,v) :: r=>if k=x then some v else qX x r
theorem KA {x:Int}:∀ {l:List (Int × aj)},x∉l.map (·.1)→qX x l=none
 | [],_=>rfl
 | (k,v) :: r,h=>by
  rw [qX,ah (fun e=>h (by simp [e])),KA (fun hm=>h (jZ _ hm))]
theorem Nt (x:Int):∀ (i j:Nat) (l:List (Int × aj)),∃ an,Instr.findNow (.int .i64) (.int .i64 x) (uG i l) j=some an∧an.map (·.2)=qX x l
 | _,_,[]=>⟨none,rfl,rfl⟩
 | i,j,(k,v) :: r=>by
  obtain ⟨an,h1,h2⟩:=Nt x (i+1) (j+1) r
  by_cases e:k=x
  ·subst e
   exact ⟨some (j,v),by simp only [uG,Instr.findNow,Instr.sameNow,au,beq_self_eq_true],by rw [qX,au rfl];rfl⟩
  ·have hb:(x == k)=false:=by simp;exact fun h=>e h.symm
   exact ⟨an,by simpa only [uG,Instr.findNow,Instr.sameNow,au,hb] using h1,by rw [qX,ah e];exact h2⟩
abbrev fH (l:List (Int × aj)):Obj:=.map (uG 0 l).toArray l.length
section
variable {N:Nat} {D:List Deferred} {w0:World} {F:Nat→Prop} {G0 G:GH} {L:OL} {T:List (Nat × aj)}
variable {r:Option Nat} {P:Program} {ops:Array Oper} {Q:Exit→Act→World→Prop} {rest:List Oper} {a:Act} {w:World}
variable {d:Nat} {ty:TypeId} {pos:String} {aP:Array Edge} {g:Option (Nat × Bool)}
theorem xX {t kt et:TypeId} {x y:Operand} {b:Nat} {l:List (Int × aj)} {ky:Int} {zv:aj} (hm:P.underlying t=some (.map kt et)) (hk:P.underlying kt=some (.int .i64)) (hz:(P.info? et).map (fun i=>i.zero)=some (some zv)) (H:St N D w0 F G0 G L T a w)
  (hw:Region.wanted ⟨some d,.lookup t x y false,ty,pos,aP,g⟩ (yielded ops a.tmps)=true) (hx:ev T x=some (.map (some b))) (hy:ev T y=some (.int .i64 ky)) (hb:w.heap[b]?=some (fH l)) (hd:Nat.blt d N=true)
  (k:∀ a',St N D w0 F G0 G L ((d,(qX ky l).getD zv) :: T) a' w→WL r P ops Q rest a' w):WL r P ops Q (⟨some d,.lookup t x y false,ty,pos,aP,g⟩ :: rest) a w:=by
 obtain ⟨an,hf,han⟩:=Nt ky 0 0 l
 obtain ⟨inf,hi1,hi2⟩:=lu.1 hz
 refine fO (v:=(qX ky l).getD zv) (w':=w) hw rfl ?_ (k _ (H.put hd _ H.hp))
 have hkey:MapKept.IsKey (.int .i64) (.int .i64 ky):=by trivial
 have hf2:Instr.findNow (.int .i64) (.int .i64 ky) (uG 0 l).toArray.toList 0=some an:=by simpa using hf
 replace hb:w.heap[b]?=some (.map (uG 0 l).toArray l.length):=hb
 generalize (uG 0 l).toArray=es at hb hf2
 have h1:=MapKept.run_checkKey (P:=P) (w:=w) hk hkey es.isEmpty 9999
 have h2:=MapKept.run_findKey (P:=P) (w:=w) hk hf2
 rw [← han]
 cases an with
 | none=>simp [execOp,Instr.lookup,H.ev hx,H.ev hy,cO,mg hm,MapKept.run_getObj_map hb,h1,h2,Result.andThen,zeroValue,AJ hi1,hi2]
 | some q=>simp [execOp,Instr.lookup,H.ev hx,H.ev hy,cO,mg hm,MapKept.run_getObj_map hb,h1,h2,Result.andThen]
theorem KY {t kt et:TypeId} {x y z:Operand} {b i:Nat} {l:List (Int × aj)} {ky:Int} {v:aj} (hm:P.underlying t=some (.map kt et)) (hk:P.underlying kt=some (.int .i64)) (H:St N D w0 F G0 G L T a w)
  (hw:Region.wanted ⟨none,.mapUpdate t x y z,ty,pos,aP,g⟩ (yielded ops a.tmps)=true) (hx:ev T x=some (.map (some b))) (hy:ev T y=some (.int .i64 ky)) (hzv:ev T z=some v) (hi:L[i]?=some (b,fH l)) (hn:qX ky l=none)
  (k:∀ w',St N D w0 F G0 G (L.set i (b,fH (l++[(ky,v)]))) T a w'→WL r P ops Q rest a w'):WL r P ops Q (⟨none,.mapUpdate t x y z,ty,pos,aP,g⟩ :: rest) a w:=by
 obtain ⟨an,hf,han⟩:=Nt ky 0 0 l
 have hnone:an=none:=by
  rw [hn] at han
  cases an with
  | none=>rfl
  | some q=>cases han
 subst hnone
 refine XT (i:=i) hm hk H hw hx hy hzv hi (by trivial) (by simpa using hf) ?_
 intro w' H'
 have e:(uG 0 l).toArray.push ⟨.int .i64 ky,v,l.length⟩=(uG 0 (l++[(ky,v)])).toArray:=by
  rw [WS,List.push_toArray,kT]
 refine k w' ?_
 rw [e] at H'
 rw [fH,lF]
 exact H'
end
end
end Go.Proofs.YteopmoocmoigcaaGreat
