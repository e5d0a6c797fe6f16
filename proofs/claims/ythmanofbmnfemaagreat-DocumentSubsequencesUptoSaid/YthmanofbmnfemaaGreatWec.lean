/-
  What the claim stands on, part 3: Lsc Lfl Dv Lpc Scn By Lps Lcl Dst Sty Mk Stz Dsc Mi Ro Ri Chn Chk Dsv Mq Nck Cid Mt.
-/
import Derived.Test.YthmanofbmnfemaaGreatWeb
import Derived.Lib.ConvBytes
import Derived.Laws.MakeOwn
namespace Go.Proofs.YthmanofbmnfemaaGreat
set_option linter.all false
open Go.Proofs.Tryz
set_option maxRecDepth 20000
set_option maxHeartbeats 4000000
section
open Go.RowKit
theorem akX:liesAt prog prog.depth 289 (7 / prog.cellsOf 289) 2 287 1=true:=by kernel_rfl
theorem afY:∀ args w,(callFunc 241 args).run prog w=.ok (.enter 241 args) w:=enters func241 rfl (by kernel_rfl)
instance Us:Ty prog 5 1 1 [.int .u8 0] false:=⟨by kernel_rfl,by kernel_rfl⟩
abbrev fT (b:Nat) (s:ByteArray) (i:Int) (p v q:aj) (pl e:Int):Nat × Obj:=(b,.cells #[.string s,vi i,p,v,q,vi pl,vi e] 289 (0,0))
theorem anU (G:GH) (L:OL) (w0:World) (b:Nat) (s:ByteArray) (i:Int) (A:Option Addr) (n c:Nat) (B:Option Addr) (m d:Nat) (pl e:Int) (hO:fC G (fT b s i (.pointer none) (.slice A n c) (.slice B m d) pl e :: L) w0) :
  Calls prog 241 #[(aD b 2)] w0 (eP w0 G (fT b s i (.pointer none) (.slice A n c) (.slice B m d) pl e :: L) fun u G' L'=>L'=fT b s i (aD b 2) (.slice A n c) (.slice B m d) pl e :: L∧G'=G):=by
 refine gB (N:=20) (T:=[(0,_)]) func241 rfl ntmps241 rfl rfl hO ?_;refine ak 5 ?_;intro a H;refine aap GD H wn rfl rfl ?_;clear H;refine goC 1 ?_ ?_
 ·intro h6
  refine ak 3 ?_;intro a H;refine anF GD Ux Uc H wn rfl 0 rfl rfl rfl ?_;clear H;intro a H;refine anu (xs:=[.tmp 9]) (alK _) H wn rfl rfl ?_;clear H;intro a H;refine ano Ux GD Uc H wn rfl 0 rfl akX rfl ?_;clear H;refine ak 2 ?_;intro a H;refine aV aaV 0 (vs:=[_]) _ H wn rfl rfl rfl rfl rfl rfl rfl rfl ?_;clear H;intro w H;dsimp only [List.set,setRow] at H;refine aG ?_;refine (leave0 H results241 ?_).2;exact H.hp.cZ ⟨rfl,rfl⟩
 intro h6
 intro a H;exact absurd h6 (by decide)
theorem anV (G:GH) (L:OL) (w0:World) (b:Nat) (s:ByteArray) (i:Int) (A:Option Addr) (n c:Nat) (B:Option Addr) (m d:Nat) (pl e:Int) (hO:fC G (fT b s i (aD b 2) (.slice A n c) (.slice B m d) pl e :: L) w0) :
  Calls prog 241 #[(aD b 2)] w0 (eP w0 G (fT b s i (aD b 2) (.slice A n c) (.slice B m d) pl e :: L) fun u G' L'=>L'=fT b s i (aD b 2) (.slice A n c) (.slice B m d) pl e :: L∧G'=G):=by
 refine gB (N:=20) (T:=[(0,_)]) func241 rfl ntmps241 rfl rfl hO ?_;refine ak 5 ?_;intro a H;refine aap GD H wn rfl rfl ?_;clear H;refine goC 1 ?_ ?_
 ·intro h6
  intro a H;exact absurd h6 (by simp)
 intro h6
 refine ak 6 ?_;intro a H;refine anr GD Uc H wn rfl rfl rfl ?_;clear H;refine goC 1 ?_ ?_
 ·intro h19
  intro a H;exact absurd h19 (by decide)
 intro h19
 intro a H;refine ji ?_;refine (leave0 H results241 ?_).2;exact H.hp.cZ ⟨rfl,rfl⟩
theorem anW (G:GH) (L:OL) (w0:World) (b:Nat) (s:ByteArray) (i:Int) (p:aj) (A:Option Addr) (n c:Nat) (B:Option Addr) (m d:Nat) (pl e:Int) (hp:p=.pointer none∨p=(aD b 2)) (hO:fC G (fT b s i p (.slice A n c) (.slice B m d) pl e :: L) w0) :
  Calls prog 241 #[(aD b 2)] w0 (eP w0 G (fT b s i p (.slice A n c) (.slice B m d) pl e :: L) fun u G' L'=>L'=fT b s i (aD b 2) (.slice A n c) (.slice B m d) pl e :: L∧G'=G):=by
 rcases hp with rfl|rfl
 ·exact anU G L w0 b s i A n c B m d pl e hO
 exact anV G L w0 b s i A n c B m d pl e hO
theorem abz (G:GH) (Lp Lo:OL) (w0:World) (b:Nat) (s:ByteArray) (i:Int) (p v:aj) (B:Option Addr) (m d:Nat) (pl e:Int) (n:Nat) (xs:List aj) (c:Int) (hp:p=.pointer none∨p=(aD b 2)) (hO:fC G (fT b s i p v (.slice B m d) pl e :: (Lp++Lo)) w0) (hrow:bR 5 1 v n xs Lo) (hn:n≤4294967296) :
  Calls prog 235 #[(aD b 2),.int .u8 c] w0 (eP w0 G (fT b s i p v (.slice B m d) pl e :: (Lp++Lo)) fun u G' L'=>∃ v' iX,L'=fT b s i (aD b 2) v' (.slice B m d) pl e :: (Lp++iX)∧bR 5 1 v' (n+1) (xs++[.int .u8 c]) iX∧G'=G):=by
 have hml:maxLen=9223372036854775807:=rfl;obtain ⟨A,c0,rfl,-,-⟩:=hrow.shape;obtain ⟨Lt,og⟩:∃ x,x=Lp++Lo:=⟨_,rfl⟩;rw [← og] at hO ⊢;refine gB (N:=17) (T:=[(0,_),(1,_)]) func235 rfl ntmps235 rfl rfl hO ?_;refine ak 5 ?_;intro a H;refine fB afY (Li:=[]) (L:=fT b s i p _ (.slice B m d) pl e :: Lt) H wn rfl (anW _ _ _ b s i p A n c0 B m d pl e hp (Hp.owns (Li:=[]) H.hp)) rfl ?_;clear H;rintro v6 _ L6 a w ⟨rfl,rfl⟩ zJ H;dsimp only [List.nil_append] at H;refine aH 8 H ?_;clear H;intro a H;refine gK JF Us [_] [_] H wn rfl rfl rfl rfl rfl (by intro i q h;match i,h with|0,h=>exact h|n+1,h=>simp at h) rfl rfl ?_;clear H;intro b13 a w LK H;subst og;have H:=St.un (A:=[_,_]) (B:=Lp) (C:=Lo) H;refine nU (Li:=[_,_]++Lp) (Lo:=Lo) (news:=[.int .u8 c]) JF Us rfl rfl H wn rfl rfl hrow rfl (H.hp.cK 0 rfl rfl) rfl (by omega) (by omega) rfl ?_;clear H;intro v14 abT a w Jc H;obtain ⟨UR,c14,rfl,-,-⟩:=Jc.shape;have H:=H.assoc;dsimp only [lca,aR] at H;refine aH 2 H ?_;clear H;intro a H;refine aV Nz 1 (vs:=[_]) _ H wn rfl rfl rfl rfl rfl rfl rfl rfl ?_;clear H;intro w H;dsimp only [List.set,setRow] at H;refine aH 4 H ?_;clear H;intro a H;refine lr H results235 rfl ?_;exact H.hp.bZ (L':=fT b s i _ _ _ pl e :: (Lp++abT)) (zi _ _) ⟨_,_,rfl,Jc,rfl⟩
theorem aor (G:GH) (L:OL) (w0:World) (b:Nat) (s:ByteArray) (i:Int) (p:aj) (A:Option Addr) (n c:Nat) (B:Option Addr) (m d:Nat) (pl e:Int) (hO:fC G (fT b s i p (.slice A n c) (.slice B m d) pl e :: L) w0) :
  Calls prog 242 #[(aD b 2)] w0 (eP w0 G (fT b s i p (.slice A n c) (.slice B m d) pl e :: L) fun u G' L'=>u=vi n∧L'=fT b s i p (.slice A n c) (.slice B m d) pl e :: L∧G'=G):=by
 refine gB (N:=8) (T:=[(0,_)]) func242 rfl ntmps242 rfl rfl hO ?_;refine ak 11 ?_;intro a H;refine lr H results242 rfl ?_;exact H.hp.cZ ⟨rfl,rfl,rfl⟩
theorem aoG (G:GH) (L:OL) (w0:World) (b:Nat) (s:ByteArray) (i:Int) (p:aj) (A:Option Addr) (n c:Nat) (B:Option Addr) (m d:Nat) (pl e:Int) (hO:fC G (fT b s i p (.slice A n c) (.slice B m d) pl e :: L) w0) :
  Calls prog 244 #[(aD b 2)] w0 (eP w0 G (fT b s i p (.slice A n c) (.slice B m d) pl e :: L) fun u G' L'=>L'=fT b s i (.pointer none) (.slice none 0 0) (.slice B m d) pl e :: L∧G'=G):=by
 refine gB (N:=8) (T:=[(0,_)]) func244 rfl ntmps244 rfl rfl hO ?_;refine ak 4 ?_;intro a H;refine aV aaV 0 (vs:=[_]) _ H wn rfl rfl rfl rfl rfl rfl rfl rfl ?_;clear H;intro w H;dsimp only [List.set,setRow] at H;refine aH 5 H ?_;clear H;intro a H;refine aV Nz 0 (vs:=[_]) _ H wn rfl rfl rfl rfl rfl rfl rfl rfl ?_;clear H;intro w H;dsimp only [List.set,setRow] at H;refine aG ?_;refine (leave0 H results244 ?_).2;exact H.hp.cZ ⟨rfl,rfl⟩
theorem aoJ (G:GH) (Lp Lo:OL) (w0:World) (b:Nat) (s:ByteArray) (i:Int) (p v:aj) (B:Option Addr) (m d:Nat) (pl e:Int) (l:List UInt8) (hO:fC G (fT b s i p v (.slice B m d) pl e :: (Lp++Lo)) w0) (hrow:bR 5 1 v l.length (Lib.byteCells l) Lo) (h0:l≠[]) :
  Calls prog 243 #[(aD b 2)] w0 (eP w0 G (fT b s i p v (.slice B m d) pl e :: (Lp++Lo)) fun u G' L'=>u=.string ⟨l.toArray⟩∧L'=fT b s i p v (.slice B m d) pl e :: Lp):=by
 rcases hrow.2 with ⟨-,h,-⟩|⟨b2,cap,cur,rfl,rfl,hc1,hc2,hc3,hc4⟩
 ·exact absurd (List.eq_nil_of_length_eq_zero h) h0
 have hl0:l.length≠0:=fun h=>h0 (List.eq_nil_of_length_eq_zero h);have hml:maxLen=9223372036854775807:=rfl;obtain ⟨Lt,og⟩:∃ x,x=Lp++[(b2,Obj.cells cur 5 (0,0))]:=⟨_,rfl⟩;rw [← og] at hO ⊢;refine gB (N:=14) (T:=[(0,_)]) func243 rfl ntmps243 rfl rfl hO ?_;refine ak 4 ?_;intro a H;have H:=H.sub (T':=[(0,_)]) ⟨rfl,bB⟩;refine dI hmx [[],[0],[0,1],[0,1,2],(ra 0 4),[],[5],[5,6],[5,6,7],(ra 5 4),(ra 0 10),(ra 0 11)] [10,11] (by kernel_rfl) [_,_,_,.slice (some ⟨b2,0,none⟩) l.length cap,(aD b2 0),_,_,_,.slice (some ⟨b2,0,none⟩) l.length cap,_] H (aC (Z0 rfl (Rm rfl)) (Z1 0 3 rfl (Rk rfl)) (Z1 1 4 rfl (Rf Xl rfl)) (Z1 2 5 rfl (Ro Nz 0 rfl)) (aC ?_ (Z0 rfl (Rm rfl)) (Z1 5 8 rfl (Rk rfl)) (Z1 6 9 rfl (Rf Xl rfl)) (aC (Z1 7 10 rfl (Ro Nz 0 rfl)) (Z1 8 11 rfl (Rl JF rfl)) (bP rfl) (bP rfl) dw))) ?_
 ·refine dJ 3 6 rfl rfl fun _ a w G1 hG HT H fin=>?_;refine anA H wn rfl (by omega) rfl ?_;clear H;intro a H;exact fin H iJ rfl
 clear H;intro a w G iH H hv;have H:=H.aO (hv 4 7 rfl rfl) rfl;have H:=H.aO (hv 9 12 rfl rfl) rfl;clear hv;subst og;have H:=H.perm (List.Perm.cons _ rD);dsimp only [lca,aR] at H;refine anG (i:=1) l aaY adi h0 (by omega) H wn rfl rfl rfl (by rw [← hc4,Nat.mul_one]) rfl ?_;clear H;intro fz a w H;dsimp only [List.set] at H;refine kH H (Ra rfl ?_);clear H;intro a H;refine aG ⟨rfl,?_⟩;refine dG ?_;refine lr H results243 rfl ?_;exact H.hp.bZ (L':=fT b s i _ _ _ pl e :: Lp) (List.Sublist.cons_cons _ (zi _ _)) ⟨rfl,rfl⟩
end
section
open Go.RowKit
theorem afZ:∀ args w,(callFunc 242 args).run prog w=.ok (.enter 242 args) w:=enters func242 rfl (by kernel_rfl)
instance Ur:Ty prog 253 1 24 [.slice none 0 0] false:=⟨by kernel_rfl,by kernel_rfl⟩
theorem aga:∀ args w,(callFunc 243 args).run prog w=.ok (.enter 243 args) w:=enters func243 rfl (by kernel_rfl)
theorem JE:prog.underlying 253=some (.slice 258):=by kernel_rfl
instance:jK prog 253 (.slice 258):=⟨JE⟩
instance JB:Ty prog 258 3 32 [.string ⟨#[]⟩,.int .i64 0,.bool false] true:=⟨by kernel_rfl,by kernel_rfl⟩
theorem agb:∀ args w,(callFunc 244 args).run prog w=.ok (.enter 244 args) w:=enters func244 rfl (by kernel_rfl)
instance ahd:dB prog 289 2 2:=⟨by kernel_rfl⟩
instance ahe:dB prog 289 3 4:=⟨by kernel_rfl⟩
theorem aaM:ru prog 258 [(0,1),(1,1),(2,1)] [.string ⟨#[]⟩,.int .i64 0,.bool false]:=⟨by kernel_rfl,by kernel_rfl⟩
theorem PI:∀ args w,(callFunc 236 args).run prog w=.ok (.enter 236 args) w:=enters func236 rfl (by kernel_rfl)
instance Xm:dB prog 289 4 5:=⟨by kernel_rfl⟩
structure iC where
 lit:ByteArray
 level:Int
 plain:Bool
def iC.dat (x:iC):List Dat:=[.lf (.string x.lit),li x.level,.lf (.bool x.plain)]
abbrev iC.cells (x:iC):List aj:=[.string x.lit,vi x.level,.bool x.plain]
theorem Zp (G:GH) (x:iC):aN G x.dat x.cells:=by
 simp only [iC.dat,iC.cells,aN]
 exact ⟨_,_,rfl,by simp [av,Value.oneCell'],_,_,rfl,by simp [av,Value.oneCell'],_,_,rfl,by simp [av,Value.oneCell'],rfl⟩
theorem Zo {G:GH} {x:iC} {cs:List aj} (h:aN G x.dat cs):cs=x.cells:=by
 simp only [iC.dat,aN,av] at h
 obtain ⟨_,_,rfl,⟨rfl,_⟩,_,_,rfl,⟨rfl,_⟩,_,_,rfl,⟨rfl,_⟩,rfl⟩:=h
 rfl
def CQ (l:List iC):List aj:=(l.map iC.cells).flatten
theorem Zn (l:List iC) (x:iC):CQ (l++[x])=CQ l++x.cells:=by simp [CQ]
structure ze (b:Nat) (lit:List UInt8) (parts:List iC) (p v q:aj) (Lp Lo:OL):Prop where
 ptr:p=.pointer none∨p=(aD b 2)
 buf:bR 5 1 v lit.length (Lib.byteCells lit) Lo
 prt:bR 258 3 q parts.length (CQ parts) Lp
def sM (lit:List UInt8) (parts:List iC):List iC:=if lit=[] then parts else parts++[⟨⟨lit.toArray⟩,0,false⟩]
theorem Qo (G:GH) (Lp Lo:OL) (w0:World) (b:Nat) (s:ByteArray) (i:Int) (p v q:aj) (pl e:Int) (lit:List UInt8) (parts:List iC) (hR:ze b lit parts p v q Lp Lo) (hO:fC G (fT b s i p v q pl e :: (Lp++Lo)) w0) (hl:lit.length≤4294967296) (hp:parts.length≤4294967296) :
  Calls prog 236 #[(aD b 0)] w0 (eP w0 G (fT b s i p v q pl e :: (Lp++Lo)) fun u G' L'=>∃ p' v' q' pJ iX,L'=fT b s i p' v' q' pl e :: (pJ++iX)∧ze b [] (sM lit parts) p' v' q' pJ iX):=by
 obtain ⟨Yp,hbuf,Mh⟩:=hR;have hml:maxLen=9223372036854775807:=rfl;obtain ⟨A,c,rfl,YV,YW⟩:=hbuf.shape;obtain ⟨B,d,rfl,Yq,Yr⟩:=Mh.shape;obtain ⟨Lt,og⟩:∃ x,x=Lp++Lo:=⟨_,rfl⟩;rw [← og] at hO ⊢;refine gB (N:=25) (T:=[(0,_)]) func236 rfl ntmps236 rfl rfl hO ?_;refine ak 4 ?_;intro a H;refine fB afZ (Li:=[]) (L:=fT b s i p (.slice A lit.length c) (.slice B parts.length d) pl e :: Lt) H wn rfl (aor _ _ _ b s i p A lit.length c B parts.length d pl e (Hp.owns (Li:=[]) H.hp)) rfl ?_;clear H;rintro v5 _ L5 a w ⟨rfl,rfl,rfl⟩ Ma H;dsimp only [List.nil_append] at H;refine gW 2 H ?_ ?_ <;> clear H
 ·intro p6
  have hne:lit≠[]:=fun e=>by rw [e] at p6;simp at p6
  subst og;refine ak 1 ?_
  have cB:∀ (bC:Nat) (fu:(Option Addr × Nat) × OL) (aT:Nat) (v:aj) (G G':GH),(∀ k o,G k=some o→G' k=some o)→(fun (bC:Nat) (fu:(Option Addr × Nat) × OL) (aT:Nat) (v:aj) (G:GH)=>match aT with|0=>v=(aD b 0)|1=>v=(aD b 0)|2=>v=(aD b 0)|3=>v=(aD b 4)|4=>v=.slice B parts.length d|5=>v=(aD b 0)|6=>v=(aD b 0)|7=>v=(aD b 2)|8=>v=.string ⟨lit.toArray⟩|9=>v=.agg (iC.cells ⟨⟨lit.toArray⟩,0,false⟩).toArray|10=>v=.slice (some ⟨bC,0,none⟩) 1 1|11=>v=.slice fu.1.1 (parts.length+1) fu.1.2∧bR 258 3 v (parts.length+1) (CQ (parts++[⟨⟨lit.toArray⟩,0,false⟩])) fu.2|_=>True) bC fu aT v G→(fun (bC:Nat) (fu:(Option Addr × Nat) × OL) (aT:Nat) (v:aj) (G:GH)=>match aT with|0=>v=(aD b 0)|1=>v=(aD b 0)|2=>v=(aD b 0)|3=>v=(aD b 4)|4=>v=.slice B parts.length d|5=>v=(aD b 0)|6=>v=(aD b 0)|7=>v=(aD b 2)|8=>v=.string ⟨lit.toArray⟩|9=>v=.agg (iC.cells ⟨⟨lit.toArray⟩,0,false⟩).toArray|10=>v=.slice (some ⟨bC,0,none⟩) 1 1|11=>v=.slice fu.1.1 (parts.length+1) fu.1.2∧bR 258 3 v (parts.length+1) (CQ (parts++[⟨⟨lit.toArray⟩,0,false⟩])) fu.2|_=>True) bC fu aT v G':=by
   intro bC fu aT v G G' hm h
   match aT,h with
   | 0,h=>exact h
   | 1,h=>exact h
   | 2,h=>exact h
   | 3,h=>exact h
   | 4,h=>exact h
   | 5,h=>exact h
   | 6,h=>exact h
   | 7,h=>exact h
   | 8,h=>exact h
   | 9,h=>exact h
   | 10,h=>exact h
   | 11,h=>exact h
   | 12,h=>exact trivial
   | 13,h=>exact trivial
   | 14,h=>exact trivial
   | _+15,h=>exact trivial
  intro a H;refine acP (κ:=(Option Addr × Nat) × OL) (((none,0),[])) (hmx) [[],[],[1],[1,2],[1,2,3],[],[5],[5,6],[5,6,7],(ra 5 4),(ra 5 5),(ra 1 10),(ra 0 12),(ra 0 13),(ra 0 14)] [12,13,14] (by kernel_rfl) (by kernel_rfl) 8 10 11 (by decide) (by decide) (by decide) (by decide) (by decide) (by decide) (by decide) (by decide) (by decide) [fT b s i p (.slice A lit.length c) (.slice B parts.length d) pl e] (fT b s i p (.slice A lit.length c) (.slice B parts.length d) pl e :: Lp) (.cells (iC.cells ⟨⟨lit.toArray⟩,0,false⟩).toArray 258 (0,0)) (fun b_ k_=>(b_,.cells (iC.cells ⟨⟨lit.toArray⟩,0,false⟩).toArray 258 (0,0)) :: fT b s i p (.slice A lit.length c) (.slice B parts.length d) pl e :: k_.2) (fun x hx=>by rw [rC.1 hx];exact fH) (fun x hx=>by rw [rC.1 hx];exact fH) (fun _ _ x hx=>by rw [rC.1 hx];exact gL _ fH) (fun (bC:Nat) (fu:(Option Addr × Nat) × OL) (aT:Nat) (v:aj) (G:GH)=>match aT with|0=>v=(aD b 0)|1=>v=(aD b 0)|2=>v=(aD b 0)|3=>v=(aD b 4)|4=>v=.slice B parts.length d|5=>v=(aD b 0)|6=>v=(aD b 0)|7=>v=(aD b 2)|8=>v=.string ⟨lit.toArray⟩|9=>v=.agg (iC.cells ⟨⟨lit.toArray⟩,0,false⟩).toArray|10=>v=.slice (some ⟨bC,0,none⟩) 1 1|11=>v=.slice fu.1.1 (parts.length+1) fu.1.2∧bR 258 3 v (parts.length+1) (CQ (parts++[⟨⟨lit.toArray⟩,0,false⟩])) fu.2|_=>True) (fun b b' k i v G hi hc h=>by match i,hi,hc,h with|0,_,_,h=>exact h|1,_,_,h=>exact h|2,_,_,h=>exact h|3,_,_,h=>exact h|4,_,_,h=>exact h|5,_,_,h=>exact h|6,_,_,h=>exact h|7,_,_,h=>exact h|8,_,_,h=>exact h|9,_,_,h=>exact h|10,hi,_,_=>exact absurd hi (by decide)|11,_,hc,_=>exact absurd hc (by decide)|12,_,hc,_=>exact absurd hc (by decide)|13,_,hc,_=>exact absurd hc (by decide)|14,_,hc,_=>exact absurd hc (by decide)|_+15,_,_,_=>exact trivial) (fun b k k' i v G hi hc h=>by match i,hi,hc,h with|0,_,_,h=>exact h|1,_,_,h=>exact h|2,_,_,h=>exact h|3,_,_,h=>exact h|4,_,_,h=>exact h|5,_,_,h=>exact h|6,_,_,h=>exact h|7,_,_,h=>exact h|8,_,_,h=>exact h|9,_,_,h=>exact h|10,_,_,h=>exact h|11,hi,_,_=>exact absurd hi (by decide)|12,_,hc,_=>exact absurd hc (by decide)|13,_,hc,_=>exact absurd hc (by decide)|14,_,hc,_=>exact absurd hc (by decide)|_+15,_,_,_=>exact trivial) H ?_ ?_ ?_ ?_ ?_ (by kernel_rfl) (by kernel_rfl)
  ·clear H;refine aC ?_ ?_ ?_ ?_ (aC ?_ ?_ ?_ ?_ (aC ?_ ?_ ?_ ?_ (bL ?_ (bL ?_ (bL ?_ dw)))))
   ·intro bC fu iP bF a w G1 jv _ _ _ _ bT hc hG HT hv;have H:=HT;clear bT;have Hb:=H.full;have H:=Hb;clear hc;refine aH 1 H ?_;clear H;intro a H;refine aG ⟨rfl,?_⟩;exact jr (by kernel_rfl) (cB bC fu) rfl rfl HT Hb hG hv (fun _ _ h=>h) (rfl) H
   ·intro bC fu iP bF a w G1 jv _ _ _ _ bT hc hG HT hv;have H:=HT;clear bT;have Hb:=H.full;have H:=Hb;clear hc;refine aH 1 H ?_;clear H;intro a H;refine aG ⟨rfl,?_⟩;exact jr (by kernel_rfl) (cB bC fu) rfl rfl HT Hb hG hv (fun _ _ h=>h) (rfl) H
   ·intro bC fu iP bF a w G1 jv _ _ _ _ bT hc hG HT hv;have H:=HT;clear bT;have H:=H.aO (hv 1 8 (hc 1 (by decide)) rfl) rfl;have Hb:=H.full;have H:=Hb;clear hc;refine aH 1 H ?_;clear H;intro a H;refine aG ⟨rfl,?_⟩;exact jr (by kernel_rfl) (cB bC fu) rfl rfl HT Hb hG hv (fun _ _ h=>h) (rfl) H
   ·intro bC fu iP bF a w G1 jv _ _ _ _ bT hc hG HT hv;have H:=HT;clear bT;have H:=H.aO (hv 2 9 (hc 2 (by decide)) rfl) rfl;have Hb:=H.full;have H:=Hb;clear hc;refine aH 1 H ?_;clear H;intro a H;refine aG ⟨rfl,?_⟩;exact jr (by kernel_rfl) (cB bC fu) rfl rfl HT Hb hG hv (fun _ _ h=>h) (rfl) H
   ·intro bC fu iP bF a w G1 jv _ _ _ _ bT hc hG HT hv;have H:=HT;clear bT;have H:=H.aO (hv 3 10 (hc 3 (by decide)) rfl) rfl;have Hb:=H.full;have H:=Hb;clear hc;refine kX Ur H wn rfl (H.hp.MR (jv _ fH) rfl) rfl ?_;clear H;intro a H;refine aG ⟨rfl,?_⟩;exact jr (by kernel_rfl) (cB bC fu) rfl rfl HT Hb hG hv (fun _ _ h=>h) (rfl) H
   ·intro bC fu iP bF a w G1 jv _ _ _ _ bT hc hG HT hv;have H:=HT;clear bT;have Hb:=H.full;have H:=Hb;clear hc;refine aH 1 H ?_;clear H;intro a H;refine aG ⟨rfl,?_⟩;exact jr (by kernel_rfl) (cB bC fu) rfl rfl HT Hb hG hv (fun _ _ h=>h) (rfl) H
   ·intro bC fu iP bF a w G1 jv _ _ _ _ bT hc hG HT hv;have H:=HT;clear bT;have H:=H.aO (hv 5 12 (hc 5 (by decide)) rfl) rfl;have Hb:=H.full;have H:=Hb;clear hc;refine aH 1 H ?_;clear H;intro a H;refine aG ⟨rfl,?_⟩;exact jr (by kernel_rfl) (cB bC fu) rfl rfl HT Hb hG hv (fun _ _ h=>h) (rfl) H
   ·intro bC fu iP bF a w G1 jv _ _ _ _ bT hc hG HT hv;have H:=HT;clear bT;have H:=H.aO (hv 6 13 (hc 6 (by decide)) rfl) rfl;have Hb:=H.full;have H:=Hb;clear hc;refine aH 1 H ?_;clear H;intro a H;refine aG ⟨rfl,?_⟩;exact jr (by kernel_rfl) (cB bC fu) rfl rfl HT Hb hG hv (fun _ _ h=>h) (rfl) H
   ·intro _ _ _ _ _ _ _ _ _ hB;exact absurd hB (by decide)
   ·intro bC fu iP bF a w G1 jv _ _ _ _ bT hc hG HT hv;have H:=HT;clear bT;have H:=H.aO (hv 8 15 (hc 8 (by decide)) rfl) rfl;have Hb:=H.full;have H:=Hb;clear hc;refine jY aaM [_,_,_] H wn rfl rfl rfl rfl ?_;clear H;intro a H;refine aG ⟨rfl,?_⟩;exact jr (by kernel_rfl) (cB bC fu) rfl rfl HT Hb hG hv (fun _ _ h=>h) (rfl) H
   ·intro _ _ _ _ _ _ _ _ _ _ hB;exact absurd hB (by decide)
   ·intro _ _ _ _ _ _ _ _ _ _ _ hB;exact absurd hB (by decide)
   ·intro _ _ _ _ _ _ _ _ hB;exact absurd hB (by decide)
   ·intro _ _ _ _ _ _ _ _ hB;exact absurd hB (by decide)
   intro _ _ _ _ _ _ _ _ hB;exact absurd hB (by decide)
  ·clear H;intro o_ bC fu bF a w G1 CF _ hc hG HT hv;obtain rfl:_=o_:=Option.some.inj CF;clear CF;have H:=HT;have H:=H.aO (hv 7 14 (by decide) (hc 7 (by decide)) rfl) rfl;have Hb:=H.full;have H:=Hb;clear hc;refine fB aga (Li:=[]) (L:=fT b s i p (.slice A lit.length c) (.slice B parts.length d) pl e :: (Lp++Lo)) H wn rfl (aoJ _ _ _ _ b s i p _ B parts.length d pl e lit (Hp.owns (Li:=[]) H.hp) hbuf hne) rfl ?_;clear H;rintro v15 Af L15 a w ⟨rfl,rfl⟩ Cu H;dsimp only [List.nil_append] at H;refine aG ⟨rfl,?_⟩;exact Ch (by kernel_rfl) (cB bC fu) rfl HT Hb hG (fun j e h1 h2 h3=>hv j e h1 h2 h3) Cu (rfl) H
  ·clear H;intro o_ fu bF a w G1 CF _ hc hG HT hv;obtain rfl:_=o_:=Option.some.inj CF;clear CF;have H:=HT;have H:=H.aO (hv 0 9 16 (by decide) (hc 9 (by decide)) rfl) rfl;have Hb:=H.full;have H:=Hb;clear hc;refine gK JE JB [_,_,_] [_,_,_] H wn rfl rfl rfl rfl rfl (by intro i q h;match i,h with|0,h=>exact h|n+1,h=>simp at h) rfl rfl ?_;clear H;intro b17 a w aqj H;refine aG ⟨rfl,b17,?_⟩;exact Wz (by kernel_rfl) rfl HT Hb hG (fun j e h1 h2 h3=>hv _ j e h1 h2 h3) (rfl) H
  ·clear H;intro o_ bC bF a w G1 CF _ hc hG HT hv;obtain rfl:_=o_:=Option.some.inj CF;clear CF;have H:=HT;have H:=H.aO (hv (((none,0),[])) 4 11 (by decide) (hc 4 (by decide)) rfl) rfl;have H:=H.aO (hv (((none,0),[])) 10 17 (by decide) (hc 10 (by decide)) rfl) rfl;have Hb:=H.full;have H:=Hb;clear hc;refine nU (Li:=[_,_]) (Lo:=Lp) (news:=iC.cells ⟨⟨lit.toArray⟩,0,false⟩) JE JB rfl rfl H wn rfl rfl Mh rfl (H.hp.cK 0 rfl rfl) rfl (by omega) (by omega) rfl ?_;clear H;intro v18 abZ a w FU H;obtain ⟨A18,c18,rfl,-,-⟩:=FU.shape;rw [← Zn] at FU;refine aG ⟨rfl,((A18,c18),abZ),?_⟩;exact Wz (by kernel_rfl) rfl HT Hb hG (fun j e h1 h2 h3=>hv _ j e h1 h2 h3) (⟨rfl,FU⟩) H
  clear H;intro b17 fu a w G iH H hv;have H:=H.aO (hv 0 7 rfl rfl) rfl;obtain ⟨u18,R7,I9⟩:=hv 11 18 (by decide) rfl;(try dsimp only at I9);obtain ⟨rfl,FU⟩:=I9;have H:=H.jo R7;clear hv;refine kH H (Rk rfl (Rf ahe rfl ?_));clear H;intro a H;refine aV Ur 1 (vs:=[_]) _ H wn rfl rfl rfl rfl rfl rfl rfl rfl ?_;clear H;intro w H;dsimp only [List.set,setRow] at H;refine aG ⟨rfl,?_⟩;refine dG ?_;refine eB 4 H ?_;clear H;intro a H;refine fB agb (Li:=[_]) (L:=fT b s i p (.slice A lit.length c) (.slice fu.1.1 (parts.length+1) fu.1.2) pl e :: fu.2) H wn rfl (aoG _ _ _ b s i p A lit.length c fu.1.1 (parts.length+1) fu.1.2 pl e (Hp.owns (Li:=[_]) H.hp)) rfl ?_;clear H;rintro v24 _ L24 a w ⟨rfl,rfl⟩ zH H;dsimp only [lca,aR] at H;refine aG ?_;refine (leave0 H results236 ?_).2
  first
   | exact H.hp.bZ (L':=fT b s i _ _ _ pl e :: fu.2) (zi _ _) ⟨_,_,_,fu.2,[],by rw [lY],⟨.inl rfl,bR.nil,by rw [sM,ah hne];simpa using FU⟩⟩
   | exact H.hp.cZ ⟨_,_,_,Lp,Lo,by rw [og],by
     have h0:lit=[]:=by
      cases lit with
      | nil=>rfl
      | cons x r=>simp at p6
     subst h0;exact ⟨Yp,hbuf,by rw [sM,ay rfl];exact Mh⟩⟩
 intro p6
 intro a H;refine ji ?_;refine (leave0 H results236 ?_).2
 first
  | exact H.hp.bZ (L':=fT b s i _ _ _ pl e :: fu.2) (zi _ _) ⟨_,_,_,fu.2,[],by rw [lY],⟨.inl rfl,bR.nil,by rw [sM,ah hne];simpa using FU⟩⟩
  | exact H.hp.cZ ⟨_,_,_,Lp,Lo,by rw [og],by
    have h0:lit=[]:=by
     cases lit with
     | nil=>rfl
     | cons x r=>simp at p6
    subst h0;exact ⟨Yp,hbuf,by rw [sM,ay rfl];exact Mh⟩⟩
theorem Z8 (G:GH) (Lp Lo:OL) (w0:World) (b:Nat) (s:ByteArray) (i:Int) (p v q:aj) (pl e:Int) (lit:List UInt8) (parts:List iC) (ch:Int) (plain:Bool) (hR:ze b lit parts p v q Lp Lo) (hO:fC G (fT b s i p v q pl e :: (Lp++Lo)) w0) (hl:lit.length≤4294967296) (hp:parts.length≤4294967290) (hc:49≤ch∧ch≤57) (hpl:0≤pl∧pl≤4294967296) :
  Calls prog 240 #[(aD b 0),.int .u8 ch,.bool plain] w0 (eP w0 G (fT b s i p v q pl e :: (Lp++Lo)) fun u G' L'=>∃ p' v' q' pJ iX,L'=fT b s i p' v' q' (pl+1) e :: (pJ++iX)∧ze b [] (sM lit parts++[⟨⟨#[]⟩,ch - 48,plain⟩]) p' v' q' pJ iX):=by
 have hml:maxLen=9223372036854775807:=rfl
 have hfl:(sM lit parts).length≤parts.length+1:=by unfold sM;split <;> simp
 obtain ⟨A,c,rfl,YV,YW⟩:=hR.buf.shape;obtain ⟨B,d,rfl,Yq,Yr⟩:=hR.prt.shape;obtain ⟨Lt,og⟩:∃ x,x=Lp++Lo:=⟨_,rfl⟩;rw [← og] at hO ⊢;refine gB (N:=29) (T:=[(0,_),(1,_),(2,_)]) func240 rfl ntmps240 rfl rfl hO ?_;refine ak 2 ?_;intro a H;refine fB PI (Li:=[]) (L:=fT b s i p (.slice A lit.length c) (.slice B parts.length d) pl e :: Lt) H wn rfl (by subst og;exact Qo _ Lp Lo _ b s i p _ _ pl e lit parts hR (Hp.owns (Li:=[]) H.hp) hl (by omega)) rfl ?_;clear H;rintro v7 G7 L7 a w ⟨p',v',q',pJ,iX,rfl,IV⟩ xu H;dsimp only [List.nil_append] at H;obtain ⟨A7,c7,rfl,-,-⟩:=IV.buf.shape;obtain ⟨B7,d7,rfl,-,-⟩:=IV.prt.shape;refine aH 8 H ?_;clear H;intro a H;refine anE H wn rfl rfl (by omega) (by omega) rfl ?_;clear H;intro a H;refine zU _ jJ EK H wn rfl rfl rfl ?_;clear H;intro a H;rw [CK (by omega) (by omega)] at H;refine aH 1 H ?_;clear H;intro a H;refine jY aaM [_,_,_] H wn rfl rfl rfl rfl ?_;clear H;intro a H;refine gK JE JB [_,_,_] [_,_,_] H wn rfl rfl rfl rfl rfl (by intro i q h;match i,h with|0,h=>exact h|n+1,h=>simp at h) rfl rfl ?_;clear H;intro b18 a w LM H;have H:=(St.cast H (show _=[_,_]++(pJ++iX) from rfl)).perm (List.Perm.append_left _ rD);have H:=St.un H;refine nU (Li:=[_,_]++iX) (Lo:=pJ) (news:=iC.cells ⟨⟨#[]⟩,ch - 48,plain⟩) JE JB rfl rfl H wn rfl rfl IV.prt rfl (H.hp.cK 0 rfl rfl) rfl (by omega) (by omega) rfl ?_;clear H;intro v19 Vr a w xD H;obtain ⟨GN,c19,rfl,-,-⟩:=xD.shape;rw [← Zn] at xD;have H:=H.assoc.perm (List.Perm.append_left _ rD);dsimp only [lca,aR] at H;refine aH 2 H ?_;clear H;intro a H;refine aV Ur 1 (vs:=[_]) _ H wn rfl rfl rfl rfl rfl rfl rfl rfl ?_;clear H;intro w H;dsimp only [List.set,setRow] at H;refine aH 9 H ?_;clear H;intro a H;refine aV bH 1 (vs:=[_]) _ H wn rfl rfl rfl rfl rfl rfl rfl rfl ?_;clear H;intro w H;dsimp only [List.set,setRow] at H;refine aG ?_;refine (leave0 H results240 ?_).2;exact H.hp.bZ (L':=fT b s i _ _ _ (pl+1) e :: (Vr++iX)) (zi _ _) ⟨_,_,_,Vr,iX,rfl,IV.ptr,IV.buf,by simpa using xD⟩
end
section
open Go.RowKit
section
variable {N:Nat} {D:List Deferred} {w0:World} {F:Nat→Prop} {G0 G:GH} {L:OL} {T Xs:List (Nat × aj)}
variable {r:Option Nat} {P:Program} {Q:Exit→Act→World→Prop} {l:List Oper} {a a':Act} {w w':World}
abbrev U2:Type:=Nat × aj × Nat × Bool
def U3 (ent:List U2) (S:Nat→Bool) (a:Act):Prop:=∀ e∈ent,S e.2.2.1=e.2.2.2→a.tmps[e.1]?=some e.2.1
theorem U3.at {ent:List U2} {S:Nat→Bool} {a:Act} (h:U3 ent S a) (k:Nat) {t:Nat} {v:aj} {j:Nat} {b:Bool} (hk:ent[k]?=some (t,v,j,b)) (hS:S j=b):a.tmps[t]?=some v:=h _ (kr hk) hS
theorem anD {ops:Array Oper} {rest:List Oper} {d:Nat} {ty:TypeId} {pos:String} {aK:Array Edge} {g:Option (Nat × Bool)} {t:TypeId} {x y:Operand} {s:ByteArray} {ky:IntKind} {p:Int} (hi:Nat) (ht:P.underlying t=some .string) (H:St N D w0 F G0 G L T a w) (hw:Region.wanted ⟨some d,.slice t x none (some y) none,ty,pos,aK,g⟩ (yielded ops a.tmps)=true) (hx:ev T x=some (.string s)) (hy:ev T y=some (.int ky p)) (hp:p=(hi:Int)) (h1:hi≤s.size) (hd:Nat.blt d N=true)
  (k:∀ a',St N D w0 F G0 G L ((d,.string (s.extract 0 hi)) :: T) a' w→WL r P ops Q rest a' w):WL r P ops Q (⟨some d,.slice t x none (some y) none,ty,pos,aK,g⟩ :: rest) a w:=by
 subst hp
 have hr:=run_slice_string_h (P:=P) w t s ht ky (hi:Int) (by omega) (by omega)
 rw [Int.toNat_natCast] at hr
 refine fq (v:=.string (s.extract 0 hi)) (w':=w) hw rfl ?_ (k _ (H.put hd _ H.hp))
 simp only [execOp,H.ev hx,Option.map_some,Option.map_none,H.ev hy,dM,run_sliceAt_string w t _ _ _ _ ht,hr,lg,qE]
end
end
section
open Go.RowKit
theorem agc:∀ args w,(callFunc 245 args).run prog w=.ok (.enter 245 args) w:=enters func245 rfl (by kernel_rfl)
instance zo:dB prog 289 0 0:=⟨by kernel_rfl⟩
theorem WU:∀ args w,(callFunc 235 args).run prog w=.ok (.enter 235 args) w:=enters func235 rfl (by kernel_rfl)
theorem WV:∀ args w,(callFunc 239 args).run prog w=.ok (.enter 239 args) w:=enters func239 rfl (by kernel_rfl)
theorem WW:∀ args w,(callFunc 240 args).run prog w=.ok (.enter 240 args) w:=enters func240 rfl (by kernel_rfl)
instance vY:dB prog 289 1 1:=⟨by kernel_rfl⟩
theorem PK:∀ args w,(callFunc 238 args).run prog w=.ok (.enter 238 args) w:=enters func238 rfl (by kernel_rfl)
instance DU:dB prog 289 5 6:=⟨by kernel_rfl⟩
def qw (s p:ByteArray):Bool:=decide (p.size≤s.size) && ((s.extract 0 p.size).toList == p.toList)
theorem aiq (G:GH) (w0:World) (hG:Hold G w0) (s p:ByteArray) (hs:s.size≤4611686018427387904) (hp:p.size≤4611686018427387904):Calls prog 245 #[.string s,.string p] w0 (bD w0 G fun u G'=>u=.bool (qw s p)∧G=G'):=by
 refine eN [(0,_),(1,_)] func245 rfl ntmps245 rfl rfl hG ?_;refine jE 10 10 ?_ ?_
 ·intro h10
  try have nk:=dT h10
  refine ak 2 ?_;intro a H;refine CZ iV H (wg H rfl rfl h10) rfl rfl ?_;clear H;intro a H;refine anD p.size iV H (wg H rfl rfl h10) rfl rfl rfl (by omega) rfl ?_;clear H;refine ak 1 ?_;intro a H;refine Gp H (wg H rfl rfl h10) rfl rfl rfl ?_;clear H;refine aP 3 ?_;exact ⟨dD (by unfold qw;first|(simp_all;done)|(simp_all;omega)),rfl⟩
 intro h10
 try have nk:=dF h10
 refine aP 9 ?_;exact ⟨dD (by unfold qw;first|(simp_all;done)|(simp_all;omega)),rfl⟩
theorem QS (G:GH) (w0:World) (hG:Hold G w0) (s p:ByteArray) (hs:s.size≤4611686018427387904) (hp:p.size≤4611686018427387904):Calls prog 238 #[.string s,.string p] w0 (bD w0 G fun u G'=>u=.bool (qw s p)∧G=G'):=by
 refine eN [(0,_),(1,_)] func238 rfl ntmps238 rfl rfl hG ?_;refine ak 6 ?_;intro a H;refine s_call agc H wn rfl (aiq _ _ H.ro s p hs hp) rfl ?_;clear H;rintro v7 _ a w ⟨rfl,rfl⟩ - H;refine gH 2 H ?_;exact ⟨rfl,rfl⟩
def sJ (s:ByteArray) (k:Nat):Bool:=decide (k < s.size) && decide (49≤fG s k) && decide (fG s k≤57)
theorem Wx (G:GH) (L:OL) (w0:World) (b:Nat) (s:ByteArray) (i:Int) (p v q:aj) (pl e:Int) (k:Nat) (hs:s.size≤4611686018427387904) (hO:fC G (fT b s i p v q pl e :: L) w0) :
  Calls prog 239 #[(aD b 0),vi k] w0 (eP w0 G (fT b s i p v q pl e :: L) fun u G' L'=>u=.bool (sJ s k)∧L'=fT b s i p v q pl e :: L∧G'=G):=by
 refine gB (N:=30) (T:=[(0,_),(1,_)]) func239 rfl ntmps239 rfl rfl hO ?_;refine jE 12 12 ?_ ?_
 ·intro h12
  try have nu:=dT h12
  refine ak 1 ?_;intro a H;refine rT H (wg H rfl rfl h12) rfl rfl ?_;clear H;refine ak 3 ?_;intro a H;refine nW k iV H (wg H rfl rfl h12) rfl rfl rfl (by omega) rfl ?_;clear H;intro a H;rw [← jQ] at H;refine nJ 3 21 H ?_ ?_ <;> clear H
  ·intro h21
   try have qy:=dT h21
   refine ak 1 ?_;intro a H;refine rT H (wg H rfl rfl h21) rfl rfl ?_;clear H;refine ak 3 ?_;intro a H;refine nW k iV H (wg H rfl rfl h21) rfl rfl rfl (by omega) rfl ?_;clear H;intro a H;rw [← jQ] at H;refine aH 4 H ?_;clear H;intro a H;refine lr H results239 rfl ?_;exact H.hp.cZ ⟨dD (by unfold sJ;first|(simp_all;done)|(simp_all;omega)),rfl,rfl⟩
  intro h21
  try have qy:=dF h21
  refine ak 10 ?_;intro a H;refine lr H results239 rfl ?_;exact H.hp.cZ ⟨dD (by unfold sJ;first|(simp_all;done)|(simp_all;omega)),rfl,rfl⟩
 intro h12
 try have nu:=dF h12
 refine ak 19 ?_;intro a H;refine lr H results239 rfl ?_;exact H.hp.cZ ⟨dD (by unfold sJ;first|(simp_all;done)|(simp_all;omega)),rfl,rfl⟩
structure sD where
 i:Nat
 lit:List UInt8
 parts:List iC
 pl:Nat
 e:Int
def nS (s:ByteArray) (x:sD):sD :=
 if qw (s.extract x.i s.size) ⟨#[37,37]⟩=true then ⟨x.i+2,x.lit++[37],x.parts,x.pl,x.e⟩
 else if sJ s (x.i+1)=true then ⟨x.i+2,[],sM x.lit x.parts++[⟨⟨#[]⟩,fG s (x.i+1) - 48,false⟩],x.pl+1,x.e⟩
 else if qw (s.extract x.i s.size) ⟨#[37,100]⟩=true∧sJ s (x.i+2)=true then ⟨x.i+3,[],sM x.lit x.parts++[⟨⟨#[]⟩,fG s (x.i+2) - 48,true⟩],x.pl+1,x.e⟩
 else ⟨x.i,x.lit,x.parts,x.pl,14⟩
abbrev vH (b:Nat) (s:ByteArray) (x:sD) (p v q:aj):Nat × Obj:=fT b s x.i p v q x.pl x.e
theorem Ww {s:ByteArray} {k:Nat} (h:sJ s k=true):k < s.size∧49≤fG s k∧fG s k≤57:=by
 simpa [sJ,and_assoc] using h
theorem aml (G:GH) (Lp Lo:OL) (w0:World) (b:Nat) (s:ByteArray) (x:sD) (p v q:aj) (hR:ze b x.lit x.parts p v q Lp Lo) (hO:fC G (vH b s x p v q :: (Lp++Lo)) w0) (hs:s.size≤4294967290) (hi:x.i < s.size) (hl:x.lit.length≤4294967290) (hp:x.parts.length≤4294967290) (hpl:x.pl≤4294967290) :
    Calls prog 234 #[(aD b 0)] w0 (eP w0 G (vH b s x p v q :: (Lp++Lo)) fun u G' L'=>∃ p' v' q' pJ iX,L'=vH b s (nS s x) p' v' q' :: (pJ++iX)∧ze b (nS s x).lit (nS s x).parts p' v' q' pJ iX):=by
  obtain ⟨i,lit,parts,pl,e⟩:=x;dsimp only [vH] at *
  have hex:(s.extract i s.size).size≤4611686018427387904:=by rw [ByteArray.size_extract];omega
  obtain ⟨A,c,rfl,YV,YW⟩:=hR.buf.shape;obtain ⟨B,d,rfl,Yq,Yr⟩:=hR.prt.shape;obtain ⟨Lt,og⟩:∃ x,x=Lp++Lo:=⟨_,rfl⟩;rw [← og] at hO ⊢;refine gB (N:=93) (T:=[(0,_)]) func234 rfl ntmps234 rfl rfl hO ?_;refine ak 2 ?_;intro a H;refine dI hmx [[],[0],[0,1],[0,1,2],[],[4],[4,5],[4,5,6],(ra 0 8),(ra 0 9),(ra 0 10)] [] (by kernel_rfl) [_,_,_,.string s,_,_,_,vi i,.string (s.extract i s.size),.bool (qw (s.extract i s.size) ⟨#[37,37]⟩),_] H (aC (Z0 rfl (Rm rfl)) (Z1 0 6 rfl (Rk rfl)) (Z1 1 7 rfl (Rf zo rfl)) (Z1 2 8 rfl (Ro lN 0 rfl)) (aC (Z0 rfl (Rm rfl)) (Z1 4 10 rfl (Rk rfl)) (Z1 5 11 rfl (Rf vY rfl)) (Z1 6 12 rfl (Ro bH 0 rfl)) (bL ?_ (bL ?_ (bL (Z1 9 15 rfl (Ra rfl)) dw))))) ?_
  · refine dL 3 9 7 13 rfl rfl fun _ a w G1 hG HT H fin=>?_;refine TS i iV H wn rfl rfl rfl (by omega) rfl ?_;clear H;intro a H;exact fin H iJ rfl
  · refine dJ 8 14 rfl rfl fun _ a w G1 hG HT H fin=>?_;refine s_call PK H wn rfl (QS _ _ H.ro _ _ hex (by decide)) rfl ?_;clear H;rintro v15 Af a w ⟨rfl,rfl⟩ Cu H;exact fin H Cu (rfl)
  clear H;intro a w G iH H hv;have H:=H.aO (hv 10 5 rfl rfl) rfl;clear hv;refine t0 1 H ?_;clear H;refine goC 0 ?_ ?_
  · intro h5
    try have p5:=dT h5
    refine ak 4 ?_;intro a H;refine fB WU (Li:=[]) (L:=fT b s i p (.slice A lit.length c) (.slice B parts.length d) pl e :: Lt) H wn rfl (by subst og;exact abz _ Lp Lo _ b s i p _ B parts.length d pl e lit.length _ 37 hR.ptr (Hp.owns (Li:=[]) H.hp) hR.buf (by omega)) rfl ?_;clear H;rintro v19 _ L19 a w ⟨ark,Dt,rfl,xD,rfl⟩ oK H;dsimp only [List.nil_append] at H;obtain ⟨GN,c19,rfl,-,-⟩:=xD.shape;refine aH 9 H ?_;clear H;intro a H;refine aV bH 0 (vs:=[_]) _ H wn rfl rfl rfl rfl rfl rfl rfl rfl ?_;clear H;intro w H;dsimp only [List.set,setRow] at H;refine aG ?_;refine (leave0 H results234 ?_).2;exact H.hp.cZ ⟨_,_,_,Lp,Dt,by rw [nS,ay h5];rfl,by rw [nS,ay h5];exact ⟨.inr rfl,by simpa [Lib.byteCells] using xD,hR.prt⟩⟩
  intro h5
  try have p5:=dF h5
  refine ak 7 ?_;intro a H;rw [show ((i:Int)+1)=((i+1:Nat):Int) from rfl] at H;refine fB WV (Li:=[]) (L:=fT b s i p (.slice A lit.length c) (.slice B parts.length d) pl e :: Lt) H wn rfl (Wx _ Lt _ b s i p _ _ pl e (i+1) (by omega) (Hp.owns (Li:=[]) H.hp)) rfl ?_;clear H;rintro v34 _ L34 a w ⟨rfl,rfl,rfl⟩ X8 H;dsimp only [List.nil_append] at H;refine gX 2 H ?_ ?_ <;> clear H
  · intro h27
    try have p27:=dT h27
    have hd1:=Ww h27;refine ak 1 ?_;intro a H;refine dI hmx [[],[],[1],[1,2],[1,2,3],[],[5],[5,6],[5,6,7],(ra 5 4),(ra 1 9),(ra 0 11)] [11] (by kernel_rfl) [_,_,_,_,.string s,_,_,_,vi i,_,.int .u8 (fG s (i+1))] H (aC (Z0 rfl (Rm rfl)) (Z0 rfl (Rm rfl)) (Z1 1 36 rfl (Rk rfl)) (Z1 2 37 rfl (Rf zo rfl)) (aC (Z1 3 38 rfl (Ro lN 0 rfl)) (Z0 rfl (Rm rfl)) (Z1 5 40 rfl (Rk rfl)) (Z1 6 41 rfl (Rf vY rfl)) (aC (Z1 7 42 rfl (Ro bH 0 rfl)) (Z1 8 43 rfl (Rd rfl)) ?_ (bP rfl) dw))) ?_
    · refine dL 4 39 9 44 rfl rfl fun _ a w G1 hG HT H fin=>?_;refine nW (i+1) iV H wn rfl rfl rfl hd1.1 rfl ?_;clear H;intro a H;rw [← jQ] at H;exact fin H iJ rfl
    clear H;intro a w G sS H hv;have H:=H.aO (hv 0 35 rfl rfl) rfl;have H:=H.aO (hv 10 45 rfl rfl) rfl;clear hv;refine fB WW (Li:=[]) (L:=fT b s i p (.slice A lit.length c) (.slice B parts.length d) pl e :: Lt) H wn rfl (by subst og;exact Z8 _ Lp Lo _ b s i p _ _ pl e lit parts (fG s (i+1)) false hR (Hp.owns (Li:=[]) H.hp) (by omega) (by omega) hd1.2 (by omega)) rfl ?_;clear H;rintro v46 Od L46 a w ⟨p46,apo,q46,Hr,Hq,rfl,AV⟩ Bc H;dsimp only [List.nil_append] at H;obtain ⟨A46,c46,rfl,-,-⟩:=AV.buf.shape;obtain ⟨B46,d46,rfl,-,-⟩:=AV.prt.shape;refine aG ⟨rfl,?_⟩;refine dG ?_;refine eB 8 H ?_;clear H;intro a H;refine aV bH 0 (vs:=[_]) _ H wn rfl rfl rfl rfl rfl rfl rfl rfl ?_;clear H;intro w H;dsimp only [List.set,setRow] at H;refine aG ?_;refine (leave0 H results234 ?_).2;exact H.hp.cZ ⟨_,_,_,Hr,Hq,by rw [nS,ah (by simp [h5]),ay h27];rfl,by rw [nS,ah (by simp [h5]),ay h27];exact AV⟩
  intro h27
  try have p27:=dF h27
  refine ak 1 ?_
  intro a H;by_cases c1:qw (s.extract i s.size) ⟨#[37,100]⟩=true
  · refine dI hmx [[],[0],[0,1],[0,1,2],[],[4],[4,5],[4,5,6],(ra 0 8),(ra 0 9),(ra 0 10),(ra 0 11),(ra 0 11),(ra 0 11++[12]),(ra 0 11++[12,13]),(ra 0 11++[12,13,14]),(ra 0 11++ra 12 4),(ra 0 17),(ra 0 18),(ra 0 19)] [] (by kernel_rfl) [_,_,_,.string s,_,_,_,vi i,.string (s.extract i s.size),.bool (qw (s.extract i s.size) ⟨#[37,100]⟩),.bool (decide (qw (s.extract i s.size) ⟨#[37,100]⟩=true)),_,_,(aD b 0),_,vi i,vi ((i+2:Nat):Int),.bool (sJ s (i+2)),_,_] H (aC (Z0 rfl (Rm rfl)) (Z1 0 55 rfl (Rk rfl)) (Z1 1 56 rfl (Rf zo rfl)) (Z1 2 57 rfl (Ro lN 0 rfl)) (aC (Z0 rfl (Rm rfl)) (Z1 4 59 rfl (Rk rfl)) (Z1 5 60 rfl (Rf vY rfl)) (Z1 6 61 rfl (Ro bH 0 rfl)) (aC ?_ ?_ ?_ (Z1 10 65 rfl (YM (aI c1) rfl)) (aC (Z1 10 65 rfl (YM (aI c1) rfl)) ?_ (Z2 13 68 10 65 rfl (YF vY (aI c1) rfl)) (Z2 14 69 10 65 rfl (YO bH 0 (aI c1) rfl)) (aC ?_ ?_ (Z2 10 65 17 72 rfl (Pt (aI c1) rfl)) (Z1 18 73 rfl (Ra rfl)) dw))))) ?_
    · refine dL 3 58 7 62 rfl rfl fun _ a w G1 hG HT H fin=>?_;refine TS i iV H wn rfl rfl rfl (by omega) rfl ?_;clear H;intro a H;exact fin H iJ rfl
    · refine dJ 8 63 rfl rfl fun _ a w G1 hG HT H fin=>?_;refine s_call PK H wn rfl (QS _ _ H.ro _ _ hex (by decide)) rfl ?_;clear H;rintro v64 G64 a w ⟨rfl,rfl⟩ QF H;exact fin H QF (rfl)
    · refine dJ 9 64 rfl rfl fun _ a w G1 hG HT H fin=>?_;refine aH 1 H ?_;clear H;intro a H;exact fin H iJ (by show _=_;simp)
    · refine dL 12 67 10 65 rfl rfl fun _ a w G1 hG HT H fin=>?_;refine rT H (wg H rfl rfl (aI c1)) rfl rfl ?_;clear H;intro a H;exact fin H iJ rfl
    · refine dL 15 70 10 65 rfl rfl fun _ a w G1 hG HT H fin=>?_;refine Nj _ H (wg H rfl rfl (aI c1)) rfl rfl rfl (by omega) (by omega) rfl ?_;clear H;intro a H;exact fin H iJ rfl
    · refine wU 11 66 16 71 10 65 rfl rfl fun _ a w G1 hG HT H fin=>?_;refine fB WV (Li:=[]) (L:=fT b s i p (.slice A lit.length c) (.slice B parts.length d) pl e :: Lt) H (wg H rfl rfl (aI c1)) rfl (Wx _ Lt _ b s i p _ _ pl e (i+2) (by omega) (Hp.owns (Li:=[]) H.hp)) rfl ?_;clear H;rintro v72 G72 L72 a w ⟨rfl,rfl,rfl⟩ ahU H;dsimp only [List.nil_append] at H;exact fin H ahU (rfl)
    clear H;intro a w G IU H hv;have H:=H.aO (hv 19 54 rfl rfl) rfl;clear hv;refine t0 1 H ?_;clear H;refine goC 0 ?_ ?_
    · intro zC
      try have p54:=dT zC
      have hd2:=Ww zC;refine ak 1 ?_;intro a H;refine dI hmx [[],[],[1],[1,2],[1,2,3],[],[5],[5,6],[5,6,7],(ra 5 4),(ra 1 9),(ra 0 11)] [11] (by kernel_rfl) [_,_,_,_,.string s,_,_,_,vi i,_,.int .u8 (fG s (i+2))] H (aC (Z0 rfl (Rm rfl)) (Z0 rfl (Rm rfl)) (Z1 1 75 rfl (Rk rfl)) (Z1 2 76 rfl (Rf zo rfl)) (aC (Z1 3 77 rfl (Ro lN 0 rfl)) (Z0 rfl (Rm rfl)) (Z1 5 79 rfl (Rk rfl)) (Z1 6 80 rfl (Rf vY rfl)) (aC (Z1 7 81 rfl (Ro bH 0 rfl)) (Z1 8 82 rfl (Rd rfl)) ?_ (bP rfl) dw))) ?_
      · refine dL 4 78 9 83 rfl rfl fun _ a w G1 hG HT H fin=>?_;refine nW (i+2) iV H wn rfl rfl rfl hd2.1 rfl ?_;clear H;intro a H;rw [← jQ] at H;exact fin H iJ rfl
      clear H;intro a w G nL H hv;have H:=H.aO (hv 0 74 rfl rfl) rfl;have H:=H.aO (hv 10 84 rfl rfl) rfl;clear hv;refine fB WW (Li:=[]) (L:=fT b s i p (.slice A lit.length c) (.slice B parts.length d) pl e :: Lt) H wn rfl (by subst og;exact Z8 _ Lp Lo _ b s i p _ _ pl e lit parts (fG s (i+2)) true hR (Hp.owns (Li:=[]) H.hp) (by omega) (by omega) hd2.2 (by omega)) rfl ?_;clear H;rintro v85 G85 L85 a w ⟨p46,apo,q46,Hr,Hq,rfl,AV⟩ aqJ H;dsimp only [List.nil_append] at H;obtain ⟨A46,c46,rfl,-,-⟩:=AV.buf.shape;obtain ⟨B46,d46,rfl,-,-⟩:=AV.prt.shape;refine aG ⟨rfl,?_⟩;refine dG ?_;refine eB 8 H ?_;clear H;intro a H;refine aV bH 0 (vs:=[_]) _ H wn rfl rfl rfl rfl rfl rfl rfl rfl ?_;clear H;intro w H;dsimp only [List.set,setRow] at H;refine aG ?_;refine (leave0 H results234 ?_).2
      have vB:¬ qw (s.extract i s.size) ⟨#[37,37]⟩=true:=by simp [h5]
      have vw:¬ sJ s (i+1)=true:=by simp [h27]
      first
        | exact H.hp.cZ ⟨_,_,_,Hr,Hq,by rw [nS,ah vB,ah vw,ay ⟨c1,zC⟩];rfl,by rw [nS,ah vB,ah vw,ay ⟨c1,zC⟩];exact AV⟩
        | (have CB:¬ (qw (s.extract i s.size) ⟨#[37,100]⟩=true∧sJ s (i+2)=true):=by simp_all
           exact H.hp.cZ ⟨_,_,_,Lp,Lo,by rw [nS,ah vB,ah vw,ah CB,og],by rw [nS,ah vB,ah vw,ah CB];exact hR⟩)
    intro zC
    try have p54:=dF zC
    refine ak 4 ?_;intro a H;refine aV gF 0 (vs:=[_]) _ H wn rfl rfl rfl rfl rfl rfl rfl rfl ?_;clear H;intro w H;dsimp only [List.set,setRow] at H;refine aG ?_;refine (leave0 H results234 ?_).2
    have vB:¬ qw (s.extract i s.size) ⟨#[37,37]⟩=true:=by simp [h5]
    have vw:¬ sJ s (i+1)=true:=by simp [h27]
    first
      | exact H.hp.cZ ⟨_,_,_,Hr,Hq,by rw [nS,ah vB,ah vw,ay ⟨c1,zC⟩];rfl,by rw [nS,ah vB,ah vw,ay ⟨c1,zC⟩];exact AV⟩
      | (have CB:¬ (qw (s.extract i s.size) ⟨#[37,100]⟩=true∧sJ s (i+2)=true):=by simp_all
         exact H.hp.cZ ⟨_,_,_,Lp,Lo,by rw [nS,ah vB,ah vw,ah CB,og],by rw [nS,ah vB,ah vw,ah CB];exact hR⟩)
  refine dI hmx [[],[0],[0,1],[0,1,2],[],[4],[4,5],[4,5,6],(ra 0 8),(ra 0 9),(ra 0 10),(ra 0 11),(ra 0 11),(ra 0 11++[12]),(ra 0 11++[12,13]),(ra 0 11++[12,13,14]),(ra 0 11++ra 12 4),(ra 0 17),(ra 0 18),(ra 0 19)] [] (by kernel_rfl) [_,_,_,.string s,_,_,_,vi i,.string (s.extract i s.size),.bool (qw (s.extract i s.size) ⟨#[37,100]⟩),.bool (decide (qw (s.extract i s.size) ⟨#[37,100]⟩=true)),undef,undef,undef,undef,undef,undef,undef,_,_] H (aC (Z0 rfl (Rm rfl)) (Z1 0 55 rfl (Rk rfl)) (Z1 1 56 rfl (Rf zo rfl)) (Z1 2 57 rfl (Ro lN 0 rfl)) (aC (Z0 rfl (Rm rfl)) (Z1 4 59 rfl (Rk rfl)) (Z1 5 60 rfl (Rf vY rfl)) (Z1 6 61 rfl (Ro bH 0 rfl)) (aC ?_ ?_ ?_ (aQ 10 (aY c1) rfl rfl) (aC (aQ 10 (aY c1) rfl rfl) (aQ 10 (aY c1) rfl rfl) (aQ 10 (aY c1) rfl rfl) (aQ 10 (aY c1) rfl rfl) (aC (aQ 10 (aY c1) rfl rfl) (aQ 10 (aY c1) rfl rfl) (Z2 10 65 17 72 rfl (Pf (aY c1) rfl)) (Z1 18 73 rfl (Ra rfl)) dw))))) ?_
  · refine dL 3 58 7 62 rfl rfl fun _ a w G1 hG HT H fin=>?_;refine TS i iV H wn rfl rfl rfl (by omega) rfl ?_;clear H;intro a H;exact fin H iJ rfl
  · refine dJ 8 63 rfl rfl fun _ a w G1 hG HT H fin=>?_;refine s_call PK H wn rfl (QS _ _ H.ro _ _ hex (by decide)) rfl ?_;clear H;rintro v64 G64 a w ⟨rfl,rfl⟩ QF H;exact fin H QF (rfl)
  · refine dJ 9 64 rfl rfl fun _ a w G1 hG HT H fin=>?_;refine aH 1 H ?_;clear H;intro a H;exact fin H iJ (by show _=_;simp)
  clear H;intro a w G IU H hv;have H:=H.aO (hv 19 54 rfl rfl) rfl;clear hv;refine t0 6 H ?_;clear H;intro a H;refine aV gF 0 (vs:=[_]) _ H wn rfl rfl rfl rfl rfl rfl rfl rfl ?_;clear H;intro w H;dsimp only [List.set,setRow] at H;refine aG ?_;refine (leave0 H results234 ?_).2
  have vB:¬ qw (s.extract i s.size) ⟨#[37,37]⟩=true:=by simp [h5]
  have vw:¬ sJ s (i+1)=true:=by simp [h27]
  first
    | exact H.hp.cZ ⟨_,_,_,Hr,Hq,by rw [nS,ah vB,ah vw,ay ⟨c1,zC⟩];rfl,by rw [nS,ah vB,ah vw,ay ⟨c1,zC⟩];exact AV⟩
    | (have CB:¬ (qw (s.extract i s.size) ⟨#[37,100]⟩=true∧sJ s (i+2)=true):=by simp_all
       exact H.hp.cZ ⟨_,_,_,Lp,Lo,by rw [nS,ah vB,ah vw,ah CB,og],by rw [nS,ah vB,ah vw,ah CB];exact hR⟩)
end
section
open Go.RowKit
theorem afX:∀ args w,(callFunc 234 args).run prog w=.ok (.enter 234 args) w:=enters func234 rfl (by kernel_rfl)
def Kj (s:ByteArray) (i:Nat):UInt8:=if h:i < s.size then s[i] else 0
theorem acE (s:ByteArray) (i:Nat):fG s i=((Kj s i).toNat:Int):=by
 unfold fG Kj;split <;> rfl
def ny (s:ByteArray) (x:sD):sD:=if fG s x.i=37 then nS s x else ⟨x.i+1,x.lit++[Kj s x.i],x.parts,x.pl,x.e⟩
def Bq (s:ByteArray):Nat→sD→sD
 | 0,x=>x
 | f+1,x=>if x.i < s.size∧x.e=0 then Bq s f (ny s x) else x
def mS (s:ByteArray) (x:sD):Nat:=if x.e=0 then s.size - x.i else 0
theorem aaC {s:ByteArray} {f:Nat} {x:sD} (h:¬ (x.i < s.size∧x.e=0)):Bq s f x=x:=by
 cases f with
 | zero=>rfl
 | succ f=>rw [Bq,ah h]
theorem ahy (lit:List UInt8) (parts:List iC):(sM lit parts).length≤parts.length+1:=by unfold sM;split <;> simp
theorem aaR (s:ByteArray) (x:sD) (h:x.i < s.size∧x.e=0) (h1:x.lit.length≤x.i) (h2:x.parts.length≤2*x.i) (h3:x.pl≤x.i) :
  (ny s x).i≤x.i+3∧(ny s x).lit.length≤(ny s x).i∧(ny s x).parts.length≤2*(ny s x).i∧(ny s x).pl≤(ny s x).i∧mS s (ny s x) < mS s x∧mS s x≤s.size:=by
 have hf:=ahy x.lit x.parts;have hm:mS s x=s.size - x.i:=ay h.2
 unfold ny nS
 split
 ·split
  ·refine ⟨?_,?_,?_,?_,?_,?_⟩ <;> simp only [mS,jH,kG,List.length_nil] at*<;> simp only [h.2,if_true] at*<;> omega
  split
  ·refine ⟨?_,?_,?_,?_,?_,?_⟩ <;> simp only [mS,jH,kG,List.length_nil] at*<;> simp only [h.2,if_true] at*<;> omega
  split
  ·refine ⟨?_,?_,?_,?_,?_,?_⟩ <;> simp only [mS,jH,kG,List.length_nil] at*<;> simp only [h.2,if_true] at*<;> omega
  refine ⟨?_,?_,?_,?_,?_,?_⟩ <;> simp only [mS,jH,kG,List.length_nil] at*<;> simp only [h.2,if_true] at*<;> (try omega) <;> (simp;omega)
 refine ⟨?_,?_,?_,?_,?_,?_⟩ <;> simp only [mS,jH,kG,List.length_nil] at*<;> simp only [h.2,if_true] at*<;> omega
def zX:sD:=⟨0,[],[],0,0⟩
def jF (s:ByteArray):sD:=Bq s s.size zX
def rV (x:sD):Int:=if x.e=0∧9 < (x.pl:Int) then 9 else x.e
theorem anT (G:GH) (J5 J4:OL) (w0:World) (b:Nat) (s:ByteArray) (p0 v0 q0:aj) (hR:ze b [] [] p0 v0 q0 J5 J4) (hO:fC G (vH b s zX p0 v0 q0 :: (J5++J4)) w0) (hs:s.size≤1073741824) :
  Calls prog 225 #[(aD b 0)] w0 (eP w0 G (vH b s zX p0 v0 q0 :: (J5++J4)) fun u G' L'=>∃ p' v' q' pJ iX,L'=fT b s (jF s).i p' v' q' (jF s).pl (rV (jF s)) :: (pJ++iX)∧ze b [] (sM (jF s).lit (jF s).parts) p' v' q' pJ iX):=by
 obtain ⟨A0,c0,rfl,-,-⟩:=hR.buf.shape;obtain ⟨B0,d0,rfl,-,-⟩:=hR.prt.shape;refine gB (N:=68) (T:=[(0,_)]) func225 rfl ntmps225 rfl rfl hO ?_;intro a H;refine uO (fun _ K1=>?_);refine Km ?_;skip;refine eO (ι:=Nat × sD × aj × Option Addr × Nat × Option Addr × Nat × OL × OL × GH) (Tc:=[(0,_)]) (Lc:=[]) (fun gh=>[]) (fun gh=>[vH b s gh.2.1 gh.2.2.1 (.slice gh.2.2.2.1 gh.2.1.lit.length gh.2.2.2.2.1) (.slice gh.2.2.2.2.2.1 gh.2.1.parts.length gh.2.2.2.2.2.2.1)]++(gh.2.2.2.2.2.2.2.1++gh.2.2.2.2.2.2.2.2.1)) (fun gh=>gh.2.2.2.2.2.2.2.2.2) (fun gh=>ze b gh.2.1.lit gh.2.1.parts gh.2.2.1 (.slice gh.2.2.2.1 gh.2.1.lit.length gh.2.2.2.2.1) (.slice gh.2.2.2.2.2.1 gh.2.1.parts.length gh.2.2.2.2.2.2.1) gh.2.2.2.2.2.2.2.1 gh.2.2.2.2.2.2.2.2.1∧Bq s gh.1 gh.2.1=jF s∧mS s gh.2.1≤gh.1∧gh.1≤s.size∧gh.2.1.i≤s.size+3∧gh.2.1.lit.length≤gh.2.1.i∧gh.2.1.parts.length≤2*gh.2.1.i∧gh.2.1.pl≤gh.2.1.i) (fun gh=>gh.1) ((s.size,zX,p0,A0,c0,B0,d0,J5,J4,G)) (by exact (H).sub ⟨rfl,bB⟩) ?_ ?_
 ·exact ⟨hR,rfl,by simp [mS,zX],bN _,by simp [zX],by simp [zX],by simp [zX],by simp [zX]⟩
 clear H;rintro ⟨k,x,p,vA,vc,qA,qc,Lp,Lo,g⟩ a w hI H;dsimp only at hI H;obtain ⟨hR,hsc,hmk,hks,hxi,hx1,hx2,hx3⟩:=hI;dsimp only [lca,aR] at H;refine uO (fun _ K2=>?_);refine uO (fun _ K3=>?_)
 by_cases c0:(x.i:Int) < (s.size:Int)
 ·skip
  by_cases c1:x.e=0
  ·skip;refine dI hmx [[],[0],[0,1],[0,1,2],[],[4],[4,5],[4,5,6],(ra 4 4),(ra 0 9),(ra 0 10),(ra 0 11),(ra 0 12),(ra 0 13),(ra 0 14),(ra 0 15),(ra 0 16)] [] (by kernel_rfl) [_,_,_,vi x.i,_,_,_,.string s,_,_,_,_,(aD b 0),_,vi x.e,_,_] H (aC (Z0 rfl (Rm rfl)) (Z1 0 2 rfl (Rk rfl)) (Z1 1 3 rfl (Rf vY rfl)) (Z1 2 4 rfl (Ro bH 0 rfl)) (aC (Z0 rfl (Rm rfl)) (Z1 4 6 rfl (Rk rfl)) (Z1 5 7 rfl (Rf zo rfl)) (Z1 6 8 rfl (Ro lN 0 rfl)) (aC (Z1 7 9 rfl (Rv iV rfl)) (Z2 3 5 8 10 rfl (Rc rfl)) (Z1 9 11 rfl (Rm rfl)) (Z1 10 12 rfl (YM (aI c0) rfl)) (aC ?_ (Z2 12 14 10 12 rfl (YF DU (aI c0) rfl)) (Z2 13 15 10 12 rfl (YO gF 0 (aI c0) rfl)) (Z2 14 16 10 12 rfl (YC (aI c0) rfl)) (bL (Z2 10 12 15 17 rfl (Pt (aI c0) rfl)) dw))))) ?_
   ·refine dL 11 13 10 12 rfl rfl fun _ a w G1 hG HT H fin=>?_;refine rT H (wg H rfl rfl (aI c0)) rfl rfl ?_;clear H;intro a H;exact fin H iJ rfl
   clear H;intro a w G XG H hv;have H:=H.aO (hv 16 18 rfl rfl) rfl;clear hv;refine aG ⟨rfl,?_⟩;refine K3 _ _ ?_;clear K3;refine VR H rfl (aI c1) ?_;refine kP H (Kc K2 (SB (SQ fun _ K4=>SQ fun _ K5=>?_)));clear H K2;intro a H;refine dI hmx [[],[0],[0,1],[0,1,2],[],[4],[4,5],[4,5,6],(ra 0 8),(ra 0 9)] [] (by kernel_rfl) [_,_,_,.string s,_,_,_,vi x.i,.int .u8 (fG s x.i),_] H (aC (Z0 rfl (Rm rfl)) (Z1 0 19 rfl (Rk rfl)) (Z1 1 20 rfl (Rf zo rfl)) (Z1 2 21 rfl (Ro lN 0 rfl)) (aC (Z0 rfl (Rm rfl)) (Z1 4 23 rfl (Rk rfl)) (Z1 5 24 rfl (Rf vY rfl)) (Z1 6 25 rfl (Ro bH 0 rfl)) (bL ?_ (bL (Z1 8 27 rfl (Rc rfl)) dw)))) ?_
   ·refine dL 3 22 7 26 rfl rfl fun _ a w G1 hG HT H fin=>?_;refine nW x.i iV H wn rfl rfl rfl (by omega) rfl ?_;clear H;intro a H;rw [← jQ] at H;exact fin H iJ rfl
   clear H;intro a w G iH H hv;have H:=H.aO (hv 9 28 rfl rfl) rfl;clear hv;refine aG ⟨rfl,?_⟩;refine K5 _ _ ?_;clear K5;refine VQ H rfl ?_ ?_
   ·intro Cr
    try have p28:=dT Cr
    refine kP H (SQ fun _ K6=>SC (Rm rfl ?_));clear H;intro a H;refine fB afX (Li:=[]) (L:=vH b s x p (.slice vA x.lit.length vc) (.slice qA x.parts.length qc) :: (Lp++Lo)) H wn rfl (aml _ Lp Lo _ b s x p _ _ hR (Hp.owns (Li:=[]) H.hp) (by omega) (by omega) (by omega) (by omega) (by omega)) rfl ?_;clear H;rintro v30 Ai L30 a w ⟨p',v',q',pJ,iX,rfl,LD⟩ wz H;dsimp only [List.nil_append] at H;have hst:ny s x=nS s x:=ay p28;have hok:=aaR s x ⟨by omega,c1⟩ hx1 hx2 hx3
    have hkk:k=(k - 1)+1:=by omega
    have R4:Bq s (k - 1) (ny s x)=jF s:=by rw [hkk,Bq,ay ⟨by omega,c1⟩] at hsc;exact hsc
    rw [← hst] at H LD;obtain ⟨UW,VO,rfl,-,-⟩:=LD.buf.shape;obtain ⟨B30,d30,rfl,-,-⟩:=LD.prt.shape;refine aG ?_;refine K6 _ _ ?_;clear K6;refine wX ?_;refine dH ((k - 1,ny s x,p',UW,VO,B30,d30,pJ,iX,Ai)) (by exact (H).sub ⟨rfl,bB⟩) ?_ ?_
    ·(try dsimp only);exact ⟨LD,R4,by omega,by omega,by omega,by omega,by omega,by omega⟩
    first|omega|(dsimp only;omega)
   intro Cr
   try have p28:=dF Cr
   refine ji ?_;refine K4 _ _ ?_;clear K4;refine uO (fun _ K7=>?_);refine dI hmx [[],[0],[0,1],[],[3],[3,4],[3,4,5],[],[7],[7,8],[7,8,9],(ra 3 8),(ra 0 12)] [12] (by kernel_rfl) [_,_,_,_,_,_,.string s,_,_,_,vi x.i,.int .u8 (fG s x.i)] H (aC (Z0 rfl (Rm rfl)) (Z1 0 31 rfl (Rk rfl)) (Z1 1 32 rfl (Rf ahd rfl)) (Z0 rfl (Rm rfl)) (aC (Z1 3 34 rfl (Rk rfl)) (Z1 4 35 rfl (Rf zo rfl)) (Z1 5 36 rfl (Ro lN 0 rfl)) (Z0 rfl (Rm rfl)) (aC (Z1 7 38 rfl (Rk rfl)) (Z1 8 39 rfl (Rf vY rfl)) (Z1 9 40 rfl (Ro bH 0 rfl)) ?_ (bL (bP rfl) dw)))) ?_
   ·refine dL 6 37 10 41 rfl rfl fun _ a w G1 hG HT H fin=>?_;refine nW x.i iV H wn rfl rfl rfl (by omega) rfl ?_;clear H;intro a H;rw [← jQ] at H;exact fin H iJ rfl
   clear H;intro a w G ahN H hv;have H:=H.aO (hv 2 33 rfl rfl) rfl;have H:=H.aO (hv 11 42 rfl rfl) rfl;clear hv;refine fB WU (Li:=[]) (L:=vH b s x p (.slice vA x.lit.length vc) (.slice qA x.parts.length qc) :: (Lp++Lo)) H wn rfl (abz _ Lp Lo _ b s x.i p _ qA x.parts.length qc x.pl x.e x.lit.length _ (fG s x.i) hR.ptr (Hp.owns (Li:=[]) H.hp) hR.buf (by omega)) rfl ?_;clear H;rintro v43 _ L43 a w ⟨arl,Ol,rfl,Yy,rfl⟩ nN H;dsimp only [List.nil_append] at H;obtain ⟨N8,OQ,rfl,-,-⟩:=Yy.shape;have hst:ny s x=⟨x.i+1,x.lit++[Kj s x.i],x.parts,x.pl,x.e⟩:=ah p28;have hok:=aaR s x ⟨by omega,c1⟩ hx1 hx2 hx3
   have hkk:k=(k - 1)+1:=by omega
   have R4:Bq s (k - 1) (ny s x)=jF s:=by rw [hkk,Bq,ay ⟨by omega,c1⟩] at hsc;exact hsc
   have aij:ze b (ny s x).lit (ny s x).parts (aD b 2) (.slice N8 (ny s x).lit.length OQ) (.slice qA (ny s x).parts.length qc) Lp Ol:=by
    rw [hst];exact ⟨.inr rfl,by simpa [Lib.byteCells,acE] using Yy,hR.prt⟩
   refine aG ⟨rfl,?_⟩;refine K7 _ _ ?_;clear K7;refine kP H (SC (Rm rfl (Rk rfl (J7 vY bH 0 rfl rfl (Rd rfl (Rk rfl (Rf vY rfl ?_)))))));clear H;intro a H;refine aV bH 0 (vs:=[_]) _ H wn rfl rfl rfl rfl rfl rfl rfl rfl ?_;clear H;intro w H;dsimp only [List.set,setRow] at H;replace H:St _ _ _ _ _ _ (vH b s (ny s x) (aD b 2) (.slice N8 (ny s x).lit.length OQ) (.slice qA (ny s x).parts.length qc) :: (Lp++Ol)) _ _ _:=H.cast (by rw [hst];simp [vH,fT]);refine aG ?_;refine dH ((k - 1,ny s x,(aD b 2),N8,OQ,qA,qc,Lp,Ol,_)) (by exact (H).sub ⟨rfl,bB⟩) ?_ ?_
   ·(try dsimp only);exact ⟨aij,R4,by omega,by omega,by omega,by omega,by omega,by omega⟩
   first|omega|(dsimp only;omega)
  skip;refine dI hmx [[],[0],[0,1],[0,1,2],[],[4],[4,5],[4,5,6],(ra 4 4),(ra 0 9),(ra 0 10),(ra 0 11),(ra 0 12),(ra 0 13),(ra 0 14),(ra 0 15),(ra 0 16)] [] (by kernel_rfl) [_,_,_,vi x.i,_,_,_,.string s,_,_,_,_,(aD b 0),_,vi x.e,_,_] H (aC (Z0 rfl (Rm rfl)) (Z1 0 2 rfl (Rk rfl)) (Z1 1 3 rfl (Rf vY rfl)) (Z1 2 4 rfl (Ro bH 0 rfl)) (aC (Z0 rfl (Rm rfl)) (Z1 4 6 rfl (Rk rfl)) (Z1 5 7 rfl (Rf zo rfl)) (Z1 6 8 rfl (Ro lN 0 rfl)) (aC (Z1 7 9 rfl (Rv iV rfl)) (Z2 3 5 8 10 rfl (Rc rfl)) (Z1 9 11 rfl (Rm rfl)) (Z1 10 12 rfl (YM (aI c0) rfl)) (aC ?_ (Z2 12 14 10 12 rfl (YF DU (aI c0) rfl)) (Z2 13 15 10 12 rfl (YO gF 0 (aI c0) rfl)) (Z2 14 16 10 12 rfl (YC (aI c0) rfl)) (bL (Z2 10 12 15 17 rfl (Pt (aI c0) rfl)) dw))))) ?_
  ·refine dL 11 13 10 12 rfl rfl fun _ a w G1 hG HT H fin=>?_;refine rT H (wg H rfl rfl (aI c0)) rfl rfl ?_;clear H;intro a H;exact fin H iJ rfl
  clear H;intro a w G XG H hv;have H:=H.aO (hv 16 18 rfl rfl) rfl;clear hv;refine aG ⟨rfl,?_⟩;refine K3 _ _ ?_;clear K3;refine OT H rfl (aY c1) ?_;refine wX ?_;refine K1 _ _ ?_;clear K1;refine uO (fun _ K8=>?_)
  have Sd:x=jF s:=by
   rw [aaC (by first|exact fun h=>c0 (by omega)|exact fun h=>c1 h.2)] at hsc;exact hsc
  subst Sd;refine kP H (SC (Rm rfl ?_));clear H;intro a H;refine fB PI (Li:=[]) (L:=vH b s (jF s) p (.slice vA (jF s).lit.length vc) (.slice qA (jF s).parts.length qc) :: (Lp++Lo)) H wn rfl (Qo _ Lp Lo _ b s (jF s).i p _ _ (jF s).pl (jF s).e (jF s).lit (jF s).parts hR (Hp.owns (Li:=[]) H.hp) (by omega) (by omega)) rfl ?_;clear H;rintro v52 Oe L52 a w ⟨p52,apq,q52,acd,abW,rfl,qK⟩ RF H;dsimp only [List.nil_append] at H;obtain ⟨A52,c52,rfl,-,-⟩:=qK.buf.shape;obtain ⟨B52,d52,rfl,-,-⟩:=qK.prt.shape;refine kH H (Kn K8 (SQ fun _ K9=>SC (Rm rfl (Rk rfl (J7 DU gF 0 rfl rfl (Rc rfl (Rm rfl (Sp 58 rfl ?_ ?_)))))))) <;> clear H K8
  ·intro mg a H
   try have p58:=dT mg
   refine kH H (YM mg rfl ?_);clear H;intro a H;refine rT H (wg H rfl rfl mg) rfl rfl ?_;clear H;intro a H;refine kH H (YF Xm mg rfl (YO bH 0 mg rfl (YC mg rfl (Pt mg rfl (Kn K9 (Cd rfl ?_ ?_)))))) <;> clear H K9
   ·intro h64 a H
    try have p64:=dT h64
    refine kP H (SC (Rm rfl (Rk rfl (Rf DU rfl ?_))));clear H;intro a H;refine aV gF 0 (vs:=[_]) _ H wn rfl rfl rfl rfl rfl rfl rfl rfl ?_;clear H;intro w H;dsimp only [List.set,setRow] at H;refine aG ?_;refine (leave0 H results225 ?_).2
    first
     | exact H.hp.cZ ⟨_,_,_,_,_,by rw [rV,ay ⟨by assumption,by assumption⟩],qK⟩
     | exact H.hp.cZ ⟨_,_,_,_,_,by rw [rV,ah (by first|exact fun h=>p58 h.1|exact fun h=>p64 h.2)],qK⟩
   intro h64 a H
   try have p64:=dF h64
   refine ji ?_;refine (leave0 H results225 ?_).2
   first
    | exact H.hp.cZ ⟨_,_,_,_,_,by rw [rV,ay ⟨by assumption,by assumption⟩],qK⟩
    | exact H.hp.cZ ⟨_,_,_,_,_,by rw [rV,ah (by first|exact fun h=>p58 h.1|exact fun h=>p64 h.2)],qK⟩
  intro mg a H
  try have p58:=dF mg
  refine kH H (yZ mg rfl (BP mg rfl (Pf mg rfl (Kn K9 (Cf rfl rfl ?_)))));clear H K9;intro a H;refine ji ?_;refine (leave0 H results225 ?_).2
  first
   | exact H.hp.cZ ⟨_,_,_,_,_,by rw [rV,ay ⟨by assumption,by assumption⟩],qK⟩
   | exact H.hp.cZ ⟨_,_,_,_,_,by rw [rV,ah (by first|exact fun h=>p58 h.1|exact fun h=>p64 h.2)],qK⟩
 skip;refine dI hmx [[],[0],[0,1],[0,1,2],[],[4],[4,5],[4,5,6],(ra 4 4),(ra 0 9),(ra 0 10),(ra 0 11),(ra 0 12),(ra 0 13),(ra 0 14),(ra 0 15),(ra 0 16)] [] (by kernel_rfl) [_,_,_,vi x.i,_,_,_,.string s,_,_,_,undef,undef,undef,undef,undef,_] H (aC (Z0 rfl (Rm rfl)) (Z1 0 2 rfl (Rk rfl)) (Z1 1 3 rfl (Rf vY rfl)) (Z1 2 4 rfl (Ro bH 0 rfl)) (aC (Z0 rfl (Rm rfl)) (Z1 4 6 rfl (Rk rfl)) (Z1 5 7 rfl (Rf zo rfl)) (Z1 6 8 rfl (Ro lN 0 rfl)) (aC (Z1 7 9 rfl (Rv iV rfl)) (Z2 3 5 8 10 rfl (Rc rfl)) (Z1 9 11 rfl (Rm rfl)) (aQ 10 (aY c0) rfl rfl) (aC (aQ 10 (aY c0) rfl rfl) (aQ 10 (aY c0) rfl rfl) (aQ 10 (aY c0) rfl rfl) (aQ 10 (aY c0) rfl rfl) (bL (Z2 10 12 15 17 rfl (Pf (aY c0) rfl)) dw))))) ?_
 clear H;intro a w G XG H hv;have H:=H.aO (hv 16 18 rfl rfl) rfl;clear hv;refine aG ⟨rfl,?_⟩;refine K3 _ _ ?_;clear K3;refine OT H rfl rfl ?_;refine wX ?_;refine K1 _ _ ?_;clear K1;refine uO (fun _ xW=>?_)
 have Sd:x=jF s:=by
  rw [aaC (by first|exact fun h=>c0 (by omega)|exact fun h=>c1 h.2)] at hsc;exact hsc
 subst Sd;refine kP H (SC (Rm rfl ?_));clear H;intro a H;refine fB PI (Li:=[]) (L:=vH b s (jF s) p (.slice vA (jF s).lit.length vc) (.slice qA (jF s).parts.length qc) :: (Lp++Lo)) H wn rfl (Qo _ Lp Lo _ b s (jF s).i p _ _ (jF s).pl (jF s).e (jF s).lit (jF s).parts hR (Hp.owns (Li:=[]) H.hp) (by omega) (by omega)) rfl ?_;clear H;rintro v52 Oe L52 a w ⟨p52,apq,q52,acd,abW,rfl,qK⟩ RF H;dsimp only [List.nil_append] at H;obtain ⟨A52,c52,rfl,-,-⟩:=qK.buf.shape;obtain ⟨B52,d52,rfl,-,-⟩:=qK.prt.shape;refine kH H (Kn xW (SQ fun _ sj=>SC (Rm rfl (Rk rfl (J7 DU gF 0 rfl rfl (Rc rfl (Rm rfl (Sp 58 rfl ?_ ?_)))))))) <;> clear H xW
 ·intro mg a H
  try have p58:=dT mg
  refine kH H (YM mg rfl ?_);clear H;intro a H;refine rT H (wg H rfl rfl mg) rfl rfl ?_;clear H;intro a H;refine kH H (YF Xm mg rfl (YO bH 0 mg rfl (YC mg rfl (Pt mg rfl (Kn sj (Cd rfl ?_ ?_)))))) <;> clear H sj
  ·intro h64 a H
   try have p64:=dT h64
   refine kP H (SC (Rm rfl (Rk rfl (Rf DU rfl ?_))));clear H;intro a H;refine aV gF 0 (vs:=[_]) _ H wn rfl rfl rfl rfl rfl rfl rfl rfl ?_;clear H;intro w H;dsimp only [List.set,setRow] at H;refine aG ?_;refine (leave0 H results225 ?_).2
   first
    | exact H.hp.cZ ⟨_,_,_,_,_,by rw [rV,ay ⟨by assumption,by assumption⟩],qK⟩
    | exact H.hp.cZ ⟨_,_,_,_,_,by rw [rV,ah (by first|exact fun h=>p58 h.1|exact fun h=>p64 h.2)],qK⟩
  intro h64 a H
  try have p64:=dF h64
  refine ji ?_;refine (leave0 H results225 ?_).2
  first
   | exact H.hp.cZ ⟨_,_,_,_,_,by rw [rV,ay ⟨by assumption,by assumption⟩],qK⟩
   | exact H.hp.cZ ⟨_,_,_,_,_,by rw [rV,ah (by first|exact fun h=>p58 h.1|exact fun h=>p64 h.2)],qK⟩
 intro mg a H
 try have p58:=dF mg
 refine kH H (yZ mg rfl (BP mg rfl (Pf mg rfl (Kn sj (Cf rfl rfl ?_)))));clear H sj;intro a H;refine ji ?_;refine (leave0 H results225 ?_).2
 first
  | exact H.hp.cZ ⟨_,_,_,_,_,by rw [rV,ay ⟨by assumption,by assumption⟩],qK⟩
  | exact H.hp.cZ ⟨_,_,_,_,_,by rw [rV,ah (by first|exact fun h=>p58 h.1|exact fun h=>p64 h.2)],qK⟩
end
section
open Go.RowKit
def yV (c:Int):List Dat:=[.lf (.int .u8 c)]
theorem aaW {G:GH} {c:Int} {cs:List aj} (h:aN G (yV c) cs):cs=[.int .u8 c]:=by
 simp only [yV,aN,av] at h
 obtain ⟨_,_,rfl,⟨rfl,_⟩,rfl⟩:=h
 rfl
def Fh (s:ByteArray):List Int:=s.data.toList.map fun b=>(b.toNat:Int)
theorem acO (G:GH) (l:List Int):bE G 1 (l.map yV) (l.map fun c=>Value.int .u8 c):=by
 refine ⟨l.map fun c=>[.int .u8 c],by induction l with|nil=>rfl|cons x r ih=>simp [ih],by simp,fun j r cs hr hc=>?_⟩
 rw [nE] at hr hc
 obtain ⟨x,hx,rfl⟩:=mV.1 hr
 rw [hx] at hc
 cases hc
 exact ⟨by simp only [yV,aN];exact ⟨_,_,rfl,by simp [av,Value.oneCell'],rfl⟩,rfl⟩
theorem amN {G:GH} {sz b o n cap:Nat} {cur:Array aj} {e:TypeId} {fz:Nat × Nat} {rows:List (List Dat)} (hb:G b=some (.cells cur e fz)) (h:av (fun k=>if k=b then some (.cells cur e (0,0)) else G k) (.sl sz rows) (.slice (some ⟨b,o,none⟩) n cap)) (hr:∀ r∈rows,∃ c,r=yV c):av G (.sl sz rows) (.slice (some ⟨b,o,none⟩) n cap):=by
 simp only [av] at h ⊢
 obtain ⟨A,c,h1,h2,h3,h4⟩:=h
 refine ⟨A,c,h1,h2,h3,fun hn=>?_⟩
 obtain ⟨b',o',e',hrr⟩:=h4 hn
 injection h1 with e1
 subst e1
 injection e' with e2
 injection e2 with e3 e4
 subst e3;subst e4
 refine ⟨_,_,rfl,kS.mk fun k r hk=>?_⟩
 obtain ⟨cs,g1,g2,g3⟩:=hrr.get hk
 refine ⟨cs,g1,fun j u hj=>?_,?_⟩
 ·have:=g2 j u hj
  unfold aF at this ⊢
  simp only [if_true] at this
  rw [hb];exact this
 ·obtain ⟨c,rfl⟩:=hr r (kr hk)
  have:=aaW g3
  subst this
  simp only [yV,aN];exact ⟨_,_,rfl,by simp [av,Value.oneCell'],rfl⟩
section
variable {N:Nat} {D:List Deferred} {w0:World} {F:Nat→Prop} {G0 G:GH} {L:OL} {T:List (Nat × aj)}
variable {r:Option Nat} {P:Program} {ops:Array Oper} {Q:Exit→Act→World→Prop} {rest:List Oper} {a:Act} {w:World}
variable {d:Nat} {ty:TypeId} {pos:String} {aK:Array Edge} {g:Option (Nat × Bool)}
theorem aph {w:World} {b o n:Nat} {c:Array aj} {e:TypeId} {fz:Nat × Nat} (h:w.heap[b]?=some (.cells c e fz)) (hn:n≠0):∃ DW,uE b (.cells c e DW) w (w.freeze ⟨b,o,none⟩ n):=by
 unfold World.freeze
 rw [ah hn]
 refine ⟨if fz.1 == fz.2 then (o,o+n) else (min fz.1 o,max fz.2 (o+n)),rfl,rfl,rfl,by simp,?_,fun k hk=>?_⟩
 ·simp [Array.getElem?_modify,h]
 ·simp [Array.getElem?_modify,Ne.symm hk]
theorem ani {t u e:TypeId} {x:Operand} {s:ByteArray} (ht:P.underlying t=some .string) (hu:P.underlying u=some (.slice e)) (he:P.underlying e=some (.int .u8)) (H:St N D w0 F G0 G L T a w) (hw:Region.wanted ⟨some d,.convert t u x,ty,pos,aK,g⟩ (yielded ops a.tmps)=true) (hx:ev T x=some (.string s)) (hz:s.size≤4294967296) (hd:Nat.blt d N=true)
  (k:∀ v G' a' w',(∀ k o,G k=some o→G' k=some o)→av G' (.sl 1 ((Fh s).map yV)) v→St N D w0 F G0 G' L ((d,v) :: T) a' w'→WL r P ops Q rest a' w'):WL r P ops Q (⟨some d,.convert t u x,ty,pos,aK,g⟩ :: rest) a w:=by
 have hc:=Lib.run_convert_string_bytes (P:=P) w t u e s ht hu he
 have hge:=grownCap_ge w s.size 0 e
 have hml:s.size≤maxLen:=by
  have:maxLen=9223372036854775807:=rfl
  omega
 have hgm:=grownCap_le_maxLen w s.size 0 e hml
 have H1:=H.hp.drew.alloc (.cells (Lib.bytesCells w e s) e)
 have hw1:(w.drew.alloc (.cells (Lib.bytesCells w e s) e)).heap[w.drew.heap.size]?=some (.cells (Lib.bytesCells w e s) e (0,0)):=H1.own _ fH
 obtain ⟨fz,hu2⟩:=aph (o:=(Lib.bytesCells w e s).size) (n:=1) hw1 (by decide)
 have H2:=H1.upd (i:=0) rfl hu2
 have H3:St N D w0 F G0 G ((w.heap.size,.cells (Lib.bytesCells w e s) e fz) :: L) ((d,.slice (some ⟨w.heap.size,0,none⟩) s.size (grownCap w s.size 0 e)) :: T) (a.put (some d) (.slice (some ⟨w.heap.size,0,none⟩) s.size (grownCap w s.size 0 e))) (Lib.bytesWorld w e s):=H.put hd _ H2
 obtain ⟨G',hm,hb,H4⟩:=H3.dP
 have hlen:(Fh s).length=s.size:=by rw [Fh,bO,sG];rfl
 have hrep:av G' (.sl 1 ((Fh s).map yV)) (.slice (some ⟨w.heap.size,0,none⟩) s.size (grownCap w s.size 0 e)):=by
  refine amN hb ?_ (fun r hr=>by obtain ⟨c,-,rfl⟩:=List.mem_map.1 hr;exact ⟨c,rfl⟩)
  refine av.dZ (cur:=Lib.bytesCells w e s) (e:=e) (n:=s.size) (cap:=grownCap w s.size 0 e) (by simp) (by rw [bO,hlen]) hge hgm ?_ (acO _ _)
  rw [Lib.bytesCells,Array.toList_append,Nat.mul_one,List.take_left' (by rw [Array.toList_map,bO,sG];rfl)]
  simp [Fh]
 have k2:=k _ _ _ _ hm hrep H4
 refine fq (v:=.slice (some ⟨w.heap.size,0,none⟩) s.size (grownCap w s.size 0 e)) (w':=Lib.bytesWorld w e s) hw rfl ?_ k2
 simp only [execOp,H.ev hx,dM,hc,lg,qE]
theorem anq {t yt:TypeId} {x y:Operand} {p q:ByteArray} (H:St N D w0 F G0 G L T a w) (hw:Region.wanted ⟨some d,.binOp .lss t x y yt,ty,pos,aK,g⟩ (yielded ops a.tmps)=true) (hx:ev T x=some (.string p)) (hy:ev T y=some (.string q)) (hd:Nat.blt d N=true)
  (k:∀ a',St N D w0 F G0 G L ((d,.bool (Op.bytesLess p.toList q.toList)) :: T) a' w→WL r P ops Q rest a' w):WL r P ops Q (⟨some d,.binOp .lss t x y yt,ty,pos,aK,g⟩ :: rest) a w:=by
 refine fq (v:=.bool (Op.bytesLess p.toList q.toList)) (w':=w) hw rfl ?_ (k _ (H.put hd _ H.hp))
 simp [execOp,H.ev hx,H.ev hy,dM,eqGuard,binOp,Op.stringOp]
end
end
section
open Go.RowKit
theorem afW:∀ args w,(callFunc 233 args).run prog w=.ok (.enter 233 args) w:=enters func233 rfl (by kernel_rfl)
theorem afS:∀ args w,(callFunc 225 args).run prog w=.ok (.enter 225 args) w:=enters func225 rfl (by kernel_rfl)
theorem afQ:∀ args w,(callFunc 223 args).run prog w=.ok (.enter 223 args) w:=enters func223 rfl (by kernel_rfl)
theorem aoC:ru prog 289 [(0,1),(1,1),(2,2),(4,1),(5,1),(6,1)] [.string ⟨#[]⟩,.int .i64 0,.pointer none,.slice none 0 0,.slice none 0 0,.int .i64 0,.int .i64 0]:=⟨by kernel_rfl,by kernel_rfl⟩
theorem afT:∀ args w,(callFunc 226 args).run prog w=.ok (.enter 226 args) w:=enters func226 rfl (by kernel_rfl)
instance:dB prog 258 1 1:=⟨by kernel_rfl⟩
theorem afE:∀ args w,(callFunc 199 args).run prog w=.ok (.enter 199 args) w:=enters func199 rfl (by kernel_rfl)
theorem afF:∀ args w,(callFunc 200 args).run prog w=.ok (.enter 200 args) w:=enters func200 rfl (by kernel_rfl)
theorem afR:∀ args w,(callFunc 224 args).run prog w=.ok (.enter 224 args) w:=enters func224 rfl (by kernel_rfl)
theorem afG:∀ args w,(callFunc 201 args).run prog w=.ok (.enter 201 args) w:=enters func201 rfl (by kernel_rfl)
def Ox (fv:aj) (G:GH) (c:Int) (b:Bool):Prop:=∀ (G1:GH) (w1:World),(∀ b o,G b=some o→G1 b=some o)→Hold G1 w1→qX prog fv [.int .u8 c] w1 (bD w1 G1 fun u G'=>u=.bool b)
theorem akB (G:GH) (w0:World) (hG:Hold G w0) (l:List Int) (p:Int→Bool) (v fv:aj) (hv:av G (.sl 1 (l.map yV)) v) (hf:∀ c∈l,Ox fv G c (p c)) :
  Calls prog 233 #[v,fv] w0 (bD w0 G fun u G'=>u=vi (lG (l.findIdx? p))):=by
 obtain ⟨A,c,rfl,hc1,hc2,hg⟩:=hv.slice;have hml:maxLen=9223372036854775807:=rfl;rw [bO] at *;refine eN [(0,_),(1,_)] func233 rfl ntmps233 rfl rfl hG ?_;refine ak 10 ?_;intro a H;refine eO (ι:=Nat × GH) (Tc:=[(0,_),(1,_),(7,_)]) (Lc:=[]) (fun gh=>[(8,vi gh.1)]) (fun gh=>[]) (fun gh=>gh.2) (fun gh=>gh.1≤l.length∧(l.take gh.1).findIdx? p=none∧(∀ b o,G b=some o→gh.2 b=some o)) (fun gh=>l.length - gh.1) ((0,G)) sB ?_ ?_
 ·exact ⟨by omega,rfl,fun _ _ h=>h⟩
 clear H;rintro ⟨k,g⟩ a w hI H;dsimp only at hI H;obtain ⟨hk,hno,hgm⟩:=hI;dsimp only [lca,aR] at H;refine dN 4 H ?_ ?_ <;> clear H
 ·intro p9
  have hk2:k < l.length:=by omega
  obtain ⟨b,o,cs,rfl,hcl,hrow,hr⟩:=hg k (yV l[k]) (by simp [hk2]);obtain rfl:=aaW hr
  have hcell:aF G b (o+k*1)=some (.int .u8 l[k]):=by simpa using hrow 0 _ rfl
  refine ak 12 ?_;intro a H;refine kX Us H wn rfl (H.hp.aF (aJ hgm hcell)) rfl ?_;clear H;intro a H;refine nV H wn rfl rfl (hf _ (iF hk2) _ _ hgm H.ro) rfl ?_;clear H;rintro v16 uy a w rfl vv H;refine gX 1 H ?_ ?_ <;> clear H
  ·intro h16
   try have p16:=dT h16
   refine aP 4 ?_
   first
    | exact (by rw [tC hk2 hno h16];rfl)
    | exact (by rw [show l.take k=l from jh (by omega)] at hno;rw [hno];rfl)
  intro h16
  try have p16:=dF h16
  refine ak 4 ?_;intro a H;refine aG ?_;refine dH ((k+1,uy)) sB ?_ ?_
  ·(try dsimp only);exact ⟨by omega,CO hk2 hno h16,fun b o h=>vv b o (hgm b o h)⟩
  first|omega|(dsimp only;omega)
 intro p9
 refine aP 4 ?_
 first
  | exact (by rw [tC hk2 hno h16];rfl)
  | exact (by rw [show l.take k=l from jh (by omega)] at hno;rw [hno];rfl)
theorem Sv (o:Option Nat):decide (0≤lG o)=o.isSome:=by cases o <;> simp [lG]
theorem aeg (G:GH) (w0:World) (hG:Hold G w0) (l:List Int) (p:Int→Bool) (v fv:aj) (hv:av G (.sl 1 (l.map yV)) v) (hf:∀ c∈l,Ox fv G c (p c)) :
  Calls prog 223 #[v,fv] w0 (bD w0 G fun u G'=>u=.bool (l.findIdx? p).isSome):=by
 obtain ⟨A,c,rfl,hc1,hc2,-⟩:=hv.slice;rw [bO] at *;refine eN [(0,_),(1,_)] func223 rfl ntmps223 rfl rfl hG ?_;refine ak 6 ?_;intro a H;refine s_call afW H wn rfl (akB _ _ H.ro l p _ _ hv hf) rfl ?_;clear H;rintro v7 G7 a w rfl xu H;refine gH 3 H ?_;exact (dD (Sv _))
def Ik (c:Int):Bool:=decide (c < 32) || decide (c=127)
theorem aeh (G:GH) (c:Int):Ox (.func (.func 224) #[] #[]) G c (Ik c):=by
 intro G1 w0 hm hG;refine jq (caps:=[]) afR ?_;refine eN [(0,_)] func224 rfl ntmps224 rfl rfl hG ?_;refine kT 7 5 ?_ ?_
 ·intro p5
  refine aP 5 ?_;exact (dD (by unfold Ik;first|(simp_all;done)|(simp_all;omega)))
 intro p5
 refine aP 5 ?_;exact (dD (by unfold Ik;first|(simp_all;done)|(simp_all;omega)))
def wK (t:ByteArray):Int:=if 64 < t.size then 10 else if mR t=false then 12 else if ((Fh t).findIdx? Ik).isSome=true then 5 else rV (jF t)
def xJ (t:ByteArray):List iC:=if wK t=0 then sM (jF t).lit (jF t).parts else []
theorem ala (G:GH) (l:List iC):bE G 3 (l.map iC.dat) (CQ l):=by
 refine ⟨l.map iC.cells,rfl,by simp,fun j r cs hr hc=>?_⟩;rw [nE] at hr hc;obtain ⟨x,hx,rfl⟩:=mV.1 hr;rw [hx] at hc
 cases hc
 exact ⟨Zp G x,rfl⟩
theorem amk (G:GH) (w0:World) (hG:Hold G w0) (t:ByteArray) (ht:t.size < 4611686018427387904) :
  Calls prog 199 #[.string t] w0 (bD w0 G fun u G'=>∃ x,u=.tuple #[x,vi (wK t)]∧av G' (.sl 3 ((xJ t).map iC.dat)) x):=by
 refine eN [(0,_)] func199 rfl ntmps199 rfl rfl hG ?_;refine goB 12 ?_ ?_
 ·intro p5
  have he:wK t=10:=by rw [wK,ay (by omega)]
  refine ak 4 ?_;intro a H;refine bV ?_;refine (eU H results199 (.cons (aW H rfl) (.cons (aW H rfl) .nil)) ?_).1
  first
   | exact H.rt ⟨_,by rw [he0],by rw [xJ,ay he0];exact hrep⟩
   | exact H.rt ⟨_,by rw [he],by rw [xJ,ah (by rw [he];first|decide|assumption)];exact av.iT rfl (by decide)⟩
 intro p5
 refine ak 2 ?_;intro a H;refine s_call Ip H wn rfl (JG _ _ H.ro t ht) rfl ?_;clear H;rintro v11 _ a w ⟨rfl,rfl⟩ - H;refine gX 3 H ?_ ?_ <;> clear H
 ·intro h9
  try have p9:=dT h9
  have he:wK t=12:=by rw [wK,ah (by omega),ay (by simpa using h9)]
  refine ak 4 ?_;intro a H;refine bV ?_;refine (eU H results199 (.cons (aW H rfl) (.cons (aW H rfl) .nil)) ?_).1
  first
   | exact H.rt ⟨_,by rw [he0],by rw [xJ,ay he0];exact hrep⟩
   | exact H.rt ⟨_,by rw [he],by rw [xJ,ah (by rw [he];first|decide|assumption)];exact av.iT rfl (by decide)⟩
 intro h9
 try have p9:=dF h9
 refine ak 2 ?_;intro a H;refine ani iV JF EK H wn rfl (by omega) rfl ?_;clear H;intro v15 Af a w oh YH H;obtain ⟨A15,c15,rfl,-,-,-⟩:=YH.slice;refine s_call afQ H wn rfl (aeg _ _ H.ro _ Ik _ _ YH (fun c _=>aeh _ c)) rfl ?_;clear H;rintro v16 uy a w rfl vv H;refine gX 2 H ?_ ?_ <;> clear H
 ·intro mX
  try have oW:=dT mX
  have he:wK t=5:=by rw [wK,ah (by omega),ah (by simpa using h9),ay mX]
  refine ak 4 ?_;intro a H;refine bV ?_;refine (eU H results199 (.cons (aW H rfl) (.cons (aW H rfl) .nil)) ?_).1
  first
   | exact H.rt ⟨_,by rw [he0],by rw [xJ,ay he0];exact hrep⟩
   | exact H.rt ⟨_,by rw [he],by rw [xJ,ah (by rw [he];first|decide|assumption)];exact av.iT rfl (by decide)⟩
 intro mX
 try have oW:=dF mX
 refine ak 3 ?_;intro a H;refine jY aoC [_,_,_,_,_,_,_] H wn rfl rfl rfl rfl ?_;clear H;intro a H;refine dU (cs:=[_,_,_,_,_,_,_]) H wn rfl rfl rfl ?_;clear H;intro b19 a w aqk H;refine aH 5 H ?_;clear H;intro a H;refine fB afS (Li:=[]) (L:=[vH b19 t zX (.pointer none) (.slice none 0 0) (.slice none 0 0)]) H wn rfl (anT _ [] [] _ b19 t _ _ _ ⟨.inl rfl,bR.nil,bR.nil⟩ (Hp.owns (Li:=[]) H.hp) (by omega)) rfl ?_;clear H;rintro v21 Ob L21 a w ⟨p',v',q',pJ,iX,rfl,QM⟩ zG H;dsimp only [List.nil_append] at H;obtain ⟨A21,c21,rfl,-,-⟩:=QM.buf.shape;obtain ⟨B21,d21,rfl,-,-⟩:=QM.prt.shape;refine aG ?_;refine dG ?_
 have he:wK t=rV (jF t):=by rw [wK,ah (by omega),ah (by simpa using h9),ah (by simp [mX])]
 refine dN 7 H ?_ ?_ <;> clear H
 ·intro p26
  refine ak 1 ?_;intro a H;have H:=H.sub (T':=[(4,_)]) ⟨rfl,bB⟩;refine dI hmx [[],[0],[0,1],[0,1,2],[],(ra 0 5)] [] (by kernel_rfl) [_,_,_,vi (rV (jF t)),_,_] H (aC (Z0 rfl (Rm rfl)) (Z1 0 27 rfl (Rk rfl)) (Z1 1 28 rfl (Rf DU rfl)) (Z1 2 29 rfl (Ro gF 0 rfl)) (bL (Z0 rfl (Ra rfl)) (bL (Z1 3 30 rfl (Ra rfl)) dw))) ?_
  clear H;intro a w G oI H hv;have H:=H.aO (hv 4 2 rfl rfl) rfl;have H:=H.aO (hv 5 3 rfl rfl) rfl;clear hv;refine t0 1 H ?_;clear H;intro a H;refine bV ?_;refine (eU H results199 (.cons (aW H rfl) (.cons (aW H rfl) .nil)) ?_).1
  first
   | exact H.rt ⟨_,by rw [he0],by rw [xJ,ay he0];exact hrep⟩
   | exact H.rt ⟨_,by rw [he],by rw [xJ,ah (by rw [he];first|decide|assumption)];exact av.iT rfl (by decide)⟩
 intro p26
 refine ak 1 ?_
 have he0:wK t=0:=by rw [he];omega
 intro a H;have H:=(St.cast H (show _=[_]++(pJ++iX) from rfl)).perm (List.Perm.append_left _ rD);have H:=St.un H;obtain ⟨Gr,hmr,hrep,H⟩:=St.rG (Li:=[_]++iX) (Lo:=pJ) H QM.prt (rows:=(sM (jF t).lit (jF t).parts).map iC.dat) (by simp) (ala _ _);dsimp only [lca,aR] at H;refine eB 8 H ?_;clear H;intro a H;refine bV ?_;refine (eU H results199 (.cons (aW H rfl) (.cons (aW H rfl) .nil)) ?_).1
 first
  | exact H.rt ⟨_,by rw [he0],by rw [xJ,ay he0];exact hrep⟩
  | exact H.rt ⟨_,by rw [he],by rw [xJ,ah (by rw [he];first|decide|assumption)];exact av.iT rfl (by decide)⟩
structure lQ where
 fmt:Int
 start:Int
 yT:ByteArray
 restart:Int
def lQ.dat (x:lQ):List Dat:=[li x.fmt,li x.start,.lf (.string x.yT),li x.restart]
abbrev lQ.cells (x:lQ):List aj:=[vi x.fmt,vi x.start,.string x.yT,vi x.restart]
theorem alc {G:GH} {x:lQ} {cs:List aj} (h:aN G x.dat cs):cs=x.cells:=by
 simp only [lQ.dat,aN,av] at h
 obtain ⟨_,_,rfl,⟨rfl,_⟩,_,_,rfl,⟨rfl,_⟩,_,_,rfl,⟨rfl,_⟩,_,_,rfl,⟨rfl,_⟩,rfl⟩:=h
 rfl
theorem akz (G:GH) (w0:World) (hG:Hold G w0) (l:List iC) (p:iC→Bool) (v fv:aj) (hv:av G (.sl 3 (l.map iC.dat)) v) (hf:∀ x∈l,pO fv G x.dat (p x)) :
  Calls prog 226 #[v,fv] w0 (bD w0 G fun u G'=>u=vi (lG (l.findIdx? p))):=by
 obtain ⟨A,c,rfl,hc1,hc2,hg⟩:=hv.slice;have hml:maxLen=9223372036854775807:=rfl;rw [bO] at *;refine eN [(0,_),(1,_)] func226 rfl ntmps226 rfl rfl hG ?_;refine ak 10 ?_;intro a H;refine eO (ι:=Nat × GH) (Tc:=[(0,_),(1,_),(7,_)]) (Lc:=[]) (fun gh=>[(8,vi gh.1)]) (fun gh=>[]) (fun gh=>gh.2) (fun gh=>gh.1≤l.length∧(l.take gh.1).findIdx? p=none∧(∀ b o,G b=some o→gh.2 b=some o)) (fun gh=>l.length - gh.1) ((0,G)) sB ?_ ?_
 ·exact ⟨by omega,rfl,fun _ _ h=>h⟩
 clear H;rintro ⟨k,g⟩ a w hI H;dsimp only at hI H;obtain ⟨hk,hno,hgm⟩:=hI;dsimp only [lca,aR] at H;refine dN 4 H ?_ ?_ <;> clear H
 ·intro p9
  have hk2:k < l.length:=by omega
  obtain ⟨b,o,cs,rfl,hcl,hrow,hr⟩:=hg k l[k].dat (by simp [hk2]);obtain rfl:=Zo hr;refine ak 12 ?_;intro a H;refine bg JB (cs:=l[k].cells) H wn rfl rfl (fun j v hj=>H.hp.aF (aJ hgm (hrow j v hj))) rfl ?_;clear H;intro a H;refine nV H wn rfl rfl (hf _ (iF hk2) _ _ _ hgm H.ro (Zp _ l[k])) rfl ?_;clear H;rintro v16 uy a w rfl vv H;refine gX 1 H ?_ ?_ <;> clear H
  ·intro h16
   try have p16:=dT h16
   refine aP 4 ?_
   first
    | exact (by rw [tC hk2 hno h16];rfl)
    | exact (by rw [show l.take k=l from jh (by omega)] at hno;rw [hno];rfl)
  intro h16
  try have p16:=dF h16
  refine ak 4 ?_;intro a H;refine aG ?_;refine dH ((k+1,uy)) sB ?_ ?_
  ·(try dsimp only);exact ⟨by omega,CO hk2 hno h16,fun b o h=>vv b o (hgm b o h)⟩
  first|omega|(dsimp only;omega)
 intro p9
 refine aP 4 ?_
 first
  | exact (by rw [tC hk2 hno h16];rfl)
  | exact (by rw [show l.take k=l from jh (by omega)] at hno;rw [hno];rfl)
theorem aef (G:GH) (w0:World) (hG:Hold G w0) (l:List iC) (p:iC→Bool) (v fv:aj) (hv:av G (.sl 3 (l.map iC.dat)) v) (hf:∀ x∈l,pO fv G x.dat (p x)) :
  Calls prog 200 #[v,fv] w0 (bD w0 G fun u G'=>u=.bool (l.findIdx? p).isSome):=by
 obtain ⟨A,c,rfl,hc1,hc2,-⟩:=hv.slice;rw [bO] at *;refine eN [(0,_),(1,_)] func200 rfl ntmps200 rfl rfl hG ?_;refine ak 6 ?_;intro a H;refine s_call afT H wn rfl (akz _ _ H.ro l p _ _ hv hf) rfl ?_;clear H;rintro v7 G7 a w rfl xu H;refine gH 3 H ?_;exact (dD (Sv _))
theorem ald {G:GH} {bl:Nat} {k:Int} (hb:aF G bl 0=some (vi k)) (x:iC):pO (.func (.func 201) #[] #[(aD bl 0)]) G x.dat (decide (k < x.level)):=by
 intro G1 w0 cs hm hG hr;refine jq (caps:=[(aD bl 0)]) afG ?_;obtain rfl:=Zo hr;replace hb:=aJ hm hb;refine eN [(0,_),(1,_)] func201 rfl ntmps201 rfl rfl hG ?_;refine ak 1 ?_;intro a H;refine dU (cs:=[_,_,_]) H wn rfl rfl rfl ?_;clear H;intro b2 a w hb2 H;refine gH 9 H ?_;exact rfl
def zO (t:ByteArray) (k:Int):Int:=if k < 1∨9 < k then 2 else if wK t=0∧((xJ t).findIdx? fun x=>decide (k < x.level)).isSome=true then 6 else wK t
theorem alb (G:GH) (w0:World) (hG:Hold G w0) (t:ByteArray) (k:Int) (ht:t.size < 4611686018427387904) :
  Calls prog 156 #[.string t,vi k] w0 (bD w0 G fun u G'=>u=vi (zO t k)):=by
 refine eN [(0,_),(1,_)] func156 rfl ntmps156 rfl rfl hG ?_;refine ak 1 ?_;intro a H;refine dU (cs:=[_]) H wn rfl rfl rfl ?_;clear H;intro b3 a w hb3 H;refine rJ 7 9 H ?_ ?_ <;> clear H
 ·intro p9
  refine aP 8 ?_;exact (aB vi (by unfold zO;(repeat' split) <;> first|rfl|(exfalso;simp_all;done)|(exfalso;simp_all;omega)|(simp_all;done)))
 intro p9
 refine goB 4 ?_ ?_
 ·intro nu
  refine aP 3 ?_;exact (aB vi (by unfold zO;(repeat' split) <;> first|rfl|(exfalso;simp_all;done)|(exfalso;simp_all;omega)|(simp_all;done)))
 intro nu
 refine ak 1 ?_;intro a H;obtain ⟨Ga,hma,AY,H⟩:=H.dP
 have hbk:aF Ga b3 0=some (vi k):=by unfold aF;rw [AY];rfl
 refine eB 2 H ?_;clear H;intro a H;refine s_call afE H wn rfl (amk _ _ H.ro t ht) rfl ?_;clear H;rintro v15 Af a w ⟨x15,rfl,YX⟩ oh H;obtain ⟨A15,c15,rfl,-,-,-⟩:=YX.slice;replace hbk:=aJ oh hbk;refine aH 1 H ?_;clear H;intro a H;(iterate 2 refine qh H wn rfl rfl rfl ?_;clear H;intro a H);refine nJ 8 20 H ?_ ?_ <;> clear H
 ·intro h20
  try have wI:=dT h20
  refine ak 1 ?_;intro a H;refine mP H (wg H rfl rfl h20) rfl rfl ?_;clear H;intro a H;refine s_call afF H (wg H rfl rfl h20) rfl (aef _ _ H.ro _ (fun x=>decide (k < x.level)) _ _ YX (fun x _=>ald hbk x)) rfl ?_;clear H;rintro v23 U6 a w rfl Cy H;refine gW 2 H ?_ ?_ <;> clear H
  ·intro kQ
   refine aP 7 ?_;exact (aB vi (by unfold zO;(repeat' split) <;> first|rfl|(exfalso;simp_all;done)|(exfalso;simp_all;omega)|(simp_all;done)))
  intro kQ
  refine aP 5 ?_;exact (aB vi (by unfold zO;(repeat' split) <;> first|rfl|(exfalso;simp_all;done)|(exfalso;simp_all;omega)|(simp_all;done)))
 intro h20
 try have wI:=dF h20
 refine aP 11 ?_;exact (aB vi (by unfold zO;(repeat' split) <;> first|rfl|(exfalso;simp_all;done)|(exfalso;simp_all;omega)|(simp_all;done)))
end
section
open Go.RowKit
instance Gy:Ty prog 194 4 40 [.int .i64 0,.int .i64 0,.string ⟨#[]⟩,.int .i64 0] true:=⟨by kernel_rfl,by kernel_rfl⟩
theorem JD:prog.underlying 157=some (.slice 194):=by kernel_rfl
instance:jK prog 157 (.slice 194):=⟨JD⟩
instance:dB prog 194 0 0:=⟨by kernel_rfl⟩
instance:dB prog 194 1 1:=⟨by kernel_rfl⟩
instance:dB prog 194 2 2:=⟨by kernel_rfl⟩
theorem aff:∀ args w,(callFunc 156 args).run prog w=.ok (.enter 156 args) w:=enters func156 rfl (by kernel_rfl)
instance:dB prog 194 3 3:=⟨by kernel_rfl⟩
def DR:Nat→List lQ→Int
 | _,[]=>0
 | i,x :: r=>if x.fmt < 1∨7 < x.fmt then 3 else if x.start < 0∨32767 < x.start then 2 else if zO x.yT ((i+1:Nat):Int)≠0 then zO x.yT ((i+1:Nat):Int) else if x.restart < 0∨(i:Int) < x.restart then 5 else DR (i+1) r
def dS (l:List lQ):Int:=if l.length=0 then 11 else if 9 < l.length then 9 else DR 0 l
theorem ig {l:List lQ} {k:Nat} (h:k < l.length):DR k (l.drop k)=if l[k].fmt < 1∨7 < l[k].fmt then 3 else if l[k].start < 0∨32767 < l[k].start then 2 else if zO l[k].yT ((k+1:Nat):Int)≠0 then zO l[k].yT ((k+1:Nat):Int) else if l[k].restart < 0∨(k:Int) < l[k].restart then 5 else DR (k+1) (l.drop (k+1)):=by
 rw [lW h,DR]
theorem ads (G:GH) (w0:World) (hG:Hold G w0) (l:List lQ) (v:aj) (hv:av G (.sl 4 (l.map lQ.dat)) v) (ht:∀ x∈l,x.yT.size < 4611686018427387904) :
  Calls prog 91 #[v] w0 (bD w0 G fun u G'=>u=vi (dS l)):=by
 obtain ⟨A,c,rfl,hc1,hc2,hg⟩:=hv.slice;have hml:maxLen=9223372036854775807:=rfl;rw [bO] at *;refine eN [(0,_)] func91 rfl ntmps91 rfl rfl hG ?_;refine goB 11 ?_ ?_
 ·intro p6
  refine aP 3 ?_
  first
   | exact (aB vi (by rw [dS,ay (by omega)]))
   | exact (aB vi (by rw [dS,ah (by omega),ay (by omega)]))
   | exact (aB vi (by rw [dS,ah (by omega),ah (by omega),← he,ig hk2,ay (by omega)]))
   | exact (aB vi (by rw [dS,ah (by omega),ah (by omega),← he,ig hk2,ah (by omega),ay (by omega)]))
   | exact (aB vi (by rw [dS,ah (by omega),ah (by omega),← he,ig hk2,ah (by omega),ah (by omega),ay p45]))
   | exact (aB vi (by rw [dS,ah (by omega),ah (by omega),← he,ig hk2,ah (by omega),ah (by omega),ah p45,ay (by omega)]))
   | exact (aB vi (by rw [dS,ah (by omega),ah (by omega),← he,fM (by omega)];rfl))
 intro p6
 refine goB 6 ?_ ?_
 ·intro nk
  refine aP 3 ?_
  first
   | exact (aB vi (by rw [dS,ay (by omega)]))
   | exact (aB vi (by rw [dS,ah (by omega),ay (by omega)]))
   | exact (aB vi (by rw [dS,ah (by omega),ah (by omega),← he,ig hk2,ay (by omega)]))
   | exact (aB vi (by rw [dS,ah (by omega),ah (by omega),← he,ig hk2,ah (by omega),ay (by omega)]))
   | exact (aB vi (by rw [dS,ah (by omega),ah (by omega),← he,ig hk2,ah (by omega),ah (by omega),ay p45]))
   | exact (aB vi (by rw [dS,ah (by omega),ah (by omega),← he,ig hk2,ah (by omega),ah (by omega),ah p45,ay (by omega)]))
   | exact (aB vi (by rw [dS,ah (by omega),ah (by omega),← he,fM (by omega)];rfl))
 intro nk
 refine ak 8 ?_;intro a H;refine eO (ι:=Nat × GH) (Tc:=[(14,_),(15,_)]) (Lc:=[]) (fun gh=>[(16,vi gh.1)]) (fun gh=>[]) (fun gh=>gh.2) (fun gh=>gh.1≤l.length∧DR gh.1 (l.drop gh.1)=DR 0 l∧(∀ b o,G b=some o→gh.2 b=some o)) (fun gh=>l.length - gh.1) ((0,G)) sB ?_ ?_
 ·exact ⟨gV _,rfl,fun _ _ h=>h⟩
 clear H;rintro ⟨k,g⟩ a w hI H;dsimp only at hI H;obtain ⟨hk,he,hgm⟩:=hI;dsimp only [lca,aR] at H;refine dN 4 H ?_ ?_ <;> clear H
 ·intro kW
  have hk2:k < l.length:=by omega
  obtain ⟨b,o,cs,rfl,hcl,hrow,hr⟩:=hg k l[k].dat (by simp [hk2]);obtain rfl:=alc hr;refine ak 6 ?_;intro a H;refine bg Gy (cs:=l[k].cells) H wn rfl rfl (fun j v hj=>H.hp.aF (aJ hgm (hrow j v hj))) rfl ?_;clear H;intro a H;refine dx Gy H wn rfl ?_;clear H;intro b4 a w hb4 H;refine aH 1 H ?_;clear H;intro a H;refine aV Gy 0 (vs:=[_,_,_,_]) _ H wn rfl rfl rfl rfl rfl rfl rfl rfl ?_;clear H;intro w H;dsimp only [List.set,setRow] at H;refine rJ 8 25 H ?_ ?_ <;> clear H
  ·intro p25
   refine aP 10 ?_
   first
    | exact (aB vi (by rw [dS,ay (by omega)]))
    | exact (aB vi (by rw [dS,ah (by omega),ay (by omega)]))
    | exact (aB vi (by rw [dS,ah (by omega),ah (by omega),← he,ig hk2,ay (by omega)]))
    | exact (aB vi (by rw [dS,ah (by omega),ah (by omega),← he,ig hk2,ah (by omega),ay (by omega)]))
    | exact (aB vi (by rw [dS,ah (by omega),ah (by omega),← he,ig hk2,ah (by omega),ah (by omega),ay p45]))
    | exact (aB vi (by rw [dS,ah (by omega),ah (by omega),← he,ig hk2,ah (by omega),ah (by omega),ah p45,ay (by omega)]))
    | exact (aB vi (by rw [dS,ah (by omega),ah (by omega),← he,fM (by omega)];rfl))
  intro p25
  refine goB 6 ?_ ?_
  ·intro qy
   refine aP 3 ?_
   first
    | exact (aB vi (by rw [dS,ay (by omega)]))
    | exact (aB vi (by rw [dS,ah (by omega),ay (by omega)]))
    | exact (aB vi (by rw [dS,ah (by omega),ah (by omega),← he,ig hk2,ay (by omega)]))
    | exact (aB vi (by rw [dS,ah (by omega),ah (by omega),← he,ig hk2,ah (by omega),ay (by omega)]))
    | exact (aB vi (by rw [dS,ah (by omega),ah (by omega),← he,ig hk2,ah (by omega),ah (by omega),ay p45]))
    | exact (aB vi (by rw [dS,ah (by omega),ah (by omega),← he,ig hk2,ah (by omega),ah (by omega),ah p45,ay (by omega)]))
    | exact (aB vi (by rw [dS,ah (by omega),ah (by omega),← he,fM (by omega)];rfl))
  intro qy
  refine kT 5 34 ?_ ?_
  ·intro p34
   refine aP 10 ?_
   first
    | exact (aB vi (by rw [dS,ay (by omega)]))
    | exact (aB vi (by rw [dS,ah (by omega),ay (by omega)]))
    | exact (aB vi (by rw [dS,ah (by omega),ah (by omega),← he,ig hk2,ay (by omega)]))
    | exact (aB vi (by rw [dS,ah (by omega),ah (by omega),← he,ig hk2,ah (by omega),ay (by omega)]))
    | exact (aB vi (by rw [dS,ah (by omega),ah (by omega),← he,ig hk2,ah (by omega),ah (by omega),ay p45]))
    | exact (aB vi (by rw [dS,ah (by omega),ah (by omega),← he,ig hk2,ah (by omega),ah (by omega),ah p45,ay (by omega)]))
    | exact (aB vi (by rw [dS,ah (by omega),ah (by omega),← he,fM (by omega)];rfl))
  intro p34
  refine goB 6 ?_ ?_
  ·intro p30
   refine aP 3 ?_
   first
    | exact (aB vi (by rw [dS,ay (by omega)]))
    | exact (aB vi (by rw [dS,ah (by omega),ay (by omega)]))
    | exact (aB vi (by rw [dS,ah (by omega),ah (by omega),← he,ig hk2,ay (by omega)]))
    | exact (aB vi (by rw [dS,ah (by omega),ah (by omega),← he,ig hk2,ah (by omega),ay (by omega)]))
    | exact (aB vi (by rw [dS,ah (by omega),ah (by omega),← he,ig hk2,ah (by omega),ah (by omega),ay p45]))
    | exact (aB vi (by rw [dS,ah (by omega),ah (by omega),← he,ig hk2,ah (by omega),ah (by omega),ah p45,ay (by omega)]))
    | exact (aB vi (by rw [dS,ah (by omega),ah (by omega),← he,fM (by omega)];rfl))
  intro p30
  refine ak 7 ?_;intro a H;rw [show ((k:Int)+1)=((k+1:Nat):Int) from rfl] at H;refine s_call aff H wn rfl (alb _ _ H.ro l[k].yT ((k+1:Nat):Int) (ht _ (iF hk2))) rfl ?_;clear H;rintro v43 Dn a w rfl nN H;refine gW 6 H ?_ ?_ <;> clear H
  ·intro p45
   refine aP 4 ?_
   first
    | exact (aB vi (by rw [dS,ay (by omega)]))
    | exact (aB vi (by rw [dS,ah (by omega),ay (by omega)]))
    | exact (aB vi (by rw [dS,ah (by omega),ah (by omega),← he,ig hk2,ay (by omega)]))
    | exact (aB vi (by rw [dS,ah (by omega),ah (by omega),← he,ig hk2,ah (by omega),ay (by omega)]))
    | exact (aB vi (by rw [dS,ah (by omega),ah (by omega),← he,ig hk2,ah (by omega),ah (by omega),ay p45]))
    | exact (aB vi (by rw [dS,ah (by omega),ah (by omega),← he,ig hk2,ah (by omega),ah (by omega),ah p45,ay (by omega)]))
    | exact (aB vi (by rw [dS,ah (by omega),ah (by omega),← he,fM (by omega)];rfl))
  intro p45
  refine kT 6 50 ?_ ?_
  ·intro p50
   refine aP 10 ?_
   first
    | exact (aB vi (by rw [dS,ay (by omega)]))
    | exact (aB vi (by rw [dS,ah (by omega),ay (by omega)]))
    | exact (aB vi (by rw [dS,ah (by omega),ah (by omega),← he,ig hk2,ay (by omega)]))
    | exact (aB vi (by rw [dS,ah (by omega),ah (by omega),← he,ig hk2,ah (by omega),ay (by omega)]))
    | exact (aB vi (by rw [dS,ah (by omega),ah (by omega),← he,ig hk2,ah (by omega),ah (by omega),ay p45]))
    | exact (aB vi (by rw [dS,ah (by omega),ah (by omega),← he,ig hk2,ah (by omega),ah (by omega),ah p45,ay (by omega)]))
    | exact (aB vi (by rw [dS,ah (by omega),ah (by omega),← he,fM (by omega)];rfl))
  intro p50
  refine goB 6 ?_ ?_
  ·intro p55
   refine aP 3 ?_
   first
    | exact (aB vi (by rw [dS,ay (by omega)]))
    | exact (aB vi (by rw [dS,ah (by omega),ay (by omega)]))
    | exact (aB vi (by rw [dS,ah (by omega),ah (by omega),← he,ig hk2,ay (by omega)]))
    | exact (aB vi (by rw [dS,ah (by omega),ah (by omega),← he,ig hk2,ah (by omega),ay (by omega)]))
    | exact (aB vi (by rw [dS,ah (by omega),ah (by omega),← he,ig hk2,ah (by omega),ah (by omega),ay p45]))
    | exact (aB vi (by rw [dS,ah (by omega),ah (by omega),← he,ig hk2,ah (by omega),ah (by omega),ah p45,ay (by omega)]))
    | exact (aB vi (by rw [dS,ah (by omega),ah (by omega),← he,fM (by omega)];rfl))
  intro p55
  refine ak 4 ?_;intro a H;refine aG ?_;refine dH ((k+1,Dn)) (by exact (H.cu (Pl:=[_]) (bS:=[]) [] (by decide) rfl).sub ⟨rfl,rfl,rfl,bB⟩) ?_ ?_
  ·(try dsimp only);exact ⟨by omega,by rw [ig hk2,ah (by omega),ah (by omega),ah p45,ah (by omega)] at he;exact he,fun b o h=>nN b o (hgm b o h)⟩
  first|omega|(dsimp only;omega)
 intro kW
 refine aP 4 ?_
 first
  | exact (aB vi (by rw [dS,ay (by omega)]))
  | exact (aB vi (by rw [dS,ah (by omega),ay (by omega)]))
  | exact (aB vi (by rw [dS,ah (by omega),ah (by omega),← he,ig hk2,ay (by omega)]))
  | exact (aB vi (by rw [dS,ah (by omega),ah (by omega),← he,ig hk2,ah (by omega),ay (by omega)]))
  | exact (aB vi (by rw [dS,ah (by omega),ah (by omega),← he,ig hk2,ah (by omega),ah (by omega),ay p45]))
  | exact (aB vi (by rw [dS,ah (by omega),ah (by omega),← he,ig hk2,ah (by omega),ah (by omega),ah p45,ay (by omega)]))
  | exact (aB vi (by rw [dS,ah (by omega),ah (by omega),← he,fM (by omega)];rfl))
end
section
open Go.RowKit
instance EJ:Ty prog 32 1 24 [.slice none 0 0] false:=⟨by kernel_rfl,by kernel_rfl⟩
theorem Ab:prog.underlying 32=some (.slice 159):=by kernel_rfl
instance:jK prog 32 (.slice 159):=⟨Ab⟩
instance BA:Ty prog 159 2 32 [.int .i64 0,.slice none 0 0] true:=⟨by kernel_rfl,by kernel_rfl⟩
instance agY:dB prog 159 0 0:=⟨by kernel_rfl⟩
instance Uo:Ty prog 157 1 24 [.slice none 0 0] false:=⟨by kernel_rfl,by kernel_rfl⟩
theorem Pq:∀ args w,(callFunc 131 args).run prog w=.ok (.enter 131 args) w:=enters func131 rfl (by kernel_rfl)
instance Qa:dB prog 159 1 1:=⟨by kernel_rfl⟩
theorem agE:∀ args w,(callFunc 91 args).run prog w=.ok (.enter 91 args) w:=enters func91 rfl (by kernel_rfl)
theorem Fw:∀ args w,(callFunc 101 args).run prog w=.ok (.enter 101 args) w:=enters func101 rfl (by kernel_rfl)
theorem afu:∀ args w,(callFunc 185 args).run prog w=.ok (.enter 185 args) w:=enters func185 rfl (by kernel_rfl)
theorem afs:∀ args w,(callFunc 184 args).run prog w=.ok (.enter 184 args) w:=enters func184 rfl (by kernel_rfl)
structure dW where
 id:Int
 levels:List lQ
def dW.dat (x:dW):List Dat:=[li x.id,.sl 4 (x.levels.map lQ.dat)]
structure gu where
 id:Int
 parent:Int
 author:ByteArray
 time:Int
 text:ByteArray
 done:Bool
def gu.dat (x:gu):List Dat:=[li x.id,li x.parent,.lf (.string x.author),li x.time,.lf (.string x.text),.lf (.bool x.done)]
abbrev gu.cells (x:gu):List aj:=[vi x.id,vi x.parent,.string x.author,vi x.time,.string x.text,.bool x.done]
structure jL where
 name:ByteArray
 value:ByteArray
def jL.dat (x:jL):List Dat:=[.lf (.string x.name),.lf (.string x.value)]
abbrev jL.cells (x:jL):List aj:=[.string x.name,.string x.value]
theorem V9 {G:GH} {x:gu} {cs:List aj} (h:aN G x.dat cs):cs=x.cells:=by
 simp only [gu.dat,aN,av] at h
 obtain ⟨_,_,rfl,⟨rfl,_⟩,_,_,rfl,⟨rfl,_⟩,_,_,rfl,⟨rfl,_⟩,_,_,rfl,⟨rfl,_⟩,_,_,rfl,⟨rfl,_⟩,_,_,rfl,⟨rfl,_⟩,rfl⟩:=h
 rfl
theorem aps {G:GH} {x:jL} {cs:List aj} (h:aN G x.dat cs):cs=x.cells:=by
 simp only [jL.dat,aN,av] at h
 obtain ⟨_,_,rfl,⟨rfl,_⟩,_,_,rfl,⟨rfl,_⟩,rfl⟩:=h
 rfl
theorem MN {G:GH} {l:List dW} {A:Option Addr} {n c k:Nat} (hv:av G (.sl 2 (l.map dW.dat)) (.slice A n c)) (hk:k < l.length):∃ b o B d,A=some ⟨b,o,none⟩∧(∀ j u,[vi l[k].id,.slice B l[k].levels.length d][j]?=some u→aF G b (o+k*2+j)=some u)∧av G (.sl 4 (l[k].levels.map lQ.dat)) (.slice B l[k].levels.length d):=by
 obtain ⟨A',c',he,_,_,hg⟩:=hv.slice
 injection he with e1 e2 e3
 subst e1;obtain ⟨b,o,cs,h1,h2,h3,h4⟩:=hg k l[k].dat (by simp [hk])
 simp only [dW.dat,aN] at h4
 obtain ⟨v1,_,rfl,⟨rfl,-⟩,v2,_,rfl,hl,rfl⟩:∃ v vs,cs=v :: vs∧av G (li l[k].id) v∧∃ v2 vs2,vs=v2 :: vs2∧av G (.sl 4 (l[k].levels.map lQ.dat)) v2∧vs2=[]:=h4;obtain ⟨B,d,rfl,-,-,-⟩:=hl.slice;rw [bO] at *;exact ⟨b,o,B,d,h1,h3,hl⟩
theorem akW {G:GH} {bl:Nat} {l:List dW} {A:Option Addr} {n c:Nat} (hb:aF G bl 0=some (.slice A n c)) (hv:av G (.sl 2 (l.map dW.dat)) (.slice A n c)):qZ (.func (.func 185) #[] #[(aD bl 0)]) G l.length fun k=>(l[k]?.map dW.id).getD 0:=by
 intro k hk G1 w0 hm hG;refine jq (caps:=[(aD bl 0)]) afu ?_;replace hb:=aJ hm hb
 obtain rfl:n=l.length:=by have:=hv.len;simpa using this
 obtain ⟨b,o,B,d,rfl,hrow,-⟩:=MN (hv.mono hm) hk;have hq:=hrow 0 _ rfl;refine eN [(0,_),(1,_)] func185 rfl ntmps185 rfl rfl hG ?_;refine aP 11 ?_;dsimp only;rw [dY hk];rfl
def Er (l:List dW) (i:Nat):Int:=dz [nP (fun k=>(l[k]?.map dW.id).getD 0) i,dS ((l[i]?.map dW.levels).getD [])]
theorem akY {G:GH} {bl:Nat} {l:List dW} {A:Option Addr} {n c:Nat} (hb:aF G bl 0=some (.slice A n c)) (hv:av G (.sl 2 (l.map dW.dat)) (.slice A n c)) (hl:l.length≤4294967296) (ht:∀ x∈l,∀ y∈x.levels,y.yT.size < 4611686018427387904):qZ (.func (.func 184) #[] #[(aD bl 0)]) G l.length (Er l):=by
 intro k hk G1 w0 hm hG;refine jq (caps:=[(aD bl 0)]) afs ?_;replace hb:=aJ hm hb;replace hv:=hv.mono hm;have hcb:=akW hb hv
 obtain rfl:n=l.length:=by have:=hv.len;simpa using this
 obtain ⟨b,o,B,d,rfl,hrow,hlv⟩:=MN hv hk;have hq:=hrow 1 _ rfl
 have he:Er l k=dz [nP (fun k=>(l[k]?.map dW.id).getD 0) k,dS l[k].levels]:=by unfold Er;rw [dY hk];rfl
 refine eN [(0,_),(1,_)] func184 rfl ntmps184 rfl rfl hG ?_;refine ak 4 ?_;intro a H;have H:=H.sub (T':=[(0,_),(1,_)]) ⟨rfl,rfl,bB⟩;refine dI hmx [[],[],[0,1],[],[],[3,4],[3,4,5],(ra 3 4),(ra 0 8),(ra 0 9),(ra 0 10),(ra 0 11)] [9,10,11] (by kernel_rfl) [_,.func (.func 185) #[] #[(aD bl 0)],vi (nP (fun k=>(l[k]?.map dW.id).getD 0) k),_,_,_,_,_,vi (dS l[k].levels)] H (aC (Z0 rfl (Rm rfl)) ?_ ?_ (X0 rfl fun hG=>Rg EJ rfl (aJ hG hb)) (aC (Z0 rfl (Rm rfl)) (Z2 3 7 4 8 rfl (Ri Ab BA rfl rfl)) (Z1 5 9 rfl (Rf Qa rfl)) (X1 6 10 rfl fun hG=>Rg Uo rfl (aJ hG hq)) (aC ?_ (bP rfl) (bP rfl) (bP rfl) dw))) ?_
 ·refine Al rfl fun _ a w G1 hG HT H fin=>?_;refine mP H wn rfl rfl ?_;clear H;intro a H;exact fin H iJ rfl
 ·refine dL 0 4 1 5 rfl rfl fun _ a w G1 hG HT H fin=>?_;refine s_call Pq H wn rfl (Sm _ _ H.ro k _ _ (by omega) (fun i hi=>(hcb.mono hG) i (by omega))) rfl ?_;clear H;rintro v6 G6 a w rfl iZ H;exact fin H iZ (rfl)
 ·refine dJ 7 11 rfl rfl fun _ a w G1 hG HT H fin=>?_;refine s_call agE H wn rfl (ads _ _ H.ro _ _ (hlv.mono hG) (ht _ (iF hk))) rfl ?_;clear H;rintro v12 Ae a w rfl mM H;exact fin H mM (rfl)
 clear H;intro a w G iH H hv;have H:=H.aO (hv 2 6 rfl rfl) rfl;have H:=H.aO (hv 8 12 rfl rfl) rfl;clear hv;refine gK pI gF [_,_] [_,_] H wn rfl rfl rfl rfl rfl (by intro i q h;match i,h with|0,h=>exact h|1,h=>exact h|n+2,h=>simp at h) rfl rfl ?_;clear H;intro b13 a w LK H;obtain ⟨BL,vo,QT,H⟩:=H.dP;refine s_call pV H wn rfl (pW _ _ H.ro _ _ (xM QT)) rfl ?_;clear H;rintro v14 _ a w ⟨rfl,rfl⟩ - H;refine kH H (Ra rfl ?_);clear H;intro a H;refine aG ⟨rfl,?_⟩;refine dG ?_;refine uU 0 H ?_;rw [he]
def Fq (l:List dW):Int:=dz [bW (decide (64 < (l.length:Int))) 9,iY (Er l) (min l.length 64)]
theorem qZ.le {fv:aj} {G:GH} {n m:Nat} {E:Nat→Int} (h:qZ fv G n E) (hm:m≤n):qZ fv G m E:=fun i hi=>h i (by omega)
theorem adt (G:GH) (w0:World) (hG:Hold G w0) (l:List dW) (v:aj) (hv:av G (.sl 2 (l.map dW.dat)) v) (hl:l.length≤4294967296) (ht:∀ x∈l,∀ y∈x.levels,y.yT.size < 4611686018427387904) :
  Calls prog 127 #[v] w0 (bD w0 G fun u G'=>u=vi (Fq l)):=by
 obtain ⟨A,c,rfl,hc1,hc2,-⟩:=hv.slice;rw [bO] at *;refine eN [(0,_)] func127 rfl ntmps127 rfl rfl hG ?_;refine ak 1 ?_;intro a H;refine dU (cs:=[_]) H wn rfl rfl rfl ?_;clear H;intro b1 a w hb1 H;refine aH 3 H ?_;clear H;intro a H;have H:=H.sub (T':=[(1,_)]) ⟨rfl,bB⟩;obtain ⟨Ga,hma,hb1',H⟩:=H.dP
 have hbl:aF Ga b1 0=some (.slice A l.length c):=by unfold aF;rw [hb1'];rfl
 have hcb:=akY hbl (hv.mono hma) hl ht;refine dI hmx [[],[0],[0,1],[0,1,2],[],[4],[4,5],[],(ra 0 8),(ra 0 9),(ra 0 10),(ra 0 11)] [9,10,11] (by kernel_rfl) [_,_,_,vi (bW (decide (64 < (l.length:Int))) 9),_,_,vi ((min l.length 64:Nat):Int),.func (.func 184) #[] #[(aD b1 0)],vi (iY (Er l) (min l.length 64))] H (aC (X0 rfl fun hG=>Rg EJ rfl (aJ hG hbl)) (Z1 0 3 rfl (Rl Ab rfl)) (Z1 1 4 rfl (Rc rfl)) ?_ (aC (X0 rfl fun hG=>Rg EJ rfl (aJ hG hbl)) (Z1 4 7 rfl (Rl Ab rfl)) ?_ ?_ (aC ?_ (bP rfl) (bP rfl) (bP rfl) dw))) ?_
 ·refine dJ 2 5 rfl rfl fun _ a w G1 hG HT H fin=>?_;refine s_call iR H wn rfl (iW _ _ H.ro _ 9) rfl ?_;clear H;rintro v6 G6 a w ⟨rfl,-⟩ iZ H;exact fin H iZ (rfl)
 ·refine dJ 5 8 rfl rfl fun _ a w G1 hG HT H fin=>?_;refine Nk H wn rfl rfl rfl ?_;clear H;intro a H;exact fin H iJ (aB vi (by omega))
 ·refine Al rfl fun _ a w G1 hG HT H fin=>?_;refine mP H wn rfl rfl ?_;clear H;intro a H;exact fin H iJ rfl
 ·refine dL 6 9 7 10 rfl rfl fun _ a w G1 hG HT H fin=>?_;refine s_call Fw H wn rfl (H7 _ _ H.ro (min l.length 64) (Er l) _ (by omega) ((hcb.mono hG).le (Nat.min_le_left _ _))) rfl ?_;clear H;rintro v11 qY a w rfl jO H;exact fin H jO (rfl)
 clear H;intro a w G iH H hv;have H:=H.aO (hv 3 6 rfl rfl) rfl;have H:=H.aO (hv 8 11 rfl rfl) rfl;clear hv;refine gK pI gF [_,_] [_,_] H wn rfl rfl rfl rfl rfl (by intro i q h;match i,h with|0,h=>exact h|1,h=>exact h|n+2,h=>simp at h) rfl rfl ?_;clear H;intro b12 a w D5 H;obtain ⟨Ae,yF,D6,H⟩:=H.dP;refine s_call pV H wn rfl (pW _ _ H.ro _ _ (xM D6)) rfl ?_;clear H;rintro v13 _ a w ⟨rfl,rfl⟩ - H;refine kH H (Ra rfl ?_);clear H;intro a H;refine aG ⟨rfl,?_⟩;refine dG ?_;refine uU 0 H ?_;exact rfl
end
section
open Go.RowKit
theorem rY:prog.underlying 31=some (.slice 156):=by kernel_rfl
instance:jK prog 31 (.slice 156):=⟨rY⟩
instance ko:Ty prog 156 6 72 [.int .i64 0,.int .i64 0,.string ⟨#[]⟩,.int .i64 0,.int .i64 0,.slice none 0 0] true:=⟨by kernel_rfl,by kernel_rfl⟩
instance P8:dB prog 156 1 1:=⟨by kernel_rfl⟩
instance agV:dB prog 156 2 2:=⟨by kernel_rfl⟩
instance zm:dB prog 156 0 0:=⟨by kernel_rfl⟩
theorem WT:∀ args w,(callFunc 220 args).run prog w=.ok (.enter 220 args) w:=enters func220 rfl (by kernel_rfl)
theorem afD:∀ args w,(callFunc 197 args).run prog w=.ok (.enter 197 args) w:=enters func197 rfl (by kernel_rfl)
theorem afO:∀ args w,(callFunc 221 args).run prog w=.ok (.enter 221 args) w:=enters func221 rfl (by kernel_rfl)
theorem afP:∀ args w,(callFunc 222 args).run prog w=.ok (.enter 222 args) w:=enters func222 rfl (by kernel_rfl)
structure bM where
 id:Int
 kind:Int
 name:ByteArray
 base:Int
 next:Int
 props:List fK
def bM.dat (x:bM):List Dat:=[li x.id,li x.kind,.lf (.string x.name),li x.base,li x.next,.sl 2 (x.props.map fK.dat)]
theorem Nu {G:GH} {x:bM} {cs:List aj} (h:aN G x.dat cs):∃ A c,cs=[vi x.id,vi x.kind,.string x.name,vi x.base,vi x.next,.slice A x.props.length c]∧av G (.sl 2 (x.props.map fK.dat)) (.slice A x.props.length c):=by
 simp only [bM.dat,aN] at h
 obtain ⟨v1,_,rfl,h1,v2,_,rfl,h2,v3,_,rfl,h3,v4,_,rfl,h4,v5,_,rfl,h5,v6,_,rfl,h6,rfl⟩:=h
 simp only [av] at h1 h2 h3 h4 h5
 obtain ⟨rfl,-⟩:=h1;obtain ⟨rfl,-⟩:=h2;obtain ⟨rfl,-⟩:=h3;obtain ⟨rfl,-⟩:=h4;obtain ⟨rfl,-⟩:=h5;obtain ⟨A,c,rfl,-,-,-⟩:=h6.slice;rw [bO] at *;exact ⟨A,c,rfl,h6⟩
theorem Aa {G:GH} {l:List bM} {A:Option Addr} {n c k:Nat} (hv:av G (.sl 6 (l.map bM.dat)) (.slice A n c)) (hk:k < l.length):∃ b o pA pc,A=some ⟨b,o,none⟩∧(∀ j u,[vi l[k].id,vi l[k].kind,.string l[k].name,vi l[k].base,vi l[k].next,.slice pA l[k].props.length pc][j]?=some u→aF G b (o+k*6+j)=some u)∧av G (.sl 2 (l[k].props.map fK.dat)) (.slice pA l[k].props.length pc) ∧
  aN G l[k].dat [vi l[k].id,vi l[k].kind,.string l[k].name,vi l[k].base,vi l[k].next,.slice pA l[k].props.length pc]:=by
 obtain ⟨A',c',he,_,_,hg⟩:=hv.slice
 injection he with e1 e2 e3
 subst e1;obtain ⟨b,o,cs,h1,h2,h3,h4⟩:=hg k l[k].dat (by simp [hk]);obtain ⟨pA,pc,rfl,hp⟩:=Nu h4;exact ⟨b,o,pA,pc,h1,h3,hp,h4⟩
def okB (x:Int):Bool:=decide (32≤x∧x≤126)
def Ew (s:ByteArray) (k:Nat):Bool:=(List.range k).all fun i=>okB (fG s i)
def mO (s:ByteArray):Bool:=decide (s.size≠0∧s.size≤40∧fG s 0≠32∧fG s (s.size - 1)≠32) && Ew s s.size
theorem alr (s:ByteArray) (k:Nat):Ew s (k+1)=(Ew s k && okB (fG s k)):=by simp [Ew,List.range_succ]
theorem Ey {s:ByteArray} {k:Nat} (hk:k < s.size) (h:okB (fG s k)=false):Ew s s.size=false:=by
 rw [Ew,List.all_eq_false];exact ⟨k,by simpa using hk,by simp [h]⟩
theorem MH (G:GH) (w0:World) (hG:Hold G w0) (s:ByteArray) (hs:s.size≤4611686018427387904):Calls prog 194 #[.string s] w0 (bD w0 G fun u G'=>u=.bool (mO s)):=by
 refine eN [(0,_)] func194 rfl ntmps194 rfl rfl hG ?_;refine jE 9 7 ?_ ?_
 ·intro h7
  try have p7:=dT h7
  refine aP 22 ?_
  first
   | exact (dD (by rw [mO,jA (by omega),uH]))
   | exact (dD (by rw [mO,iE (by omega),show s.size=k by omega,hno];rfl))
   | exact (dD (by rw [mO,Ey (k:=k) (by omega) (jA (by omega)),Bool.and_false]))
 intro h7
 try have p7:=dF h7
 refine ak 1 ?_;intro a H;refine CZ iV H (wg H rfl rfl h7) rfl rfl ?_;clear H;refine jE 3 12 ?_ ?_
 ·intro h12
  try have nu:=dT h12
  refine aP 17 ?_
  first
   | exact (dD (by rw [mO,jA (by omega),uH]))
   | exact (dD (by rw [mO,iE (by omega),show s.size=k by omega,hno];rfl))
   | exact (dD (by rw [mO,Ey (k:=k) (by omega) (jA (by omega)),Bool.and_false]))
 intro h12
 try have nu:=dF h12
 refine ak 1 ?_;intro a H;refine nW 0 iV H (wg H rfl rfl h12) rfl rfl rfl (by omega) rfl ?_;clear H;intro a H;rw [← jQ] at H;refine nJ 3 17 H ?_ ?_ <;> clear H
 ·intro jR
  try have kW:=dT jR
  refine aP 12 ?_
  first
   | exact (dD (by rw [mO,jA (by omega),uH]))
   | exact (dD (by rw [mO,iE (by omega),show s.size=k by omega,hno];rfl))
   | exact (dD (by rw [mO,Ey (k:=k) (by omega) (jA (by omega)),Bool.and_false]))
 intro jR
 try have kW:=dF jR
 refine ak 2 ?_;intro a H;refine CZ iV H (wg H rfl rfl jR) rfl rfl ?_;clear H;intro a H;refine lJ _ H (wg H rfl rfl jR) rfl rfl rfl (by omega) (by omega) rfl ?_;clear H;intro a H;refine nW (s.size - 1) iV H (wg H rfl rfl jR) rfl rfl (by omega) (by omega) rfl ?_;clear H;intro a H;rw [← jQ] at H;refine gW 3 H ?_ ?_ <;> clear H
 ·intro kQ
  refine aP 3 ?_
  first
   | exact (dD (by rw [mO,jA (by omega),uH]))
   | exact (dD (by rw [mO,iE (by omega),show s.size=k by omega,hno];rfl))
   | exact (dD (by rw [mO,Ey (k:=k) (by omega) (jA (by omega)),Bool.and_false]))
 intro kQ
 refine ak 8 ?_;intro a H;refine eO (ι:=Nat) (Tc:=[(0,_),(26,_)]) (Lc:=[]) (fun gh=>[(27,vi gh)]) (fun gh=>[]) (fun gh=>G) (fun gh=>gh≤s.size∧Ew s gh=true) (fun gh=>s.size - gh) (0) sB ?_ ?_
 ·exact ⟨gV _,rfl⟩
 clear H;intro k a w hI H;obtain ⟨hk,hno⟩:=hI;dsimp only [lca,aR] at H;refine dN 4 H ?_ ?_ <;> clear H
 ·intro p28
  refine ak 10 ?_;intro a H;refine nW k iV H wn rfl rfl rfl (by omega) rfl ?_;clear H;intro a H;rw [← jQ] at H;refine nJ 2 34 H ?_ ?_ <;> clear H
  ·intro uV
   try have p34:=dT uV
   refine aP 10 ?_
   first
    | exact (dD (by rw [mO,jA (by omega),uH]))
    | exact (dD (by rw [mO,iE (by omega),show s.size=k by omega,hno];rfl))
    | exact (dD (by rw [mO,Ey (k:=k) (by omega) (jA (by omega)),Bool.and_false]))
  intro uV
  try have p34:=dF uV
  refine ak 2 ?_;intro a H;refine nW k iV H (wg H rfl rfl uV) rfl rfl rfl (by omega) rfl ?_;clear H;intro a H;rw [← jQ] at H;refine gW 3 H ?_ ?_ <;> clear H
  ·intro p39
   refine aP 3 ?_
   first
    | exact (dD (by rw [mO,jA (by omega),uH]))
    | exact (dD (by rw [mO,iE (by omega),show s.size=k by omega,hno];rfl))
    | exact (dD (by rw [mO,Ey (k:=k) (by omega) (jA (by omega)),Bool.and_false]))
  intro p39
  refine ak 4 ?_;intro a H;refine aG ?_;refine dH ((k+1)) sB ?_ ?_
  ·exact ⟨by omega,by rw [alr,hno];simp [okB];omega⟩
  first|omega|(dsimp only;omega)
 intro p28
 refine aP 4 ?_
 first
  | exact (dD (by rw [mO,jA (by omega),uH]))
  | exact (dD (by rw [mO,iE (by omega),show s.size=k by omega,hno];rfl))
  | exact (dD (by rw [mO,Ey (k:=k) (by omega) (jA (by omega)),Bool.and_false]))
theorem Zb (G:GH) (w0:World) (hG:Hold G w0) (l:List bM) (p:bM→Bool) (v fv:aj) (hv:av G (.sl 6 (l.map bM.dat)) v) (hf:∀ x∈l,pO fv G x.dat (p x)) :
  Calls prog 220 #[v,fv] w0 (bD w0 G fun u G'=>u=vi (lG (l.findIdx? p))):=by
 obtain ⟨A,c,rfl,hc1,hc2,-⟩:=hv.slice;have hml:maxLen=9223372036854775807:=rfl;rw [bO] at *;refine eN [(0,_),(1,_)] func220 rfl ntmps220 rfl rfl hG ?_;refine ak 10 ?_;intro a H;refine eO (ι:=Nat × GH) (Tc:=[(0,_),(1,_),(7,_)]) (Lc:=[]) (fun gh=>[(8,vi gh.1)]) (fun gh=>[]) (fun gh=>gh.2) (fun gh=>gh.1≤l.length∧(l.take gh.1).findIdx? p=none∧(∀ b o,G b=some o→gh.2 b=some o)) (fun gh=>l.length - gh.1) ((0,G)) sB ?_ ?_
 ·exact ⟨by omega,rfl,fun _ _ h=>h⟩
 clear H;rintro ⟨k,g⟩ a w hI H;dsimp only at hI H;obtain ⟨hk,hno,hgm⟩:=hI;dsimp only [lca,aR] at H;refine dN 4 H ?_ ?_ <;> clear H
 ·intro p9
  have hk2:k < l.length:=by omega
  obtain ⟨b,o,pA,pc,rfl,hrow,hp,hrep⟩:=Aa (hv.mono hgm) hk2;refine ak 12 ?_;intro a H;refine bg ko (cs:=[_,_,_,_,_,_]) H wn rfl rfl (fun j v hj=>H.hp.aF (hrow j v hj)) rfl ?_;clear H;intro a H;refine nV H wn rfl rfl (hf _ (iF hk2) _ _ _ hgm H.ro hrep) rfl ?_;clear H;rintro v16 uy a w rfl vv H;refine gX 1 H ?_ ?_ <;> clear H
  ·intro h16
   try have p16:=dT h16
   refine aP 4 ?_
   first
    | exact (by rw [tC hk2 hno h16];rfl)
    | exact (by rw [show l.take k=l from jh (by omega)] at hno;rw [hno];rfl)
  intro h16
  try have p16:=dF h16
  refine ak 4 ?_;intro a H;refine aG ?_;refine dH ((k+1,uy)) sB ?_ ?_
  ·(try dsimp only);exact ⟨by omega,CO hk2 hno h16,fun b o h=>vv b o (hgm b o h)⟩
  first|omega|(dsimp only;omega)
 intro p9
 refine aP 4 ?_
 first
  | exact (by rw [tC hk2 hno h16];rfl)
  | exact (by rw [show l.take k=l from jh (by omega)] at hno;rw [hno];rfl)
def Jm (p q:ByteArray):Bool:=p.toList == q.toList
theorem ahq {G:GH} {bk bn:Nat} {kind:Int} {name:ByteArray} (hk:aF G bk 0=some (vi kind)) (hn:aF G bn 0=some (.string name)) (x:bM):pO (.func (.func 221) #[] #[(aD bk 0),(aD bn 0)]) G x.dat (decide (x.kind=kind) && Jm x.name name):=by
 intro G1 w0 cs hm hG hr;refine jq (caps:=[(aD bk 0),(aD bn 0)]) afO ?_;obtain ⟨pA,pc,rfl,-⟩:=Nu hr;replace hk:=aJ hm hk;replace hn:=aJ hm hn;refine eN [(0,_),(1,_),(2,_)] func221 rfl ntmps221 rfl rfl hG ?_;refine ak 1 ?_;intro a H;refine dU (cs:=[_,_,_,_,_,_]) H wn rfl rfl rfl ?_;clear H;intro b3 a w hb3 H;refine nJ 8 9 H ?_ ?_ <;> clear H
 ·intro h9
  try have p9:=dT h9
  refine ak 3 ?_;intro a H;refine Gp H (wg H rfl rfl h9) rfl rfl rfl ?_;clear H;refine aP 3 ?_;unfold Jm;simp_all
 intro h9
 try have p9:=dF h9
 refine aP 7 ?_;unfold Jm;simp_all
theorem ahp {G:GH} {bi:Nat} {id:Int} (hb:aF G bi 0=some (vi id)) (x:bM):pO (.func (.func 222) #[] #[(aD bi 0)]) G x.dat (decide (x.id=id)):=by
 intro G1 w0 cs hm hG hr;refine jq (caps:=[(aD bi 0)]) afP ?_;obtain ⟨pA,pc,rfl,-⟩:=Nu hr;replace hb:=aJ hm hb;refine eN [(0,_),(1,_)] func222 rfl ntmps222 rfl rfl hG ?_;refine ak 1 ?_;intro a H;refine dU (cs:=[_,_,_,_,_,_]) H wn rfl rfl rfl ?_;clear H;intro b2 a w hb2 H;refine gH 9 H ?_;exact rfl
def Cn (l:List bM) (kind:Int) (name:ByteArray):Option Nat:=l.findIdx? fun x=>decide (x.kind=kind) && Jm x.name name
def KQ (l:List bM) (id:Int):Option Nat:=l.findIdx? fun x=>decide (x.id=id)
theorem Zg (o:Option Nat):decide (0≤lG o)=o.isSome:=by cases o <;> simp [lG]
theorem ahr (G:GH) (w0:World) (hG:Hold G w0) (l:List bM) (kind:Int) (name:ByteArray) (v:aj) (hv:av G (.sl 6 (l.map bM.dat)) v) :
  Calls prog 195 #[v,vi kind,.string name] w0 (bD w0 G fun u G'=>u=.tuple #[vi (max (lG (Cn l kind name)) 0),.bool (Cn l kind name).isSome]):=by
 obtain ⟨A,c,rfl,hc1,hc2,-⟩:=hv.slice;rw [bO] at *;refine eN [(0,_),(1,_),(2,_)] func195 rfl ntmps195 rfl rfl hG ?_;refine ak 1 ?_;intro a H;refine dU (cs:=[_]) H wn rfl rfl rfl ?_;clear H;intro b4 a w hb4 H;refine dU (cs:=[_]) H wn rfl rfl rfl ?_;clear H;intro b5 a w hb5 H;refine aH 3 H ?_;clear H;intro a H;obtain ⟨Ga,hma,xg,H⟩:=H.dP;obtain ⟨Gb,hmb,wu,H⟩:=H.dP
 have q4:aF Gb b4 0=some (vi kind):=by unfold aF;rw [wu];rfl
 have q5:aF Gb b5 0=some (.string name):=by unfold aF;rw [hmb _ _ xg];rfl
 refine eB 2 H ?_;clear H;intro a H;refine mP H wn rfl rfl ?_;clear H;intro a H;refine s_call WT H wn rfl (Zb _ _ H.ro l (fun x=>decide (x.kind=kind) && Jm x.name name) _ _ ((hv.mono hma).mono hmb) (fun x _=>ahq q4 q5 x)) rfl ?_;clear H;rintro v11 qY a w rfl Eb H;refine aH 4 H ?_;clear H;intro a H;refine Ju H wn rfl rfl rfl ?_;clear H;refine ak 5 ?_;intro a H;refine bV ?_;refine (eU H results195 (.cons (aW H rfl) (.cons (aW H rfl) .nil)) ?_).1;exact H.rt (by rw [← Zg];rfl)
theorem ahs (G:GH) (w0:World) (hG:Hold G w0) (l:List bM) (id:Int) (v:aj) (hv:av G (.sl 6 (l.map bM.dat)) v) :
  Calls prog 197 #[v,vi id] w0 (bD w0 G fun u G'=>u=.tuple #[vi (max (lG (KQ l id)) 0),.bool (KQ l id).isSome]):=by
 obtain ⟨A,c,rfl,hc1,hc2,-⟩:=hv.slice;rw [bO] at *;refine eN [(0,_),(1,_)] func197 rfl ntmps197 rfl rfl hG ?_;refine ak 1 ?_;intro a H;refine dU (cs:=[_]) H wn rfl rfl rfl ?_;clear H;intro b3 a w hb3 H;refine aH 3 H ?_;clear H;intro a H;obtain ⟨Ga,hma,AY,H⟩:=H.dP
 have q3:aF Ga b3 0=some (vi id):=by unfold aF;rw [AY];rfl
 refine eB 2 H ?_;clear H;intro a H;refine mP H wn rfl rfl ?_;clear H;intro a H;refine s_call WT H wn rfl (Zb _ _ H.ro l (fun x=>decide (x.id=id)) _ _ (hv.mono hma) (fun x _=>ahp q3 x)) rfl ?_;clear H;rintro v9 G9 a w rfl wB H;refine aH 4 H ?_;clear H;intro a H;refine Ju H wn rfl rfl rfl ?_;clear H;refine ak 5 ?_;intro a H;refine bV ?_;refine (eU H results197 (.cons (aW H rfl) (.cons (aW H rfl) .nil)) ?_).1;exact H.rt (by rw [← Zg];rfl)
def En (l:List bM) (kind id:Int):Bool:=match KQ l id with|some i=>decide ((l[i]?.map bM.kind)=some kind)|none=>false
theorem Sr (G:GH) (w0:World) (hG:Hold G w0) (l:List bM) (kind id:Int) (v:aj) (hv:av G (.sl 6 (l.map bM.dat)) v) :
  Calls prog 154 #[v,vi kind,vi id] w0 (bD w0 G fun u G'=>u=.bool (En l kind id)):=by
 obtain ⟨A,c,rfl,hc1,hc2,-⟩:=hv.slice;rw [bO] at *;refine eN [(0,_),(1,_),(2,_)] func154 rfl ntmps154 rfl rfl hG ?_;refine ak 6 ?_;intro a H;refine s_call afD H wn rfl (ahs _ _ H.ro l id _ hv) rfl ?_;clear H;rintro v12 Ae a w rfl yF H;obtain ⟨o,ho⟩:∃ o,o=KQ l id:=⟨_,rfl⟩;rw [← ho] at H;refine aH 1 H ?_;clear H;intro a H;(iterate 2 refine qh H wn rfl rfl rfl ?_;clear H;intro a H);refine nJ 6 16 H ?_ ?_ <;> clear H
 ·intro h16
  try have p16:=dT h16
  obtain ⟨i,rfl⟩:=Option.isSome_iff_exists.1 h16
  have hil:i < l.length:=by
   obtain ⟨hi,-⟩:=List.findIdx?_eq_some_iff_getElem.1 ho.symm;exact hi
  intro a H;rw [show max (lG (some i)) 0=(i:Int) by simp [lG]] at H;obtain ⟨b,o',pA,pc,rfl,hrow,hp,hrep⟩:=Aa (hv.mono yF) hil;have r1:aF Ae b (o'+i*6+1)=some (vi l[i].kind):=hrow 1 _ rfl;refine gH 10 H ?_
  first
   | exact (dD (by rw [En,← ho];dsimp only;rw [dY hil];simp))
   | exact (dD (by rw [En,← ho];cases o <;> simp_all))
 intro h16
 try have p16:=dF h16
 refine aP 10 ?_
 first
  | exact (dD (by rw [En,← ho];dsimp only;rw [dY hil];simp))
  | exact (dD (by rw [En,← ho];cases o <;> simp_all))
end
section
open Go.RowKit
section
variable {N:Nat} {D:List Deferred} {w0:World} {F:Nat→Prop} {G0 G:GH} {L Li Lo:OL} {T:List (Nat × aj)}
variable {r:Option Nat} {P:Program} {ops:Array Oper} {Q:Exit→Act→World→Prop} {rest:List Oper} {a:Act} {w:World}
variable {d:Nat} {ty:TypeId} {pos:String} {aK:Array Edge} {g:Option (Nat × Bool)}
theorem TR {t e:TypeId} {sz bytes:Nat} {zero:List aj} {agg:Bool} (hs:P.underlying t=some (.slice e)) (ht:Ty P e sz bytes zero agg) {x z:Operand} {A:Option Addr} {n c:Nat} (hi:Nat) {q:Int} (H:St N D w0 F G0 G L T a w)
  (hw:Region.wanted ⟨some d,.slice t x none (some z) none,ty,pos,aK,g⟩ (yielded ops a.tmps)=true) (hx:ev T x=some (.slice A n c)) (hz:ev T z=some (.int .i64 q)) (hq:q=(hi:Int)) (h2:hi≤c) (hd:Nat.blt d N=true)
  (k:∀ a',St N D w0 F G0 G L ((d,.slice A hi c) :: T) a' w→WL r P ops Q rest a' w):WL r P ops Q (⟨some d,.slice t x none (some z) none,ty,pos,aK,g⟩ :: rest) a w:=by
 subst hq
 refine fq (v:=.slice A hi c) (w':=w) hw rfl ?_ (k _ (H.put hd _ H.hp))
 simp [execOp,H.ev hx,H.ev hz,Instr.sliceAt,Instr.slice,Instr.sliceBounds,Instr.sliceBound,dM,mE hs,ht.Bo,asIntOf,h2]
 intro _
 cases A with
 | none=>rfl
 | some p=>simp [Addr.add]
end
end
section
open Go.RowKit
theorem KI:∀ args w,(callFunc 194 args).run prog w=.ok (.enter 194 args) w:=enters func194 rfl (by kernel_rfl)
theorem afB:∀ args w,(callFunc 195 args).run prog w=.ok (.enter 195 args) w:=enters func195 rfl (by kernel_rfl)
instance P9:dB prog 156 5 5:=⟨by kernel_rfl⟩
theorem afC:∀ args w,(callFunc 196 args).run prog w=.ok (.enter 196 args) w:=enters func196 rfl (by kernel_rfl)
theorem Xb:∀ args w,(callFunc 95 args).run prog w=.ok (.enter 95 args) w:=enters func95 rfl (by kernel_rfl)
theorem av.pre {G:GH} {sz:Nat} {rows:List (List Dat)} {A:Option Addr} {n c:Nat} (h:av G (.sl sz rows) (.slice A n c)) (k:Nat) (hk:k≤rows.length):av G (.sl sz (rows.take k)) (.slice A k c):=by
 have h:=h.part 0 k (gV _) hk
 have e:(if c=0 then A else A.map (·.add (0*sz)))=A:=by
  split
  ·rfl
  cases A <;> simp [Addr.add]
 rw [e] at h
 simpa using h
theorem aey (G:GH) (w0:World) (hG:Hold G w0) (kind:Int):Calls prog 196 #[vi kind] w0 (bD w0 G fun u G'=>u=vi (if kind=1 then 2 else 1)):=by
 refine eN [(0,_)] func196 rfl ntmps196 rfl rfl hG ?_;refine goB 8 ?_ ?_
 ·intro p4
  refine aP 3 ?_;first|(rw [ay (by omega)];done)|rw [ah (by omega)]
 intro p4
 refine aP 4 ?_;first|(rw [ay (by omega)];done)|rw [ah (by omega)]
def xI (l:List bM) (k:Nat):Option Int:=if k=0 then none else l[k - 1]?.map bM.id
theorem M9 {l:List bM} {k:Nat} (h:k=0):xI l k=none:=ay h
def Fe (k:Int):Bool:=decide (k=20) || decide (k=1)
def kN (q:Option Int) (dup:Bool) (s:bM):Int :=
 if s.id < 1∨1073741824 < s.id then 18 else if q=some s.id then 7 else if F5 q s.id=true then 6 else if s.kind≠1∧s.kind≠2 then 3 else if mO s.name=false then 13 else if dup=true then 7
 else if s.props.any (fun p=>Fe p.key)=true then 4 else fV (if s.kind=1 then 2 else 1) s.props
def gY (l:List bM) (k:Nat) (s:bM):Int:=kN (xI l k) (Cn (l.take k) s.kind s.name).isSome s
theorem amb (G:GH) (w0:World) (hG:Hold G w0) (l:List bM) (k:Nat) (v:aj) (hv:av G (.sl 6 (l.map bM.dat)) v) (hk:k < l.length) (hs:l[k].name.size≤4611686018427387904) :
  Calls prog 153 #[v,vi k] w0 (bD w0 G fun u G'=>u=vi (gY l k l[k])):=by
 obtain ⟨A,c,rfl,hc1,hc2,-⟩:=hv.slice;have hml:maxLen=9223372036854775807:=rfl;rw [bO] at *;obtain ⟨b,o,pA,pc,rfl,hrow,hp,hrep⟩:=Aa hv hk;obtain ⟨x,hx⟩:∃ x,x=l[k]:=⟨_,rfl⟩;rw [← hx] at hs hrow hp hrep ⊢;have hdp:∀ j v,[vi x.id,vi x.kind,.string x.name,vi x.base,vi x.next,.slice pA x.props.length pc][j]?=some v→aF G b (o+k*6+j)=some v:=hrow;obtain ⟨_,_,he0,aqN,aqO,-⟩:=hp.slice
 injection he0 with _ he1 he2
 rw [bO] at *;subst he2
 obtain ⟨pk,hpk⟩:∃ pk,0 < k→aF G b (o+(k - 1)*6+0)=some (vi pk)∧xI l k=some pk:=by
  by_cases h0:0 < k
  ·obtain ⟨b',o',_,_,he,hr',-,-⟩:=Aa hv (show k - 1 < l.length by omega)
   injection he with he
   injection he with e1 e2 e3
   subst e1;subst e2;exact ⟨_,fun _=>⟨hr' 0 _ rfl,by rw [xI,ah (by omega),dY (by omega)];rfl⟩⟩
  exact ⟨0,fun h=>absurd h h0⟩
 refine eN [(0,_),(1,_)] func153 rfl ntmps153 rfl rfl hG ?_;refine ak 7 ?_;intro a H;refine bg ko (cs:=[_,_,_,_,_,_]) H wn rfl rfl (fun j v hj=>H.hp.aF (hrow j v hj)) rfl ?_;clear H;intro a H;refine dx ko H wn rfl ?_;clear H;intro b5 a w hb5 H;refine aV ko 0 (vs:=[_,_,_,_,_,_]) _ H wn rfl rfl rfl rfl rfl rfl rfl rfl ?_;clear H;intro w H;dsimp only [List.set,setRow] at H;refine aG ?_;refine dG ?_;refine sH (ι:=GH) (Tc:=[(0,_),(1,_),(5,_)]) (Lc:=[(_,_)]) (fun gh=>[]) (fun gh=>[]) (fun gh=>gh) (fun gh=>¬ (x.id < 1∨1073741824 < x.id)∧¬ xI l k=some x.id∧¬ F5 (xI l k) x.id=true∧¬ (x.kind≠1∧x.kind≠2)∧¬ mO x.name=false∧(∀ b o,G b=some o→gh b=some o)) sB ?_ ?_
 ·refine vZ 6 18 H ?_ ?_ <;> clear H
  ·intro xG
   refine aP 10 ?_
   first
    | exact (aB vi e0.symm)
    | exact (aB vi e4.symm)
    | exact (aB vi e7.symm)
    | exact (aB vi e13.symm)
    | exact (aB vi e3.symm)
    | exact (aB vi e6.symm)
    | exact (aB vi (by rw [gY,kN,ay (by omega)]))
  intro xG
  refine goB 6 ?_ ?_
  ·intro qg
   refine aP 3 ?_
   first
    | exact (aB vi e0.symm)
    | exact (aB vi e4.symm)
    | exact (aB vi e7.symm)
    | exact (aB vi e13.symm)
    | exact (aB vi e3.symm)
    | exact (aB vi e6.symm)
    | exact (aB vi (by rw [gY,kN,ay (by omega)]))
  intro qg
  refine ak 1 ?_
  intro a H;by_cases c0:0 < (k:Int)
  ·skip
   by_cases c1:x.id=pk
   ·refine dI hmx [[],[0],[0,1],[0,1,2],(ra 0 4),[0,1,2],[0,1,2],[0,1,2,6],[0,1,2,5,6,7],[0,1,2,5,6,7,8],[0,1,2,5,6,7,8,9],(ra 0 11),(ra 0 12),(ra 0 13)] [13] (by kernel_rfl) [_,_,_,_,vi x.id,_,_,vi ((k - 1:Nat):Int),_,_,_,_,_] H (aC (Z0 rfl (Rm rfl)) (Z1 0 24 rfl (Rc rfl)) (Z1 1 25 rfl (Rm rfl)) (Z1 2 26 rfl (YF zm (aI c0) rfl)) (aC (Z2 3 27 2 26 rfl (YO bH 0 (aI c0) rfl)) (Z1 2 26 rfl (YM (aI c0) rfl)) (Z1 2 26 rfl (YM (aI c0) rfl)) ?_ (aC (Z3 5 29 7 31 2 26 rfl (YI rY ko (aI c0) rfl rfl)) (Z2 8 32 2 26 rfl (YF zm (aI c0) rfl)) (X2 9 33 2 26 rfl fun hG=>YR bH (aI c0) rfl (aJ hG (hpk (by omega)).1)) (Z3 4 28 10 34 2 26 rfl (YC (aI c0) rfl)) (bL (Z2 2 26 11 35 rfl (Pt (aI c0) rfl)) (bL (bP rfl) dw))))) ?_
    ·refine dL 6 30 2 26 rfl rfl fun _ a w G1 hG HT H fin=>?_;refine lJ _ H (wg H rfl rfl (aI c0)) rfl rfl rfl (by omega) (by omega) rfl ?_;clear H;intro a H;exact fin H iJ (by show _=_;first|rfl|exact aB vi (by omega))
    clear H;intro a w G qp H hv;have H:=H.aO (hv 12 36 rfl rfl) rfl;clear hv;refine t1 3 H ?_;clear H
    have e7:gY l k x=7:=by rw [gY,kN,ah (by omega),ay (by rw [(hpk (by omega)).2,c1])]
    refine aP 3 ?_
    first
     | exact (aB vi e0.symm)
     | exact (aB vi e4.symm)
     | exact (aB vi e7.symm)
     | exact (aB vi e13.symm)
     | exact (aB vi e3.symm)
     | exact (aB vi e6.symm)
     | exact (aB vi (by rw [gY,kN,ay (by omega)]))
   refine dI hmx [[],[0],[0,1],[0,1,2],(ra 0 4),[0,1,2],[0,1,2],[0,1,2,6],[0,1,2,5,6,7],[0,1,2,5,6,7,8],[0,1,2,5,6,7,8,9],(ra 0 11),(ra 0 12),(ra 0 13)] [13] (by kernel_rfl) [_,_,_,_,vi x.id,_,_,vi ((k - 1:Nat):Int),_,_,_,_,_] H (aC (Z0 rfl (Rm rfl)) (Z1 0 24 rfl (Rc rfl)) (Z1 1 25 rfl (Rm rfl)) (Z1 2 26 rfl (YF zm (aI c0) rfl)) (aC (Z2 3 27 2 26 rfl (YO bH 0 (aI c0) rfl)) (Z1 2 26 rfl (YM (aI c0) rfl)) (Z1 2 26 rfl (YM (aI c0) rfl)) ?_ (aC (Z3 5 29 7 31 2 26 rfl (YI rY ko (aI c0) rfl rfl)) (Z2 8 32 2 26 rfl (YF zm (aI c0) rfl)) (X2 9 33 2 26 rfl fun hG=>YR bH (aI c0) rfl (aJ hG (hpk (by omega)).1)) (Z3 4 28 10 34 2 26 rfl (YC (aI c0) rfl)) (bL (Z2 2 26 11 35 rfl (Pt (aI c0) rfl)) (bL (bP rfl) dw))))) ?_
   ·refine dL 6 30 2 26 rfl rfl fun _ a w G1 hG HT H fin=>?_;refine lJ _ H (wg H rfl rfl (aI c0)) rfl rfl rfl (by omega) (by omega) rfl ?_;clear H;intro a H;exact fin H iJ (by show _=_;first|rfl|exact aB vi (by omega))
   clear H;intro a w G qp H hv;have H:=H.aO (hv 12 36 rfl rfl) rfl;clear hv;refine t1 4 H ?_;clear H
   have q1:¬ (0 < (k:Int)∧x.id=pk):=by first|exact fun h=>c1 h.2|exact fun h=>c0 h.1
   have q1':¬ xI l k=some x.id:=fun h=>q1 (by
    by_cases h0:0 < k
    ·rw [(hpk h0).2] at h
     injection h with h
     exact ⟨by omega,h.symm⟩
    rw [M9 (by omega)] at h
    cases h)
   intro a H;by_cases c3:x.id < pk
   ·refine dI hmx [[],[0],[0,1],[0,1,2],(ra 0 4),[0,1,2],[0,1,2],[0,1,2,6],[0,1,2,5,6,7],[0,1,2,5,6,7,8],[0,1,2,5,6,7,8,9],(ra 0 11),(ra 0 12),(ra 0 13)] [13] (by kernel_rfl) [_,_,_,_,vi x.id,_,_,vi ((k - 1:Nat):Int),_,_,_,_,_] H (aC (Z0 rfl (Rm rfl)) (Z1 0 38 rfl (Rc rfl)) (Z1 1 39 rfl (Rm rfl)) (Z1 2 40 rfl (YF zm (aI c0) rfl)) (aC (Z2 3 41 2 40 rfl (YO bH 0 (aI c0) rfl)) (Z1 2 40 rfl (YM (aI c0) rfl)) (Z1 2 40 rfl (YM (aI c0) rfl)) ?_ (aC (Z3 5 43 7 45 2 40 rfl (YI rY ko (aI c0) rfl rfl)) (Z2 8 46 2 40 rfl (YF zm (aI c0) rfl)) (X2 9 47 2 40 rfl fun hG=>YR bH (aI c0) rfl (aJ hG (aJ qp (hpk (by omega)).1))) (Z3 4 42 10 48 2 40 rfl (YC (aI c0) rfl)) (bL (Z2 2 40 11 49 rfl (Pt (aI c0) rfl)) (bL (bP rfl) dw))))) ?_
    ·refine dL 6 44 2 40 rfl rfl fun _ a w G1 hG HT H fin=>?_;refine lJ _ H (wg H rfl rfl (aI c0)) rfl rfl rfl (by omega) (by omega) rfl ?_;clear H;intro a H;exact fin H iJ (by show _=_;first|rfl|exact aB vi (by omega))
    clear H;intro a w G iZ H hv;have H:=H.aO (hv 12 50 rfl rfl) rfl;clear hv;refine t1 3 H ?_;clear H
    have e6:gY l k x=6:=by rw [gY,kN,ah (by omega),ah q1',ay (by rw [(hpk (by omega)).2];exact aI c3)]
    refine aP 3 ?_
    first
     | exact (aB vi e0.symm)
     | exact (aB vi e4.symm)
     | exact (aB vi e7.symm)
     | exact (aB vi e13.symm)
     | exact (aB vi e3.symm)
     | exact (aB vi e6.symm)
     | exact (aB vi (by rw [gY,kN,ay (by omega)]))
   refine dI hmx [[],[0],[0,1],[0,1,2],(ra 0 4),[0,1,2],[0,1,2],[0,1,2,6],[0,1,2,5,6,7],[0,1,2,5,6,7,8],[0,1,2,5,6,7,8,9],(ra 0 11),(ra 0 12),(ra 0 13)] [13] (by kernel_rfl) [_,_,_,_,vi x.id,_,_,vi ((k - 1:Nat):Int),_,_,_,_,_] H (aC (Z0 rfl (Rm rfl)) (Z1 0 38 rfl (Rc rfl)) (Z1 1 39 rfl (Rm rfl)) (Z1 2 40 rfl (YF zm (aI c0) rfl)) (aC (Z2 3 41 2 40 rfl (YO bH 0 (aI c0) rfl)) (Z1 2 40 rfl (YM (aI c0) rfl)) (Z1 2 40 rfl (YM (aI c0) rfl)) ?_ (aC (Z3 5 43 7 45 2 40 rfl (YI rY ko (aI c0) rfl rfl)) (Z2 8 46 2 40 rfl (YF zm (aI c0) rfl)) (X2 9 47 2 40 rfl fun hG=>YR bH (aI c0) rfl (aJ hG (aJ qp (hpk (by omega)).1))) (Z3 4 42 10 48 2 40 rfl (YC (aI c0) rfl)) (bL (Z2 2 40 11 49 rfl (Pt (aI c0) rfl)) (bL (bP rfl) dw))))) ?_
   ·refine dL 6 44 2 40 rfl rfl fun _ a w G1 hG HT H fin=>?_;refine lJ _ H (wg H rfl rfl (aI c0)) rfl rfl rfl (by omega) (by omega) rfl ?_;clear H;intro a H;exact fin H iJ (by show _=_;first|rfl|exact aB vi (by omega))
   clear H;intro a w G iZ H hv;have H:=H.aO (hv 12 50 rfl rfl) rfl;clear hv;refine t1 3 H ?_;clear H;intro a H;refine XC ?_
   have q2:¬ (0 < (k:Int)∧x.id < pk):=by first|exact fun h=>c3 h.2|exact fun h=>c0 h.1
   have q2':¬ F5 (xI l k) x.id=true:=fun h=>q2 (by
    by_cases h0:0 < k
    ·rw [(hpk h0).2] at h;exact ⟨by omega,lX h⟩
    rw [M9 (by omega)] at h
    cases h)
   refine vZ 5 55 H ?_ ?_ <;> clear H
   ·intro p55
    refine goB 6 ?_ ?_
    ·intro p51
     have e3:gY l k x=3:=by rw [gY,kN,ah (by omega),ah q1',ah q2',ay (by omega)]
     refine aP 3 ?_
     first
      | exact (aB vi e0.symm)
      | exact (aB vi e4.symm)
      | exact (aB vi e7.symm)
      | exact (aB vi e13.symm)
      | exact (aB vi e3.symm)
      | exact (aB vi e6.symm)
      | exact (aB vi (by rw [gY,kN,ay (by omega)]))
    intro p51
    refine ak 3 ?_;intro a H;refine s_call KI H wn rfl (MH _ _ H.ro x.name hs) rfl ?_;clear H;rintro v63 Dp a w rfl hm63 H;refine gX 3 H ?_ ?_ <;> clear H
    ·intro mY
     try have p60:=dT mY
     have e13:gY l k x=13:=by rw [gY,kN,ah (by omega),ah q1',ah q2',ah (by omega),ay (by simpa using mY)]
     refine aP 3 ?_
     first
      | exact (aB vi e0.symm)
      | exact (aB vi e4.symm)
      | exact (aB vi e7.symm)
      | exact (aB vi e13.symm)
      | exact (aB vi e3.symm)
      | exact (aB vi e6.symm)
      | exact (aB vi (by rw [gY,kN,ay (by omega)]))
    intro mY
    try have p60:=dF mY
    intro a H;refine ji ?_;refine ⟨Dp,sB,?_⟩;exact ⟨by omega,q1',q2',by omega,by simpa using mY,fun b o h=>hm63 b o (iZ b o (qp b o h))⟩
   intro p55
   refine ak 10 ?_;intro a H;refine s_call KI H wn rfl (MH _ _ H.ro x.name hs) rfl ?_;clear H;rintro v63 Dp a w rfl hm63 H;refine gX 3 H ?_ ?_ <;> clear H
   ·intro mY
    try have p60:=dT mY
    have e13:gY l k x=13:=by rw [gY,kN,ah (by omega),ah q1',ah q2',ah (by omega),ay (by simpa using mY)]
    refine aP 3 ?_
    first
     | exact (aB vi e0.symm)
     | exact (aB vi e4.symm)
     | exact (aB vi e7.symm)
     | exact (aB vi e13.symm)
     | exact (aB vi e3.symm)
     | exact (aB vi e6.symm)
     | exact (aB vi (by rw [gY,kN,ay (by omega)]))
   intro mY
   try have p60:=dF mY
   intro a H;refine ji ?_;refine ⟨Dp,sB,?_⟩;exact ⟨by omega,q1',q2',by omega,by simpa using mY,fun b o h=>hm63 b o (iZ b o (qp b o h))⟩
  refine dI hmx [[],[0],[0,1],[0,1,2],(ra 0 4),[0,1,2],[0,1,2],[0,1,2,6],[0,1,2,5,6,7],[0,1,2,5,6,7,8],[0,1,2,5,6,7,8,9],(ra 0 11),(ra 0 12),(ra 0 13)] [13] (by kernel_rfl) [_,_,_,undef,undef,undef,undef,undef,undef,undef,undef,undef,_] H (aC (Z0 rfl (Rm rfl)) (Z1 0 24 rfl (Rc rfl)) (Z1 1 25 rfl (Rm rfl)) (aQ 2 (aY c0) rfl rfl) (aC (aQ 2 (aY c0) rfl rfl) (aQ 2 (aY c0) rfl rfl) (aQ 2 (aY c0) rfl rfl) (aQ 2 (aY c0) rfl rfl) (aC (aQ 2 (aY c0) rfl rfl) (aQ 2 (aY c0) rfl rfl) (aQ 2 (aY c0) rfl rfl) (aQ 2 (aY c0) rfl rfl) (bL (Z2 2 26 11 35 rfl (Pf (aY c0) rfl)) (bL (bP rfl) dw))))) ?_
  clear H;intro a w G qp H hv;have H:=H.aO (hv 12 36 rfl rfl) rfl;clear hv;refine t1 4 H ?_;clear H
  have q1:¬ (0 < (k:Int)∧x.id=pk):=by first|exact fun h=>c1 h.2|exact fun h=>c0 h.1
  have q1':¬ xI l k=some x.id:=fun h=>q1 (by
   by_cases h0:0 < k
   ·rw [(hpk h0).2] at h
    injection h with h
    exact ⟨by omega,h.symm⟩
   rw [M9 (by omega)] at h
   cases h)
  intro a H;refine dI hmx [[],[0],[0,1],[0,1,2],(ra 0 4),[0,1,2],[0,1,2],[0,1,2,6],[0,1,2,5,6,7],[0,1,2,5,6,7,8],[0,1,2,5,6,7,8,9],(ra 0 11),(ra 0 12),(ra 0 13)] [13] (by kernel_rfl) [_,_,_,undef,undef,undef,undef,undef,undef,undef,undef,undef,_] H (aC (Z0 rfl (Rm rfl)) (Z1 0 38 rfl (Rc rfl)) (Z1 1 39 rfl (Rm rfl)) (aQ 2 (aY c0) rfl rfl) (aC (aQ 2 (aY c0) rfl rfl) (aQ 2 (aY c0) rfl rfl) (aQ 2 (aY c0) rfl rfl) (aQ 2 (aY c0) rfl rfl) (aC (aQ 2 (aY c0) rfl rfl) (aQ 2 (aY c0) rfl rfl) (aQ 2 (aY c0) rfl rfl) (aQ 2 (aY c0) rfl rfl) (bL (Z2 2 40 11 49 rfl (Pf (aY c0) rfl)) (bL (bP rfl) dw))))) ?_
  clear H;intro a w G iZ H hv;have H:=H.aO (hv 12 50 rfl rfl) rfl;clear hv;refine t1 3 H ?_;clear H;intro a H;refine XC ?_
  have q2:¬ (0 < (k:Int)∧x.id < pk):=by first|exact fun h=>c3 h.2|exact fun h=>c0 h.1
  have q2':¬ F5 (xI l k) x.id=true:=fun h=>q2 (by
   by_cases h0:0 < k
   ·rw [(hpk h0).2] at h;exact ⟨by omega,lX h⟩
   rw [M9 (by omega)] at h
   cases h)
  refine vZ 5 55 H ?_ ?_ <;> clear H
  ·intro p55
   refine goB 6 ?_ ?_
   ·intro p51
    have e3:gY l k x=3:=by rw [gY,kN,ah (by omega),ah q1',ah q2',ay (by omega)]
    refine aP 3 ?_
    first
     | exact (aB vi e0.symm)
     | exact (aB vi e4.symm)
     | exact (aB vi e7.symm)
     | exact (aB vi e13.symm)
     | exact (aB vi e3.symm)
     | exact (aB vi e6.symm)
     | exact (aB vi (by rw [gY,kN,ay (by omega)]))
   intro p51
   refine ak 3 ?_;intro a H;refine s_call KI H wn rfl (MH _ _ H.ro x.name hs) rfl ?_;clear H;rintro v63 Dp a w rfl hm63 H;refine gX 3 H ?_ ?_ <;> clear H
   ·intro mY
    try have p60:=dT mY
    have e13:gY l k x=13:=by rw [gY,kN,ah (by omega),ah q1',ah q2',ah (by omega),ay (by simpa using mY)]
    refine aP 3 ?_
    first
     | exact (aB vi e0.symm)
     | exact (aB vi e4.symm)
     | exact (aB vi e7.symm)
     | exact (aB vi e13.symm)
     | exact (aB vi e3.symm)
     | exact (aB vi e6.symm)
     | exact (aB vi (by rw [gY,kN,ay (by omega)]))
   intro mY
   try have p60:=dF mY
   intro a H;refine ji ?_;refine ⟨Dp,sB,?_⟩;exact ⟨by omega,q1',q2',by omega,by simpa using mY,fun b o h=>hm63 b o (iZ b o (qp b o h))⟩
  intro p55
  refine ak 10 ?_;intro a H;refine s_call KI H wn rfl (MH _ _ H.ro x.name hs) rfl ?_;clear H;rintro v63 Dp a w rfl hm63 H;refine gX 3 H ?_ ?_ <;> clear H
  ·intro mY
   try have p60:=dT mY
   have e13:gY l k x=13:=by rw [gY,kN,ah (by omega),ah q1',ah q2',ah (by omega),ay (by simpa using mY)]
   refine aP 3 ?_
   first
    | exact (aB vi e0.symm)
    | exact (aB vi e4.symm)
    | exact (aB vi e7.symm)
    | exact (aB vi e13.symm)
    | exact (aB vi e3.symm)
    | exact (aB vi e6.symm)
    | exact (aB vi (by rw [gY,kN,ay (by omega)]))
  intro mY
  try have p60:=dF mY
  intro a H;refine ji ?_;refine ⟨Dp,sB,?_⟩;exact ⟨by omega,q1',q2',by omega,by simpa using mY,fun b o h=>hm63 b o (iZ b o (qp b o h))⟩
 clear H;intro g a w hI H;obtain ⟨q0,q1',q2',q3,q4,hgm⟩:=hI;dsimp only [lca,aR] at H;refine FC ?_;refine FC ?_;have YG:=(hv.mono hgm).pre k (by rw [bO];omega);rw [← List.map_take] at YG;have ajy:=hp.mono hgm;refine dI hmx [[],[],[0,1],[],[3],[],[5],(ra 0 7),(ra 0 8),(ra 0 9),(ra 0 9),(ra 0 10),(ra 0 12)] [12] (by kernel_rfl) [_,_,.slice (some ⟨b,o,none⟩) k c,_,vi x.kind,_,.string x.name,.tuple #[vi (max (lG (Cn (l.take k) x.kind x.name)) 0),.bool (Cn (l.take k) x.kind x.name).isSome],_,vi (max (lG (Cn (l.take k) x.kind x.name)) 0),.bool (Cn (l.take k) x.kind x.name).isSome,_] H (aC (Z0 rfl (Rm rfl)) (Z0 rfl (Rm rfl)) ?_ (Z0 rfl (Rf P8 rfl)) (aC (Z1 3 69 rfl (Ro bH 0 rfl)) (Z0 rfl (Rf agV rfl)) (Z1 5 71 rfl (Ro lN 0 rfl)) ?_ (aC (Z1 7 73 rfl (Rm rfl)) ?_ ?_ (Z1 9 74 rfl (Ra rfl)) (bL (bP rfl) dw)))) ?_
 ·refine dL 0 66 1 67 rfl rfl fun _ a w G1 hG HT H fin=>?_;refine TR rY ko k H wn rfl rfl rfl (by omega) rfl ?_;clear H;intro a H;exact fin H iJ rfl
 ·refine wU 2 68 4 70 6 72 rfl rfl fun _ a w G1 hG HT H fin=>?_;refine s_call afB H wn rfl (ahr _ _ H.ro (l.take k) x.kind x.name _ (YG.mono hG)) rfl ?_;clear H;rintro v73 G73 a w rfl ahV H;exact fin H ahV (rfl)
 ·refine dJ 8 65 rfl rfl fun _ a w G1 hG HT H fin=>?_;refine qh H wn rfl rfl rfl ?_;clear H;intro a H;exact fin H iJ rfl
 ·refine dJ 8 65 rfl rfl fun _ a w G1 hG HT H fin=>?_;refine qh H wn rfl rfl rfl ?_;clear H;intro a H;exact fin H iJ rfl
 clear H;intro a w G mM H hv;have H:=H.aO (hv 10 75 rfl rfl) rfl;clear hv;refine t1 5 H ?_;clear H;refine goC 0 ?_ ?_
 ·intro IJ
  try have p76:=dT IJ
  have e7:gY l k x=7:=by rw [gY,kN,ah (by omega),ah q1',ah q2',ah q3,ah q4,ay IJ]
  refine aP 3 ?_
  first
   | exact (aB vi e0.symm)
   | exact (aB vi e4.symm)
   | exact (aB vi e7.symm)
   | exact (aB vi e13.symm)
   | exact (aB vi e3.symm)
   | exact (aB vi e6.symm)
   | exact (aB vi (by rw [gY,kN,ay (by omega)]))
 intro IJ
 try have p76:=dF IJ
 refine ak 2 ?_
 have q5:¬ (Cn (l.take k) x.kind x.name).isSome=true:=by simpa using IJ
 have CG:=ajy.mono mM;refine ak 7 ?_;intro a H;refine eO (ι:=Nat) (Tc:=[(5,_),(78,_),(79,_)]) (Lc:=[(_,_)]) (fun gh=>[(80,vi gh)]) (fun gh=>[]) (fun gh=>G) (fun gh=>gh≤x.props.length∧(x.props.take gh).any (fun p=>Fe p.key)=false) (fun gh=>x.props.length - gh) (0) sB ?_ ?_
 ·exact ⟨gV _,rfl⟩
 clear H;intro n a w hI H;obtain ⟨hn,hno⟩:=hI;dsimp only [lca,aR] at H;refine dN 4 H ?_ ?_ <;> clear H
 ·intro p81
  have hn2:n < x.props.length:=by omega
  obtain ⟨pb,po,rfl,hrow2⟩:=Na CG hn2;have hrow:=hrow2;refine ak 5 ?_;intro a H;refine bg pF (cs:=[_,_]) H wn rfl rfl (fun j v hj=>H.hp.aF (hrow j v hj)) rfl ?_;clear H;intro a H;refine dx pF H wn rfl ?_;clear H;intro b9 a w sW H;refine aV pF 0 (vs:=[_,_]) _ H wn rfl rfl rfl rfl rfl rfl rfl rfl ?_;clear H;intro w H;dsimp only [List.set,setRow] at H;refine rJ 6 87 H ?_ ?_ <;> clear H
  ·intro Tp
   refine ak 6 ?_
   have e4:gY l k x=4:=by
    rw [gY,kN,ah (by omega),ah q1',ah q2',ah q3,ah q4,ah q5,ay];rw [List.any_eq_true];exact ⟨x.props[n],iF hn2,by simp [Fe];omega⟩
   refine aP 3 ?_
   first
    | exact (aB vi e0.symm)
    | exact (aB vi e4.symm)
    | exact (aB vi e7.symm)
    | exact (aB vi e13.symm)
    | exact (aB vi e3.symm)
    | exact (aB vi e6.symm)
    | exact (aB vi (by rw [gY,kN,ay (by omega)]))
  intro Tp
  refine goB 5 ?_ ?_
  ·intro p91
   have e4:gY l k x=4:=by
    rw [gY,kN,ah (by omega),ah q1',ah q2',ah q3,ah q4,ah q5,ay];rw [List.any_eq_true];exact ⟨x.props[n],iF hn2,by simp [Fe];omega⟩
   refine aP 3 ?_
   first
    | exact (aB vi e0.symm)
    | exact (aB vi e4.symm)
    | exact (aB vi e7.symm)
    | exact (aB vi e13.symm)
    | exact (aB vi e3.symm)
    | exact (aB vi e6.symm)
    | exact (aB vi (by rw [gY,kN,ay (by omega)]))
  intro p91
  refine ak 4 ?_;intro a H;refine aG ?_;refine dH ((n+1)) (by exact (H.cu (Pl:=[_,_]) (bS:=[_]) [1] (by decide) rfl).sub ⟨rfl,rfl,rfl,rfl,bB⟩) ?_ ?_
  ·exact ⟨by omega,by rw [gN hn2,List.any_append,hno];simp [Fe];omega⟩
  first|omega|(dsimp only;omega)
 intro p81
 refine ak 2 ?_
 have q6:¬ x.props.any (fun p=>Fe p.key)=true:=by
  rw [show x.props.take n=x.props from jh (by omega)] at hno;rw [hno];decide
 have e0:gY l k x=fV (if x.kind=1 then 2 else 1) x.props:=by rw [gY,kN,ah (by omega),ah q1',ah q2',ah q3,ah q4,ah q5,ah q6]
 intro a H;refine dI hmx [[],[0],[0,1],[],[3],(ra 0 5),(ra 0 6)] [5,6] (by kernel_rfl) [_,vi x.kind,vi (if x.kind=1 then 2 else 1),_,.slice pA x.props.length pc] H (aC (Z0 rfl (Rf P8 rfl)) (Z1 0 93 rfl (Ro bH 0 rfl)) ?_ (Z0 rfl (Rf P9 rfl)) (bL (Z1 3 96 rfl (Ro EG 0 rfl)) (bL (bP rfl) (bL (bP rfl) dw)))) ?_
 ·refine dJ 1 94 rfl rfl fun _ a w G1 hG HT H fin=>?_;refine s_call afC H wn rfl (aey _ _ H.ro x.kind) rfl ?_;clear H;rintro v95 G95 a w rfl ahZ H;exact fin H ahZ (rfl)
 clear H;intro a w G FD H hv;have H:=H.aO (hv 2 95 rfl rfl) rfl;have H:=H.aO (hv 4 97 rfl rfl) rfl;clear hv;refine s_call Xb H wn rfl (aac _ _ H.ro _ x.props _ (CG.mono FD)) rfl ?_;clear H;rintro v98 G98 a w rfl aqK H;refine kH H (Ra rfl ?_);clear H;intro a H;refine aG ⟨rfl,?_⟩;refine dG ?_;refine uU 0 H ?_
 first
  | exact (aB vi e0.symm)
  | exact (aB vi e4.symm)
  | exact (aB vi e7.symm)
  | exact (aB vi e13.symm)
  | exact (aB vi e3.symm)
  | exact (aB vi e6.symm)
  | exact (aB vi (by rw [gY,kN,ay (by omega)]))
end
section
open Go.RowKit
instance NA:Ty prog 33 1 24 [.slice none 0 0] false:=⟨by kernel_rfl,by kernel_rfl⟩
theorem Dh:prog.underlying 33=some (.slice 164):=by kernel_rfl
instance:jK prog 33 (.slice 164):=⟨Dh⟩
instance Dc:Ty prog 164 6 64 [.int .i64 0,.int .i64 0,.string ⟨#[]⟩,.int .i64 0,.string ⟨#[]⟩,.bool false] true:=⟨by kernel_rfl,by kernel_rfl⟩
instance:dB prog 164 0 0:=⟨by kernel_rfl⟩
instance:dB prog 164 1 1:=⟨by kernel_rfl⟩
theorem afN:∀ args w,(callFunc 219 args).run prog w=.ok (.enter 219 args) w:=enters func219 rfl (by kernel_rfl)
theorem afw:∀ args w,(callFunc 187 args).run prog w=.ok (.enter 187 args) w:=enters func187 rfl (by kernel_rfl)
instance agZ:dB prog 164 2 2:=⟨by kernel_rfl⟩
theorem WI:∀ args w,(callFunc 133 args).run prog w=.ok (.enter 133 args) w:=enters func133 rfl (by kernel_rfl)
instance aha:dB prog 164 3 3:=⟨by kernel_rfl⟩
instance ahb:dB prog 164 4 4:=⟨by kernel_rfl⟩
theorem PD:∀ args w,(callFunc 190 args).run prog w=.ok (.enter 190 args) w:=enters func190 rfl (by kernel_rfl)
theorem afy:∀ args w,(callFunc 189 args).run prog w=.ok (.enter 189 args) w:=enters func189 rfl (by kernel_rfl)
theorem afx:∀ args w,(callFunc 188 args).run prog w=.ok (.enter 188 args) w:=enters func188 rfl (by kernel_rfl)
theorem afv:∀ args w,(callFunc 186 args).run prog w=.ok (.enter 186 args) w:=enters func186 rfl (by kernel_rfl)
theorem Em {G:GH} {b:Nat} (l:List Int) (h:G b=some (.cells (l.map vi).toArray 42 (0,0))) (hl:l.length≤maxLen):av G (.sl 1 (l.map fun k=>[li k])) (.slice (some ⟨b,0,none⟩) l.length l.length) :=
 av.dZ h (by simp) (bN _) hl (jh (by simp)) (eT G l)
theorem O6 {G:GH} {l:List gu} {A:Option Addr} {n c k:Nat} (hv:av G (.sl 6 (l.map gu.dat)) (.slice A n c)) (hk:k < l.length):∃ b o,A=some ⟨b,o,none⟩∧(∀ j u,l[k].cells[j]?=some u→aF G b (o+k*6+j)=some u)∧aN G l[k].dat l[k].cells:=by
 obtain ⟨A',c',he,_,_,hg⟩:=hv.slice
 injection he with e1 e2 e3
 subst e1;obtain ⟨b,o,cs,h1,h2,h3,h4⟩:=hg k l[k].dat (by simp [hk]);have:=V9 h4;subst this;exact ⟨b,o,h1,h3,h4⟩
theorem adY {G:GH} {bl:Nat} {l:List gu} {A:Option Addr} {n c:Nat} (hb:aF G bl 0=some (.slice A n c)) (hv:av G (.sl 6 (l.map gu.dat)) (.slice A n c)):qZ (.func (.func 189) #[] #[(aD bl 0)]) G l.length fun k=>(l[k]?.map gu.id).getD 0:=by
 intro k hk G1 w0 hm hG;refine jq (caps:=[(aD bl 0)]) afy ?_;replace hb:=aJ hm hb
 obtain rfl:n=l.length:=by have:=hv.len;simpa using this
 obtain ⟨b,o,rfl,hrow,-⟩:=O6 (hv.mono hm) hk;have hq:=hrow 0 _ rfl;refine eN [(0,_),(1,_)] func189 rfl ntmps189 rfl rfl hG ?_;refine aP 11 ?_;dsimp only;rw [dY hk];rfl
theorem adZ {G:GH} {bc:Nat} {x:gu} (hb:aF G bc 1=some (vi x.parent)) (y:gu):pO (.func (.func 188) #[] #[(aD bc 0)]) G y.dat (decide (y.id=x.parent)):=by
 intro G1 w0 cs hm hG hr;refine jq (caps:=[(aD bc 0)]) afx ?_;obtain rfl:=V9 hr;replace hb:=aJ hm hb;refine eN [(0,_),(1,_)] func188 rfl ntmps188 rfl rfl hG ?_;refine ak 1 ?_;intro a H;refine dU (cs:=[_,_,_,_,_,_]) H wn rfl rfl rfl ?_;clear H;intro b2 a w hb2 H;refine gH 10 H ?_;exact rfl
theorem akw (G:GH) (w0:World) (hG:Hold G w0) (l:List gu) (p:gu→Bool) (v fv:aj) (hv:av G (.sl 6 (l.map gu.dat)) v) (hf:∀ x∈l,pO fv G x.dat (p x)) :
  Calls prog 219 #[v,fv] w0 (bD w0 G fun u G'=>u=vi (lG (l.findIdx? p))):=by
 obtain ⟨A,c,rfl,hc1,hc2,hg⟩:=hv.slice;have hml:maxLen=9223372036854775807:=rfl;rw [bO] at *;refine eN [(0,_),(1,_)] func219 rfl ntmps219 rfl rfl hG ?_;refine ak 10 ?_;intro a H;refine eO (ι:=Nat × GH) (Tc:=[(0,_),(1,_),(7,_)]) (Lc:=[]) (fun gh=>[(8,vi gh.1)]) (fun gh=>[]) (fun gh=>gh.2) (fun gh=>gh.1≤l.length∧(l.take gh.1).findIdx? p=none∧(∀ b o,G b=some o→gh.2 b=some o)) (fun gh=>l.length - gh.1) ((0,G)) sB ?_ ?_
 ·exact ⟨by omega,rfl,fun _ _ h=>h⟩
 clear H;rintro ⟨k,g⟩ a w hI H;dsimp only at hI H;obtain ⟨hk,hno,hgm⟩:=hI;dsimp only [lca,aR] at H;refine dN 4 H ?_ ?_ <;> clear H
 ·intro p9
  have hk2:k < l.length:=by omega
  obtain ⟨b,o,rfl,hrow,hrep⟩:=O6 hv hk2;refine ak 12 ?_;intro a H;refine bg Dc (cs:=l[k].cells) H wn rfl rfl (fun j v hj=>H.hp.aF (aJ hgm (hrow j v hj))) rfl ?_;clear H;intro a H;refine nV H wn rfl rfl (hf _ (iF hk2) _ _ _ hgm H.ro (hrep.mono hgm)) rfl ?_;clear H;rintro v16 uy a w rfl vv H;refine gX 1 H ?_ ?_ <;> clear H
  ·intro h16
   try have p16:=dT h16
   refine aP 4 ?_
   first
    | exact (by rw [tC hk2 hno h16];rfl)
    | exact (by rw [show l.take k=l from jh (by omega)] at hno;rw [hno];rfl)
  intro h16
  try have p16:=dF h16
  refine ak 4 ?_;intro a H;refine aG ?_;refine dH ((k+1,uy)) sB ?_ ?_
  ·(try dsimp only);exact ⟨by omega,CO hk2 hno h16,fun b o h=>vv b o (hgm b o h)⟩
  first|omega|(dsimp only;omega)
 intro p9
 refine aP 4 ?_
 first
  | exact (by rw [tC hk2 hno h16];rfl)
  | exact (by rw [show l.take k=l from jh (by omega)] at hno;rw [hno];rfl)
theorem aec (G:GH) (w0:World) (hG:Hold G w0) (l:List gu) (p:gu→Bool) (v fv:aj) (hv:av G (.sl 6 (l.map gu.dat)) v) (hf:∀ x∈l,pO fv G x.dat (p x)) :
  Calls prog 187 #[v,fv] w0 (bD w0 G fun u G'=>u=.bool (l.findIdx? p).isSome):=by
 obtain ⟨A,c,rfl,hc1,hc2,-⟩:=hv.slice;rw [bO] at *;refine eN [(0,_),(1,_)] func187 rfl ntmps187 rfl rfl hG ?_;refine ak 6 ?_;intro a H;refine s_call afN H wn rfl (akw _ _ H.ro l p _ _ hv hf) rfl ?_;clear H;rintro v7 G7 a w rfl xu H;refine gH 3 H ?_;exact (dD (Sv _))
def Fg (l:List gu) (i:Nat) (x:gu):Bool:=decide (x.parent=0) || ((l.take i).findIdx? fun y=>decide (y.id=x.parent)).isSome
def O5 (l:List gu) (i:Nat) (x:gu):Int:=dz [nP (fun k=>(l[k]?.map gu.id).getD 0) i,bW (!Fg l i x) 8,bW (!uM x.author) 39,bW (!decide (0≤x.time∧x.time≤1099511627776)) 40,Bz x.text]
def Fu (l:List gu) (i:Nat):Int:=match l[i]? with|some x=>O5 l i x|none=>0
theorem adX {G:GH} {bl:Nat} {l:List gu} {A:Option Addr} {n c:Nat} (hb:aF G bl 0=some (.slice A n c)) (hv:av G (.sl 6 (l.map gu.dat)) (.slice A n c)) (hl:l.length≤4294967296) (ht:∀ x∈l,x.author.size < 4611686018427387904∧x.text.size < 4611686018427387904):qZ (.func (.func 186) #[] #[(aD bl 0)]) G l.length (Fu l):=by
 intro k hk G1 w0 hm hG;refine jq (caps:=[(aD bl 0)]) afv ?_;replace hb:=aJ hm hb;replace hv:=hv.mono hm;have hcb:=adY hb hv;obtain ⟨_,_,hee,hvc,-,-⟩:=hv.slice
 injection hee with _ _ hcc
 subst hcc;rw [bO] at hvc
 obtain rfl:n=l.length:=by have:=hv.len;simpa using this
 obtain ⟨b,o,rfl,hrow,hrep⟩:=O6 hv hk;have hte:=ht _ (iF hk);obtain ⟨x,hx⟩:∃ x,x=l[k]:=⟨_,rfl⟩;rw [← hx] at hrow hte
 have he:Fu l k=O5 l k x:=by unfold Fu;rw [dY hk,hx]
 refine eN [(0,_),(1,_)] func186 rfl ntmps186 rfl rfl hG ?_;refine ak 7 ?_;intro a H;refine bg Dc (cs:=x.cells) H wn rfl rfl (fun j v hj=>H.hp.aF (hrow j v hj)) rfl ?_;clear H;intro a H;refine dx Dc H wn rfl ?_;clear H;intro b4 a w hb4 H;refine aV Dc 0 (vs:=[_,_,_,_,_,_]) _ H wn rfl rfl rfl rfl rfl rfl rfl rfl ?_;clear H;intro w H;dsimp only [List.set,setRow] at H;obtain ⟨Ga,hma,wu,H⟩:=H.dP
 have hcell:∀ (j:Nat) (u:aj),x.cells[j]?=some u→aF Ga b4 j=some u:=fun j u hj=>by unfold aF;rw [wu];simpa using hj
 have q1:=hcell 1 _ rfl;have hbA:=aJ hma hb;have Mq:=(hv.mono hma).pre k (by rw [bO];omega);rw [← List.map_take] at Mq;refine aG ?_;refine dG ?_;refine sH (ι:=Bool × GH) (Tc:=[(0,_),(1,_),(4,_)]) (Lc:=[]) (fun gh=>[(5,.bool gh.1)]) (fun gh=>[]) (fun gh=>gh.2) (fun gh=>gh.1=Fg l k x∧(∀ b o,Ga b=some o→gh.2 b=some o)) sB ?_ ?_
 ·refine gcQ 5 13 H ?_ ?_ <;> clear H
  ·intro mX
   try have oW:=dT mX
   refine ak 7 ?_;intro a H;refine aG ?_;refine ⟨(_,_),sB,?_⟩;(try dsimp only)
   first
   | exact ⟨by unfold Fg;rw [iE (by assumption)];rfl,fun _ _ h=>h⟩
   | exact ⟨by unfold Fg;rw [jA (by assumption)];rfl,hm18⟩
  intro mX
  try have oW:=dF mX
  refine ak 2 ?_;intro a H;refine TR Dh Dc k H (wg H rfl rfl mX) rfl rfl rfl (by omega) rfl ?_;clear H;intro a H;refine mP H (wg H rfl rfl mX) rfl rfl ?_;clear H;intro a H;refine s_call afw H (wg H rfl rfl mX) rfl (aec _ _ H.ro (l.take k) (fun y=>decide (y.id=x.parent)) _ _ Mq (fun y _=>adZ q1 y)) rfl ?_;clear H;rintro v18 U5 a w rfl hm18 H;refine aH 2 H ?_;clear H;intro a H;refine aG ?_;refine ⟨(_,_),sB,?_⟩;(try dsimp only)
  first
  | exact ⟨by unfold Fg;rw [iE (by assumption)];rfl,fun _ _ h=>h⟩
  | exact ⟨by unfold Fg;rw [jA (by assumption)];rfl,hm18⟩
 clear H;rintro ⟨bf,g⟩ a w hI H;dsimp only at hI H;obtain ⟨hbf,hgm⟩:=hI;replace hcell:=fun j u hj=>aJ hgm (hcell j u hj);replace hcb:=(hcb.mono hma).mono hgm;dsimp only [lca,aR] at H;refine FC ?_;have H:=H.sub (T':=[(0,_),(1,_),(4,_),(5,_)]) ⟨rfl,rfl,rfl,rfl,bB⟩;refine dI hmx [[],[],[0,1],[],[3],(ra 0 5),[],[6],(ra 0 8),(ra 0 9),(ra 0 10),[],[11],(ra 0 13),(ra 0 14),(ra 0 15),[],[16],(ra 0 18),(ra 0 19),(ra 0 20),(ra 0 21)] [19,20,21] (by kernel_rfl) [_,.func (.func 189) #[] #[(aD bl 0)],vi (nP (fun k=>(l[k]?.map gu.id).getD 0) k),_,_,vi (bW (!bf) 8),_,_,.bool (uM x.author),_,vi (bW (!uM x.author) 39),_,_,.bool (decide (0≤x.time∧x.time≤1099511627776)),_,vi (bW (!decide (0≤x.time∧x.time≤1099511627776)) 40),_,_,vi (Bz x.text)] H (aC (Z0 rfl (Rm rfl)) ?_ ?_ (Z0 rfl (Rm rfl)) (aC (Z1 3 23 rfl (Rn rfl)) ?_ (Z0 rfl (Rf agZ rfl)) (X1 6 26 rfl fun hG=>Rg lN rfl (aJ hG (hcell 2 _ rfl))) (aC ?_ (Z1 8 28 rfl (Rn rfl)) ?_ (Z0 rfl (Rf aha rfl)) (aC (X1 11 31 rfl fun hG=>Rg bH rfl (aJ hG (hcell 3 _ rfl))) ?_ (Z1 13 33 rfl (Rn rfl)) ?_ (aC (Z0 rfl (Rf ahb rfl)) (X1 16 36 rfl fun hG=>Rg lN rfl (aJ hG (hcell 4 _ rfl))) ?_ (bP rfl) (bL (bP rfl) (bL (bP rfl) dw))))))) ?_
 ·refine Al rfl fun _ a w G1 hG HT H fin=>?_;refine mP H wn rfl rfl ?_;clear H;intro a H;exact fin H iJ rfl
 ·refine dL 0 20 1 21 rfl rfl fun _ a w G1 hG HT H fin=>?_;refine s_call Pq H wn rfl (Sm _ _ H.ro k _ _ (by omega) (fun i hi=>(hcb.mono hG) i (by omega))) rfl ?_;clear H;rintro v22 G22 a w rfl Qy H;exact fin H Qy (rfl)
 ·refine dJ 4 24 rfl rfl fun _ a w G1 hG HT H fin=>?_;refine s_call iR H wn rfl (iW _ _ H.ro _ 8) rfl ?_;clear H;rintro v25 G25 a w ⟨rfl,-⟩ ahL H;exact fin H ahL (rfl)
 ·refine dJ 7 27 rfl rfl fun _ a w G1 hG HT H fin=>?_;refine s_call WI H wn rfl (VG _ _ H.ro x.author hte.1) rfl ?_;clear H;rintro v28 Oc a w ⟨rfl,-⟩ ahM H;exact fin H ahM (rfl)
 ·refine dJ 9 29 rfl rfl fun _ a w G1 hG HT H fin=>?_;refine s_call iR H wn rfl (iW _ _ H.ro _ 39) rfl ?_;clear H;rintro v30 Ai a w ⟨rfl,-⟩ QA H;exact fin H QA (rfl)
 ·refine dJ 12 32 rfl rfl fun _ a w G1 hG HT H fin=>?_;refine s_call vW H wn rfl (wE _ _ H.ro x.time 0 1099511627776) rfl ?_;clear H;rintro v33 U7 a w ⟨rfl,-⟩ ahO H;exact fin H ahO (rfl)
 ·refine dJ 14 34 rfl rfl fun _ a w G1 hG HT H fin=>?_;refine s_call iR H wn rfl (iW _ _ H.ro _ 40) rfl ?_;clear H;rintro v35 U9 a w ⟨rfl,-⟩ QB H;exact fin H QB (rfl)
 ·refine dJ 17 37 rfl rfl fun _ a w G1 hG HT H fin=>?_;refine s_call PD H wn rfl (Ul _ _ H.ro x.text hte.2) rfl ?_;clear H;rintro v38 Va a w rfl ahQ H;exact fin H ahQ (rfl)
 clear H;intro a w G ahN H hv;have H:=H.aO (hv 2 22 rfl rfl) rfl;have H:=H.aO (hv 5 25 rfl rfl) rfl;have H:=H.aO (hv 10 30 rfl rfl) rfl;have H:=H.aO (hv 15 35 rfl rfl) rfl;have H:=H.aO (hv 18 38 rfl rfl) rfl;clear hv;refine gK pI gF [_,_,_,_,_] [_,_,_,_,_] H wn rfl rfl rfl rfl rfl (by intro i q h;match i,h with|0,h=>exact h|1,h=>exact h|2,h=>exact h|3,h=>exact h|4,h=>exact h|n+5,h=>simp at h) rfl rfl ?_;clear H;intro b39 a w aqp H;obtain ⟨Vb,Ya,aiv,H⟩:=H.dP;refine s_call pV H wn rfl (pW _ _ H.ro _ _ (Em [nP (fun k=>(l[k]?.map gu.id).getD 0) k,bW (!bf) 8,bW (!uM x.author) 39,bW (!decide (0≤x.time∧x.time≤1099511627776)) 40,Bz x.text] aiv (show 5≤maxLen by decide))) rfl ?_;clear H;rintro v40 _ a w ⟨rfl,rfl⟩ - H;refine kH H (Ra rfl ?_);clear H;intro a H;refine aG ⟨rfl,?_⟩;refine dG ?_;refine uU 0 H ?_;rw [he,O5,← hbf]
def Ie (l:List gu):Int:=dz [bW (decide (1024 < (l.length:Int))) 9,iY (Fu l) (min l.length 1024)]
theorem adr (G:GH) (w0:World) (hG:Hold G w0) (l:List gu) (v:aj) (hv:av G (.sl 6 (l.map gu.dat)) v) (hl:l.length≤4294967296) (ht:∀ x∈l,x.author.size < 4611686018427387904∧x.text.size < 4611686018427387904) :
  Calls prog 128 #[v] w0 (bD w0 G fun u G'=>u=vi (Ie l)):=by
 obtain ⟨A,c,rfl,hc1,hc2,-⟩:=hv.slice;rw [bO] at *;refine eN [(0,_)] func128 rfl ntmps128 rfl rfl hG ?_;refine ak 1 ?_;intro a H;refine dU (cs:=[_]) H wn rfl rfl rfl ?_;clear H;intro b1 a w hb1 H;refine aH 3 H ?_;clear H;intro a H;have H:=H.sub (T':=[(1,_)]) ⟨rfl,bB⟩;obtain ⟨Ga,hma,hb1',H⟩:=H.dP
 have hbl:aF Ga b1 0=some (.slice A l.length c):=by unfold aF;rw [hb1'];rfl
 have hcb:=adX hbl (hv.mono hma) hl ht;refine dI hmx [[],[0],[0,1],[0,1,2],[],[4],[4,5],[],(ra 0 8),(ra 0 9),(ra 0 10),(ra 0 11)] [9,10,11] (by kernel_rfl) [_,_,_,vi (bW (decide (1024 < (l.length:Int))) 9),_,_,vi ((min l.length 1024:Nat):Int),.func (.func 186) #[] #[(aD b1 0)],vi (iY (Fu l) (min l.length 1024))] H (aC (X0 rfl fun hG=>Rg NA rfl (aJ hG hbl)) (Z1 0 3 rfl (Rl Dh rfl)) (Z1 1 4 rfl (Rc rfl)) ?_ (aC (X0 rfl fun hG=>Rg NA rfl (aJ hG hbl)) (Z1 4 7 rfl (Rl Dh rfl)) ?_ ?_ (aC ?_ (bP rfl) (bP rfl) (bP rfl) dw))) ?_
 ·refine dJ 2 5 rfl rfl fun _ a w G1 hG HT H fin=>?_;refine s_call iR H wn rfl (iW _ _ H.ro _ 9) rfl ?_;clear H;rintro v6 G6 a w ⟨rfl,-⟩ iZ H;exact fin H iZ (rfl)
 ·refine dJ 5 8 rfl rfl fun _ a w G1 hG HT H fin=>?_;refine Nk H wn rfl rfl rfl ?_;clear H;intro a H;exact fin H iJ (aB vi (by omega))
 ·refine Al rfl fun _ a w G1 hG HT H fin=>?_;refine mP H wn rfl rfl ?_;clear H;intro a H;exact fin H iJ rfl
 ·refine dL 6 9 7 10 rfl rfl fun _ a w G1 hG HT H fin=>?_;refine s_call Fw H wn rfl (H7 _ _ H.ro (min l.length 1024) (Fu l) _ (by omega) ((hcb.mono hG).le (Nat.min_le_left _ _))) rfl ?_;clear H;rintro v11 qY a w rfl jO H;exact fin H jO (rfl)
 clear H;intro a w G iH H hv;have H:=H.aO (hv 3 6 rfl rfl) rfl;have H:=H.aO (hv 8 11 rfl rfl) rfl;clear hv;refine gK pI gF [_,_] [_,_] H wn rfl rfl rfl rfl rfl (by intro i q h;match i,h with|0,h=>exact h|1,h=>exact h|n+2,h=>simp at h) rfl rfl ?_;clear H;intro b12 a w D5 H;obtain ⟨Ae,yF,D6,H⟩:=H.dP;refine s_call pV H wn rfl (pW _ _ H.ro _ _ (xM D6)) rfl ?_;clear H;rintro v13 _ a w ⟨rfl,rfl⟩ - H;refine kH H (Ra rfl ?_);clear H;intro a H;refine aG ⟨rfl,?_⟩;refine dG ?_;refine uU 0 H ?_;exact rfl
end
section
open Go.RowKit
def wG:Nat→List Int→List MapEntry
 | _,[]=>[]
 | i,k :: r=>⟨.int .i64 k,.int .i64 (i:Int),i⟩ :: wG (i+1) r
theorem Zu (x:Int):∀ (i:Nat) (l:List Int),wG i (l++[x])=wG i l++[⟨.int .i64 x,.int .i64 ((i+l.length:Nat):Int),i+l.length⟩]
 | _,[]=>rfl
 | i,k :: r=>by
  rw [jg,wG,Zu x (i+1) r,wG,jg,kG,show i+1+r.length=i+(r.length+1) by omega]
def tu (x:Int):Nat→List Int→Option Nat
 | _,[]=>none
 | i,k :: r=>if k=x then some i else tu x (i+1) r
theorem Y5 {x:Int}:∀ {l:List Int} {i n:Nat},tu x i l=some n→i≤n
 | [],_,_,h=>by cases h
 | k :: r,i,n,h=>by
  rw [tu] at h;split at h
  ·cases h;exact bN _
  ·have:=Y5 h;omega
theorem Y7 {x:Int}:∀ {l:List Int} {i:Nat},x∉l→tu x i l=none
 | [],_,_=>rfl
 | k :: r,i,h=>by
  rw [tu,ah (fun e=>h (by simp [e])),Y7 (fun hm=>h (gL _ hm))]
theorem Qf (x:Int):∀ (i j:Nat) (l:List Int),Instr.findNow (.int .i64) (.int .i64 x) (wG i l) j=some ((tu x i l).map fun n=>(j+(n - i),.int .i64 (n:Int)))
 | _,_,[]=>rfl
 | i,j,k :: r=>by
  have ih:=Qf x (i+1) (j+1) r
  by_cases e:k=x
  ·subst e
   simp only [wG,Instr.findNow,Instr.sameNow,ay,tu,beq_self_eq_true]
   simp
  ·have hb:(x == k)=false:=by simp;exact fun h=>e h.symm
   simp only [wG,Instr.findNow,Instr.sameNow,ay,hb,tu,ah e,ih]
   cases h:tu x (i+1) r with
   | none=>rfl
   | some n =>
    have:=Y5 h
    simp only [Option.map_some,lS,fZ,and_true]
    omega
abbrev acG (b:Nat) (l:List Int):Nat × Obj:=(b,.map (wG 0 l).toArray l.length)
theorem alj (l:List Int) (x:Int):(wG 0 l).toArray.push ⟨.int .i64 x,.int .i64 (l.length:Int),l.length⟩=(wG 0 (l++[x])).toArray:=by
 rw [Zu,List.push_toArray,fQ]
end
section
open Go.RowKit
section
variable {P:Program} {N:Nat} {D:List Deferred} {w0 w w':World} {F:Nat→Prop} {G0 G G':GH} {L L' Li Lo:OL} {T:List (Nat × aj)} {a a':Act} {Q:Exit→Act→World→Prop}
variable {r:Option Nat} {ops:Array Oper} {rest:List Oper}
def Oj (P:Program) (Gi:GH) (B:OL) (gv:aj) (xs:List AP):Prop :=
 ∀ (J:Nat→GH→OL→Prop) (Jx:GH→OL→Prop) (fv:aj) (G:GH) (L:OL) (w:World),fv.cells=#[fv]→(∀ b o,Gi b=some o→G b=some o)→BO J→DF Jx→J 0 G L→fC G (B++L) w→BK P fv G xs J Jx →
  qX P gv [fv] w (eP w G (B++L) fun _ G' L'=>J xs.length G' L'∨Jx G' L')
theorem Oj.mono {Gi BN:GH} {B:OL} {gv:aj} {xs:List AP} (h:Oj P Gi B gv xs) (hm:∀ b o,Gi b=some o→BN b=some o):Oj P BN B gv xs :=
 fun J Jx fv G L w h0 h1=>h J Jx fv G L w h0 fun b o hb=>h1 b o (hm b o hb)
end
end
section
open Go.RowKit
section
variable {P:Program} {N:Nat} {D:List Deferred} {w0 w w':World} {F:Nat→Prop} {G0 G G':GH} {L L' Li Lo:OL} {T:List (Nat × aj)} {a a':Act} {Q:Exit→Act→World→Prop}
variable {r:Option Nat} {ops:Array Oper} {rest:List Oper}
def ES (P:Program) (Gi:GH) (B:OL) (gv:aj) (xs:List AP) (fin:Bool):Prop :=
 ∀ (J:Nat→GH→OL→Prop) (Jx:GH→OL→Prop) (fv:aj) (G:GH) (L:OL) (w:World),fv.cells=#[fv]→(∀ b o,Gi b=some o→G b=some o)→BO J→DF Jx→J 0 G L→fC G (B++L) w→BK P fv G xs J Jx→(fin=false→∀ g l,¬ J xs.length g l) →
  qX P gv [fv] w (eP w G (B++L) fun _ G' L'=>J xs.length G' L'∨Jx G' L')
theorem ES.mono {Gi BN:GH} {B:OL} {gv:aj} {xs:List AP} {fin:Bool} (h:ES P Gi B gv xs fin) (hm:∀ b o,Gi b=some o→BN b=some o):ES P BN B gv xs fin :=
 fun J Jx fv G L w h0 h1=>h J Jx fv G L w h0 fun b o hb=>h1 b o (hm b o hb)
theorem acT {fin:Bool} {B:OL} {yx:Operand} {ps:List Nat} {assign body:Code} {gf:FuncId} {caps:List aj} {xs:List AP} {Gi:GH}
  (H:St N D w0 F G0 G (B++L) T a w) (hg:ev T yx=some (.func (.func gf) #[] caps.toArray)) (en:∀ args w,(callFunc gf args).run P w=.ok (.enter gf args) w) (hit:ES P Gi B (.func (.func gf) #[] caps.toArray) xs fin) (hGi:∀ b o,Gi b=some o→G b=some o)
  (hps:ps.all (Nat.blt · N)=true) (hlen:∀ k args g,uq xs k args g→args.length=ps.length)
  (J:Nat→GH→OL→Prop) (Jx:Code→GH→OL→Prop) (hno:fin=false→∀ g l,¬ J xs.length g l) (jT:BO J) (hJx:∀ c,DF (Jx c)) (h0:J 0 G L) (RY:Ou P N ps assign body T G J Jx xs)
  (hdone:∀ Dk G1 L1 a1 w1,(∀ b o,G b=some o→G1 b=some o)→J xs.length G1 L1→St N ({ target:=.collected Dk,args:=#[] } :: D) w0 F G0 G1 ((Dk,.deferred (some [])) :: L1) T a1 w1→Q .normal a1 w1)
  (hstop:∀ Dk c G1 L1 a1 w1,(∀ b o,G b=some o→G1 b=some o)→Jx c G1 L1→St N ({ target:=.collected Dk,args:=#[] } :: D) w0 F G0 G1 ((Dk,.deferred (some [])) :: L1) T a1 w1→WP none P c Q a1 w1) :
  WP none P (.rangeFunc yx ps.toArray assign body) Q a w:=by
 refine wpIn_rangeFunc ?_
 intro fn _
 have hev:=H.ev hg
 let q:Rec:=⟨fn,a.tmps,ps.toArray,assign,body,w.heap.size⟩
 obtain ⟨W1,hW1⟩:∃ W1,W1=(w.alloc (.deferred (some []))).alloc (q.at .ready none):=⟨_,rfl⟩
 have H1:Hp w0 F G0 G (B++((w.heap.size+1,q.at .ready none) :: (w.heap.size,.deferred (some [])) :: L)) W1:=by
  have:=(H.hp.alloc (.deferred (some []))).alloc (q.at .ready none)
  rw [World.size_alloc] at this
  rw [hW1]
  refine this.perm ?_
  have e:=rD (l₁:=[(w.heap.size+1,q.at .ready none),(w.heap.size,Obj.deferred (some []))]) (l₂:=B)
  have e2:=List.Perm.append_right L e
  rw [gy,gy] at e2
  exact e2
 refine ⟨w.heap.size+1,[{ target:=.collected w.heap.size,args:=#[] }],W1,{ target:=.fn (.func gf) caps.toArray,args:=#[.func (.yield (w.heap.size+1)) #[] #[]] },W1,gf,
  #[.func (.yield (w.heap.size+1)) #[] #[]]++caps.toArray,W1,by rw [hW1];exact run_enterLoop_outer fn a.tmps ps.toArray assign body,?_,fun _ _=>trivial,?_,JV none,?_⟩
 ·simp only [resolve,rangeCall,hev]
  simp [Deferred.ofValue,Act.eval]
 ·simp [invoke,en]
 ·have hcv:=hit (fun k=>Jr (w.heap.size+1) q [(w.heap.size,.deferred (some []))] (J k)) (J2 (w.heap.size+1) q [(w.heap.size,.deferred (some []))] Jx) (.func (.yield (w.heap.size+1)) #[] #[]) G
   ((w.heap.size+1,q.at .ready none) :: (w.heap.size,.deferred (some [])) :: L) W1 rfl hGi (fun k G G' L hm ⟨Lu,e,h⟩=>⟨Lu,e,jT k G G' Lu hm h⟩) (fun G G' L hm ⟨c,Lu,e,h⟩=>⟨c,Lu,e,hJx c G G' Lu hm h⟩) ⟨L,rfl,h0⟩ (Hp.owns (Li:=[]) H1) (VX H.lC H.get hps hlen RY) (fun e g l ⟨Lu,_,h⟩=>hno e g Lu h)
  replace hcv:=hcv.go
  have e:(do let d ← Deferred.ofValue (.func (.func gf) #[] caps.toArray) [Value.func (.yield (w.heap.size+1)) #[] #[]].toArray;invoke d.target d.args:Sem Next).run P W1=.ok (.enter gf (#[.func (.yield (w.heap.size+1)) #[] #[]]++caps.toArray)) W1:=by
   simp [Deferred.ofValue,invoke,en]
  rw [e] at hcv
  refine (OV hcv).mono ?_
  rintro e w2 ⟨v,G2,L2,rfl,hch,hJ⟩
  have H2:=Hp.change (Li:=[]) H1 hch
  rcases hJ with ⟨Lu,rfl,hJ⟩|⟨c,Lu,rfl,hJ⟩
  ·have hl:=H2.own _ (fH)
   have H3:=(H2.upd (i:=0) rfl (Dj (q.at .exhausted none) hl)).drop (zi _ _)
   exact ⟨none,_,run_endLoop hl (by simp),hdone _ G2 Lu _ _ hch.gm hJ ⟨H.lC,H.get,by simp [H.qI],H3⟩⟩
  ·have hl:=H2.own _ (fH)
   have H3:=(H2.upd (i:=0) rfl (Dj (q.at .exhausted (some c)) hl)).drop (zi _ _)
   exact ⟨some c,_,run_endLoop hl (by simp),hstop _ c G2 Lu _ _ hch.gm hJ ⟨H.lC,H.get,by simp [H.qI],H3⟩⟩
theorem acU {fin:Bool} {B:OL} {ι κ:Type} {Lc:OL} {yx:Operand} {ps:List Nat} {assign body:Code} {gf:FuncId} {caps:List aj} {xs:List AP} {Gi:GH}
  (Lv:Nat→ι→OL) (Lt:Nat→ι→OL) (inv:Nat→ι→GH→Prop) (cx:κ→Code) (Lx Dz:κ→OL) (yK:κ→GH→Prop) (i0:ι)
  (H:St N D w0 F G0 G (B++(Lc++Lv 0 i0++Lt 0 i0)) T a w) (hg:ev T yx=some (.func (.func gf) #[] caps.toArray)) (en:∀ args w,(callFunc gf args).run P w=.ok (.enter gf args) w) (hit:ES P Gi B (.func (.func gf) #[] caps.toArray) xs fin) (hGi:∀ b o,Gi b=some o→G b=some o)
  (hno:fin=false→∀ i g,¬ inv xs.length i g) (hps:ps.all (Nat.blt · N)=true) (hlen:∀ k args g,uq xs k args g→args.length=ps.length) (hinv:∀ k i (G G':GH),(∀ b o,G b=some o→G' b=some o)→inv k i G→inv k i G') (Rt:∀ x (G G':GH),(∀ b o,G b=some o→G' b=some o)→yK x G→yK x G') (h0:inv 0 i0 G)
  (round:∀ (l:Nat) (tQ qH:Obj) (bk:OL) (k:Nat) (args:List aj) (i:ι) (G1:GH) (w1:World) (F1:Nat→Prop) (B1:Code→Exit→Act→World→Prop) (a1:Act),uq xs k args G1→(∀ b o,G b=some o→G1 b=some o)→inv k i G1 →
   (∀ T' G2 L2 a2 w2 c,St N [] w1 F1 G1 G2 ((l,tQ) :: L2) T' a2 w2→(∀ w3,St N [] w1 F1 G1 G2 ((l,qH) :: L2) T' a2 w3→WP (some l) P c (B1 c) a2 w3)→Exit.then (fun a2 w2=>∃ w3,(Instr.beginRound l).run P w2=.ok () w3∧c.wpIn (FW (some l)) 0 P (B1 c) a2 w3) (fun _ _ _=>False) .normal a2 w2) →
   (∀ i' T' G2 a2 w2 c,St N [] w1 F1 G1 G2 ((l,qH) :: (Lc++Lv (k+1) i'++(bk++Lt (k+1) i'))) T' a2 w2→inv (k+1) i' G2→B1 c .normal a2 w2) →
   (∀ x T' G2 a2 w2 c,St N [] w1 F1 G1 G2 ((l,qH) :: (Lc++Lx x++(bk++Dz x))) T' a2 w2→yK x G2→(cx x=.ret→B1 c .ret a2 w2)∧∀ n,cx x=.exit n→B1 c (.exit n) a2 w2) →
   St N [] w1 F1 G1 G1 ((l,tQ) :: (Lc++Lv k i++(bk++Lt k i))) (qm ps args T) a1 w1 →
   WP (some l) P assign (Exit.then (fun a2 w2=>∃ w3,(Instr.beginRound l).run P w2=.ok () w3∧body.wpIn (FW (some l)) 0 P (B1 body) a2 w3) (fun _ _ _=>False)) a1 w1)
  (hdone:∀ Dk i G1 a1 w1,(∀ b o,G b=some o→G1 b=some o)→inv xs.length i G1→St N ({ target:=.collected Dk,args:=#[] } :: D) w0 F G0 G1 ((Dk,.deferred (some [])) :: (Lc++Lv xs.length i++Lt xs.length i)) T a1 w1→Q .normal a1 w1)
  (hstop:∀ Dk x G1 a1 w1,(∀ b o,G b=some o→G1 b=some o)→yK x G1→St N ({ target:=.collected Dk,args:=#[] } :: D) w0 F G0 G1 ((Dk,.deferred (some [])) :: (Lc++Lx x++Dz x)) T a1 w1→WP none P (cx x) Q a1 w1) :
  WP none P (.rangeFunc yx ps.toArray assign body) Q a w:=by
 refine acT (J:=fun k g L=>∃ i,L=Lc++Lv k i++Lt k i∧inv k i g) (Jx:=fun c g L=>∃ x,c=cx x∧L=Lc++Lx x++Dz x∧yK x g) H hg en hit hGi hps hlen (hno:=fun e g l ⟨i,_,h⟩=>hno e i g h) (fun k G G' L hm ⟨i,e,h⟩=>⟨i,e,hinv k i G G' hm h⟩) (fun c G G' L hm ⟨x,e1,e2,h⟩=>⟨x,e1,e2,Rt x G G' hm h⟩) ⟨i0,rfl,h0⟩ ?_ ?_ ?_
 ·rintro l q bk k args G1 L1 w1 a1 hk hm ⟨i,rfl,hi⟩ H1
  have pm:∀ A B:OL,(bk++(A++B)).Perm (A++(bk++B)):=fun A B=>by
   rw [← gy,← gy]
   exact List.Perm.append_right B rD
  refine round l (q.at .ready none) (q.at .busy none) bk k args i G1 w1 _ (fun _=>roundPost P l _) a1 hk hm hi ?_ ?_ ?_ (H1.perm (List.Perm.cons _ (pm _ _)))
  ·intro T' G2 L2 a2 w2 c H2 h
   exact VP H2 h
  ·intro i' T' G2 a2 w2 c H2 h2
   exact Gm none (H2.perm (List.Perm.cons _ (pm _ _).symm)) ⟨_,rfl,i',rfl,h2⟩
  ·intro x T' G2 a2 w2 c H2 h2
   have H3:=H2.perm (List.Perm.cons _ (pm _ _).symm)
   refine ⟨fun e=>?_,fun n e=>?_⟩
   ·exact Gm (some .ret) H3 ⟨_,_,rfl,x,e.symm,rfl,h2⟩
   ·exact Gm (some (.exit n)) H3 ⟨_,_,rfl,x,e.symm,rfl,h2⟩
 ·rintro Dk G1 L1 a1 w1 hm ⟨i,rfl,hi⟩ H1
  exact hdone Dk i G1 a1 w1 hm hi H1
 ·rintro Dk c G1 L1 a1 w1 hm ⟨x,rfl,rfl,hx⟩ H1
  exact hstop Dk x G1 a1 w1 hm hx H1
end
end
section
open Go.RowKit
theorem Di:prog.underlying 95=some (.map 3 3):=by kernel_rfl
instance:jK prog 95 (.map 3 3):=⟨Di⟩
instance EI:Ty prog 31 1 24 [.slice none 0 0] false:=⟨by kernel_rfl,by kernel_rfl⟩
instance agW:dB prog 156 3 3:=⟨by kernel_rfl⟩
theorem WS:∀ args w,(callFunc 198 args).run prog w=.ok (.enter 198 args) w:=enters func198 rfl (by kernel_rfl)
theorem Y6 {x:Int}:∀ {l:List Int} {i n:Nat},tu x i l=some n→n < i+l.length
 | [],_,_,h=>by cases h
 | k :: r,i,n,h=>by
  rw [tu] at h;split at h
  ·cases h;simp
  have:=Y6 h;simp only [kG];omega
def wY (l:List bM):Nat→Int→List bM
 | 0,_=>[]
 | f+1,id=>if id=0 then [] else match tu id 0 (l.map bM.id) with|none=>[]|some i=>match l[i]? with|none=>[]|some s=>s :: wY l f s.base
def Fp (l:List bM) (id:Int):List bM:=wY l (l.length+1) id
theorem adn {l:List bM} {f:Nat} {id:Int} (h:id=0):wY l f id=[]:=by
 cases f with
 | zero=>rfl
 | succ f=>rw [wY,ay h]
theorem adk {l:List bM} {f:Nat} {id:Int} (h0:¬ id=0) (h:tu id 0 (l.map bM.id)=none):wY l f id=[]:=by
 cases f with
 | zero=>rfl
 | succ f=>rw [wY,ah h0,h]
theorem adl {l:List bM} {f i:Nat} {id:Int} (h0:¬ id=0) (h:tu id 0 (l.map bM.id)=some i) (hi:i < l.length):wY l (f+1) id=l[i] :: wY l f l[i].base:=by
 rw [wY,ah h0,h];dsimp only;rw [dY hi]
def stP (x:bM):AP:=fun args g=>∃ cs,args=[.agg cs.toArray]∧aN g x.dat cs
theorem aaQ {A:List bM} {k:Nat} {args:List aj} {g:GH} (h:uq (A.map stP) k args g):∃ (hk:k < A.length) (cs:List aj),args=[.agg cs.toArray]∧aN g A[k].dat cs:=by
 obtain ⟨p,hp,hargs⟩:=h;rw [nE] at hp;obtain ⟨q,hq,rfl⟩:=mV.1 hp;obtain ⟨hk,rfl⟩:=iL.1 hq;obtain ⟨cs,h1,h2⟩:=hargs;exact ⟨hk,cs,h1,h2⟩
abbrev bI (b:Nat) (n:Int):Nat × Obj:=(b,.cells #[vi n] 3 (0,0))
theorem ado {G:GH} {bl bi:Nat} {l:List bM} {id:Int} {v:aj} (hb:aF G bl 0=some v) (hv:av G (.sl 6 (l.map bM.dat)) v) (hnd:∀ (k:Nat) (h:k < l.length),l[k].id∉(l.take k).map bM.id) :
  ES prog G [bI bi id] (.func (.func 198) #[] #[(aD bl 0),(aD bi 0)]) ((Fp l id).map stP) (decide ((Fp l id).length≤l.length)):=by
 intro J Jx fv G1 L w0 A9 hGi jT hJx hJ hO hcb hfin;refine jq (caps:=[(aD bl 0),(aD bi 0)]) WS ?_;obtain ⟨A,c,rfl,hc1,hc2,-⟩:=hv.slice;have hml:maxLen=9223372036854775807:=rfl;rw [bO] at *;replace hb:=aJ hGi hb;replace hv:=hv.mono hGi;refine gB (N:=46) (T:=[(0,_),(1,_),(2,_)]) func198 rfl ntmps198 rfl rfl hO ?_;intro a H;refine uO (fun _ K1=>?_);refine zl ?_;refine ED H wn rfl ?_;clear H;intro bm a w hbm H;refine kH H (kE K1 rfl (SQ fun _ K2=>SQ fun _ K3=>SC (Rg EI rfl (by assumption) ?_)));clear H K1;intro a H;refine kH H (Rl rY rfl (Rm rfl (Kn K3 (SB ?_))));clear H K3;intro a H;skip;refine eO (ι:=Nat) (Tc:=[(0,_),(1,_),(2,_),(4,_),(10,_),(11,_)]) (Lc:=[(_,_)]) (fun gh=>[(12,vi gh)]) (fun gh=>[acG bm ((l.take gh).map bM.id)]++L) (fun gh=>G1) (fun gh=>gh≤l.length) (fun gh=>l.length - gh) (0) (by exact (H.cu (Pl:=[_,_]) (bS:=[_,_]) [1,0] (by decide) rfl).sub ⟨rfl,rfl,rfl,rfl,rfl,rfl,rfl,bB⟩) ?_ ?_
 ·exact gV _
 clear H;intro k a w hI H;have hk:=hI;dsimp only [lca,aR] at H;refine kP H (SQ fun _ K4=>SC (Rc rfl (Kn K4 (SQ fun _ K5=>Cd rfl ?_ ?_)))) <;> clear H K4
 ·intro mX a H
  try have oW:=dT mX
  have hk2:k < l.length:=by omega
  obtain ⟨b,o,pA,pc,rfl,hrow,hp,hrep⟩:=Aa hv hk2;have ajq:=hnd k hk2
  have hlk:((l.take k).map bM.id).length=k:=by rw [bO,List.length_take];omega
  have hnx:(l.take k).map bM.id++[l[k].id]=(l.take (k+1)).map bM.id:=by rw [gN hk2,nG];rfl
  refine kP H (Kc K5 (SQ fun _ K6=>SB (SQ fun _ K7=>SC (Rm rfl (Ri rY ko rfl rfl ?_)))));clear H K5;intro a H;refine bg ko (cs:=[_,_,_,_,_,_]) H wn rfl rfl (fun j v hj=>H.hp.aF (hrow j v hj)) rfl ?_;clear H;intro a H;refine dx ko H wn rfl ?_;clear H;intro b6 a w hb6 H;refine kH H (Ra rfl ?_);clear H;intro a H;refine aV ko 0 (vs:=[_,_,_,_,_,_]) _ H wn rfl rfl rfl rfl rfl rfl rfl rfl ?_;clear H;intro w H;dsimp only [List.set,setRow] at H;refine kH H (Kn K7 (SC (Rm rfl (J7 zm bH 0 rfl rfl (Rm rfl ?_)))));clear H K7;intro a H;refine aar (i:=2) (ky:=vi l[k].id) (v:=vi k) Di jJ H wn rfl rfl rfl rfl (by trivial) (by rw [List.toList_toArray,Qf,Y7 ajq];rfl) ?_;clear H;intro w H
  have hpush:((wG 0 ((l.take k).map bM.id)).toArray.push ⟨vi l[k].id,vi k,((l.take k).map bM.id).length⟩)=(wG 0 ((l.take (k+1)).map bM.id)).toArray:=by rw [← hnx,← alj,hlk]
  rw [hpush,show ((l.take k).map bM.id).length+1=((l.take (k+1)).map bM.id).length by rw [← hnx];simp] at H;refine kH H (Kn K6 (SC (Rd rfl (Rm rfl ?_))));clear H K6;intro a H;refine aG ?_;refine dH ((k+1)) (by exact (H.cu (Pl:=[_,_,_]) (bS:=[_,_]) [1,2] (by decide) rfl).sub ⟨rfl,rfl,rfl,rfl,rfl,rfl,rfl,bB⟩) ?_ ?_
  ·exact by omega
  first|omega|(dsimp only;omega)
 intro mX a H
 try have oW:=dF mX
 obtain rfl:k=l.length:=by omega
 rw [wW] at H;refine wX ?_;refine K2 _ _ ?_;clear K2;refine Km ?_;skip;refine eO (ι:=Int × Nat × Nat × OL × GH) (Tc:=[(0,_),(1,_),(2,_),(4,_)]) (Lc:=[(_,_)]) (fun gh=>[]) (fun gh=>[bI bi gh.1]++gh.2.2.2.1) (fun gh=>gh.2.2.2.2) (fun gh=>(∀ b o,G1 b=some o→gh.2.2.2.2 b=some o)∧Now ((Fp l id).map stP) stP J (Fp l id).length gh.2.2.1 (wY l gh.2.1 gh.1) gh.2.2.2.2 gh.2.2.2.1∧gh.2.2.1+gh.2.1=l.length+1) (fun gh=>gh.2.1) ((id,l.length+1,0,L,G1)) (by exact (H.cu (Pl:=[_,_]) (bS:=[_,_]) [1,0] (by decide) rfl).sub ⟨rfl,rfl,rfl,rfl,bB⟩) ?_ ?_
 ·exact ⟨fun _ _ h=>h,⟨hJ,fun i a h=>by rw [fQ,nE];rw [show wY l (l.length+1) id=Fp l id from rfl] at h;rw [h];rfl,fQ _⟩,fQ _⟩
 clear H;rintro ⟨i,f,j1,Lt,g⟩ a w hI H;dsimp only at hI H;obtain ⟨hgm,bG,hjf⟩:=hI;have hbg:=aJ hgm hb;dsimp only [lca,aR] at H;refine kP H (SQ fun _ K8=>SQ fun _ K9=>SC (Ro bH 1 rfl (Rc rfl (Kn K9 (Cd rfl ?_ ?_))))) <;> clear H K9
 ·intro h23 a H
  try have wJ:=dT h23
  have h0:¬ i=0:=by simpa using h23
  obtain ⟨an,han⟩:∃ an,an=tu i 0 (l.map bM.id):=⟨_,rfl⟩;have hfn:=Qf i 0 0 (l.map bM.id);rw [← han] at hfn;refine kP H (Kc K8 (SB (SQ fun _ xW=>SC (Rm rfl (Ro bH 1 rfl ?_)))));clear H K8;intro a H;refine anp (i:=0) (zv:=vi 0) _ Di jJ (by kernel_rfl) H wn rfl rfl rfl (by trivial) (by simpa using hfn) rfl ?_;clear H;intro a H;refine kH H (Rm rfl ?_);clear H;intro a H;(iterate 2 refine qh H wn rfl rfl rfl ?_;clear H;intro a H);refine kH H (Ra rfl (kE xW rfl (SQ fun _ sj=>SQ fun _ yY=>SC (Rm rfl (Rn rfl (Rm rfl (Sp 32 rfl ?_ ?_))))))) <;> clear H xW
  ·intro h32 a H
   try have p32:=dT h32
   obtain rfl:an=none:=by
    cases an with
    | none=>rfl
    | some n=>simp [Bj] at h32
   rw [adk h0 han.symm] at bG;refine kH H (yZ h32 rfl (BP h32 rfl (BP h32 rfl (Pt h32 rfl (Kn yY (Ct rfl rfl ?_))))));clear H yY;intro a H;refine bV ?_;refine (leave0 H results198 ?_).1;refine H.hp.bZ (L':=Lt) (by repeat (first|exact bX _|apply List.Sublist.cons)) (.inl ?_);have h:=bG.len
   simp only [List.length_nil,kI] at h
   rw [← h];exact bG.now
  intro h32 a H
  try have p32:=dF h32
  obtain ⟨n,rfl⟩:∃ n,an=some n:=by
   cases an with
   | none=>simp [Bj] at h32
   | some n=>exact ⟨n,rfl⟩
  have hnl:n < l.length:=by have:=Y6 han.symm;simpa using this
  obtain ⟨f',rfl⟩:∃ f',f=f'+1:=by
   cases f with
   | succ f'=>exact ⟨f',rfl⟩
   | zero =>
    exfalso
    have hl:=bG.len
    simp only [wY,List.length_nil,kI] at hl
    refine hfin (jA (by omega)) g Lt ?_;rw [← hl];exact bG.now
  rw [adl h0 han.symm hnl] at bG;dsimp only [Bj,Option.map_some] at H;obtain ⟨b,o,pA,pc,rfl,hrow,hp,hrep⟩:=Aa (hv.mono hgm) hnl;refine kH H (YM h32 rfl (YR EI h32 rfl (by assumption) ?_));clear H;intro a H;refine kH H (YM h32 rfl (YI rY ko h32 rfl rfl ?_));clear H;intro a H;refine bg ko (cs:=[_,_,_,_,_,_]) H (wg H rfl rfl h32) rfl rfl (fun j v hj=>H.hp.aF (hrow j v hj)) rfl ?_;clear H;intro a H;refine pq (Li:=[_,_]) (L:=Lt) H (wg H rfl rfl h32) rfl rfl (hcb j1 _ _ _ _ ⟨_,bG.head,_,rfl,hrep⟩ hgm bG.now (Hp.owns (Li:=[_,_]) H.hp)) rfl ?_;clear H;rintro v38 Va Vs a w ⟨b38,rfl,hb1,hb2⟩ RA H;have hbg:=aJ RA hbg;have r3:=aJ RA (hrow 3 _ rfl);refine kH H (YN h32 rfl (Pf h32 rfl (Kn yY (Cd rfl ?_ ?_)))) <;> clear H yY
  ·intro zB a H
   try have p40:=dT zB
   refine bV ?_;refine (leave0 H results198 ?_).1;exact H.hp.bZ (L':=Vs) (by repeat (first|exact bX _|apply List.Sublist.cons)) (.inr (hb2 (by simpa using zB)))
  intro zB a H
  try have p40:=dF zB
  refine kP H (Kc sj (SC (Rg EI rfl (by assumption) ?_)));clear H sj;intro a H;refine kH H (Rm rfl (Ri rY ko rfl rfl (Rf agW rfl (Rg bH rfl (by assumption) ?_))));clear H;intro a H;refine aV bH 1 (vs:=[_]) _ H wn rfl rfl rfl rfl rfl rfl rfl rfl ?_;clear H;intro w H;dsimp only [List.set,setRow] at H;refine aG ?_;refine dH ((l[n].base,f',j1+1,Vs,Va)) (by exact (H).sub ⟨rfl,rfl,rfl,rfl,bB⟩) ?_ ?_
  ·(try dsimp only);exact ⟨fun b o h=>RA b o (hgm b o h),bG.step (hb1 (by simpa using zB)),by omega⟩
  first|omega|(dsimp only;omega)
 intro h23 a H
 try have wJ:=dF h23
 refine wX ?_;refine (leave0 H results198 ?_).2;rw [adn (by simpa using h23)] at bG;refine H.hp.bZ (L':=Lt) (by repeat (first|exact bX _|apply List.Sublist.cons)) (.inl ?_);have h:=bG.len
 simp only [List.length_nil,kI] at h
 rw [← h];exact bG.now
end
section
open Go.RowKit
theorem afe:∀ args w,(callFunc 155 args).run prog w=.ok (.enter 155 args) w:=enters func155 rfl (by kernel_rfl)
theorem afd:∀ args w,(callFunc 153 args).run prog w=.ok (.enter 153 args) w:=enters func153 rfl (by kernel_rfl)
theorem Pw:∀ args w,(callFunc 154 args).run prog w=.ok (.enter 154 args) w:=enters func154 rfl (by kernel_rfl)
instance agX:dB prog 156 4 4:=⟨by kernel_rfl⟩
theorem adp {G:GH} {w0:World} (hO:fC G [] w0) (l:List bM) (id:Int) (v:aj) (hv:av G (.sl 6 (l.map bM.dat)) v) :
  Calls prog 155 #[v,vi id] w0 (eP w0 G [] fun u G' L'=>∃ bl bi,u=.func (.func 198) #[] #[(aD bl 0),(aD bi 0)]∧L'=[bI bi id]∧aF G' bl 0=some v):=by
 obtain ⟨A,c,rfl,hc1,hc2,-⟩:=hv.slice;refine gB (N:=6) (T:=[(0,_),(1,_)]) func155 rfl ntmps155 rfl rfl hO ?_;refine ak 1 ?_;intro a H;refine dU (cs:=[_]) H wn rfl rfl rfl ?_;clear H;intro b2 a w hb2 H;refine dU (cs:=[_]) H wn rfl rfl rfl ?_;clear H;intro b3 a w hb3 H;refine aH 3 H ?_;clear H;intro a H;refine mP H wn rfl rfl ?_;clear H;refine ak 2 ?_;intro a H;refine lr H results155 rfl ?_;have H:=H.cu (Pl:=[_,_]) (bS:=[_,_]) [1,0] (by decide) rfl;obtain ⟨Ga,hma,hb2',H⟩:=H.dP;exact H.hp.cZ ⟨b2,b3,rfl,rfl,by unfold aF;rw [hb2'];rfl⟩
def qJ (p:Nat→Int):Nat→Nat→Int
 | _,0=>0
 | k,n+1=>if p k=0 then qJ p (k+1) n else p k
theorem agP {p:Nat→Int} {k m:Nat} (h:k < m):qJ p k (m - k)=if p k=0 then qJ p (k+1) (m - (k+1)) else p k:=by
 obtain ⟨n,hn⟩:∃ n,m - k=n+1:=⟨m - k - 1,by omega⟩;rw [hn,qJ,show m - (k+1)=n by omega]
theorem agO {p:Nat→Int} {k m:Nat} (h:m≤k):qJ p k (m - k)=0:=by rw [show m - k=0 by omega];rfl
theorem Xe {p:Nat→Int}:∀ {n k:Nat},qJ p k n=0→∀ j,k≤j→j < k+n→p j=0
 | 0,k,_,j,h1,h2=>by omega
 | n+1,k,h,j,h1,h2=>by
  rw [qJ] at h;split at h
  ·rename_i hp
   by_cases e:j=k
   ·rw [e];exact hp
   exact Xe h j (by omega) (by omega)
  rename_i hp;exact absurd h hp
def yO (l:List bM) (k:Nat):Int:=match l[k]? with|some s=>gY l k s|none=>0
theorem ZV {l:List bM} {k:Nat} (h:k < l.length):yO l k=gY l k l[k]:=by unfold yO;rw [dY h]
def rE (l:List bM) (s:bM):Bool:=(decide (s.base≠0) && !En l s.kind s.base) || (decide (s.next≠0) && (decide (s.kind=2) || !En l 1 s.next))
def Ph (l:List bM) (s:bM):Bool:=decide (l.length < (Fp l s.id).length)
def fO (l:List bM):Int:=if 128 < l.length then 9 else if qJ (yO l) 0 l.length≠0 then qJ (yO l) 0 l.length else if l.any (rE l)=true then 25 else if l.any (Ph l)=true then 16 else 0
theorem ama {l:List bM} (h:qJ (yO l) 0 l.length=0) {k:Nat} (hk:k+1 < l.length):l[k].id < l[k+1].id:=by
 have h1:=Xe h (k+1) (gV _) (by omega);rw [ZV hk,gY,kN] at h1
 have hp:xI l (k+1)=some l[k].id:=by rw [xI,ah (by omega),Nat.add_sub_cancel,dY (by omega)];rfl
 rw [hp] at h1
 split at h1
 ·cases h1
 split at h1
 ·cases h1
 split at h1
 ·cases h1
 rename_i _ h2 h3
 have h2':¬ l[k].id=l[k+1].id:=fun e=>h2 (by rw [e]);have h3':¬ l[k+1].id < l[k].id:=fun e=>h3 (aI e)
 omega
theorem ZW {l:List bM} (h:qJ (yO l) 0 l.length=0):∀ {k j:Nat} (hk:k < l.length) (hj:j < k),l[j].id < l[k].id
 | k+1,j,hk,hj=>by
  have h1:=ama h hk
  by_cases e:j=k
  ·subst e;exact h1
  have:=ZW h (k:=k) (j:=j) (by omega) (by omega)
  omega
theorem ZX {l:List bM} (h:qJ (yO l) 0 l.length=0) (k:Nat) (hk:k < l.length):l[k].id∉(l.take k).map bM.id:=by
 intro hm;obtain ⟨x,hx1,hx2⟩:=List.mem_map.1 hm;obtain ⟨j,hj,rfl⟩:=List.getElem_of_mem hx1;rw [List.getElem_take] at hx2;rw [List.length_take] at hj;have:=ZW h hk (j:=j) (by omega)
 omega
theorem H8 {α:Type} {p:α→Bool} {l:List α} {k:Nat} (hk:k < l.length) (h:(l.take k).any p=false) (hp:p l[k]=false):(l.take (k+1)).any p=false:=by
 rw [gN hk,List.any_append,h];simp [hp]
theorem uL {α:Type} {p:α→Bool} {l:List α} {k:Nat} (hk:k < l.length) (hp:p l[k]=true):l.any p=true:=List.any_eq_true.2 ⟨_,iF hk,hp⟩
theorem zk {α:Type} {p:α→Bool} {l:List α} {k:Nat} (hk:l.length≤k) (h:(l.take k).any p=false):¬ l.any p=true:=by
 rw [jh hk] at h;rw [h];decide
theorem ady (G:GH) (w0:World) (hG:Hold G w0) (l:List bM) (v:aj) (hv:av G (.sl 6 (l.map bM.dat)) v) (hN:∀ s∈l,s.name.size≤4611686018427387904) :
  Calls prog 90 #[v] w0 (bD w0 G fun u G'=>u=vi (fO l)):=by
 obtain ⟨A,c,rfl,hc1,hc2,-⟩:=hv.slice;have hml:maxLen=9223372036854775807:=rfl;rw [bO] at *;refine eN [(0,_)] func90 rfl ntmps90 rfl rfl hG ?_;refine ak 1 ?_;intro a H;refine dU (cs:=[_]) H wn rfl rfl rfl ?_;clear H;intro b1 a w hb1 H;refine dx gF H wn rfl ?_;clear H;intro b2 a w hb2 H;refine gW 7 H ?_ ?_ <;> clear H
 ·intro nu
  refine ak 1 ?_;intro a H;refine aV gF 0 (vs:=[_]) _ H wn rfl rfl rfl rfl rfl rfl rfl rfl ?_;clear H;intro w H;dsimp only [List.set,setRow] at H;refine aG ?_;refine dG ?_;refine bV ?_;refine (leave1 H results90 (.cons (tT gF H rfl (H.hp.nQ 0 rfl rfl)) .nil) ?_).1
  first
   | exact H.rt (aB vi (by rw [fO,ay (by omega)]))
   | exact H.rt (aB vi (by rw [ah (by simpa using gM)] at heq;rw [fO,ah (by omega),← heq,ay (by simpa using gM)]))
   | exact H.rt (aB vi (by rw [fO,ah (by omega),ah (by rw [hok];decide),ay hbad]))
   | exact H.rt (aB vi (by rw [fO,ah (by omega),ah (by rw [hok];decide),ah hbad,ay (uL hj2 hI)]))
   | exact H.rt (aB vi (by rw [fO,ah (by omega),ah (by rw [hok];decide),ah hbad,ah (zk (by omega) hnc)]))
 intro nu
 refine ak 8 ?_;intro a H;refine eO (ι:=Nat × GH) (Tc:=[(1,_),(2,_),(14,_)]) (Lc:=[(_,_),(_,_)]) (fun gh=>[(15,vi gh.1)]) (fun gh=>[]) (fun gh=>gh.2) (fun gh=>gh.1≤l.length∧qJ (yO l) gh.1 (l.length - gh.1)=qJ (yO l) 0 l.length∧(∀ b o,G b=some o→gh.2 b=some o)) (fun gh=>l.length - gh.1) ((0,G)) sB ?_ ?_
 ·exact ⟨gV _,rfl,fun _ _ h=>h⟩
 clear H;rintro ⟨k,g⟩ a w hI H;dsimp only at hI H;obtain ⟨hk,heq,hgm⟩:=hI;dsimp only [lca,aR] at H;refine dN 4 H ?_ ?_ <;> clear H
 ·intro p16
  have hk2:k < l.length:=by omega
  rw [agP hk2,ZV hk2] at heq;refine ak 10 ?_;intro a H;refine s_call afd H wn rfl (amb _ _ H.ro l k _ (hv.mono hgm) hk2 (hN _ (iF hk2))) rfl ?_;clear H;rintro v20 GX a w rfl FP H;refine gW 6 H ?_ ?_ <;> clear H
  ·intro gM
   refine ak 2 ?_;intro a H;refine aV gF 0 (vs:=[_]) _ H wn rfl rfl rfl rfl rfl rfl rfl rfl ?_;clear H;intro w H;dsimp only [List.set,setRow] at H;refine aG ?_;refine dG ?_;refine bV ?_;refine (leave1 H results90 (.cons (tT gF H rfl (H.hp.nQ 0 rfl rfl)) .nil) ?_).1
   first
    | exact H.rt (aB vi (by rw [fO,ay (by omega)]))
    | exact H.rt (aB vi (by rw [ah (by simpa using gM)] at heq;rw [fO,ah (by omega),← heq,ay (by simpa using gM)]))
    | exact H.rt (aB vi (by rw [fO,ah (by omega),ah (by rw [hok];decide),ay hbad]))
    | exact H.rt (aB vi (by rw [fO,ah (by omega),ah (by rw [hok];decide),ah hbad,ay (uL hj2 hI)]))
    | exact H.rt (aB vi (by rw [fO,ah (by omega),ah (by rw [hok];decide),ah hbad,ah (zk (by omega) hnc)]))
  intro gM
  refine ak 4 ?_;intro a H;refine aG ?_;refine dH ((k+1,GX)) sB ?_ ?_
  ·(try dsimp only);exact ⟨by omega,by rw [ay (by simpa using gM)] at heq;exact heq,fun b o h=>FP b o (hgm b o h)⟩
  first|omega|(dsimp only;omega)
 intro p16
 have hok:qJ (yO l) 0 l.length=0:=by rw [← heq];exact agO (by omega)
 clear heq;have El:=hv.mono hgm;refine ak 8 ?_;intro a H;refine eO (ι:=Nat × GH) (Tc:=[(1,_),(2,_),(25,_),(26,_)]) (Lc:=[(_,_),(_,_)]) (fun gh=>[(27,vi gh.1)]) (fun gh=>[]) (fun gh=>gh.2) (fun gh=>gh.1≤l.length∧(l.take gh.1).any (rE l)=false∧(∀ b o,g b=some o→gh.2 b=some o)) (fun gh=>l.length - gh.1) ((0,g)) sB ?_ ?_
 ·exact ⟨gV _,rfl,fun _ _ h=>h⟩
 clear H;rintro ⟨k,g2⟩ a w hI H;dsimp only at hI H;obtain ⟨hk3,hno,iM⟩:=hI;have yJ:=El.mono iM;dsimp only [lca,aR] at H;refine dN 4 H ?_ ?_ <;> clear H
 ·intro p28
  have hk4:k < l.length:=by omega
  obtain ⟨b,o,pA,pc,rfl,hrow,hp,hrep⟩:=Aa yJ hk4;refine ak 5 ?_;intro a H;refine bg ko (cs:=[_,_,_,_,_,_]) H wn rfl rfl (fun j v hj=>H.hp.aF (hrow j v hj)) rfl ?_;clear H;intro a H;refine dx ko H wn rfl ?_;clear H;intro b6 a w hb6 H;refine aV ko 0 (vs:=[_,_,_,_,_,_]) _ H wn rfl rfl rfl rfl rfl rfl rfl rfl ?_;clear H;intro w H;dsimp only [List.set,setRow] at H;refine nJ 6 34 H ?_ ?_ <;> clear H
  ·intro uV
   try have p34:=dT uV
   refine ak 5 ?_;intro a H;refine s_call Pw H (wg H rfl rfl uV) rfl (Sr _ _ H.ro l l[k].kind l[k].base _ yJ) rfl ?_;clear H;rintro v40 g2 a w rfl Bb H;replace iM:=fun b o (h:g b=some o)=>Bb b o (iM b o h);replace yJ:=yJ.mono Bb;refine rJ 3 43 H ?_ ?_ <;> clear H
   ·intro p43
    refine ak 18 ?_;have hbad:l.any (rE l)=true:=uL hk4 (by unfold rE;simp_all);refine ak 1 ?_;intro a H;refine aV gF 1 (vs:=[_]) _ H wn rfl rfl rfl rfl rfl rfl rfl rfl ?_;clear H;intro w H;dsimp only [List.set,setRow] at H;refine aG ?_;refine dG ?_;refine bV ?_;refine (leave1 H results90 (.cons (tT gF H rfl (H.hp.nQ 1 rfl rfl)) .nil) ?_).1
    first
     | exact H.rt (aB vi (by rw [fO,ay (by omega)]))
     | exact H.rt (aB vi (by rw [ah (by simpa using gM)] at heq;rw [fO,ah (by omega),← heq,ay (by simpa using gM)]))
     | exact H.rt (aB vi (by rw [fO,ah (by omega),ah (by rw [hok];decide),ay hbad]))
     | exact H.rt (aB vi (by rw [fO,ah (by omega),ah (by rw [hok];decide),ah hbad,ay (uL hj2 hI)]))
     | exact H.rt (aB vi (by rw [fO,ah (by omega),ah (by rw [hok];decide),ah hbad,ah (zk (by omega) hnc)]))
   intro p43
   refine kT 4 47 ?_ ?_
   ·intro p47
    refine jE 4 51 ?_ ?_
    ·intro AJ
     try have p51:=dT AJ
     refine ak 10 ?_;have hbad:l.any (rE l)=true:=uL hk4 (by unfold rE;simp_all);refine ak 1 ?_;intro a H;refine aV gF 1 (vs:=[_]) _ H wn rfl rfl rfl rfl rfl rfl rfl rfl ?_;clear H;intro w H;dsimp only [List.set,setRow] at H;refine aG ?_;refine dG ?_;refine bV ?_;refine (leave1 H results90 (.cons (tT gF H rfl (H.hp.nQ 1 rfl rfl)) .nil) ?_).1
     first
      | exact H.rt (aB vi (by rw [fO,ay (by omega)]))
      | exact H.rt (aB vi (by rw [ah (by simpa using gM)] at heq;rw [fO,ah (by omega),← heq,ay (by simpa using gM)]))
      | exact H.rt (aB vi (by rw [fO,ah (by omega),ah (by rw [hok];decide),ay hbad]))
      | exact H.rt (aB vi (by rw [fO,ah (by omega),ah (by rw [hok];decide),ah hbad,ay (uL hj2 hI)]))
      | exact H.rt (aB vi (by rw [fO,ah (by omega),ah (by rw [hok];decide),ah hbad,ah (zk (by omega) hnc)]))
    intro AJ
    try have p51:=dF AJ
    refine ak 3 ?_;intro a H;refine s_call Pw H (wg H rfl rfl AJ) rfl (Sr _ _ H.ro l 1 l[k].next _ yJ) rfl ?_;clear H;rintro v55 g2 a w rfl tq H;replace iM:=fun b o (h:g b=some o)=>tq b o (iM b o h);replace yJ:=yJ.mono tq;refine gW 5 H ?_ ?_ <;> clear H
    ·intro p59
     have hbad:l.any (rE l)=true:=uL hk4 (by unfold rE;simp_all);refine ak 1 ?_;intro a H;refine aV gF 1 (vs:=[_]) _ H wn rfl rfl rfl rfl rfl rfl rfl rfl ?_;clear H;intro w H;dsimp only [List.set,setRow] at H;refine aG ?_;refine dG ?_;refine bV ?_;refine (leave1 H results90 (.cons (tT gF H rfl (H.hp.nQ 1 rfl rfl)) .nil) ?_).1
     first
      | exact H.rt (aB vi (by rw [fO,ay (by omega)]))
      | exact H.rt (aB vi (by rw [ah (by simpa using gM)] at heq;rw [fO,ah (by omega),← heq,ay (by simpa using gM)]))
      | exact H.rt (aB vi (by rw [fO,ah (by omega),ah (by rw [hok];decide),ay hbad]))
      | exact H.rt (aB vi (by rw [fO,ah (by omega),ah (by rw [hok];decide),ah hbad,ay (uL hj2 hI)]))
      | exact H.rt (aB vi (by rw [fO,ah (by omega),ah (by rw [hok];decide),ah hbad,ah (zk (by omega) hnc)]))
    intro p59
    refine ak 4 ?_;intro a H;refine aG ?_;refine dH ((k+1,g2)) (by exact (H.cu (Pl:=[_,_,_]) (bS:=[_,_]) [1,2] (by decide) rfl).sub ⟨rfl,rfl,rfl,rfl,rfl,bB⟩) ?_ ?_
    ·(try dsimp only);exact ⟨by omega,H8 hk4 hno (by unfold rE;simp_all),iM⟩
    first|omega|(dsimp only;omega)
   intro p47
   refine ak 18 ?_;intro a H;refine aG ?_;refine dH ((k+1,g2)) (by exact (H.cu (Pl:=[_,_,_]) (bS:=[_,_]) [1,2] (by decide) rfl).sub ⟨rfl,rfl,rfl,rfl,rfl,bB⟩) ?_ ?_
   ·(try dsimp only);exact ⟨by omega,H8 hk4 hno (by unfold rE;simp_all),iM⟩
   first|omega|(dsimp only;omega)
  intro uV
  try have p34:=dF uV
  refine ak 9 ?_;intro a H;refine Gq agX H (wg H rfl rfl rfl) rfl rfl ?_;clear H;intro a H;refine kX bH H (wg H rfl rfl rfl) rfl (H.hp.nQ 0 rfl rfl) rfl ?_;clear H;intro a H;refine CY H (wg H rfl rfl rfl) rfl rfl rfl rfl ?_;clear H;intro a H;refine C8 H (wg H rfl rfl rfl) rfl rfl ?_;clear H;refine jE 0 47 ?_ ?_
  ·intro h47
   try have p47:=dT h47
   refine jE 4 51 ?_ ?_
   ·intro AJ
    try have p51:=dT AJ
    refine ak 6 ?_;intro a H;refine Jv H (wg H rfl rfl rfl) rfl h47 rfl rfl ?_;clear H;refine ak 3 ?_;have hbad:l.any (rE l)=true:=uL hk4 (by unfold rE;simp_all);refine ak 1 ?_;intro a H;refine aV gF 1 (vs:=[_]) _ H wn rfl rfl rfl rfl rfl rfl rfl rfl ?_;clear H;intro w H;dsimp only [List.set,setRow] at H;refine aG ?_;refine dG ?_;refine bV ?_;refine (leave1 H results90 (.cons (tT gF H rfl (H.hp.nQ 1 rfl rfl)) .nil) ?_).1
    first
     | exact H.rt (aB vi (by rw [fO,ay (by omega)]))
     | exact H.rt (aB vi (by rw [ah (by simpa using gM)] at heq;rw [fO,ah (by omega),← heq,ay (by simpa using gM)]))
     | exact H.rt (aB vi (by rw [fO,ah (by omega),ah (by rw [hok];decide),ay hbad]))
     | exact H.rt (aB vi (by rw [fO,ah (by omega),ah (by rw [hok];decide),ah hbad,ay (uL hj2 hI)]))
     | exact H.rt (aB vi (by rw [fO,ah (by omega),ah (by rw [hok];decide),ah hbad,ah (zk (by omega) hnc)]))
   intro AJ
   try have p51:=dF AJ
   refine ak 3 ?_;intro a H;refine s_call Pw H (wg H rfl rfl AJ) rfl (Sr _ _ H.ro l 1 l[k].next _ yJ) rfl ?_;clear H;rintro v55 g2 a w rfl tq H;replace iM:=fun b o (h:g b=some o)=>tq b o (iM b o h);replace yJ:=yJ.mono tq;refine aH 2 H ?_;clear H;intro a H;refine Jv H (wg H rfl rfl rfl) rfl h47 rfl rfl ?_;clear H;refine goB 2 ?_ ?_
   ·intro p59
    have hbad:l.any (rE l)=true:=uL hk4 (by unfold rE;simp_all);refine ak 1 ?_;intro a H;refine aV gF 1 (vs:=[_]) _ H wn rfl rfl rfl rfl rfl rfl rfl rfl ?_;clear H;intro w H;dsimp only [List.set,setRow] at H;refine aG ?_;refine dG ?_;refine bV ?_;refine (leave1 H results90 (.cons (tT gF H rfl (H.hp.nQ 1 rfl rfl)) .nil) ?_).1
    first
     | exact H.rt (aB vi (by rw [fO,ay (by omega)]))
     | exact H.rt (aB vi (by rw [ah (by simpa using gM)] at heq;rw [fO,ah (by omega),← heq,ay (by simpa using gM)]))
     | exact H.rt (aB vi (by rw [fO,ah (by omega),ah (by rw [hok];decide),ay hbad]))
     | exact H.rt (aB vi (by rw [fO,ah (by omega),ah (by rw [hok];decide),ah hbad,ay (uL hj2 hI)]))
     | exact H.rt (aB vi (by rw [fO,ah (by omega),ah (by rw [hok];decide),ah hbad,ah (zk (by omega) hnc)]))
   intro p59
   refine ak 4 ?_;intro a H;refine aG ?_;refine dH ((k+1,g2)) (by exact (H.cu (Pl:=[_,_,_]) (bS:=[_,_]) [1,2] (by decide) rfl).sub ⟨rfl,rfl,rfl,rfl,rfl,bB⟩) ?_ ?_
   ·(try dsimp only);exact ⟨by omega,H8 hk4 hno (by unfold rE;simp_all),iM⟩
   first|omega|(dsimp only;omega)
  intro h47
  try have p47:=dF h47
  refine ak 10 ?_;intro a H;refine Nl H (wg H rfl rfl rfl) rfl h47 rfl rfl ?_;clear H;refine ak 7 ?_;intro a H;refine aG ?_;refine dH ((k+1,g2)) (by exact (H.cu (Pl:=[_,_,_]) (bS:=[_,_]) [1,2] (by decide) rfl).sub ⟨rfl,rfl,rfl,rfl,rfl,bB⟩) ?_ ?_
  ·(try dsimp only);exact ⟨by omega,H8 hk4 hno (by unfold rE;simp_all),iM⟩
  first|omega|(dsimp only;omega)
 intro p28
 have hbad:=zk (by omega) hno;refine ak 8 ?_;intro a H;refine Ko (ι:=Nat × GH × List Nat) (Tc:=[(1,_),(2,_),(61,_),(62,_)]) (Lc:=[(_,_),(_,_)]) (fun gh=>F6 gh.2.2) (fun gh=>[(63,vi gh.1)]) (fun gh=>[]++(jU gh.2.2++[])) (fun gh=>gh.2.1) (fun gh=>gh.1≤l.length∧(l.take gh.1).any (Ph l)=false∧(∀ b o,g2 b=some o→gh.2.1 b=some o)) (fun gh=>l.length - gh.1) ((0,g2,[])) sB ?_ ?_
 ·exact ⟨gV _,rfl,fun _ _ h=>h⟩
 clear H;rintro ⟨j,g3,ds⟩ a w hI H;dsimp only at hI H;obtain ⟨hj,hnc,vg⟩:=hI;have Sc:=yJ.mono vg;dsimp only [lca,aR] at H;refine dN 4 H ?_ ?_ <;> clear H
 ·intro p64
  have hj2:j < l.length:=by omega
  obtain ⟨b,o,pA,pc,rfl,hrow,hp,hrep⟩:=Aa Sc hj2;refine ak 5 ?_;intro a H;refine bg ko (cs:=[_,_,_,_,_,_]) H wn rfl rfl (fun j v hj=>H.hp.aF (hrow j v hj)) rfl ?_;clear H;intro a H;refine dx ko H wn rfl ?_;clear H;intro b8 a w yE H;refine aV ko 0 (vs:=[_,_,_,_,_,_]) _ H wn rfl rfl rfl rfl rfl rfl rfl rfl ?_;clear H;intro w H;dsimp only [List.set,setRow] at H;refine aH 2 H ?_;clear H;intro a H;refine dx bH H wn rfl ?_;clear H;intro b9 a w sW H;refine aV bH 0 (vs:=[_]) _ H wn rfl rfl rfl rfl rfl rfl rfl rfl ?_;clear H;intro w H;dsimp only [List.set,setRow] at H;refine aH 5 H ?_;clear H;intro a H;refine fB afe (Li:=[_,_,_,_]++jU ds) (L:=[]) (St.un (A:=[_,_,_,_]) H) wn rfl (adp (Hp.owns (Li:=[_,_,_,_]++jU ds) (St.un (A:=[_,_,_,_]) H).hp) l l[j].id _ Sc) rfl ?_;clear H;rintro v70 g4 L70 a w ⟨bl,bi,rfl,rfl,hbl⟩ Yd H;have H:=(St.F8 (A:=[_,_,_,_,_]) (B:=jU ds) (H.perm rD));dsimp only [lca,aR] at H;have hit:=ado (l:=l) (id:=l[j].id) (bi:=bi) hbl (Sc.mono Yd) (ZX hok);refine aH 2 H ?_;clear H;intro a H;refine acU (B:=[(_,_)]) (ι:=Unit) (κ:=Int) (Lc:=[(_,_),(_,_)]) (fun (k:Nat) (gh:Unit)=>[(b9,.cells #[vi k] 3 (0,0)),(b2,.cells #[vi 0] 42 (0,0))]) (fun (k:Nat) (gh:Unit)=>(jU ds++[])) (fun (k:Nat) (gh:Unit) (g:GH)=>k≤l.length) (fun (gx:Int)=>Code.ret) (fun (gx:Int)=>[(b9,.cells #[vi gx] 3 (0,0)),(b2,.cells #[vi 16] 42 (0,0))]) (fun (gx:Int)=>(jU ds++[])) (fun (gx:Int) (g:GH)=>Ph l l[j]=true) (()) (by exact H.cu (Pl:=[_,_,_,_,_]) (bS:=[_,_,_,_,_]) [0,2,4,1,3] (by decide) rfl) rfl WS (hit) (fun _ _ h=>h) (fun e i g h=>absurd (of_decide_eq_false e) (by rw [bO] at h;omega)) rfl (fun k args g h=>by obtain ⟨_,_,rfl,_⟩:=aaQ h;rfl) (fun _ _ _ _ _ h=>h) (fun _ _ _ _ h=>h) (gV _) ?_ ?_ ?_
  ·clear H;intro l21 tQ qH bk k args gh Ob w21 F21 B21 a X6 zG hI aiA ajp ake H;obtain ⟨X6,aqc,rfl,aqP⟩:=aaQ X6;dsimp only [qm,List.cons_append,List.nil_append] at H;refine ji ?_;refine aiA _ _ _ _ _ _ (by exact H) ?_;clear H;intro w H;refine eB 4 H ?_;clear H;intro a H;refine aV bH 3 (vs:=[_]) _ H wn rfl rfl rfl rfl rfl rfl rfl rfl ?_;clear H;intro w H;dsimp only [List.set,setRow] at H;refine gW 7 H ?_ ?_ <;> clear H
   ·intro Gf
    refine ak 1 ?_;intro a H;refine aV gF 4 (vs:=[_]) _ H wn rfl rfl rfl rfl rfl rfl rfl rfl ?_;clear H;intro w H;dsimp only [List.set,setRow] at H;refine aG ?_;refine dG ?_;refine bV ?_;refine (ake ((k:Int)+1) _ _ _ _ _ (by exact H) ?_).1 rfl;exact iE (by omega)
   intro Gf
   intro a H;refine ji ?_;refine ajp (()) _ _ _ _ _ (by exact H) ?_
   omega
  ·clear H;intro U0 gh Vh a w zG hI H;dsimp only [lca,aR] at H;refine dG ?_;refine eB 3 H ?_;clear H;intro a H;refine aG ?_;refine Es ((j+1,Vh,U0 :: ds)) (by exact (H.cu (Pl:=[_,_,_,_,_]) (bS:=[_,_,_]) [4,2,0] (by decide) rfl).sub ⟨rfl,rfl,rfl,rfl,rfl,bB⟩) ?_ ?_
   ·(try dsimp only);exact ⟨by omega,H8 hj2 hnc (jA (by rw [bO] at hI;omega)),fun b o h=>zG b o (Yd b o (vg b o h))⟩
   first|omega|(dsimp only;omega)
  clear H;intro U0 x Vh a w zG hI H;dsimp only [lca,aR] at H;refine bV ?_;refine (wF H 0 rfl ?_).1;clear H;intro a w H;dsimp only [List.eraseIdx_cons_succ,List.eraseIdx_cons_zero] at H;refine (xE (Lh:=[_,_,_,_]) _ H ?_).1;clear H;intro a w H;dsimp only [lca,aR] at H;refine (leave1 H results90 (.cons (tT gF H rfl (H.hp.nQ 3 rfl rfl)) .nil) ?_).1
  first
   | exact H.rt (aB vi (by rw [fO,ay (by omega)]))
   | exact H.rt (aB vi (by rw [ah (by simpa using gM)] at heq;rw [fO,ah (by omega),← heq,ay (by simpa using gM)]))
   | exact H.rt (aB vi (by rw [fO,ah (by omega),ah (by rw [hok];decide),ay hbad]))
   | exact H.rt (aB vi (by rw [fO,ah (by omega),ah (by rw [hok];decide),ah hbad,ay (uL hj2 hI)]))
   | exact H.rt (aB vi (by rw [fO,ah (by omega),ah (by rw [hok];decide),ah hbad,ah (zk (by omega) hnc)]))
 intro p64
 refine ak 2 ?_;intro a H;refine aV gF 0 (vs:=[_]) _ H wn rfl rfl rfl rfl rfl rfl rfl rfl ?_;clear H;intro w H;dsimp only [List.set,setRow] at H;refine aG ?_;refine dG ?_;refine bV ?_;refine (xE (Lh:=[_,_]) _ H ?_).1;clear H;intro a w H;dsimp only [lca,aR] at H;refine (leave1 H results90 (.cons (tT gF H rfl (H.hp.nQ 0 rfl rfl)) .nil) ?_).1
 first
  | exact H.rt (aB vi (by rw [fO,ay (by omega)]))
  | exact H.rt (aB vi (by rw [ah (by simpa using gM)] at heq;rw [fO,ah (by omega),← heq,ay (by simpa using gM)]))
  | exact H.rt (aB vi (by rw [fO,ah (by omega),ah (by rw [hok];decide),ay hbad]))
  | exact H.rt (aB vi (by rw [fO,ah (by omega),ah (by rw [hok];decide),ah hbad,ay (uL hj2 hI)]))
  | exact H.rt (aB vi (by rw [fO,ah (by omega),ah (by rw [hok];decide),ah hbad,ah (zk (by omega) hnc)]))
end
section
open Go.RowKit
instance xO:Ty prog 34 1 24 [.slice none 0 0] false:=⟨by kernel_rfl,by kernel_rfl⟩
theorem tZ:prog.underlying 34=some (.slice 167):=by kernel_rfl
instance:jK prog 34 (.slice 167):=⟨tZ⟩
instance yU:Ty prog 167 2 32 [.string ⟨#[]⟩,.string ⟨#[]⟩] true:=⟨by kernel_rfl,by kernel_rfl⟩
instance Fz:dB prog 167 0 0:=⟨by kernel_rfl⟩
theorem P5:∀ args w,(callFunc 93 args).run prog w=.ok (.enter 93 args) w:=enters func93 rfl (by kernel_rfl)
instance Xj:dB prog 167 1 1:=⟨by kernel_rfl⟩
instance Qc:dB prog 36 0 0:=⟨by kernel_rfl⟩
theorem agD:∀ args w,(callFunc 90 args).run prog w=.ok (.enter 90 args) w:=enters func90 rfl (by kernel_rfl)
instance Qd:dB prog 36 1 1:=⟨by kernel_rfl⟩
theorem aeR:∀ args w,(callFunc 127 args).run prog w=.ok (.enter 127 args) w:=enters func127 rfl (by kernel_rfl)
instance ahf:dB prog 36 2 2:=⟨by kernel_rfl⟩
theorem aeS:∀ args w,(callFunc 128 args).run prog w=.ok (.enter 128 args) w:=enters func128 rfl (by kernel_rfl)
instance ahg:dB prog 36 3 3:=⟨by kernel_rfl⟩
theorem aeT:∀ args w,(callFunc 129 args).run prog w=.ok (.enter 129 args) w:=enters func129 rfl (by kernel_rfl)
theorem afz:∀ args w,(callFunc 191 args).run prog w=.ok (.enter 191 args) w:=enters func191 rfl (by kernel_rfl)
theorem abm {G:GH} {l:List jL} {A:Option Addr} {n c k:Nat} (hv:av G (.sl 2 (l.map jL.dat)) (.slice A n c)) (hk:k < l.length):∃ b o,A=some ⟨b,o,none⟩∧(∀ j u,l[k].cells[j]?=some u→aF G b (o+k*2+j)=some u):=by
 obtain ⟨A',c',he,_,_,hg⟩:=hv.slice
 injection he with e1 e2 e3
 subst e1;obtain ⟨b,o,cs,h1,h2,h3,h4⟩:=hg k l[k].dat (by simp [hk]);have:=aps h4;subst this;exact ⟨b,o,h1,h3⟩
def abl (k:Nat) (x:jL) (pn:ByteArray):Int:=dz [bW (!qo x.name) 13,bW (decide (0 < (k:Int)) && (x.name.toList == pn.toList)) 7,bW (decide (0 < (k:Int)) && Op.bytesLess x.name.toList pn.toList) 6,Bz x.value]
def GJ (l:List jL) (k:Nat):Int:=match l[k]? with|some x=>abl k x ((l[k - 1]?.map jL.name).getD ⟨#[]⟩)|none=>0
theorem apr {G:GH} {bl:Nat} {l:List jL} {A:Option Addr} {n c:Nat} (hb:aF G bl 0=some (.slice A n c)) (hv:av G (.sl 2 (l.map jL.dat)) (.slice A n c)) (hl:l.length≤4294967296) (ht:∀ x∈l,x.name.size < 4611686018427387904∧x.value.size < 4611686018427387904):qZ (.func (.func 191) #[] #[(aD bl 0)]) G l.length (GJ l):=by
 intro k hk G1 w0 hm hG;refine jq (caps:=[(aD bl 0)]) afz ?_;replace hb:=aJ hm hb;replace hv:=hv.mono hm
 obtain rfl:n=l.length:=by have:=hv.len;simpa using this
 obtain ⟨b,o,rfl,hrow⟩:=abm hv hk
 have hk1:k - 1 < l.length:=by omega
 obtain ⟨b',o',he',hrow'⟩:=abm hv hk1
 injection he' with he'
 injection he' with e1 e2
 subst e1;subst e2;have hte:=ht _ (iF hk)
 have he:GJ l k=abl k l[k] l[k - 1].name:=by unfold GJ;rw [dY hk,dY hk1];rfl
 obtain ⟨x,hx⟩:∃ x,x=l[k]:=⟨_,rfl⟩;obtain ⟨y,hy⟩:∃ y,y=l[k - 1]:=⟨_,rfl⟩;rw [← hx] at hrow hte he;rw [← hy] at hrow' he;refine eN [(0,_),(1,_)] func191 rfl ntmps191 rfl rfl hG ?_;refine ak 4 ?_;intro a H;have H:=H.sub (T':=[(0,_),(1,_)]) ⟨rfl,rfl,bB⟩
 by_cases c0:0 < (k:Int)
 ·refine dI hmx [[],[],[0,1],[0,1,2],(ra 0 4),(ra 0 5),(ra 0 6),(ra 0 7),[],[8],(ra 0 10),(ra 0 11),(ra 0 11),(ra 0 13),(ra 0 14),(ra 0 15),(ra 0 11),(ra 0 11),(ra 0 11++[17]),(ra 0 11++[17,18]),(ra 0 11++ra 16 4),(ra 0 11++ra 16 5),(ra 0 11++ra 16 6),(ra 0 23),(ra 0 24),(ra 0 25),[],[26],(ra 0 28),(ra 0 29),(ra 0 29),(ra 0 31),(ra 0 32),(ra 0 33),(ra 0 29),(ra 0 29),(ra 0 29++[35]),(ra 0 29++[35,36]),(ra 0 29++ra 34 4),(ra 0 29++ra 34 5),(ra 0 29++ra 34 6),(ra 0 41),(ra 0 42),(ra 0 43),[],[],[44,45],[44,45,46],(ra 44 4),(ra 0 49),(ra 0 50),(ra 0 51),(ra 0 52)] [50,51,52] (by kernel_rfl) [_,_,_,_,_,.bool (qo x.name),_,vi (bW (!qo x.name) 13),_,_,_,_,_,_,_,_,_,_,vi ((max k 1:Nat):Int),vi ((k - 1:Nat):Int),_,_,_,.bool (x.name.toList == y.name.toList),.bool (decide (0 < (k:Int)) && (x.name.toList == y.name.toList)),vi (bW (decide (0 < (k:Int)) && (x.name.toList == y.name.toList)) 7),_,_,_,_,_,_,_,_,_,_,vi ((max k 1:Nat):Int),vi ((k - 1:Nat):Int),_,_,_,.bool (Op.bytesLess x.name.toList y.name.toList),.bool (decide (0 < (k:Int)) && Op.bytesLess x.name.toList y.name.toList),vi (bW (decide (0 < (k:Int)) && Op.bytesLess x.name.toList y.name.toList) 6),_,_,_,_,_,vi (Bz x.value)] H (aC (X0 rfl fun hG=>Rg xO rfl (aJ hG hb)) (Z0 rfl (Rm rfl)) (Z2 0 4 1 5 rfl (Ri tZ yU rfl rfl)) (Z1 2 6 rfl (Rf Fz rfl)) (aC (X1 3 7 rfl fun hG=>Rg lN rfl (aJ hG (hrow 0 _ rfl))) ?_ (Z1 5 9 rfl (Rn rfl)) ?_ (aC (Z0 rfl (Rm rfl)) (Z1 8 12 rfl (Rc rfl)) (Z1 9 13 rfl (Rm rfl)) (X1 10 14 rfl fun hG=>YR xO (aI c0) rfl (aJ hG hb)) (aC (Z1 10 14 rfl (YM (aI c0) rfl)) (Z3 11 15 12 16 10 14 rfl (YI tZ yU (aI c0) rfl rfl)) (Z2 13 17 10 14 rfl (YF Fz (aI c0) rfl)) (X2 14 18 10 14 rfl fun hG=>YR lN (aI c0) rfl (aJ hG (hrow 0 _ rfl))) (aC (X1 10 14 rfl fun hG=>YR xO (aI c0) rfl (aJ hG hb)) (Z1 10 14 rfl (YM (aI c0) rfl)) ?_ ?_ (aC (Z3 16 20 19 23 10 14 rfl (YI tZ yU (aI c0) rfl rfl)) (Z2 20 24 10 14 rfl (YF Fz (aI c0) rfl)) (X2 21 25 10 14 rfl fun hG=>YR lN (aI c0) rfl (aJ hG (hrow' 0 _ rfl))) ?_ (aC ?_ ?_ (Z0 rfl (Rm rfl)) (Z1 26 30 rfl (Rc rfl)) (aC (Z1 27 31 rfl (Rm rfl)) (X1 28 32 rfl fun hG=>YR xO (aI c0) rfl (aJ hG hb)) (Z1 28 32 rfl (YM (aI c0) rfl)) (Z3 29 33 30 34 28 32 rfl (YI tZ yU (aI c0) rfl rfl)) (aC (Z2 31 35 28 32 rfl (YF Fz (aI c0) rfl)) (X2 32 36 28 32 rfl fun hG=>YR lN (aI c0) rfl (aJ hG (hrow 0 _ rfl))) (X1 28 32 rfl fun hG=>YR xO (aI c0) rfl (aJ hG hb)) (Z1 28 32 rfl (YM (aI c0) rfl)) (aC ?_ ?_ (Z3 34 38 37 41 28 32 rfl (YI tZ yU (aI c0) rfl rfl)) (Z2 38 42 28 32 rfl (YF Fz (aI c0) rfl)) (aC (X2 39 43 28 32 rfl fun hG=>YR lN (aI c0) rfl (aJ hG (hrow' 0 _ rfl))) ?_ ?_ ?_ (aC (X0 rfl fun hG=>Rg xO rfl (aJ hG hb)) (Z0 rfl (Rm rfl)) (Z2 44 48 45 49 rfl (Ri tZ yU rfl rfl)) (Z1 46 50 rfl (Rf Xj rfl)) (aC (X1 47 51 rfl fun hG=>Rg lN rfl (aJ hG (hrow 1 _ rfl))) ?_ (bP rfl) (bP rfl) (bL (bP rfl) dw)))))))))))))) ?_
  ·refine dJ 4 8 rfl rfl fun _ a w G1 hG HT H fin=>?_;refine s_call P5 H wn rfl (O9 _ _ H.ro x.name hte.1) rfl ?_;clear H;rintro v9 G9 a w ⟨rfl,-⟩ Cv H;exact fin H Cv (rfl)
  ·refine dJ 6 10 rfl rfl fun _ a w G1 hG HT H fin=>?_;refine s_call iR H wn rfl (iW _ _ H.ro _ 13) rfl ?_;clear H;rintro v11 qY a w ⟨rfl,-⟩ jO H;exact fin H jO (rfl)
  ·refine dL 17 21 10 14 rfl rfl fun _ a w G1 hG HT H fin=>?_;refine Ju H (wg H rfl rfl (aI c0)) rfl rfl rfl ?_;clear H;intro a H;exact fin H iJ (by show _=_;first|rfl|exact aB vi (by omega))
  ·refine dL 18 22 10 14 rfl rfl fun _ a w G1 hG HT H fin=>?_;refine lJ _ H (wg H rfl rfl (aI c0)) rfl rfl rfl (by omega) (by omega) rfl ?_;clear H;intro a H;exact fin H iJ (by show _=_;first|rfl|exact aB vi (by omega))
  ·refine wU 15 19 22 26 10 14 rfl rfl fun _ a w G1 hG HT H fin=>?_;refine Gp H (wg H rfl rfl (aI c0)) rfl rfl rfl ?_;clear H;intro a H;exact fin H iJ rfl
  ·refine dL 10 14 23 27 rfl rfl fun _ a w G1 hG HT H fin=>?_;refine aH 1 H ?_;clear H;intro a H;exact fin H iJ (dD (by first|(rw [iE c0,Ca];done)|(rw [jA c0,uH];done)))
  ·refine dJ 24 28 rfl rfl fun _ a w G1 hG HT H fin=>?_;refine s_call iR H wn rfl (iW _ _ H.ro _ 7) rfl ?_;clear H;rintro v29 Ah a w ⟨rfl,-⟩ Qz H;exact fin H Qz (rfl)
  ·refine dL 35 39 28 32 rfl rfl fun _ a w G1 hG HT H fin=>?_;refine Ju H (wg H rfl rfl (aI c0)) rfl rfl rfl ?_;clear H;intro a H;exact fin H iJ (by show _=_;first|rfl|exact aB vi (by omega))
  ·refine dL 36 40 28 32 rfl rfl fun _ a w G1 hG HT H fin=>?_;refine lJ _ H (wg H rfl rfl (aI c0)) rfl rfl rfl (by omega) (by omega) rfl ?_;clear H;intro a H;exact fin H iJ (by show _=_;first|rfl|exact aB vi (by omega))
  ·refine wU 33 37 40 44 28 32 rfl rfl fun _ a w G1 hG HT H fin=>?_;refine anq H (wg H rfl rfl (aI c0)) rfl rfl rfl ?_;clear H;intro a H;exact fin H iJ rfl
  ·refine dL 28 32 41 45 rfl rfl fun _ a w G1 hG HT H fin=>?_;refine aH 1 H ?_;clear H;intro a H;exact fin H iJ (dD (by first|(rw [iE c0,Ca];done)|(rw [jA c0,uH];done)))
  ·refine dJ 42 46 rfl rfl fun _ a w G1 hG HT H fin=>?_;refine s_call iR H wn rfl (iW _ _ H.ro _ 6) rfl ?_;clear H;rintro v47 JZ a w ⟨rfl,-⟩ QC H;exact fin H QC (rfl)
  ·refine dJ 48 52 rfl rfl fun _ a w G1 hG HT H fin=>?_;refine s_call PD H wn rfl (Ul _ _ H.ro x.value hte.2) rfl ?_;clear H;rintro v53 Ve a w rfl IQ H;exact fin H IQ (rfl)
  clear H;intro a w G iH H hv;have H:=H.aO (hv 7 11 rfl rfl) rfl;have H:=H.aO (hv 25 29 rfl rfl) rfl;have H:=H.aO (hv 43 47 rfl rfl) rfl;have H:=H.aO (hv 49 53 rfl rfl) rfl;clear hv;refine gK pI gF [_,_,_,_] [_,_,_,_] H wn rfl rfl rfl rfl rfl (by intro i q h;match i,h with|0,h=>exact h|1,h=>exact h|2,h=>exact h|3,h=>exact h|n+4,h=>simp at h) rfl rfl ?_;clear H;intro b54 a w aix H;obtain ⟨G54,ajf,QV,H⟩:=H.dP;refine s_call pV H wn rfl (pW _ _ H.ro _ _ (Em [bW (!qo x.name) 13,bW (decide (0 < (k:Int)) && (x.name.toList == y.name.toList)) 7,bW (decide (0 < (k:Int)) && Op.bytesLess x.name.toList y.name.toList) 6,Bz x.value] QV (show 4≤maxLen by decide))) rfl ?_;clear H;rintro v55 _ a w ⟨rfl,rfl⟩ - H;refine kH H (Ra rfl ?_);clear H;intro a H;refine aG ⟨rfl,?_⟩;refine dG ?_;refine uU 0 H ?_;rw [he];rfl
 refine dI hmx [[],[],[0,1],[0,1,2],(ra 0 4),(ra 0 5),(ra 0 6),(ra 0 7),[],[8],(ra 0 10),(ra 0 11),(ra 0 11),(ra 0 13),(ra 0 14),(ra 0 15),(ra 0 11),(ra 0 11),(ra 0 11++[17]),(ra 0 11++[17,18]),(ra 0 11++ra 16 4),(ra 0 11++ra 16 5),(ra 0 11++ra 16 6),(ra 0 23),(ra 0 24),(ra 0 25),[],[26],(ra 0 28),(ra 0 29),(ra 0 29),(ra 0 31),(ra 0 32),(ra 0 33),(ra 0 29),(ra 0 29),(ra 0 29++[35]),(ra 0 29++[35,36]),(ra 0 29++ra 34 4),(ra 0 29++ra 34 5),(ra 0 29++ra 34 6),(ra 0 41),(ra 0 42),(ra 0 43),[],[],[44,45],[44,45,46],(ra 44 4),(ra 0 49),(ra 0 50),(ra 0 51),(ra 0 52)] [50,51,52] (by kernel_rfl) [_,_,_,_,_,.bool (qo x.name),_,vi (bW (!qo x.name) 13),_,_,_,undef,undef,undef,undef,undef,undef,undef,undef,undef,undef,undef,undef,undef,.bool (decide (0 < (k:Int)) && (x.name.toList == y.name.toList)),vi (bW (decide (0 < (k:Int)) && (x.name.toList == y.name.toList)) 7),_,_,_,undef,undef,undef,undef,undef,undef,undef,undef,undef,undef,undef,undef,undef,.bool (decide (0 < (k:Int)) && Op.bytesLess x.name.toList y.name.toList),vi (bW (decide (0 < (k:Int)) && Op.bytesLess x.name.toList y.name.toList) 6),_,_,_,_,_,vi (Bz x.value)] H (aC (X0 rfl fun hG=>Rg xO rfl (aJ hG hb)) (Z0 rfl (Rm rfl)) (Z2 0 4 1 5 rfl (Ri tZ yU rfl rfl)) (Z1 2 6 rfl (Rf Fz rfl)) (aC (X1 3 7 rfl fun hG=>Rg lN rfl (aJ hG (hrow 0 _ rfl))) ?_ (Z1 5 9 rfl (Rn rfl)) ?_ (aC (Z0 rfl (Rm rfl)) (Z1 8 12 rfl (Rc rfl)) (Z1 9 13 rfl (Rm rfl)) (aQ 10 (aY c0) rfl rfl) (aC (aQ 10 (aY c0) rfl rfl) (aQ 10 (aY c0) rfl rfl) (aQ 10 (aY c0) rfl rfl) (aQ 10 (aY c0) rfl rfl) (aC (aQ 10 (aY c0) rfl rfl) (aQ 10 (aY c0) rfl rfl) (aQ 10 (aY c0) rfl rfl) (aQ 10 (aY c0) rfl rfl) (aC (aQ 10 (aY c0) rfl rfl) (aQ 10 (aY c0) rfl rfl) (aQ 10 (aY c0) rfl rfl) (aQ 10 (aY c0) rfl rfl) (aC ?_ ?_ (Z0 rfl (Rm rfl)) (Z1 26 30 rfl (Rc rfl)) (aC (Z1 27 31 rfl (Rm rfl)) (aQ 28 (aY c0) rfl rfl) (aQ 28 (aY c0) rfl rfl) (aQ 28 (aY c0) rfl rfl) (aC (aQ 28 (aY c0) rfl rfl) (aQ 28 (aY c0) rfl rfl) (aQ 28 (aY c0) rfl rfl) (aQ 28 (aY c0) rfl rfl) (aC (aQ 28 (aY c0) rfl rfl) (aQ 28 (aY c0) rfl rfl) (aQ 28 (aY c0) rfl rfl) (aQ 28 (aY c0) rfl rfl) (aC (aQ 28 (aY c0) rfl rfl) (aQ 28 (aY c0) rfl rfl) ?_ ?_ (aC (X0 rfl fun hG=>Rg xO rfl (aJ hG hb)) (Z0 rfl (Rm rfl)) (Z2 44 48 45 49 rfl (Ri tZ yU rfl rfl)) (Z1 46 50 rfl (Rf Xj rfl)) (aC (X1 47 51 rfl fun hG=>Rg lN rfl (aJ hG (hrow 1 _ rfl))) ?_ (bP rfl) (bP rfl) (bL (bP rfl) dw)))))))))))))) ?_
 ·refine dJ 4 8 rfl rfl fun _ a w G1 hG HT H fin=>?_;refine s_call P5 H wn rfl (O9 _ _ H.ro x.name hte.1) rfl ?_;clear H;rintro v9 G9 a w ⟨rfl,-⟩ Cv H;exact fin H Cv (rfl)
 ·refine dJ 6 10 rfl rfl fun _ a w G1 hG HT H fin=>?_;refine s_call iR H wn rfl (iW _ _ H.ro _ 13) rfl ?_;clear H;rintro v11 qY a w ⟨rfl,-⟩ jO H;exact fin H jO (rfl)
 ·refine dL 10 14 23 27 rfl rfl fun _ a w G1 hG HT H fin=>?_;refine aH 1 H ?_;clear H;intro a H;exact fin H iJ (dD (by first|(rw [iE c0,Ca];done)|(rw [jA c0,uH];done)))
 ·refine dJ 24 28 rfl rfl fun _ a w G1 hG HT H fin=>?_;refine s_call iR H wn rfl (iW _ _ H.ro _ 7) rfl ?_;clear H;rintro v29 Ah a w ⟨rfl,-⟩ Qz H;exact fin H Qz (rfl)
 ·refine dL 28 32 41 45 rfl rfl fun _ a w G1 hG HT H fin=>?_;refine aH 1 H ?_;clear H;intro a H;exact fin H iJ (dD (by first|(rw [iE c0,Ca];done)|(rw [jA c0,uH];done)))
 ·refine dJ 42 46 rfl rfl fun _ a w G1 hG HT H fin=>?_;refine s_call iR H wn rfl (iW _ _ H.ro _ 6) rfl ?_;clear H;rintro v47 JZ a w ⟨rfl,-⟩ QC H;exact fin H QC (rfl)
 ·refine dJ 48 52 rfl rfl fun _ a w G1 hG HT H fin=>?_;refine s_call PD H wn rfl (Ul _ _ H.ro x.value hte.2) rfl ?_;clear H;rintro v53 Ve a w rfl IQ H;exact fin H IQ (rfl)
 clear H;intro a w G iH H hv;have H:=H.aO (hv 7 11 rfl rfl) rfl;have H:=H.aO (hv 25 29 rfl rfl) rfl;have H:=H.aO (hv 43 47 rfl rfl) rfl;have H:=H.aO (hv 49 53 rfl rfl) rfl;clear hv;refine gK pI gF [_,_,_,_] [_,_,_,_] H wn rfl rfl rfl rfl rfl (by intro i q h;match i,h with|0,h=>exact h|1,h=>exact h|2,h=>exact h|3,h=>exact h|n+4,h=>simp at h) rfl rfl ?_;clear H;intro b54 a w aix H;obtain ⟨G54,ajf,QV,H⟩:=H.dP;refine s_call pV H wn rfl (pW _ _ H.ro _ _ (Em [bW (!qo x.name) 13,bW (decide (0 < (k:Int)) && (x.name.toList == y.name.toList)) 7,bW (decide (0 < (k:Int)) && Op.bytesLess x.name.toList y.name.toList) 6,Bz x.value] QV (show 4≤maxLen by decide))) rfl ?_;clear H;rintro v55 _ a w ⟨rfl,rfl⟩ - H;refine kH H (Ra rfl ?_);clear H;intro a H;refine aG ⟨rfl,?_⟩;refine dG ?_;refine uU 0 H ?_;rw [he];rfl
def Ig (l:List jL):Int:=dz [bW (decide (128 < (l.length:Int))) 9,iY (GJ l) (min l.length 128)]
theorem adx (G:GH) (w0:World) (hG:Hold G w0) (l:List jL) (v:aj) (hv:av G (.sl 2 (l.map jL.dat)) v) (hl:l.length≤4294967296) (ht:∀ x∈l,x.name.size < 4611686018427387904∧x.value.size < 4611686018427387904) :
  Calls prog 129 #[v] w0 (bD w0 G fun u G'=>u=vi (Ig l)):=by
 obtain ⟨A,c,rfl,hc1,hc2,-⟩:=hv.slice;rw [bO] at *;refine eN [(0,_)] func129 rfl ntmps129 rfl rfl hG ?_;refine ak 1 ?_;intro a H;refine dU (cs:=[_]) H wn rfl rfl rfl ?_;clear H;intro b1 a w hb1 H;refine aH 3 H ?_;clear H;intro a H;have H:=H.sub (T':=[(1,_)]) ⟨rfl,bB⟩;obtain ⟨Ga,hma,hb1',H⟩:=H.dP
 have hbl:aF Ga b1 0=some (.slice A l.length c):=by unfold aF;rw [hb1'];rfl
 have hcb:=apr hbl (hv.mono hma) hl ht;refine dI hmx [[],[0],[0,1],[0,1,2],[],[4],[4,5],[],(ra 0 8),(ra 0 9),(ra 0 10),(ra 0 11)] [9,10,11] (by kernel_rfl) [_,_,_,vi (bW (decide (128 < (l.length:Int))) 9),_,_,vi ((min l.length 128:Nat):Int),.func (.func 191) #[] #[(aD b1 0)],vi (iY (GJ l) (min l.length 128))] H (aC (X0 rfl fun hG=>Rg xO rfl (aJ hG hbl)) (Z1 0 3 rfl (Rl tZ rfl)) (Z1 1 4 rfl (Rc rfl)) ?_ (aC (X0 rfl fun hG=>Rg xO rfl (aJ hG hbl)) (Z1 4 7 rfl (Rl tZ rfl)) ?_ ?_ (aC ?_ (bP rfl) (bP rfl) (bP rfl) dw))) ?_
 ·refine dJ 2 5 rfl rfl fun _ a w G1 hG HT H fin=>?_;refine s_call iR H wn rfl (iW _ _ H.ro _ 9) rfl ?_;clear H;rintro v6 G6 a w ⟨rfl,-⟩ iZ H;exact fin H iZ (rfl)
 ·refine dJ 5 8 rfl rfl fun _ a w G1 hG HT H fin=>?_;refine Nk H wn rfl rfl rfl ?_;clear H;intro a H;exact fin H iJ (aB vi (by omega))
 ·refine Al rfl fun _ a w G1 hG HT H fin=>?_;refine mP H wn rfl rfl ?_;clear H;intro a H;exact fin H iJ rfl
 ·refine dL 6 9 7 10 rfl rfl fun _ a w G1 hG HT H fin=>?_;refine s_call Fw H wn rfl (H7 _ _ H.ro (min l.length 128) (GJ l) _ (by omega) ((hcb.mono hG).le (Nat.min_le_left _ _))) rfl ?_;clear H;rintro v11 qY a w rfl jO H;exact fin H jO (rfl)
 clear H;intro a w G iH H hv;have H:=H.aO (hv 3 6 rfl rfl) rfl;have H:=H.aO (hv 8 11 rfl rfl) rfl;clear hv;refine gK pI gF [_,_] [_,_] H wn rfl rfl rfl rfl rfl (by intro i q h;match i,h with|0,h=>exact h|1,h=>exact h|n+2,h=>simp at h) rfl rfl ?_;clear H;intro b12 a w D5 H;obtain ⟨Ae,yF,D6,H⟩:=H.dP;refine s_call pV H wn rfl (pW _ _ H.ro _ _ (xM D6)) rfl ?_;clear H;rintro v13 _ a w ⟨rfl,rfl⟩ - H;refine kH H (Ra rfl ?_);clear H;intro a H;refine aG ⟨rfl,?_⟩;refine dG ?_;refine uU 0 H ?_;exact rfl
structure xX where
 styles:List bM
 lists:List dW
 comments:List gu
 vars:List jL
structure uD (G:GH) (s:xX) (a b c d:aj):Prop where
 st:av G (.sl 6 (s.styles.map bM.dat)) a
 li:av G (.sl 2 (s.lists.map dW.dat)) b
 cm:av G (.sl 6 (s.comments.map gu.dat)) c
 va:av G (.sl 2 (s.vars.map jL.dat)) d
structure J9 (s:xX):Prop where
 sn:∀ x∈s.styles,x.name.size≤4611686018427387904
 ln:s.lists.length≤4294967296
 lt:∀ x∈s.lists,∀ y∈x.levels,y.yT.size < 4611686018427387904
 cn:s.comments.length≤4294967296
 ct:∀ x∈s.comments,x.author.size < 4611686018427387904∧x.text.size < 4611686018427387904
 vn:s.vars.length≤4294967296
 vt:∀ x∈s.vars,x.name.size < 4611686018427387904∧x.value.size < 4611686018427387904
 pl:∀ x∈s.styles,x.props.length≤4294967296
 ll:∀ x∈s.lists,x.levels.length≤4294967296
def Cg (s:xX):Int:=dz [fO s.styles,Fq s.lists,Ie s.comments,Ig s.vars]
theorem adw (G:GH) (w0:World) (hG:Hold G w0) (s:xX) (a b c d:aj) (hR:uD G s a b c d) (hz:J9 s) :
  Calls prog 73 #[.agg #[a,b,c,d]] w0 (bD w0 G fun u G'=>u=vi (Cg s)):=by
 obtain ⟨sA,sn,sc,rfl⟩:=hR.st.form;obtain ⟨lA,ln,lc,rfl⟩:=hR.li.form;obtain ⟨cA,cn,cc,rfl⟩:=hR.cm.form;obtain ⟨vA,vn,vc,rfl⟩:=hR.va.form;refine eN [(0,_)] func73 rfl ntmps73 rfl rfl hG ?_;refine ak 1 ?_;intro a H;refine dU (cs:=[_,_,_,_]) H wn rfl rfl rfl ?_;clear H;intro b1 a w hb1 H;refine aH 3 H ?_;clear H;intro a H;have H:=H.sub (T':=[(1,_)]) ⟨rfl,bB⟩;obtain ⟨Ga,hma,hb1',H⟩:=H.dP
 have hc0:aF Ga b1 0=some (.slice sA sn sc):=by unfold aF;rw [hb1'];rfl
 have hc1:aF Ga b1 1=some (.slice lA ln lc):=by unfold aF;rw [hb1'];rfl
 have hc2:aF Ga b1 2=some (.slice cA cn cc):=by unfold aF;rw [hb1'];rfl
 have hc3:aF Ga b1 3=some (.slice vA vn vc):=by unfold aF;rw [hb1'];rfl
 refine dI hmx [[],[0],[0,1],[],[3],(ra 0 5),[],[6],(ra 0 8),[],[9],(ra 0 11),(ra 0 12),(ra 0 13),(ra 0 14)] [12,13,14] (by kernel_rfl) [_,_,vi (fO s.styles),_,_,vi (Fq s.lists),_,_,vi (Ie s.comments),_,_,vi (Ig s.vars)] H (aC (Z0 rfl (Rf Qc rfl)) (X1 0 3 rfl fun hG=>Rg EI rfl (aJ hG hc0)) ?_ (Z0 rfl (Rf Qd rfl)) (aC (X1 3 6 rfl fun hG=>Rg EJ rfl (aJ hG hc1)) ?_ (Z0 rfl (Rf ahf rfl)) (X1 6 9 rfl fun hG=>Rg NA rfl (aJ hG hc2)) (aC ?_ (Z0 rfl (Rf ahg rfl)) (X1 9 12 rfl fun hG=>Rg xO rfl (aJ hG hc3)) ?_ (bL (bP rfl) (bL (bP rfl) (bL (bP rfl) dw)))))) ?_
 ·refine dJ 1 4 rfl rfl fun _ a w G1 hG HT H fin=>?_;refine s_call agD H wn rfl (ady _ _ H.ro s.styles _ ((hR.st.mono hma).mono hG) hz.sn) rfl ?_;clear H;rintro v5 G5 a w rfl sS H;exact fin H sS (rfl)
 ·refine dJ 4 7 rfl rfl fun _ a w G1 hG HT H fin=>?_;refine s_call aeR H wn rfl (adt _ _ H.ro s.lists _ ((hR.li.mono hma).mono hG) hz.ln hz.lt) rfl ?_;clear H;rintro v8 G8 a w rfl nL H;exact fin H nL (rfl)
 ·refine dJ 7 10 rfl rfl fun _ a w G1 hG HT H fin=>?_;refine s_call aeS H wn rfl (adr _ _ H.ro s.comments _ ((hR.cm.mono hma).mono hG) hz.cn hz.ct) rfl ?_;clear H;rintro v11 qY a w rfl jO H;exact fin H jO (rfl)
 ·refine dJ 10 13 rfl rfl fun _ a w G1 hG HT H fin=>?_;refine s_call aeT H wn rfl (adx _ _ H.ro s.vars _ ((hR.va.mono hma).mono hG) hz.vn hz.vt) rfl ?_;clear H;rintro v14 BM a w rfl AO H;exact fin H AO (rfl)
 clear H;intro a w G iH H hv;have H:=H.aO (hv 2 5 rfl rfl) rfl;have H:=H.aO (hv 5 8 rfl rfl) rfl;have H:=H.aO (hv 8 11 rfl rfl) rfl;have H:=H.aO (hv 11 14 rfl rfl) rfl;clear hv;refine gK pI gF [_,_,_,_] [_,_,_,_] H wn rfl rfl rfl rfl rfl (by intro i q h;match i,h with|0,h=>exact h|1,h=>exact h|2,h=>exact h|3,h=>exact h|n+4,h=>simp at h) rfl rfl ?_;clear H;intro b15 a w XO H;obtain ⟨Af,oh,ais,H⟩:=H.dP;refine s_call pV H wn rfl (pW _ _ H.ro _ _ (Em [fO s.styles,Fq s.lists,Ie s.comments,Ig s.vars] ais (show 4≤maxLen by decide))) rfl ?_;clear H;rintro v16 _ a w ⟨rfl,rfl⟩ - H;refine kH H (Ra rfl ?_);clear H;intro a H;refine aG ⟨rfl,?_⟩;refine dG ?_;refine uU 0 H ?_;exact rfl
end
section
open Go.RowKit
def gJ:Nat→List (Int × aj)→List MapEntry
 | _,[]=>[]
 | i,(k,v) :: r=>⟨.int .i64 k,v,i⟩ :: gJ (i+1) r
theorem Zw (x:Int × aj):∀ (i:Nat) (l:List (Int × aj)),gJ i (l++[x])=gJ i l++[⟨.int .i64 x.1,x.2,i+l.length⟩]
 | _,[]=>rfl
 | i,k :: r=>by
  rw [jg,gJ,Zw x (i+1) r,gJ,jg,kG,show i+1+r.length=i+(r.length+1) by omega]
def rO (x:Int):List (Int × aj)→Option aj
 | []=>none
 | (k,v) :: r=>if k=x then some v else rO x r
theorem Jj {x:Int}:∀ {l:List (Int × aj)},x∉l.map (·.1)→rO x l=none
 | [],_=>rfl
 | (k,v) :: r,h=>by
  rw [rO,ah (fun e=>h (by simp [e])),Jj (fun hm=>h (gL _ hm))]
theorem Qg (x:Int):∀ (i j:Nat) (l:List (Int × aj)),∃ an,Instr.findNow (.int .i64) (.int .i64 x) (gJ i l) j=some an∧an.map (·.2)=rO x l
 | _,_,[]=>⟨none,rfl,rfl⟩
 | i,j,(k,v) :: r=>by
  obtain ⟨an,h1,h2⟩:=Qg x (i+1) (j+1) r
  by_cases e:k=x
  ·subst e
   exact ⟨some (j,v),by simp only [gJ,Instr.findNow,Instr.sameNow,ay,beq_self_eq_true],by rw [rO,ay rfl];rfl⟩
  ·have hb:(x == k)=false:=by simp;exact fun h=>e h.symm
   exact ⟨an,by simpa only [gJ,Instr.findNow,Instr.sameNow,ay,hb] using h1,by rw [rO,ah e];exact h2⟩
abbrev dV (l:List (Int × aj)):Obj:=.map (gJ 0 l).toArray l.length
section
variable {N:Nat} {D:List Deferred} {w0:World} {F:Nat→Prop} {G0 G:GH} {L:OL} {T:List (Nat × aj)}
variable {r:Option Nat} {P:Program} {ops:Array Oper} {Q:Exit→Act→World→Prop} {rest:List Oper} {a:Act} {w:World}
variable {d:Nat} {ty:TypeId} {pos:String} {aK:Array Edge} {g:Option (Nat × Bool)}
theorem yR {t kt et:TypeId} {x y:Operand} {b:Nat} {l:List (Int × aj)} {ky:Int} {zv:aj} (hm:P.underlying t=some (.map kt et)) (hk:P.underlying kt=some (.int .i64)) (hz:(P.info? et).map (fun i=>i.zero)=some (some zv)) (H:St N D w0 F G0 G L T a w)
  (hw:Region.wanted ⟨some d,.lookup t x y false,ty,pos,aK,g⟩ (yielded ops a.tmps)=true) (hx:ev T x=some (.map (some b))) (hy:ev T y=some (.int .i64 ky)) (hb:w.heap[b]?=some (dV l)) (hd:Nat.blt d N=true)
  (k:∀ a',St N D w0 F G0 G L ((d,(rO ky l).getD zv) :: T) a' w→WL r P ops Q rest a' w):WL r P ops Q (⟨some d,.lookup t x y false,ty,pos,aK,g⟩ :: rest) a w:=by
 obtain ⟨an,hf,han⟩:=Qg ky 0 0 l
 obtain ⟨inf,hi1,hi2⟩:=mV.1 hz
 refine fq (v:=(rO ky l).getD zv) (w':=w) hw rfl ?_ (k _ (H.put hd _ H.hp))
 have hkey:MapKept.IsKey (.int .i64) (.int .i64 ky):=by trivial
 have hf2:Instr.findNow (.int .i64) (.int .i64 ky) (gJ 0 l).toArray.toList 0=some an:=by simpa using hf
 replace hb:w.heap[b]?=some (.map (gJ 0 l).toArray l.length):=hb
 generalize (gJ 0 l).toArray=es at hb hf2
 have h1:=MapKept.run_checkKey (P:=P) (w:=w) hk hkey es.isEmpty 9999
 have h2:=MapKept.run_findKey (P:=P) (w:=w) hk hf2
 rw [← han]
 cases an with
 | none=>simp [execOp,Instr.lookup,H.ev hx,H.ev hy,dM,mE hm,MapKept.run_getObj_map hb,h1,h2,Result.andThen,zeroValue,CX hi1,hi2]
 | some q=>simp [execOp,Instr.lookup,H.ev hx,H.ev hy,dM,mE hm,MapKept.run_getObj_map hb,h1,h2,Result.andThen]
theorem Jw {t kt et:TypeId} {x y z:Operand} {b i:Nat} {l:List (Int × aj)} {ky:Int} {v:aj} (hm:P.underlying t=some (.map kt et)) (hk:P.underlying kt=some (.int .i64)) (H:St N D w0 F G0 G L T a w)
  (hw:Region.wanted ⟨none,.mapUpdate t x y z,ty,pos,aK,g⟩ (yielded ops a.tmps)=true) (hx:ev T x=some (.map (some b))) (hy:ev T y=some (.int .i64 ky)) (hzv:ev T z=some v) (hi:L[i]?=some (b,dV l)) (hn:rO ky l=none)
  (k:∀ w',St N D w0 F G0 G (L.set i (b,dV (l++[(ky,v)]))) T a w'→WL r P ops Q rest a w'):WL r P ops Q (⟨none,.mapUpdate t x y z,ty,pos,aK,g⟩ :: rest) a w:=by
 obtain ⟨an,hf,han⟩:=Qg ky 0 0 l
 have hnone:an=none:=by
  rw [hn] at han
  cases an with
  | none=>rfl
  | some q=>cases han
 subst hnone
 refine aar (i:=i) hm hk H hw hx hy hzv hi (by trivial) (by simpa using hf) ?_
 intro w' H'
 have e:(gJ 0 l).toArray.push ⟨.int .i64 ky,v,l.length⟩=(gJ 0 (l++[(ky,v)])).toArray:=by
  rw [Zw,List.push_toArray,fQ]
 refine k w' ?_
 rw [e] at H'
 rw [dV,jH]
 exact H'
end
end
section
open Go.RowKit
theorem uf:prog.underlying 96=some (.map 3 4):=by kernel_rfl
instance:jK prog 96 (.map 3 4):=⟨uf⟩
instance qz:Ty prog 82 3 32 [.int .i64 0,.string ⟨#[]⟩,.int .i64 0] true:=⟨by kernel_rfl,by kernel_rfl⟩
theorem aoF:ru prog 98 [(0,1),(1,1),(2,1),(3,1),(4,1),(5,1)] [.map none,.map none,.map none,.map none,.map none,.int .i64 0]:=⟨by kernel_rfl,by kernel_rfl⟩
instance ahi:dB prog 38 3 7:=⟨by kernel_rfl⟩
instance ahn:dB prog 98 0 0:=⟨by kernel_rfl⟩
instance aoU:Ty prog 95 1 8 [.map none] false:=⟨by kernel_rfl,by kernel_rfl⟩
instance aho:dB prog 98 1 1:=⟨by kernel_rfl⟩
instance Dg:Ty prog 96 1 8 [.map none] false:=⟨by kernel_rfl,by kernel_rfl⟩
instance ahh:dB prog 38 2 6:=⟨by kernel_rfl⟩
instance EH:Ty prog 30 1 24 [.slice none 0 0] false:=⟨by kernel_rfl,by kernel_rfl⟩
theorem xR:prog.underlying 30=some (.slice 82):=by kernel_rfl
instance:jK prog 30 (.slice 82):=⟨xR⟩
instance Iw:dB prog 98 2 2:=⟨by kernel_rfl⟩
instance ahk:dB prog 82 0 0:=⟨by kernel_rfl⟩
structure bQ where
 id:Int
 author:ByteArray
 time:Int
def bQ.dat (x:bQ):List Dat:=[li x.id,.lf (.string x.author),li x.time]
abbrev bQ.cells (x:bQ):List aj:=[vi x.id,.string x.author,vi x.time]
theorem TK {G:GH} {x:bQ} {cs:List aj} (h:aN G x.dat cs):cs=x.cells:=by
 simp only [bQ.dat,aN,av] at h
 obtain ⟨_,_,rfl,⟨rfl,_⟩,_,_,rfl,⟨rfl,_⟩,_,_,rfl,⟨rfl,_⟩,rfl⟩:=h
 rfl
theorem TJ {G:GH} {l:List bQ} {A:Option Addr} {n c k:Nat} (hv:av G (.sl 3 (l.map bQ.dat)) (.slice A n c)) (hk:k < l.length):∃ b o,A=some ⟨b,o,none⟩∧(∀ j u,l[k].cells[j]?=some u→aF G b (o+k*3+j)=some u):=by
 obtain ⟨A',c',he,_,_,hg⟩:=hv.slice
 injection he with e1 e2 e3
 subst e1;obtain ⟨b,o,cs,h1,h2,h3,h4⟩:=hg k l[k].dat (by simp [hk]);have:=TK h4;subst this;exact ⟨b,o,h1,h3⟩
abbrev fF (b ms ml mr mb mu:Nat) (n:Int):Nat × Obj:=(b,.cells #[.map (some ms),.map (some ml),.map (some mr),.map (some mb),.map (some mu),vi n] 98 (0,0))
def yN (l:List bM):List (Int × aj):=l.map fun s=>(s.id,vi s.kind)
def eX (l:List Int):List (Int × aj):=l.map fun k=>(k,.bool true)
structure uw (us:List Int) (G:GH) (st:List bM) (li:List dW) (rv:List bQ) (ms ml mr mu:Nat):Prop where
 sty:G ms=some (dV (yN st))
 kC:G ml=some (dV (eX (li.map dW.id)))
 rev:G mr=some (dV (eX (rv.map bQ.id)))
 use:G mu=some (dV (eX us))
theorem uw.mono {us:List Int} {G G':GH} {st:List bM} {li:List dW} {rv:List bQ} {ms ml mr mu:Nat} (h:uw us G st li rv ms ml mr mu) (hm:∀ b o,G b=some o→G' b=some o):uw us G' st li rv ms ml mr mu:=⟨hm _ _ h.sty,hm _ _ h.kC,hm _ _ h.rev,hm _ _ h.use⟩
structure N9 (G:GH) (st:List bM) (li:List dW) (rv:List bQ) (ms ml mr:Nat):Prop where
 sty:G ms=some (dV (yN st))
 kC:G ml=some (dV (eX (li.map dW.id)))
 rev:G mr=some (dV (eX (rv.map bQ.id)))
theorem N9.with {us:List Int} {G G':GH} {st:List bM} {li:List dW} {rv:List bQ} {ms ml mr mu:Nat} (h:N9 G st li rv ms ml mr) (hm:∀ b o,G b=some o→G' b=some o) (hu:G' mu=some (dV (eX us))):uw us G' st li rv ms ml mr mu:=⟨hm _ _ h.sty,hm _ _ h.kC,hm _ _ h.rev,hu⟩
def Ad (l:List Int):Prop:=∀ (k:Nat) (h:k < l.length),l[k]∉l.take k
theorem ali {l:List bM} {k:Nat} (h:k < l.length):yN (l.take (k+1))=yN (l.take k)++[(l[k].id,vi l[k].kind)]:=by rw [yN,gN h,nG];rfl
theorem Zt {l:List Int} {k:Nat} (h:k < l.length):eX (l.take (k+1))=eX (l.take k)++[(l[k],.bool true)]:=by rw [eX,gN h,nG];rfl
theorem alh {l:List bM} {k:Nat} (f:Ad (l.map bM.id)) (h:k < l.length):rO l[k].id (yN (l.take k))=none:=by
 refine Jj ?_;have:=f k (by simpa using h)
 simpa [yN,List.map_take,List.map_map,Function.comp_def] using this
theorem Zr {l:List Int} {k:Nat} (f:Ad l) (h:k < l.length):rO l[k] (eX (l.take k))=none:=by
 refine Jj ?_;have:=f k h
 simpa [eX,List.map_map,Function.comp_def] using this
theorem alD (G:GH) (w0:World) (hO:fC G [] w0) (D:jy) (st:List bM) (li:List dW) (rv:List bQ) (hst:av G (.sl 6 (st.map bM.dat)) (aS D.s1)) (Ea:av G (.sl 2 (li.map dW.dat)) (aS D.s2)) (qN:av G (.sl 3 (rv.map bQ.dat)) (aS D.r))
  (f1:Ad (st.map bM.id)) (f2:Ad (li.map dW.id)) (f3:Ad (rv.map bQ.id)) (z1:st.length≤4294967296) (z2:li.length≤4294967296) (z3:rv.length≤4294967296) :
  Calls prog 45 #[D.val] w0 (eP w0 G [] fun u G' L'=>∃ b ms ml mr mb mu,u=(aD b 0)∧L'=[fF b ms ml mr mb mu 0,(mb,dV []),(mu,dV [])]∧N9 G' st li rv ms ml mr):=by
 obtain ⟨df,dp,dd,dy,⟨rA,rn,rc⟩,⟨sA,sn,sc⟩,⟨lA,ln,lc⟩,d3,d4,ins,mv⟩:=D;dsimp only at hst Ea qN
 obtain rfl:sn=st.length:=by have:=hst.len;simpa using this
 obtain rfl:ln=li.length:=by have:=Ea.len;simpa using this
 obtain rfl:rn=rv.length:=by have:=qN.len;simpa using this
 have hml:maxLen=9223372036854775807:=rfl;refine gB (N:=64) (T:=[(0,_)]) func45 rfl ntmps45 rfl rfl hO ?_;refine ak 1 ?_;intro a H;refine dU (cs:=[_,_,_,_,_,_,_,_,_,_,_]) H wn rfl rfl rfl ?_;clear H;intro b1 a w hb1 H;refine aH 2 H ?_;clear H;intro a H;obtain ⟨Ga,hma,hb1',H⟩:=H.dP
 have hc7:aF Ga b1 7=some (.slice sA st.length sc):=by unfold aF;rw [hb1'];rfl
 have hc8:aF Ga b1 8=some (.slice lA li.length lc):=by unfold aF;rw [hb1'];rfl
 have hc6:aF Ga b1 6=some (.slice rA rv.length rc):=by unfold aF;rw [hb1'];rfl
 replace hst:=hst.mono hma;replace Ea:=Ea.mono hma;replace qN:=qN.mono hma;refine wo ?_;refine ED H wn rfl ?_;clear H;intro b10 a w LJ H;refine ED H wn rfl ?_;clear H;intro b11 a w DZ H;refine ED H wn rfl ?_;clear H;intro b12 a w D5 H;refine ED H wn rfl ?_;clear H;intro b13 a w LK H;refine ED H wn rfl ?_;clear H;intro b14 a w QU H;refine jY aoF [_,_,_,_,_,_] H wn rfl rfl rfl rfl ?_;clear H;intro a H;refine dU (cs:=[_,_,_,_,_,_]) H wn rfl rfl rfl ?_;clear H;intro b16 a w aqi H;refine aH 11 H ?_;clear H;intro a H;refine eO (ι:=Nat × GH) (Tc:=[(1,_),(3,_),(19,_),(20,_)]) (Lc:=[(_,_),(_,_),(_,_),(_,_),(_,_)]) (fun gh=>[(21,vi gh.1)]) (fun gh=>[(b10,dV (yN (st.take gh.1)))]) (fun gh=>gh.2) (fun gh=>gh.1≤st.length∧(∀ b o,Ga b=some o→gh.2 b=some o)) (fun gh=>st.length - gh.1) ((0,Ga)) sB ?_ ?_
 ·exact ⟨gV _,fun _ _ h=>h⟩
 clear H;rintro ⟨k,g1⟩ a w hI H;dsimp only at hI H;obtain ⟨hk,FR⟩:=hI;dsimp only [lca,aR] at H;refine dN 4 H ?_ ?_ <;> clear H
 ·intro gM
  have hk2:k < st.length:=by omega
  obtain ⟨xb,xo,pA,pc,rfl,hrow,-,-⟩:=Aa (hst.mono FR) hk2;have hnew:=alh f1 hk2;refine ak 5 ?_;intro a H;refine bg ko (cs:=_) H wn rfl rfl (fun j v hj=>H.hp.aF (hrow j v hj)) rfl ?_;clear H;intro a H;refine dx ko H wn rfl ?_;clear H;intro b5 a w hb5 H;refine aV ko 0 (vs:=[_,_,_,_,_,_]) _ H wn rfl rfl rfl rfl rfl rfl rfl rfl ?_;clear H;intro w H;dsimp only [List.set,setRow] at H;refine aG ?_;refine dG ?_;refine dI hmx [[],[0],[0,1],[0,1,2],[],[4],[],[6],(ra 0 8)] [8] (by kernel_rfl) [_,_,_,.map (some b10),_,vi st[k].id,_,vi st[k].kind] H (aC (Z0 rfl (Rm rfl)) (Z1 0 25 rfl (Rk rfl)) (Z1 1 26 rfl (Rf ahn rfl)) (Z1 2 27 rfl (Ro aoU 1 rfl)) (aC (Z0 rfl (Rf zm rfl)) (Z1 4 29 rfl (Ro bH 0 rfl)) (Z0 rfl (Rf P8 rfl)) (Z1 6 31 rfl (Ro bH 0 rfl)) (bL (bP rfl) dw))) ?_
  clear H;intro a w G sS H hv;have H:=H.aO (hv 3 28 rfl rfl) rfl;have H:=H.aO (hv 5 30 rfl rfl) rfl;have H:=H.aO (hv 7 32 rfl rfl) rfl;clear hv;refine Jw (i:=6) Di jJ H wn rfl rfl rfl rfl hnew ?_;clear H;intro w H;dsimp only [List.set,List.append,lca,aR] at H;rw [← ali hk2] at H;refine aG ⟨rfl,?_⟩;refine dG ?_;refine eB 3 H ?_;clear H;intro a H;refine aG ?_;refine dH ((k+1,G)) (by exact (H.cu (Pl:=[_,_,_,_,_,_,_]) (bS:=[_,_,_,_,_,_]) [1,2,3,4,5,6] (by decide) rfl).sub ⟨rfl,rfl,rfl,rfl,rfl,bB⟩) ?_ ?_
  ·(try dsimp only);exact ⟨by omega,fun b o h=>sS b o (FR b o h)⟩
  first|omega|(dsimp only;omega)
 intro gM
 obtain rfl:k=st.length:=by omega
 intro a H;rw [wW] at H;have aqA:=aJ FR hc8;refine eB 10 H ?_;clear H;intro a H;refine eO (ι:=Nat × GH) (Tc:=[(1,_),(3,_),(36,_),(37,_)]) (Lc:=[(_,_),(_,_),(_,_),(_,_),(_,_)]) (fun gh=>[(38,vi gh.1)]) (fun gh=>[(b11,dV (eX ((li.map dW.id).take gh.1)))]) (fun gh=>gh.2) (fun gh=>gh.1≤li.length∧(∀ b o,g1 b=some o→gh.2 b=some o)) (fun gh=>li.length - gh.1) ((0,g1)) (by exact (H.cu (Pl:=[_,_,_,_,_,_]) (bS:=[_,_,_,_,_,_]) [0,1,2,3,5,4] (by decide) rfl).sub ⟨rfl,rfl,rfl,rfl,rfl,bB⟩) ?_ ?_
 ·exact ⟨gV _,fun _ _ h=>h⟩
 clear H;rintro ⟨k,g2⟩ a w hI H;dsimp only at hI H;obtain ⟨hk,Md⟩:=hI;dsimp only [lca,aR] at H;refine dN 4 H ?_ ?_ <;> clear H
 ·intro p39
  have hk2:k < li.length:=by omega
  obtain ⟨xb,xo,B,d,rfl,hrow,-⟩:=MN ((Ea.mono FR).mono Md) hk2
  have hk3:k < (li.map dW.id).length:=by simpa using hk2
  have hnew:=Zr f2 hk3
  have IY:(li.map dW.id)[k]=li[k].id:=by simp
  rw [IY] at hnew;refine ak 5 ?_;intro a H;refine bg BA (cs:=_) H wn rfl rfl (fun j v hj=>H.hp.aF (hrow j v hj)) rfl ?_;clear H;intro a H;refine dx BA H wn rfl ?_;clear H;intro b7 a w sV H;refine aV BA 0 (vs:=[_,_]) _ H wn rfl rfl rfl rfl rfl rfl rfl rfl ?_;clear H;intro w H;dsimp only [List.set,setRow] at H;refine aG ?_;refine dG ?_;refine dI hmx [[],[0],[0,1],[0,1,2],[],[4],(ra 0 6)] [6] (by kernel_rfl) [_,_,_,.map (some b11),_,vi li[k].id] H (aC (Z0 rfl (Rm rfl)) (Z1 0 42 rfl (Rk rfl)) (Z1 1 43 rfl (Rf aho rfl)) (Z1 2 44 rfl (Ro Dg 1 rfl)) (bL (Z0 rfl (Rf agY rfl)) (bL (Z1 4 46 rfl (Ro bH 0 rfl)) (bL (bP rfl) dw)))) ?_
  clear H;intro a w G oI H hv;have H:=H.aO (hv 3 45 rfl rfl) rfl;have H:=H.aO (hv 5 47 rfl rfl) rfl;clear hv;refine Jw (i:=6) uf jJ H wn rfl rfl rfl rfl hnew ?_;clear H;intro w H;dsimp only [List.set,List.append,lca,aR] at H;rw [← IY,← Zt hk3] at H;refine aG ⟨rfl,?_⟩;refine dG ?_;refine eB 3 H ?_;clear H;intro a H;refine aG ?_;refine dH ((k+1,G)) (by exact (H.cu (Pl:=[_,_,_,_,_,_,_]) (bS:=[_,_,_,_,_,_]) [1,2,3,4,5,6] (by decide) rfl).sub ⟨rfl,rfl,rfl,rfl,rfl,bB⟩) ?_ ?_
  ·(try dsimp only);exact ⟨by omega,fun b o h=>oI b o (Md b o h)⟩
  first|omega|(dsimp only;omega)
 intro p39
 obtain rfl:k=li.length:=by omega
 intro a H;rw [jh (by simp)] at H;have aqz:=aJ Md (aJ FR hc6);refine eB 9 H ?_;clear H;intro a H;refine eO (ι:=Nat × GH) (Tc:=[(3,_),(50,_),(51,_)]) (Lc:=[(_,_),(_,_),(_,_),(_,_),(_,_)]) (fun gh=>[(52,vi gh.1)]) (fun gh=>[(b12,dV (eX ((rv.map bQ.id).take gh.1)))]) (fun gh=>gh.2) (fun gh=>gh.1≤rv.length∧(∀ b o,g2 b=some o→gh.2 b=some o)) (fun gh=>rv.length - gh.1) ((0,g2)) (by exact (H.cu (Pl:=[_,_,_,_,_,_]) (bS:=[_,_,_,_,_,_]) [0,1,2,4,5,3] (by decide) rfl).sub ⟨rfl,rfl,rfl,rfl,bB⟩) ?_ ?_
 ·exact ⟨gV _,fun _ _ h=>h⟩
 clear H;rintro ⟨k,g3⟩ a w hI H;dsimp only at hI H;obtain ⟨hk,Yf⟩:=hI;dsimp only [lca,aR] at H;refine dN 4 H ?_ ?_ <;> clear H
 ·intro p53
  have hk2:k < rv.length:=by omega
  obtain ⟨xb,xo,rfl,hrow⟩:=TJ (((qN.mono FR).mono Md).mono Yf) hk2
  have hk3:k < (rv.map bQ.id).length:=by simpa using hk2
  have hnew:=Zr f3 hk3
  have IY:(rv.map bQ.id)[k]=rv[k].id:=by simp
  rw [IY] at hnew;refine ak 5 ?_;intro a H;refine bg qz (cs:=_) H wn rfl rfl (fun j v hj=>H.hp.aF (hrow j v hj)) rfl ?_;clear H;intro a H;refine dx qz H wn rfl ?_;clear H;intro b9 a w sW H;refine aV qz 0 (vs:=[_,_,_]) _ H wn rfl rfl rfl rfl rfl rfl rfl rfl ?_;clear H;intro w H;dsimp only [List.set,setRow] at H;refine aG ?_;refine dG ?_;refine dI hmx [[],[0],[0,1],[0,1,2],[],[4],(ra 0 6)] [6] (by kernel_rfl) [_,_,_,.map (some b12),_,vi rv[k].id] H (aC (Z0 rfl (Rm rfl)) (Z1 0 56 rfl (Rk rfl)) (Z1 1 57 rfl (Rf Iw rfl)) (Z1 2 58 rfl (Ro Dg 1 rfl)) (bL (Z0 rfl (Rf ahk rfl)) (bL (Z1 4 60 rfl (Ro bH 0 rfl)) (bL (bP rfl) dw)))) ?_
  clear H;intro a w G Cu H hv;have H:=H.aO (hv 3 59 rfl rfl) rfl;have H:=H.aO (hv 5 61 rfl rfl) rfl;clear hv;refine Jw (i:=6) uf jJ H wn rfl rfl rfl rfl hnew ?_;clear H;intro w H;dsimp only [List.set,List.append,lca,aR] at H;rw [← IY,← Zt hk3] at H;refine aG ⟨rfl,?_⟩;refine dG ?_;refine eB 3 H ?_;clear H;intro a H;refine aG ?_;refine dH ((k+1,G)) (by exact (H.cu (Pl:=[_,_,_,_,_,_,_]) (bS:=[_,_,_,_,_,_]) [1,2,3,4,5,6] (by decide) rfl).sub ⟨rfl,rfl,rfl,rfl,bB⟩) ?_ ?_
  ·(try dsimp only);exact ⟨by omega,fun b o h=>Cu b o (Yf b o h)⟩
  first|omega|(dsimp only;omega)
 intro p53
 obtain rfl:k=rv.length:=by omega
 intro a H;rw [jh (by simp)] at H;refine eB 5 H ?_;clear H;intro a H;refine bV ?_;have H:=H.cu (Pl:=[_,_,_,_,_,_]) (bS:=[_,_,_,_,_,_]) [3,4,5,0,2,1] (by decide) rfl;obtain ⟨Gs,hms,hs,H⟩:=H.dP;obtain ⟨Gl,Me,hl,H⟩:=H.dP;obtain ⟨Gr,hmr,hr,H⟩:=H.dP;refine lv H results45 rfl ?_;exact H.hp.cZ ⟨b16,b10,b11,b12,b13,b14,rfl,rfl,⟨hmr _ _ (Me _ _ hs),hmr _ _ hl,hr⟩⟩
end
section
open Go.RowKit
instance:dB prog 98 4 4:=⟨by kernel_rfl⟩
instance:dB prog 98 3 3:=⟨by kernel_rfl⟩
variable {us:List Int}
theorem CP (x:Int):∀ l:List Int,(rO x (eX l)).getD (.bool false)=.bool (decide (x∈l))
 | []=>rfl
 | k :: r=>by
  have ih:=CP x r;rw [eX,eu,rO]
  by_cases e:k=x
  ·subst e;simp
  rw [ah e,show (r.map fun k=>(k,Value.bool true))=eX r from rfl,ih]
  simp [show x≠k from fun h=>e h.symm]
def Nt (st:List bM) (v:Int):Int:=((st.find? fun s=>decide (s.id=v)).map bM.kind).getD 0
theorem Jk (x:Int):∀ l:List bM,(rO x (yN l)).getD (vi 0)=vi (Nt l x)
 | []=>rfl
 | s :: r=>by
  have ih:=Jk x r;rw [yN,eu,rO]
  by_cases e:s.id=x
  ·subst e;simp [Nt]
  rw [ah e,show (r.map fun s=>(s.id,vi s.kind))=yN r from rfl,ih]
  simp [Nt,e]
def ow (us aX:List Int) (x:Int):Int:=if ¬ (1≤x∧x≤1073741824)∨x∈us then 18 else if x∈aX then 7 else 0
def jC (us aX:List Int) (x:Int):List Int:=if ow us aX x=0 then aX++[x] else aX
theorem alg (l:List Int) (x:Int):eX (l++[x])=eX l++[(x,.bool true)]:=by simp [eX]
theorem OZ (G:GH) (L:OL) (w0:World) (st:List bM) (li:List dW) (rv:List bQ) (b ms ml mr mb mu:Nat) (n:Int) (aX:List Int) (x:Int) (hck:uw us G st li rv ms ml mr mu) (hO:fC G (fF b ms ml mr mb mu n :: (mb,dV (eX aX)) :: L) w0) :
  Calls prog 163 #[(aD b 0),vi x] w0 (eP w0 G (fF b ms ml mr mb mu n :: (mb,dV (eX aX)) :: L) fun u G' L'=>u=vi (ow us aX x)∧L'=fF b ms ml mr mb mu n :: (mb,dV (eX (jC us aX x))) :: L∧G=G'):=by
 refine gB (N:=29) (T:=[(0,_),(1,_)]) func163 rfl ntmps163 rfl rfl hO ?_;refine ak 7 ?_;intro a H;refine s_call vW H wn rfl (wE _ _ H.ro x 1 1073741824) rfl ?_;clear H;rintro v7 _ a w ⟨rfl,rfl⟩ - H;refine nJ 2 9 H ?_ ?_ <;> clear H
 ·intro h9
  try have p9:=dT h9
  refine ak 10 ?_
  have e:ow us aX x=18:=by rw [ow,ay (by first|(simp_all;done)|(simp_all;omega))]
  refine ak 3 ?_;intro a H;refine lr H results163 rfl ?_
  first
   | exact H.hp.cZ ⟨by rw [e],by rw [jC,ay e],rfl⟩
   | exact H.hp.cZ ⟨by rw [e],by rw [jC,ah (by rw [e];decide)],rfl⟩
 intro h9
 try have p9:=dF h9
 refine ak 1 ?_;intro a H;refine rT H (wg H rfl rfl h9) rfl rfl ?_;clear H;refine ak 3 ?_;intro a H;refine yR (zv:=.bool false) uf jJ (by kernel_rfl) H (wg H rfl rfl h9) rfl rfl (H.ro _ _ hck.use) rfl ?_;clear H;intro a H;rw [CP] at H;refine gW 3 H ?_ ?_ <;> clear H
 ·intro p5
  have e:ow us aX x=18:=by rw [ow,ay (by first|(simp_all;done)|(simp_all;omega))]
  refine ak 3 ?_;intro a H;refine lr H results163 rfl ?_
  first
   | exact H.hp.cZ ⟨by rw [e],by rw [jC,ay e],rfl⟩
   | exact H.hp.cZ ⟨by rw [e],by rw [jC,ah (by rw [e];decide)],rfl⟩
 intro p5
 have hin:¬ (¬ (1≤x∧x≤1073741824)∨x∈us):=by first|(simp_all;done)|(simp_all;omega)
 refine ak 6 ?_;intro a H;refine yR (zv:=.bool false) uf jJ (by kernel_rfl) H wn rfl rfl (H.hp.own _ (gL _ fH)) rfl ?_;clear H;intro a H;rw [CP] at H;refine gX 2 H ?_ ?_ <;> clear H
 ·intro jR
  have e:ow us aX x=7:=by rw [ow,ah hin,ay (lX jR)]
  refine ak 3 ?_;intro a H;refine lr H results163 rfl ?_
  first
   | exact H.hp.cZ ⟨by rw [e],by rw [jC,ay e],rfl⟩
   | exact H.hp.cZ ⟨by rw [e],by rw [jC,ah (by rw [e];decide)],rfl⟩
 intro jR
 have hx:x∉aX:=of_decide_eq_false jR;have hnew:rO x (eX aX)=none:=Jj (by simpa [eX,List.map_map,Function.comp_def] using hx)
 have e:ow us aX x=0:=by rw [ow,ah hin,ah hx]
 refine ak 7 ?_;intro a H;refine Jw (i:=1) uf jJ H wn rfl rfl rfl rfl hnew ?_;clear H;intro w H;dsimp only [List.set] at H;rw [← alg] at H;refine aH 4 H ?_;clear H;intro a H;refine lr H results163 rfl ?_
 first
  | exact H.hp.cZ ⟨by rw [e],by rw [jC,ay e],rfl⟩
  | exact H.hp.cZ ⟨by rw [e],by rw [jC,ah (by rw [e];decide)],rfl⟩
def nT (st:List bM) (kC:List Int) (key v:Int):Int :=
 if key=20∨key=1 then bW (decide (v≠0∧Nt st v≠(if key=1 then 2 else 1))) 25 else if key=33 then bW (decide (v≠0∧v∉kC)) 26 else 0
theorem O1 (G:GH) (w0:World) (hG:Hold G w0) (st:List bM) (li:List dW) (rv:List bQ) (b ms ml mr mb mu:Nat) (n:Int) (key v:Int) (hck:uw us G st li rv ms ml mr mu) (hb:G b=some (fF b ms ml mr mb mu n).2) :
  Calls prog 135 #[(aD b 0),vi key,vi v] w0 (bD w0 G fun u G'=>u=vi (nT st (li.map dW.id) key v)∧G=G'):=by
 have hc0:aF G b 0=some (.map (some ms)):=by unfold aF;rw [hb];rfl
 have hc1:aF G b 1=some (.map (some ml)):=by unfold aF;rw [hb];rfl
 refine eN [(0,_),(1,_),(2,_)] func135 rfl ntmps135 rfl rfl hG ?_;refine goC 13 ?_ ?_
 ·intro h9
  try have p9:=dT h9
  refine goB 10 ?_ ?_
  ·intro oW
   refine jE 7 16 ?_ ?_
   ·intro h16
    try have p16:=dT h16
    refine ak 1 ?_;intro a H;refine rT H (wg H rfl rfl h16) rfl rfl ?_;clear H;refine ak 3 ?_;intro a H;refine yR (zv:=vi 0) Di jJ (by kernel_rfl) H (wg H rfl rfl h16) rfl rfl (H.ro _ _ hck.sty) rfl ?_;clear H;intro a H;rw [Jk] at H;refine aH 3 H ?_;clear H;intro a H;refine s_call iR H wn rfl (iW _ _ H.ro _ 25) rfl ?_;clear H;rintro v26 _ a w ⟨rfl,rfl⟩ - H;refine gH 2 H ?_;exact ⟨aB vi (by unfold nT;(repeat' split) <;> first|rfl|(simp_all;done)|(exfalso;simp_all;done)|(congr 1;rw [qG];simp only [uJ,nX,lV];exact ⟨fun h=>⟨p31,h⟩,fun h=>h.2⟩)),rfl⟩
   intro h16
   try have p16:=dF h16
   refine ak 9 ?_;intro a H;refine s_call iR H wn rfl (iW _ _ H.ro _ 25) rfl ?_;clear H;rintro v26 _ a w ⟨rfl,rfl⟩ - H;refine gH 2 H ?_;exact ⟨aB vi (by unfold nT;(repeat' split) <;> first|rfl|(simp_all;done)|(exfalso;simp_all;done)|(congr 1;rw [qG];simp only [uJ,nX,lV];exact ⟨fun h=>⟨p31,h⟩,fun h=>h.2⟩)),rfl⟩
  intro oW
  refine jE 5 16 ?_ ?_
  ·intro h16
   try have p16:=dT h16
   refine ak 1 ?_;intro a H;refine rT H (wg H rfl rfl h16) rfl rfl ?_;clear H;refine ak 3 ?_;intro a H;refine yR (zv:=vi 0) Di jJ (by kernel_rfl) H (wg H rfl rfl h16) rfl rfl (H.ro _ _ hck.sty) rfl ?_;clear H;intro a H;rw [Jk] at H;refine aH 3 H ?_;clear H;intro a H;refine s_call iR H wn rfl (iW _ _ H.ro _ 25) rfl ?_;clear H;rintro v26 _ a w ⟨rfl,rfl⟩ - H;refine gH 2 H ?_;exact ⟨aB vi (by unfold nT;(repeat' split) <;> first|rfl|(simp_all;done)|(exfalso;simp_all;done)|(congr 1;rw [qG];simp only [uJ,nX,lV];exact ⟨fun h=>⟨p31,h⟩,fun h=>h.2⟩)),rfl⟩
  intro h16
  try have p16:=dF h16
  refine ak 9 ?_;intro a H;refine s_call iR H wn rfl (iW _ _ H.ro _ 25) rfl ?_;clear H;rintro v26 _ a w ⟨rfl,rfl⟩ - H;refine gH 2 H ?_;exact ⟨aB vi (by unfold nT;(repeat' split) <;> first|rfl|(simp_all;done)|(exfalso;simp_all;done)|(congr 1;rw [qG];simp only [uJ,nX,lV];exact ⟨fun h=>⟨p31,h⟩,fun h=>h.2⟩)),rfl⟩
 intro h9
 try have p9:=dF h9
 refine goB 4 ?_ ?_
 ·intro p9
  refine goB 8 ?_ ?_
  ·intro oW
   refine jE 7 16 ?_ ?_
   ·intro h16
    try have p16:=dT h16
    refine ak 1 ?_;intro a H;refine rT H (wg H rfl rfl h16) rfl rfl ?_;clear H;refine ak 3 ?_;intro a H;refine yR (zv:=vi 0) Di jJ (by kernel_rfl) H (wg H rfl rfl h16) rfl rfl (H.ro _ _ hck.sty) rfl ?_;clear H;intro a H;rw [Jk] at H;refine aH 3 H ?_;clear H;intro a H;refine s_call iR H wn rfl (iW _ _ H.ro _ 25) rfl ?_;clear H;rintro v26 _ a w ⟨rfl,rfl⟩ - H;refine gH 2 H ?_;exact ⟨aB vi (by unfold nT;(repeat' split) <;> first|rfl|(simp_all;done)|(exfalso;simp_all;done)|(congr 1;rw [qG];simp only [uJ,nX,lV];exact ⟨fun h=>⟨p31,h⟩,fun h=>h.2⟩)),rfl⟩
   intro h16
   try have p16:=dF h16
   refine ak 9 ?_;intro a H;refine s_call iR H wn rfl (iW _ _ H.ro _ 25) rfl ?_;clear H;rintro v26 _ a w ⟨rfl,rfl⟩ - H;refine gH 2 H ?_;exact ⟨aB vi (by unfold nT;(repeat' split) <;> first|rfl|(simp_all;done)|(exfalso;simp_all;done)|(congr 1;rw [qG];simp only [uJ,nX,lV];exact ⟨fun h=>⟨p31,h⟩,fun h=>h.2⟩)),rfl⟩
  intro oW
  refine jE 5 16 ?_ ?_
  ·intro h16
   try have p16:=dT h16
   refine ak 1 ?_;intro a H;refine rT H (wg H rfl rfl h16) rfl rfl ?_;clear H;refine ak 3 ?_;intro a H;refine yR (zv:=vi 0) Di jJ (by kernel_rfl) H (wg H rfl rfl h16) rfl rfl (H.ro _ _ hck.sty) rfl ?_;clear H;intro a H;rw [Jk] at H;refine aH 3 H ?_;clear H;intro a H;refine s_call iR H wn rfl (iW _ _ H.ro _ 25) rfl ?_;clear H;rintro v26 _ a w ⟨rfl,rfl⟩ - H;refine gH 2 H ?_;exact ⟨aB vi (by unfold nT;(repeat' split) <;> first|rfl|(simp_all;done)|(exfalso;simp_all;done)|(congr 1;rw [qG];simp only [uJ,nX,lV];exact ⟨fun h=>⟨p31,h⟩,fun h=>h.2⟩)),rfl⟩
  intro h16
  try have p16:=dF h16
  refine ak 9 ?_;intro a H;refine s_call iR H wn rfl (iW _ _ H.ro _ 25) rfl ?_;clear H;rintro v26 _ a w ⟨rfl,rfl⟩ - H;refine gH 2 H ?_;exact ⟨aB vi (by unfold nT;(repeat' split) <;> first|rfl|(simp_all;done)|(exfalso;simp_all;done)|(congr 1;rw [qG];simp only [uJ,nX,lV];exact ⟨fun h=>⟨p31,h⟩,fun h=>h.2⟩)),rfl⟩
 intro p9
 refine goB 4 ?_ ?_
 ·intro p27
  refine jE 4 31 ?_ ?_
  ·intro h31
   try have p31:=dT h31
   refine ak 1 ?_;intro a H;refine rT H (wg H rfl rfl h31) rfl rfl ?_;clear H;refine ak 3 ?_;intro a H;refine yR (zv:=.bool false) uf jJ (by kernel_rfl) H (wg H rfl rfl h31) rfl rfl (H.ro _ _ hck.kC) rfl ?_;clear H;intro a H;rw [CP] at H;refine aH 2 H ?_;clear H;intro a H;refine s_call iR H wn rfl (iW _ _ H.ro _ 26) rfl ?_;clear H;rintro v40 _ a w ⟨rfl,rfl⟩ - H;refine gH 2 H ?_;exact ⟨aB vi (by unfold nT;(repeat' split) <;> first|rfl|(simp_all;done)|(exfalso;simp_all;done)|(congr 1;rw [qG];simp only [uJ,nX,lV];exact ⟨fun h=>⟨p31,h⟩,fun h=>h.2⟩)),rfl⟩
  intro h31
  try have p31:=dF h31
  refine ak 8 ?_;intro a H;refine s_call iR H wn rfl (iW _ _ H.ro _ 26) rfl ?_;clear H;rintro v40 _ a w ⟨rfl,rfl⟩ - H;refine gH 2 H ?_;exact ⟨aB vi (by unfold nT;(repeat' split) <;> first|rfl|(simp_all;done)|(exfalso;simp_all;done)|(congr 1;rw [qG];simp only [uJ,nX,lV];exact ⟨fun h=>⟨p31,h⟩,fun h=>h.2⟩)),rfl⟩
 intro p27
 refine aP 4 ?_;exact ⟨aB vi (by unfold nT;(repeat' split) <;> first|rfl|(simp_all;done)|(exfalso;simp_all;done)|(congr 1;rw [qG];simp only [uJ,nX,lV];exact ⟨fun h=>⟨p31,h⟩,fun h=>h.2⟩)),rfl⟩
end
section
open Go.RowKit
section
variable {N:Nat} {D:List Deferred} {w0:World} {F:Nat→Prop} {G0 G G':GH} {L L':OL} {T:List (Nat × aj)}
variable {r:Option Nat} {P:Program} {ops:Array Oper} {Q:Exit→Act→World→Prop} {rest:List Oper} {a:Act} {w w':World}
theorem BG {ι:Type} {Tc:List (Nat × aj)} {l:List Oper} (k:Nat) (Tv:ι→List (Nat × aj)) (Pr:ι→Prop) (_:St N D w0 F G0 G L Tc a w)
  (h1:(∀ i a w,Pr i→St N D w0 F G0 G L (Tv i++Tc) a w→WL r P ops Q (l.drop k) a w)→WL r P ops Q l a w)
  (h2:∀ i a w,Pr i→St N D w0 F G0 G L (Tv i++Tc) a w→WL r P ops Q (l.drop k) a w):WL r P ops Q l a w:=h1 h2
theorem Change.back (h:Change w w' G G' L L'):Change w w' G G L L' :=
 ⟨h.os,h.tape,h.output,h.size,h.fr,fun _ _ h=>h,fun _ _ h=>.inl h,⟨fun k o hk=>h.owns.ro k o (h.gm k o hk),h.owns.own,fun p hp=>(by
  have hs:=h.owns.sep p hp
  cases hg:G p.1 with
  | none=>rfl
  | some o=>have:=h.gm _ _ hg;rw [hs] at this;cases this),h.owns.nd⟩,h.lx⟩
theorem eP.back {R:aj→GH→OL→Prop} {R':aj→OL→Prop} (hR:∀ v G' L',R v G' L'→R' v L') {e:Ending} (h:eP w G L R e w'):eP w G L (fun v G' L'=>G=G'∧R' v L') e w':=by
 obtain ⟨v,G',L',rfl,hc,hr⟩:=h
 exact ⟨v,G,L',rfl,hc.back,rfl,hR _ _ _ hr⟩
theorem Calls.acH {f:FuncId} {args:Array aj} {R:aj→GH→OL→Prop} {R':aj→OL→Prop} (h:Calls P f args w (eP w G L R)) (hR:∀ v G' L',R v G' L'→R' v L'):Calls P f args w (eP w G L fun v G' L'=>G=G'∧R' v L') :=
 h.mono fun _ _=>eP.back hR
theorem bD.back {R:aj→GH→Prop} {e:Ending} (h:bD w G R e w'):bD w G (fun v G'=>(∃ g,R v g)∧G=G') e w':=by
 obtain ⟨v,G',rfl,hb,hX,hr⟩:=h
 exact ⟨v,G,rfl,hb,⟨fun _ _ h=>h,fun _ _ h=>.inl h,fun k o hk=>hX.2.2 k o (hX.1 k o hk)⟩,⟨G',hr⟩,rfl⟩
theorem VJ {f:FuncId} {args:Array aj} {R:aj→GH→Prop} (h:Calls P f args w (bD w G R)):Calls P f args w (bD w G fun v G'=>(∃ g,R v g)∧G=G'):=h.mono fun _ _=>bD.back
theorem fC.add {b:Nat} {o:Obj} (h:fC G ((b,o) :: L) w):Hold (G.add b o) w:=fun k o' hk=>by
 unfold GH.add at hk
 split at hk
 ·next e=>cases hk;subst e;exact h.own _ fH
 ·exact h.ro k o' hk
theorem amO {b:Nat} {o:Obj} {R:aj→GH→Prop} {R':aj→Prop} (hO:fC G ((b,o) :: L) w) (hR:∀ v G',R v G'→R' v) {e:Ending} (h:bD w (G.add b o) R e w'):eP w G ((b,o) :: L) (fun v G' L'=>G=G'∧L'=(b,o) :: L∧R' v) e w':=by
 obtain ⟨v,G',rfl,hb,hX,hr⟩:=h
 exact ⟨v,G,_,rfl,(hO.hp.below hb).aaT,rfl,rfl,hR _ _ hr⟩
end
end
end Go.Proofs.YthmanofbmnfemaaGreat
