/-
  What the claim stands on, part 3: Lfl Dv Lpc Scn By Lps Lcl Dst Sty Stz Dsc Mi Ro Ri Chn Chk Dsv Mq Nck Cid Mt Hdr.
-/
import Derived.Test.YtdiflmikikiedaaGreatWkb
import Derived.Lib.ConvBytes
namespace Go.Proofs.YtdiflmikikiedaaGreat
set_option linter.all false
open Go.Proofs.Tryz
open Go.RowKit
theorem aqh:aS 279:=aT func279 M
theorem O1:Ty prog 313 1 24 [.slice none 0 0] false:=⟨V,V⟩
theorem aqK:aS 94:=aT func94 M
theorem Mc:prog.underlying 313=some (.slice 318):=by kernel_rfl
theorem LZ:Ty prog 318 3 32 [.string ⟨#[]⟩,.int .i64 0,.bool false] true:=⟨V,V⟩
theorem aqi:aS 280:=aT func280 M
theorem Nv:dP prog 340 2 2:=⟨V⟩
theorem Nw:dP prog 340 3 4:=⟨V⟩
theorem ajG:qQ prog 318 [(0,1),(1,1),(2,1)] [.string ⟨#[]⟩,.int .i64 0,.bool false]:=⟨V,V⟩
theorem WA:aS 274:=aT func274 M
theorem QY:dP prog 340 4 5:=⟨V⟩
structure jV where
 lit:ByteArray
 level:Int
 plain:Bool
def jV.dat (x:jV):List Dat:=[.lf (.string x.lit),li x.level,.lf (.bool x.plain)]
abbrev jV.cells (x:jV):List ah:=[.string x.lit,vi x.level,.bool x.plain]
theorem abd {p:Prop} (h:p:=by
 exact ⟨_,_,M,by simp [ak,Value.oneCell'],_,_,M,by simp [ak,Value.oneCell'],_,_,M,by simp [ak,Value.oneCell'],M⟩):p:=h
theorem ahS (G:GH) (x:jV):bB G x.dat x.cells:=by
 simp only [jV.dat,jV.cells,bB]
 exact abd
theorem abT {p:Prop} (h:p:=by
 obtain ⟨_,_,rfl,⟨rfl,_⟩,_,_,rfl,⟨rfl,_⟩,_,_,rfl,⟨rfl,_⟩,rfl⟩:=h
 rfl):p:=h
theorem ahR {G:GH} {x:jV} {cs:List ah} (h:bB G x.dat cs):cs=x.cells:=by
 simp only [jV.dat,bB,ak] at h
 exact abT
def IB (l:List jV):List ah:=(l.map jV.cells).flatten
theorem ahQ (l:List jV) (x:jV):IB (l++[x])=IB l++x.cells:=by simp [IB]
structure BP (b:Nat) (lit:List UInt8) (parts:List jV) (p v q:ah) (Lp Lo:OL):Prop where
 ptr:p=.pointer none∨p=(aK b 2)
 buf:dw 5 1 v lit.length (Lib.byteCells lit) Lo
 prt:dw 318 3 q parts.length (IB parts) Lp
def yT (lit:List UInt8) (parts:List jV):List jV:=if lit=[] then parts else parts++[⟨⟨lit.toArray⟩,0,false⟩]
theorem alF {p:Prop} (h:p:=by
 exact Ch HT Hb hG hv (iN aJ jI) H M):p:=h
theorem fP {p:Prop} (h:p:=by
 exact absurd hB Z):p:=h
theorem MK {p:Prop} (h:p:=by
 exact aex V M HT Hb hG (fun j e h1 h2 h3=>hv _ j e h1 h2 h3) (rfl) H):p:=h
theorem abe {p:Prop} (h:p:=by
 first
  | exact H.hp.mW (L':=iO b s i _ _ _ pl e :: jI.2) (Dp _ _) ⟨_,_,_,jI.2,[],by rw [ig],⟨.inl M,dw.nil,by rw [yT,av hne];simpa using CF⟩⟩
  | exact H.hp.gL ⟨_,_,_,Lp,Lo,by rw [uy],by
    have h0:lit=[]:=by
     cases lit with
     | nil=>rfl
     | cons x r=>simp at p6
    subst h0;exact ⟨auG,hbuf,by rw [yT,aD M];exact Yh⟩⟩):p:=h
theorem uP {p:Prop} (h:p:=by
 intro _ _ _ _ _ _ _ _ hB;exact fP):p:=h
theorem GJ {p:Prop} (h:p:=by
 clear H;intro a H;refine aG ⟨M,?_⟩;exact alF):p:=h
theorem Vs {p:Prop} (h:p:=by
 intro aJ jI dG bH a w G1 eP _ _ _ _ aM hc hG HT hv;have H:=HT;clear aM;have Hb:=H.full;have H:=Hb;clear hc;refine kH H (Rm M ?_);exact GJ):p:=h
set_option maxHeartbeats 1000000 in
theorem WX (G:GH) (Lp Lo:OL) (w0:World) (b:Nat) (s:ByteArray) (i:Int) (p v q:ah) (pl e:Int) (lit:List UInt8) (parts:List jV) (hR:BP b lit parts p v q Lp Lo) (hO:gJ G (iO b s i p v q pl e :: (Lp++Lo)) w0) (hl:lit.length<=4294967296) (hp:parts.length<=4294967296) :
  Calls prog 274 #[(aK b 0)] w0 (fV w0 G (iO b s i p v q pl e :: (Lp++Lo)) fun u G' L'=>∃ p' v' q' sN kF,L'=iO b s i p' v' q' pl e :: (sN++kF)∧BP b [] (yT lit parts) p' v' q' sN kF):=by
 obtain ⟨auG,hbuf,Yh⟩:=hR;have hml:maxLen=9223372036854775807:=rfl;obtain ⟨A,c,rfl,ahq,ahr⟩:=hbuf.shape;obtain ⟨B,d,rfl,ahe,ahf⟩:=Yh.shape;obtain ⟨Lt,uy⟩:∃ x,x=Lp++Lo:=⟨_,M⟩;rw [<- uy] at hO |-;refine jA (N:=25) (T:=[(0,_)]) func274 M ntmps274 M M hO ?_;intro a H;refine kP H (SR fun _ K1=>Rm M (Rk M (Rf Nv M ?_)));clear H;intro a H;refine gM aqh (Li:=[]) (L:=iO b s i p (.slice A lit.length c) (.slice B parts.length d) pl e :: Lt) H wn M (aAf _ _ _ b s i p A lit.length c B parts.length d pl e (Hp.owns (Li:=[]) H.hp)) M ?_;clear H;rintro v5 _ L5 a w ⟨rfl,rfl,rfl⟩ Fg H;dsimp only [List.nil_append] at H;refine kH H (Rc M (Kz K1 (Cd M ?_ ?_))) <;> clear H K1
 ·intro h6 a H
  try have p6:=dT h6
  have hne:lit≠[]:=fun e=>by rw [e] at p6;simp at p6
  subst uy;refine bO (fun _ K2=>?_)
  have iN:Mo2 (fun (aJ:Nat) (jI:(Option Addr × Nat) × OL) (bX:Nat) (v:ah) (G:GH)=>match bX with|0=>v=(aK b 0)|1=>v=(aK b 0)|2=>v=(aK b 0)|3=>v=(aK b 4)|4=>v=.slice B parts.length d|5=>v=(aK b 0)|6=>v=(aK b 0)|7=>v=(aK b 2)|8=>v=.string ⟨lit.toArray⟩|9=>v=.agg (jV.cells ⟨⟨lit.toArray⟩,0,false⟩).toArray|10=>v=.slice (some ⟨aJ,0,none⟩) 1 1|11=>v=.slice jI.1.1 (parts.length+1) jI.1.2∧dw 318 3 v (parts.length+1) (IB (parts++[⟨⟨lit.toArray⟩,0,false⟩])) jI.2|_=>True):=by intro aJ jI bX v G G' hm h;(iterate 15 (rcases bX with _|bX;(first|exact h)));exact trivial
  refine ami (κ:=(Option Addr × Nat) × OL) (((none,0),[])) (hmx) [[],[],[1],[1,2],[1,2,3],[],[5],[5,6],[5,6,7],ra 5 4,ra 5 5,ra 1 10,ra 0 12,ra 0 13,ra 0 14] [12,13,14] V V 8 10 11 Z Z Z Z Z Z Z Z Z [iO b s i p (.slice A lit.length c) (.slice B parts.length d) pl e] (iO b s i p (.slice A lit.length c) (.slice B parts.length d) pl e :: Lp) (.cells (jV.cells ⟨⟨lit.toArray⟩,0,false⟩).toArray 318 (0,0)) (fun b_ k_=>(b_,.cells (jV.cells ⟨⟨lit.toArray⟩,0,false⟩).toArray 318 (0,0)) :: iO b s i p (.slice A lit.length c) (.slice B parts.length d) pl e :: k_.2) (fun x hx=>by rw [oC.1 hx];exact dX) (fun x hx=>by rw [oC.1 hx];exact dX) (fun _ _ x hx=>by rw [oC.1 hx];exact gW _ dX) (fun (aJ:Nat) (jI:(Option Addr × Nat) × OL) (bX:Nat) (v:ah) (G:GH)=>match bX with|0=>v=(aK b 0)|1=>v=(aK b 0)|2=>v=(aK b 0)|3=>v=(aK b 4)|4=>v=.slice B parts.length d|5=>v=(aK b 0)|6=>v=(aK b 0)|7=>v=(aK b 2)|8=>v=.string ⟨lit.toArray⟩|9=>v=.agg (jV.cells ⟨⟨lit.toArray⟩,0,false⟩).toArray|10=>v=.slice (some ⟨aJ,0,none⟩) 1 1|11=>v=.slice jI.1.1 (parts.length+1) jI.1.2∧dw 318 3 v (parts.length+1) (IB (parts++[⟨⟨lit.toArray⟩,0,false⟩])) jI.2|_=>True) (fun b b' k i v G hi hc h=>by (iterate 15 (rcases i with _|i;(first|exact h|exact absurd hi Z|exact absurd hc Z)));exact trivial) (fun b k k' i v G hi hc h=>by (iterate 15 (rcases i with _|i;(first|exact h|exact absurd hi Z|exact absurd hc Z)));exact trivial) H ?_ ?_ ?_ ?_ ?_ V V
  ·clear H;refine ay ?_ ?_ ?_ ?_ (ay ?_ ?_ ?_ ?_ (ay ?_ ?_ ?_ ?_ (bN ?_ (bN ?_ (bN ?_ dB)))))
   ·exact Vs
   ·exact Vs
   ·intro aJ jI dG bH a w G1 eP _ _ _ _ aM hc hG HT hv;have H:=HT;clear aM;have H:=H.aN (hv 1 8 (hc 1 Z) M) M;have Hb:=H.full;have H:=Hb;clear hc;refine kH H (Rk M ?_);exact GJ
   ·intro aJ jI dG bH a w G1 eP _ _ _ _ aM hc hG HT hv;have H:=HT;clear aM;have H:=H.aN (hv 2 9 (hc 2 Z) M) M;have Hb:=H.full;have H:=Hb;clear hc;refine kH H (Rf Nw M ?_);exact GJ
   ·intro aJ jI dG bH a w G1 eP _ _ _ _ aM hc hG HT hv;have H:=HT;clear aM;have H:=H.aN (hv 3 10 (hc 3 Z) M) M;have Hb:=H.full;have H:=Hb;clear hc;refine rG O1 H wn M (H.hp.yh (eP _ dX) M) M ?_;exact GJ
   ·exact Vs
   ·intro aJ jI dG bH a w G1 eP _ _ _ _ aM hc hG HT hv;have H:=HT;clear aM;have H:=H.aN (hv 5 12 (hc 5 Z) M) M;have Hb:=H.full;have H:=Hb;clear hc;refine kH H (Rk M ?_);exact GJ
   ·intro aJ jI dG bH a w G1 eP _ _ _ _ aM hc hG HT hv;have H:=HT;clear aM;have H:=H.aN (hv 6 13 (hc 6 Z) M) M;have Hb:=H.full;have H:=Hb;clear hc;refine kH H (Rf Nv M ?_);exact GJ
   ·intro _ _ _ _ _ _ _ _ _ hB;exact fP
   ·intro aJ jI dG bH a w G1 eP _ _ _ _ aM hc hG HT hv;have H:=HT;clear aM;have H:=H.aN (hv 8 15 (hc 8 Z) M) M;have Hb:=H.full;have H:=Hb;clear hc;refine jU ajG [_,_,_] H wn M M M M ?_;exact GJ
   ·intro _ _ _ _ _ _ _ _ _ _ hB;exact fP
   ·intro _ _ _ _ _ _ _ _ _ _ _ hB;exact fP
   ·intro _ _ _ _ _ _ _ _ hB;exact fP
   ·intro _ _ _ _ _ _ _ _ hB;exact fP
   exact uP
  ·clear H;intro o_ aJ jI bH a w G1 mK _ hc hG HT hv;obtain rfl:_=o_:=Option.some.inj mK;clear mK;have H:=HT;have H:=H.aN (hv 7 14 Z (hc 7 Z) M) M;have Hb:=H.full;have H:=Hb;clear hc;refine gM aqK (Li:=[]) (L:=iO b s i p (.slice A lit.length c) (.slice B parts.length d) pl e :: (Lp++Lo)) H wn M (aAA _ _ _ _ b s i p _ B parts.length d pl e lit (Hp.owns (Li:=[]) H.hp) hbuf hne) M ?_;clear H;rintro v15 Dg UA a w ⟨rfl,rfl⟩ DR H;dsimp only [List.nil_append] at H;refine aG ⟨M,?_⟩;exact vQ V (iN aJ jI) M HT Hb hG (fun j e h1 h2 h3=>hv j e h1 h2 h3) DR (rfl) H
  ·clear H;intro o_ jI bH a w G1 mK _ hc hG HT hv;obtain rfl:_=o_:=Option.some.inj mK;clear mK;have H:=HT;have H:=H.aN (hv 0 9 16 Z (hc 9 Z) M) M;have Hb:=H.full;have H:=Hb;clear hc;refine iC Mc LZ [_,_,_] [_,_,_] H wn M M M M M (by intro i q h;match i,h with|0,h=>exact h|n+1,h=>simp at h) M M ?_;clear H;intro b17 a w agn H;refine aG ⟨M,b17,?_⟩;exact MK
  ·clear H;intro o_ aJ bH a w G1 mK _ hc hG HT hv;obtain rfl:_=o_:=Option.some.inj mK;clear mK;have H:=HT;have H:=H.aN (hv (((none,0),[])) 4 11 Z (hc 4 Z) M) M;have H:=H.aN (hv (((none,0),[])) 10 17 Z (hc 10 Z) M) M;have Hb:=H.full;have H:=Hb;clear hc;refine og (Li:=[_,_]) (Lo:=Lp) (news:=jV.cells ⟨⟨lit.toArray⟩,0,false⟩) Mc LZ M M H wn M M Yh M (H.hp.cB 0 M M) M O O M ?_;clear H;intro v18 akW a w CF H;obtain ⟨A18,c18,rfl,-,-⟩:=CF.shape;rw [<- ahQ] at CF;refine aG ⟨M,((A18,c18),akW),?_⟩;exact aex V M HT Hb hG (fun j e h1 h2 h3=>hv _ j e h1 h2 h3) (⟨M,CF⟩) H
  clear H;intro b17 jI a w G jC H hv;have H:=H.aN (hv 0 7 M M) M;obtain ⟨u18,Ou,Fv⟩:=hv 11 18 Z M;(try dsimp only at Fv);obtain ⟨rfl,CF⟩:=Fv;have H:=H.gZ Ou;clear hv;refine kH H (Rk M (Rf Nw M ?_));clear H;intro a H;refine bC O1 1 (vs:=[_]) H wn M ?_;clear H;intro w H;refine aG ⟨M,?_⟩;refine K2 _ _ ?_;clear K2;refine kP H (SC (Rm M (Rk M (Rf Nv M ?_))));clear H;intro a H;refine gM aqi (Li:=[_]) (L:=iO b s i p (.slice A lit.length c) (.slice jI.1.1 (parts.length+1) jI.1.2) pl e :: jI.2) H wn M (aAx _ _ _ b s i p A lit.length c jI.1.1 (parts.length+1) jI.1.2 pl e (Hp.owns (Li:=[_]) H.hp)) M ?_;clear H;rintro v24 _ L24 a w ⟨rfl,rfl⟩ KC H;dsimp only [lca,bM] at H;refine aG ?_;refine (leave0 H results274 ?_).2
  exact abe
 intro h6 a H
 try have p6:=dF h6
 refine iE ?_;refine (leave0 H results274 ?_).2
 exact abe
theorem aiG (G:GH) (Lp Lo:OL) (w0:World) (b:Nat) (s:ByteArray) (i:Int) (p v q:ah) (pl e:Int) (lit:List UInt8) (parts:List jV) (ch:Int) (plain:Bool) (hR:BP b lit parts p v q Lp Lo) (hO:gJ G (iO b s i p v q pl e :: (Lp++Lo)) w0) (hl:lit.length<=4294967296) (hp:parts.length<=4294967290) (hc:49<=ch∧ch<=57) (hpl:0<=pl∧pl<=4294967296) :
  Calls prog 278 #[(aK b 0),.int .u8 ch,.bool plain] w0 (fV w0 G (iO b s i p v q pl e :: (Lp++Lo)) fun u G' L'=>∃ p' v' q' sN kF,L'=iO b s i p' v' q' (pl+1) e :: (sN++kF)∧BP b [] (yT lit parts++[⟨⟨#[]⟩,ch - 48,plain⟩]) p' v' q' sN kF):=by
 have hml:maxLen=9223372036854775807:=rfl
 have hfl:(yT lit parts).length<=parts.length+1:=by unfold yT;split <;> simp
 obtain ⟨A,c,rfl,ahq,ahr⟩:=hR.buf.shape;obtain ⟨B,d,rfl,ahe,ahf⟩:=hR.prt.shape;obtain ⟨Lt,uy⟩:∃ x,x=Lp++Lo:=⟨_,M⟩;rw [<- uy] at hO |-;refine jA (N:=29) (T:=[(0,_),(1,_),(2,_)]) func278 M ntmps278 M M hO ?_;intro a H;refine kP H (SR fun _ K1=>Rm M ?_);clear H;intro a H;refine gM WA (Li:=[]) (L:=iO b s i p (.slice A lit.length c) (.slice B parts.length d) pl e :: Lt) H wn M (by subst uy;exact WX _ Lp Lo _ b s i p _ _ pl e lit parts hR (Hp.owns (Li:=[]) H.hp) hl O) M ?_;clear H;rintro v7 G7 L7 a w ⟨p',v',q',sN,kF,rfl,NJ⟩ uG H;dsimp only [List.nil_append] at H;obtain ⟨A7,c7,rfl,-,-⟩:=NJ.buf.shape;obtain ⟨B7,d7,rfl,-,-⟩:=NJ.prt.shape;refine K1 _ _ ?_;clear K1;refine kP H (SR fun _ K2=>Rm M (Rm M (Rk M (bQ Nw O1 0 M M (Rm M ?_)))));clear H;intro a H;refine azv H wn M M O O M ?_;clear H;intro a H;refine CQ _ mF O8 H wn M M M ?_;clear H;intro a H;rw [Ir O O] at H;refine kH H (Rm M ?_);clear H;intro a H;refine jU ajG [_,_,_] H wn M M M M ?_;clear H;intro a H;refine iC Mc LZ [_,_,_] [_,_,_] H wn M M M M M (by intro i q h;match i,h with|0,h=>exact h|n+1,h=>simp at h) M M ?_;clear H;intro b18 a w Rt H;have H:=(St.cast H (show _=[_,_]++(sN++kF) from rfl)).perm (List.Perm.append_left _ oO);have H:=St.un H;refine og (Li:=[_,_]++kF) (Lo:=sN) (news:=jV.cells ⟨⟨#[]⟩,ch - 48,plain⟩) Mc LZ M M H wn M M NJ.prt M (H.hp.cB 0 M M) M O O M ?_;clear H;intro v19 aaz a w Fx H;obtain ⟨Jb,c19,rfl,-,-⟩:=Fx.shape;rw [<- ahQ] at Fx;have H:=H.assoc.perm (List.Perm.append_left _ oO);dsimp only [lca,bM] at H;refine kH H (Rk M (Rf Nw M ?_));clear H;intro a H;refine bC O1 1 (vs:=[_]) H wn M ?_;clear H;intro w H;refine K2 _ _ ?_;clear K2;refine kP H (SC (Rm M (Rk M (bQ QY aF 1 M M (Rd M (Rk M (Rf QY M ?_)))))));clear H;intro a H;refine bC aF 1 (vs:=[_]) H wn M ?_;clear H;intro w H;refine aG ?_;refine (leave0 H results278 ?_).2;exact H.hp.mW (L':=iO b s i _ _ _ (pl+1) e :: (aaz++kF)) (Dp _ _) ⟨_,_,_,aaz,kF,M,NJ.ptr,NJ.buf,by simpa using Fx⟩
section
section
variable {N:Nat} {D:List Deferred} {w0:World} {F:Nat->Prop} {G0 G:GH} {L:OL} {T Xs:List (Nat × ah)}
variable {r:Option Nat} {P:Program} {Q:Exit->Act->World->Prop} {l:List Oper} {a a':Act} {w w':World}
abbrev Ent:Type:=Nat × ah × Nat × Bool
def aaw (ent:List Ent) (S:Nat->Bool) (a:Act):Prop:=∀ e∈ent,S e.2.2.1=e.2.2.2->a.tmps[e.1]?=some e.2.1
theorem aaw.at {ent:List Ent} {S:Nat->Bool} {a:Act} (h:aaw ent S a) (k:Nat) {t:Nat} {v:ah} {j:Nat} {b:Bool} (hk:ent[k]?=some (t,v,j,b)) (hS:S j=b):a.tmps[t]?=some v:=h _ (lV hk) hS
theorem azu {ops:Array Oper} {rest:List Oper} {d:Nat} {ty:TypeId} {pos:String} {aQ:Array Edge} {g:Option (Nat × Bool)} {t:TypeId} {x y:Operand} {s:ByteArray} {ky:IntKind} {p:Int} (hi:Nat) (ht:P.underlying t=some .string) (H:St N D w0 F G0 G L T a w) (hw:Region.wanted ⟨some d,.slice t x none (some y) none,ty,pos,aQ,g⟩ (yielded ops a.tmps)=true) (hx:ev T x=some (.string s)) (hy:ev T y=some (.int ky p)) (hp:p=(hi:Int)) (h1:hi<=s.size) (hd:Nat.blt d N=true)
  (k:∀ a',St N D w0 F G0 G L ((d,.string (s.extract 0 hi)) :: T) a' w->WL r P ops Q rest a' w):WL r P ops Q (⟨some d,.slice t x none (some y) none,ty,pos,aQ,g⟩ :: rest) a w:=by
 subst hp
 have hr:=run_slice_string_h (P:=P) w t s ht ky (hi:Int) O O
 rw [Int.toNat_natCast] at hr
 refine fQ (v:=.string (s.extract 0 hi)) (w':=w) hw M ?_ (k _ (H.put hd _ H.hp))
 simp only [execOp,H.ev hx,wH,Option.map_none,H.ev hy,dU,run_sliceAt_string w t _ _ _ _ ht,hr,nS,uf]
end
end
theorem aqj:aS 281:=aT func281 M
theorem yS:dP prog 340 0 0:=⟨V⟩
theorem aeX:aS 273:=aT func273 M
theorem aeZ:aS 277:=aT func277 M
theorem afa:aS 278:=aT func278 M
theorem rY:dP prog 340 1 1:=⟨V⟩
theorem aeY:aS 276:=aT func276 M
theorem DC:dP prog 340 5 6:=⟨V⟩
def wm (s p:ByteArray):Bool:=decide (p.size<=s.size) && ((s.extract 0 p.size).toList == p.toList)
theorem ati (G:GH) (w0:World) (hG:Hold G w0) (s p:ByteArray) (hs:s.size<=4611686018427387904) (hp:p.size<=4611686018427387904):Calls prog 281 #[.string s,.string p] w0 (bG w0 G fun u G'=>u=.bool (wm s p)∧G=G'):=by
 refine eN [(0,_),(1,_)] func281 M ntmps281 M M hG ?_;intro a H;refine kP H (SR fun _ K1=>aj K1 M (SR fun _ K2=>Rm M (Rv iY M (Rm M (Rv iY M (Rc M (Rm M (Sp 10 M ?_ ?_)))))))) <;> clear H K1
 ·intro h10 a H
  try have jc:=dT h10
  refine kH H (YM h10 M (YM h10 M ?_));clear H;intro a H;refine FM iY H (wg H M M h10) M M ?_;clear H;intro a H;refine azu p.size iY H (wg H M M h10) M M M O M ?_;clear H;intro a H;refine kH H (YM h10 M ?_);clear H;intro a H;refine CV H (wg H M M h10) M M M ?_;clear H;intro a H;exact kH H (Pt h10 M (aj K2 M (LR results281 M fun H=>H.rt ⟨gH (by unfold wm;first|(simp_all;done)|(simp_all;omega)),rfl⟩)))
 intro h10 a H
 try have jc:=dF h10
 exact kH H (aP h10 M (aP h10 M (Pf h10 M (aj K2 M (LR results281 M fun H=>H.rt ⟨gH (by unfold wm;first|(simp_all;done)|(simp_all;omega)),rfl⟩)))))
theorem agk (G:GH) (w0:World) (hG:Hold G w0) (s p:ByteArray) (hs:s.size<=4611686018427387904) (hp:p.size<=4611686018427387904):Calls prog 276 #[.string s,.string p] w0 (bG w0 G fun u G'=>u=.bool (wm s p)∧G=G'):=by
 refine eN [(0,_),(1,_)] func276 M ntmps276 M M hG ?_;intro a H;refine kP H (SR fun _ K1=>aj K1 M (SR fun _ K2=>Rm M (Rm M ?_)));clear H K1;intro a H;refine s_call aqj H wn M (ati _ _ H.ro s p hs hp) M ?_;clear H;rintro v7 _ a w ⟨rfl,rfl⟩ - H;exact kH H (aj K2 M (LR results276 M fun H=>H.rt ⟨M,M⟩))
def yN (s:ByteArray) (k:Nat):Bool:=decide (k < s.size) && decide (49<=gX s k) && decide (gX s k<=57)
theorem aeu (G:GH) (L:OL) (w0:World) (b:Nat) (s:ByteArray) (i:Int) (p v q:ah) (pl e:Int) (k:Nat) (hs:s.size<=4611686018427387904) (hO:gJ G (iO b s i p v q pl e :: L) w0) :
  Calls prog 277 #[(aK b 0),vi k] w0 (fV w0 G (iO b s i p v q pl e :: L) fun u G' L'=>u=.bool (yN s k)∧L'=iO b s i p v q pl e :: L∧G'=G):=by
 refine jA (N:=30) (T:=[(0,_),(1,_)]) func277 M ntmps277 M M hO ?_;intro a H;refine kP H (SR fun _ K1=>aj K1 M (SR fun _ K2=>Rm M (Rm M (Rk M (bQ yS iP 0 M M (Rv iY M (Rc M (Rm M (Sp 12 M ?_ ?_))))))))) <;> clear H K1
 ·intro h12 a H
  try have rE:=dT h12
  refine kH H (YM h12 M ?_);clear H;intro a H;refine zm H (wg H M M h12) M M ?_;clear H;intro a H;refine kH H (YF yS h12 M (YO iP 0 h12 M (YM h12 M ?_)));clear H;intro a H;refine qM k iY H (wg H M M h12) M M M O M ?_;clear H;intro a H;rw [<- pF] at H;refine kH H (YC h12 M (Pt h12 M (Rm M (Sp 21 M ?_ ?_)))) <;> clear H
  ·intro h21 a H
   try have Ei:=dT h21
   refine kH H (YM h21 M ?_);clear H;intro a H;refine zm H (wg H M M h21) M M ?_;clear H;intro a H;refine kH H (YF yS h21 M (YO iP 0 h21 M (YM h21 M ?_)));clear H;intro a H;refine qM k iY H (wg H M M h21) M M M O M ?_;clear H;intro a H;rw [<- pF] at H;exact kH H (YC h21 M (Pt h21 M (aj K2 M (LR results277 M fun H=>H.hp.gL ⟨gH (by unfold yN;first|(simp_all;done)|(simp_all;omega)),rfl,rfl⟩))))
  intro h21 a H
  try have Ei:=dF h21
  exact kH H (aP h21 M (aL h21 M (aL h21 M (Pf h21 M (aj K2 M (LR results277 M fun H=>H.hp.gL ⟨gH (by unfold yN;first|(simp_all;done)|(simp_all;omega)),rfl,rfl⟩))))))
 intro h12 a H
 try have rE:=dF h12
 exact kH H (aP h12 M (aL h12 M (aL h12 M (Pf h12 M (Rm M (aP M M (aL M M (aL M M (Pf M M (aj K2 M (LR results277 M fun H=>H.hp.gL ⟨gH (by unfold yN;first|(simp_all;done)|(simp_all;omega)),rfl,rfl⟩)))))))))))
structure wE where
 i:Nat
 lit:List UInt8
 parts:List jV
 pl:Nat
 e:Int
def yx (s:ByteArray) (x:wE):wE :=
 if wm (s.extract x.i s.size) ⟨#[37,37]⟩=true then ⟨x.i+2,x.lit++[37],x.parts,x.pl,x.e⟩
 else if yN s (x.i+1)=true then ⟨x.i+2,[],yT x.lit x.parts++[⟨⟨#[]⟩,gX s (x.i+1) - 48,false⟩],x.pl+1,x.e⟩
 else if wm (s.extract x.i s.size) ⟨#[37,100]⟩=true∧yN s (x.i+2)=true then ⟨x.i+3,[],yT x.lit x.parts++[⟨⟨#[]⟩,gX s (x.i+2) - 48,true⟩],x.pl+1,x.e⟩
 else ⟨x.i,x.lit,x.parts,x.pl,14⟩
abbrev yC (b:Nat) (s:ByteArray) (x:wE) (p v q:ah):Nat × Obj:=iO b s x.i p v q x.pl x.e
theorem aes {s:ByteArray} {k:Nat} (h:yN s k=true):k < s.size∧49<=gX s k∧gX s k<=57:=by
 simpa [yN,and_assoc] using h
theorem U5 {p:Prop} (h:p:=by
 first
  | exact H.hp.gL ⟨_,_,_,UJ,UH,by rw [yx,av KM,av KL,aD ⟨c1,iF⟩];rfl,by rw [yx,av KM,av KL,aD ⟨c1,iF⟩];exact Hu⟩
  | (have hn3:¬ (wm (s.extract i s.size) ⟨#[37,100]⟩=true∧yN s (i+2)=true):=by simp_all
     exact H.hp.gL ⟨_,_,_,Lp,Lo,by rw [yx,av KM,av KL,av hn3,uy],by rw [yx,av KM,av KL,av hn3];exact hR⟩)):p:=h
theorem acO {p:Prop} (h:p:=by
 refine gN 8 63 M M fun _ a w G1 hG HT H fin=>?_;refine s_call aeY H wn M (agk _ _ H.ro _ _ hex Z) M ?_;clear H;rintro v64 G64 a w ⟨rfl,rfl⟩ asU H;exact fin H asU (rfl)):p:=h
theorem Qr {p:Prop} (h:p:=by
 clear H;intro a H;rw [<- pF] at H;exact JE):p:=h
theorem abK {p:Prop} (h:p:=by
 refine gN 9 64 M M fun _ a w G1 hG HT H fin=>?_;refine kH H (Rm M ?_);clear H;intro a H;exact aaU):p:=h
theorem Vv {p:Prop} (h:p:=by
 refine azt i iY H wn M M M O M ?_;exact jG):p:=h
set_option maxHeartbeats 1000000 in
theorem axD (G:GH) (Lp Lo:OL) (w0:World) (b:Nat) (s:ByteArray) (x:wE) (p v q:ah) (hR:BP b x.lit x.parts p v q Lp Lo) (hO:gJ G (yC b s x p v q :: (Lp++Lo)) w0) (hs:s.size<=4294967290) (hi:x.i < s.size) (hl:x.lit.length<=4294967290) (hp:x.parts.length<=4294967290) (hpl:x.pl<=4294967290) :
    Calls prog 272 #[(aK b 0)] w0 (fV w0 G (yC b s x p v q :: (Lp++Lo)) fun u G' L'=>∃ p' v' q' sN kF,L'=yC b s (yx s x) p' v' q' :: (sN++kF)∧BP b (yx s x).lit (yx s x).parts p' v' q' sN kF):=by
  obtain ⟨i,lit,parts,pl,e⟩:=x;dsimp only [yC] at *
  have hex:(s.extract i s.size).size<=4611686018427387904:=by rw [ByteArray.size_extract];omega
  obtain ⟨A,c,rfl,ahq,ahr⟩:=hR.buf.shape;obtain ⟨B,d,rfl,ahe,ahf⟩:=hR.prt.shape;obtain ⟨Lt,uy⟩:∃ x,x=Lp++Lo:=⟨_,M⟩;rw [<- uy] at hO |-;refine jA (N:=93) (T:=[(0,_)]) func272 M ntmps272 M M hO ?_;intro a H;refine EL ?_;refine bO (fun _ K1=>?_);refine dI hmx [[],[0],[0,1],[0,1,2],[],[4],[4,5],[4,5,6],ra 0 8,ra 0 9,ra 0 10] [] V [_,_,_,.string s,_,_,_,vi i,.string (s.extract i s.size),.bool (wm (s.extract i s.size) ⟨#[37,37]⟩),_] H (ay (Z0 M (Rm M)) (Z1 0 6 M (Rk M)) (Z1 1 7 M (Rf yS M)) (Z1 2 8 M (Ro iP 0 M)) (ay (Z0 M (Rm M)) (Z1 4 10 M (Rk M)) (Z1 5 11 M (Rf rY M)) (Z1 6 12 M (Ro aF 0 M)) (bN ?_ (bN ?_ (bN (Z1 9 15 M (Ra M)) dB))))) ?_
  · refine eT 3 9 7 13 M M fun _ a w G1 hG HT H fin=>?_;exact Vv
  · refine gN 8 14 M M fun _ a w G1 hG HT H fin=>?_;refine s_call aeY H wn M (agk _ _ H.ro _ _ hex Z) M ?_;clear H;rintro v15 Dg a w ⟨rfl,rfl⟩ DR H;exact fin H DR (rfl)
  clear H;intro a w G jC H hv;have H:=H.aN (hv 10 5 M M) M;clear hv;refine aG ⟨M,?_⟩;refine K1 _ _ ?_;clear K1;refine jw H M ?_ ?_
  · intro h5
    try have p5:=dT h5
    refine kP H (SR fun _ K2=>Rm M (Rk M (Rf Nv M ?_)));clear H;intro a H;refine gM aeX (Li:=[]) (L:=iO b s i p (.slice A lit.length c) (.slice B parts.length d) pl e :: Lt) H wn M (by subst uy;exact aks _ Lp Lo _ b s i p _ B parts.length d pl e lit.length _ 37 hR.ptr (Hp.owns (Li:=[]) H.hp) hR.buf O) M ?_;clear H;rintro v19 _ L19 a w ⟨aCI,UE,rfl,Fx,rfl⟩ uE H;dsimp only [List.nil_append] at H;obtain ⟨Jb,c19,rfl,-,-⟩:=Fx.shape;refine K2 _ _ ?_;clear K2;refine kP H (SC (Rm M (Rk M (bQ rY aF 0 M M (Rd M (Rk M (Rf rY M ?_)))))));clear H;intro a H;refine bC aF 0 (vs:=[_]) H wn M ?_;clear H;intro w H;refine aG ?_;refine (leave0 H results272 ?_).2;exact H.hp.gL ⟨_,_,_,Lp,UE,by rw [yx,aD h5];rfl,by rw [yx,aD h5];exact ⟨.inr M,by simpa [Lib.byteCells] using Fx,hR.prt⟩⟩
  intro h5
  try have p5:=dF h5
  refine kP H (SR fun _ K3=>Rm M (Rm M (Rk M (bQ rY aF 0 M M (Rd M ?_)))));clear H;intro a H;rw [show ((i:Int)+1)=((i+1:Nat):Int) from rfl] at H;refine gM aeZ (Li:=[]) (L:=iO b s i p (.slice A lit.length c) (.slice B parts.length d) pl e :: Lt) H wn M (aeu _ Lt _ b s i p _ _ pl e (i+1) O (Hp.owns (Li:=[]) H.hp)) M ?_;clear H;rintro v34 _ L34 a w ⟨rfl,rfl,rfl⟩ Fe H;dsimp only [List.nil_append] at H;refine kH H (aj K3 M (Cd M ?_ ?_)) <;> clear H K3
  · intro h27 a H
    try have p27:=dT h27
    have hd1:=aes h27;refine bO (fun _ K4=>?_);refine dI hmx [[],[],[1],[1,2],[1,2,3],[],[5],[5,6],[5,6,7],ra 5 4,ra 1 9,ra 0 11] [11] V [_,_,_,_,.string s,_,_,_,vi i,_,.int .u8 (gX s (i+1))] H (ay (Z0 M (Rm M)) (Z0 M (Rm M)) (Z1 1 36 M (Rk M)) (Z1 2 37 M (Rf yS M)) (ay (Z1 3 38 M (Ro iP 0 M)) (Z0 M (Rm M)) (Z1 5 40 M (Rk M)) (Z1 6 41 M (Rf rY M)) (ay (Z1 7 42 M (Ro aF 0 M)) (Z1 8 43 M (Rd M)) ?_ (bT M) dB))) ?_
    · refine eT 4 39 9 44 M M fun _ a w G1 hG HT H fin=>?_;refine qM (i+1) iY H wn M M M hd1.1 M ?_;exact Qr
    clear H;intro a w G oD H hv;have H:=H.aN (hv 0 35 M M) M;have H:=H.aN (hv 10 45 M M) M;clear hv;refine gM afa (Li:=[]) (L:=iO b s i p (.slice A lit.length c) (.slice B parts.length d) pl e :: Lt) H wn M (by subst uy;exact aiG _ Lp Lo _ b s i p _ _ pl e lit parts (gX s (i+1)) false hR (Hp.owns (Li:=[]) H.hp) O O hd1.2 O) M ?_;clear H;rintro v46 Uw L46 a w ⟨p46,aA2,q46,UJ,UH,rfl,Hu⟩ NZ H;dsimp only [List.nil_append] at H;obtain ⟨A46,c46,rfl,-,-⟩:=Hu.buf.shape;obtain ⟨B46,d46,rfl,-,-⟩:=Hu.prt.shape;refine aG ⟨M,?_⟩;refine K4 _ _ ?_;clear K4;refine kP H (SC (Rm M (Rk M (bQ rY aF 0 M M (Rd M (Rk M (Rf rY M ?_)))))));clear H;intro a H;refine bC aF 0 (vs:=[_]) H wn M ?_;clear H;intro w H;refine aG ?_;refine (leave0 H results272 ?_).2;exact H.hp.gL ⟨_,_,_,UJ,UH,by rw [yx,av (by simp [h5]),aD h27];rfl,by rw [yx,av (by simp [h5]),aD h27];exact Hu⟩
  intro h27 a H
  try have p27:=dF h27
  refine bO (fun _ K5=>?_)
  by_cases c1:wm (s.extract i s.size) ⟨#[37,100]⟩=true
  · skip;refine dI hmx [[],[0],[0,1],[0,1,2],[],[4],[4,5],[4,5,6],ra 0 8,ra 0 9,ra 0 10,ra 0 11,ra 0 11,(ra 0 11++[12]),(ra 0 11++[12,13]),(ra 0 11++[12,13,14]),(ra 0 11++ra 12 4),ra 0 17,ra 0 18,ra 0 19] [] V [_,_,_,.string s,_,_,_,vi i,.string (s.extract i s.size),.bool (wm (s.extract i s.size) ⟨#[37,100]⟩),.bool (decide (wm (s.extract i s.size) ⟨#[37,100]⟩=true)),_,_,(aK b 0),_,vi i,vi ((i+2:Nat):Int),.bool (yN s (i+2)),_,_] H (ay (Z0 M (Rm M)) (Z1 0 55 M (Rk M)) (Z1 1 56 M (Rf yS M)) (Z1 2 57 M (Ro iP 0 M)) (ay (Z0 M (Rm M)) (Z1 4 59 M (Rk M)) (Z1 5 60 M (Rf rY M)) (Z1 6 61 M (Ro aF 0 M)) (ay ?_ ?_ ?_ (Z1 10 65 M (YM (aI c1) M)) (ay (Z1 10 65 M (YM (aI c1) M)) ?_ (Z2 13 68 10 65 M (YF rY (aI c1) M)) (Z2 14 69 10 65 M (YO aF 0 (aI c1) M)) (ay ?_ ?_ (Z2 10 65 17 72 M (Pt (aI c1) M)) (Z1 18 73 M (Ra M)) dB))))) ?_
    · refine eT 3 58 7 62 M M fun _ a w G1 hG HT H fin=>?_;exact Vv
    · exact acO
    · exact abK
    · refine eT 12 67 10 65 M M fun _ a w G1 hG HT H fin=>?_;refine zm H (wg H M M (aI c1)) M M ?_;exact jG
    · refine eT 15 70 10 65 M M fun _ a w G1 hG HT H fin=>?_;refine OP _ H (wg H M M (aI c1)) M M M O O M ?_;exact jG
    · refine Dj 11 66 16 71 10 65 M M fun _ a w G1 hG HT H fin=>?_;refine gM aeZ (Li:=[]) (L:=iO b s i p (.slice A lit.length c) (.slice B parts.length d) pl e :: Lt) H (wg H M M (aI c1)) M (aeu _ Lt _ b s i p _ _ pl e (i+2) O (Hp.owns (Li:=[]) H.hp)) M ?_;clear H;rintro v72 G72 L72 a w ⟨rfl,rfl,rfl⟩ asV H;dsimp only [List.nil_append] at H;exact fin H asV (rfl)
    clear H;intro a w G Xz H hv;have H:=H.aN (hv 19 54 M M) M;clear hv;refine aG ⟨M,?_⟩;refine K5 _ _ ?_;clear K5;refine jw H M ?_ ?_
    · intro iF
      try have p54:=dT iF
      have hd2:=aes iF;refine bO (fun _ K6=>?_);refine dI hmx [[],[],[1],[1,2],[1,2,3],[],[5],[5,6],[5,6,7],ra 5 4,ra 1 9,ra 0 11] [11] V [_,_,_,_,.string s,_,_,_,vi i,_,.int .u8 (gX s (i+2))] H (ay (Z0 M (Rm M)) (Z0 M (Rm M)) (Z1 1 75 M (Rk M)) (Z1 2 76 M (Rf yS M)) (ay (Z1 3 77 M (Ro iP 0 M)) (Z0 M (Rm M)) (Z1 5 79 M (Rk M)) (Z1 6 80 M (Rf rY M)) (ay (Z1 7 81 M (Ro aF 0 M)) (Z1 8 82 M (Rd M)) ?_ (bT M) dB))) ?_
      · refine eT 4 78 9 83 M M fun _ a w G1 hG HT H fin=>?_;refine qM (i+2) iY H wn M M M hd2.1 M ?_;exact Qr
      clear H;intro a w G tC H hv;have H:=H.aN (hv 0 74 M M) M;have H:=H.aN (hv 10 84 M M) M;clear hv;refine gM afa (Li:=[]) (L:=iO b s i p (.slice A lit.length c) (.slice B parts.length d) pl e :: Lt) H wn M (by subst uy;exact aiG _ Lp Lo _ b s i p _ _ pl e lit parts (gX s (i+2)) true hR (Hp.owns (Li:=[]) H.hp) O O hd2.2 O) M ?_;clear H;rintro v85 G85 L85 a w ⟨p46,aA2,q46,UJ,UH,rfl,Hu⟩ aCi H;dsimp only [List.nil_append] at H;obtain ⟨A46,c46,rfl,-,-⟩:=Hu.buf.shape;obtain ⟨B46,d46,rfl,-,-⟩:=Hu.prt.shape;refine aG ⟨M,?_⟩;refine K6 _ _ ?_;clear K6;refine kP H (SC (Rm M (Rk M (bQ rY aF 0 M M (Rd M (Rk M (Rf rY M ?_)))))));clear H;intro a H;refine bC aF 0 (vs:=[_]) H wn M ?_;clear H;intro w H;refine aG ?_;refine (leave0 H results272 ?_).2
      have KM:¬ wm (s.extract i s.size) ⟨#[37,37]⟩=true:=by simp [h5]
      have KL:¬ yN s (i+1)=true:=by simp [h27]
      exact U5
    intro iF
    try have p54:=dF iF
    refine kP H (SC (Rm M (Rk M (Rf DC M ?_))));clear H;intro a H;refine bC jo 0 (vs:=[_]) H wn M ?_;clear H;intro w H;refine aG ?_;refine (leave0 H results272 ?_).2
    have KM:¬ wm (s.extract i s.size) ⟨#[37,37]⟩=true:=by simp [h5]
    have KL:¬ yN s (i+1)=true:=by simp [h27]
    exact U5
  skip;refine dI hmx [[],[0],[0,1],[0,1,2],[],[4],[4,5],[4,5,6],ra 0 8,ra 0 9,ra 0 10,ra 0 11,ra 0 11,(ra 0 11++[12]),(ra 0 11++[12,13]),(ra 0 11++[12,13,14]),(ra 0 11++ra 12 4),ra 0 17,ra 0 18,ra 0 19] [] V [_,_,_,.string s,_,_,_,vi i,.string (s.extract i s.size),.bool (wm (s.extract i s.size) ⟨#[37,100]⟩),.bool (decide (wm (s.extract i s.size) ⟨#[37,100]⟩=true)),undef,undef,undef,undef,undef,undef,undef,_,_] H (ay (Z0 M (Rm M)) (Z1 0 55 M (Rk M)) (Z1 1 56 M (Rf yS M)) (Z1 2 57 M (Ro iP 0 M)) (ay (Z0 M (Rm M)) (Z1 4 59 M (Rk M)) (Z1 5 60 M (Rf rY M)) (Z1 6 61 M (Ro aF 0 M)) (ay ?_ ?_ ?_ (aZ 10 (aY c1) M M) (ay (aZ 10 (aY c1) M M) (aZ 10 (aY c1) M M) (aZ 10 (aY c1) M M) (aZ 10 (aY c1) M M) (ay (aZ 10 (aY c1) M M) (aZ 10 (aY c1) M M) (Z2 10 65 17 72 M (Pf (aY c1) M)) (Z1 18 73 M (Ra M)) dB))))) ?_
  · refine eT 3 58 7 62 M M fun _ a w G1 hG HT H fin=>?_;exact Vv
  · exact acO
  · exact abK
  clear H;intro a w G Xz H hv;have H:=H.aN (hv 19 54 M M) M;clear hv;refine aG ⟨M,?_⟩;refine K5 _ _ ?_;clear K5;refine sQ H M M ?_;refine kP H (SC (Rm M (Rk M (Rf DC M ?_))));clear H;intro a H;refine bC jo 0 (vs:=[_]) H wn M ?_;clear H;intro w H;refine aG ?_;refine (leave0 H results272 ?_).2
  have KM:¬ wm (s.extract i s.size) ⟨#[37,37]⟩=true:=by simp [h5]
  have KL:¬ yN s (i+1)=true:=by simp [h27]
  exact U5
theorem aqg:aS 272:=aT func272 M
def Qf (s:ByteArray) (i:Nat):UInt8:=if h:i < s.size then s[i] else 0
theorem alq (s:ByteArray) (i:Nat):gX s i=((Qf s i).toNat:Int):=by
 unfold gX Qf;split <;> rfl
def qy (s:ByteArray) (x:wE):wE:=if gX s x.i=37 then yx s x else ⟨x.i+1,x.lit++[Qf s x.i],x.parts,x.pl,x.e⟩
def Em (s:ByteArray):Nat->wE->wE
 | 0,x=>x
 | f+1,x=>if x.i < s.size∧x.e=0 then Em s f (qy s x) else x
def mS (s:ByteArray) (x:wE):Nat:=if x.e=0 then s.size - x.i else 0
theorem azD {s:ByteArray} {f:Nat} {x:wE} (h:¬ (x.i < s.size∧x.e=0)):Em s f x=x:=by
 cases f with
 | zero=>rfl
 | succ f=>rw [Em,av h]
theorem ash (lit:List UInt8) (parts:List jV):(yT lit parts).length<=parts.length+1:=by unfold yT;split <;> simp
theorem VF {p:Prop} (h:p:=by
 refine ⟨?_,?_,?_,?_,?_,?_⟩ <;> simp only [mS,iW,lW,List.length_nil] at*<;> simp only [h.2,if_true] at*<;> omega):p:=h
theorem ajN (s:ByteArray) (x:wE) (h:x.i < s.size∧x.e=0) (h1:x.lit.length<=x.i) (h2:x.parts.length<=2*x.i) (h3:x.pl<=x.i) :
  (qy s x).i<=x.i+3∧(qy s x).lit.length<=(qy s x).i∧(qy s x).parts.length<=2*(qy s x).i∧(qy s x).pl<=(qy s x).i∧mS s (qy s x) < mS s x∧mS s x<=s.size:=by
 have hf:=ash x.lit x.parts;have hm:mS s x=s.size - x.i:=aD h.2
 unfold qy yx
 split
 ·split
  ·exact VF
  split
  ·exact VF
  split
  ·exact VF
  refine ⟨?_,?_,?_,?_,?_,?_⟩ <;> simp only [mS,iW,lW,List.length_nil] at*<;> simp only [h.2,if_true] at*<;> (try omega) <;> (simp;omega)
 refine ⟨?_,?_,?_,?_,?_,?_⟩ <;> simp only [mS,iW,lW,List.length_nil] at*<;> simp only [h.2,if_true] at*<;> omega
def CX:wE:=⟨0,[],[],0,0⟩
def mD (s:ByteArray):wE:=Em s s.size CX
def LU (x:wE):Int:=if x.e=0∧9 < (x.pl:Int) then 9 else x.e
theorem Qh {p:Prop} (h:p:=by
 first
  | exact H.hp.gL ⟨_,_,_,_,_,by rw [LU,aD ⟨by assumption,by assumption⟩],Hw⟩
  | exact H.hp.gL ⟨_,_,_,_,_,by rw [LU,av (by first|exact fun h=>p58 h.1|exact fun h=>p64 h.2)],Hw⟩):p:=h
theorem acK {p:Prop} (h:p:=by
 intro h64 a H
 try have p64:=dT h64
 refine kP H (SC (Rm M (Rk M (Rf DC M ?_))));clear H;intro a H;refine bC jo 0 (vs:=[_]) H wn M ?_;clear H;intro w H;refine aG ?_;refine (leave0 H results266 ?_).2
 exact Qh):p:=h
theorem abN {p:Prop} (h:p:=by
 intro h64 a H
 try have p64:=dF h64
 refine iE ?_;refine (leave0 H results266 ?_).2
 exact Qh):p:=h
theorem abQ {p:Prop} (h:p:=by
 rw [azD (by first|exact fun h=>c0 O|exact fun h=>c1 h.2)] at hsc;exact hsc):p:=h
theorem Qm {p:Prop} (h:p:=by
 refine zm H (wg H M M (aI c0)) M M ?_;exact jG):p:=h
set_option maxHeartbeats 1000000 in
theorem azC (G:GH) (P5 PZ:OL) (w0:World) (b:Nat) (s:ByteArray) (p0 v0 q0:ah) (hR:BP b [] [] p0 v0 q0 P5 PZ) (hO:gJ G (yC b s CX p0 v0 q0 :: (P5++PZ)) w0) (hs:s.size<=1073741824) :
  Calls prog 266 #[(aK b 0)] w0 (fV w0 G (yC b s CX p0 v0 q0 :: (P5++PZ)) fun u G' L'=>∃ p' v' q' sN kF,L'=iO b s (mD s).i p' v' q' (mD s).pl (LU (mD s)) :: (sN++kF)∧BP b [] (yT (mD s).lit (mD s).parts) p' v' q' sN kF):=by
 obtain ⟨A0,c0,rfl,-,-⟩:=hR.buf.shape;obtain ⟨B0,d0,rfl,-,-⟩:=hR.prt.shape;refine jA (N:=68) (T:=[(0,_)]) func266 M ntmps266 M M hO ?_;intro a H;refine bO (fun _ K1=>?_);refine EL ?_;skip;refine eX (ι:=Nat × wE × ah × Option Addr × Nat × Option Addr × Nat × OL × OL × GH) (Tc:=[(0,_)]) (Lc:=[]) (fun gh=>[]) (fun gh=>[yC b s gh.2.1 gh.2.2.1 (.slice gh.2.2.2.1 gh.2.1.lit.length gh.2.2.2.2.1) (.slice gh.2.2.2.2.2.1 gh.2.1.parts.length gh.2.2.2.2.2.2.1)]++(gh.2.2.2.2.2.2.2.1++gh.2.2.2.2.2.2.2.2.1)) (fun gh=>gh.2.2.2.2.2.2.2.2.2) (fun gh=>BP b gh.2.1.lit gh.2.1.parts gh.2.2.1 (.slice gh.2.2.2.1 gh.2.1.lit.length gh.2.2.2.2.1) (.slice gh.2.2.2.2.2.1 gh.2.1.parts.length gh.2.2.2.2.2.2.1) gh.2.2.2.2.2.2.2.1 gh.2.2.2.2.2.2.2.2.1∧Em s gh.1 gh.2.1=mD s∧mS s gh.2.1<=gh.1∧gh.1<=s.size∧gh.2.1.i<=s.size+3∧gh.2.1.lit.length<=gh.2.1.i∧gh.2.1.parts.length<=2*gh.2.1.i∧gh.2.1.pl<=gh.2.1.i) (fun gh=>gh.1) ((s.size,CX,p0,A0,c0,B0,d0,P5,PZ,G)) (by exact H.sub ⟨M,aB⟩) ?_ ?_
 ·exact ⟨hR,M,by simp [mS,CX],eG _,by simp [CX],by simp [CX],by simp [CX],by simp [CX]⟩
 clear H;rintro ⟨k,x,p,vA,vc,qA,qc,Lp,Lo,g⟩ a w hI H;dsimp only at hI H;obtain ⟨hR,hsc,hmk,hks,hxi,hx1,hx2,hx3⟩:=hI;dsimp only [lca,bM] at H;refine bO (fun _ K2=>?_);refine bO (fun _ K3=>?_)
 by_cases c0:(x.i:Int) < (s.size:Int)
 ·skip
  by_cases c1:x.e=0
  ·skip;refine dI hmx [[],[0],[0,1],[0,1,2],[],[4],[4,5],[4,5,6],ra 4 4,ra 0 9,ra 0 10,ra 0 11,ra 0 12,ra 0 13,ra 0 14,ra 0 15,ra 0 16] [] V [_,_,_,vi x.i,_,_,_,.string s,_,_,_,_,(aK b 0),_,vi x.e,_,_] H (ay (Z0 M (Rm M)) (Z1 0 2 M (Rk M)) (Z1 1 3 M (Rf rY M)) (Z1 2 4 M (Ro aF 0 M)) (ay (Z0 M (Rm M)) (Z1 4 6 M (Rk M)) (Z1 5 7 M (Rf yS M)) (Z1 6 8 M (Ro iP 0 M)) (ay (Z1 7 9 M (Rv iY M)) (Z2 3 5 8 10 M (Rc M)) (Z1 9 11 M (Rm M)) (Z1 10 12 M (YM (aI c0) M)) (ay ?_ (Z2 12 14 10 12 M (YF DC (aI c0) M)) (Z2 13 15 10 12 M (YO jo 0 (aI c0) M)) (Z2 14 16 10 12 M (YC (aI c0) M)) (bN (Z2 10 12 15 17 M (Pt (aI c0) M)) dB))))) ?_
   ·refine eT 11 13 10 12 M M fun _ a w G1 hG HT H fin=>?_;exact Qm
   clear H;intro a w G afU H hv;have H:=H.aN (hv 16 18 M M) M;clear hv;refine aG ⟨M,?_⟩;refine K3 _ _ ?_;clear K3;refine Cc H M (aI c1) ?_;refine kP H (Kc K2 (SB (SQ fun _ K4=>SQ fun _ K5=>?_)));clear H K2;intro a H;refine dI hmx [[],[0],[0,1],[0,1,2],[],[4],[4,5],[4,5,6],ra 0 8,ra 0 9] [] V [_,_,_,.string s,_,_,_,vi x.i,.int .u8 (gX s x.i),_] H (ay (Z0 M (Rm M)) (Z1 0 19 M (Rk M)) (Z1 1 20 M (Rf yS M)) (Z1 2 21 M (Ro iP 0 M)) (ay (Z0 M (Rm M)) (Z1 4 23 M (Rk M)) (Z1 5 24 M (Rf rY M)) (Z1 6 25 M (Ro aF 0 M)) (bN ?_ (bN (Z1 8 27 M (Rc M)) dB)))) ?_
   ·refine eT 3 22 7 26 M M fun _ a w G1 hG HT H fin=>?_;refine qM x.i iY H wn M M M O M ?_;exact Qr
   clear H;intro a w G jC H hv;have H:=H.aN (hv 9 28 M M) M;clear hv;refine aG ⟨M,?_⟩;refine K5 _ _ ?_;clear K5;refine jw H M ?_ ?_
   ·intro fZ
    try have p28:=dT fZ
    refine kP H (SR fun _ K6=>Rm M ?_);clear H;intro a H;refine gM aqg (Li:=[]) (L:=yC b s x p (.slice vA x.lit.length vc) (.slice qA x.parts.length qc) :: (Lp++Lo)) H wn M (axD _ Lp Lo _ b s x p _ _ hR (Hp.owns (Li:=[]) H.hp) O O O O O) M ?_;clear H;rintro v30 F4 L30 a w ⟨p',v',q',sN,kF,rfl,Rp⟩ H8 H;dsimp only [List.nil_append] at H;have hst:qy s x=yx s x:=aD p28;have hok:=ajN s x ⟨O,c1⟩ hx1 hx2 hx3
    have hkk:k=(k - 1)+1:=by omega
    have Yl:Em s (k - 1) (qy s x)=mD s:=by rw [hkk,Em,aD ⟨O,c1⟩] at hsc;exact hsc
    rw [<- hst] at H Rp;obtain ⟨A30,c30,rfl,-,-⟩:=Rp.buf.shape;obtain ⟨B30,d30,rfl,-,-⟩:=Rp.prt.shape;refine K6 _ _ ?_;clear K6;refine dQ ?_;refine dY ((k - 1,qy s x,p',A30,c30,B30,d30,sN,kF,F4)) (by exact H.sub ⟨M,aB⟩) ?_
    (try dsimp only);exact ⟨Rp,Yl,O,O,O,O,O,O⟩
   intro fZ
   try have p28:=dF fZ
   refine iE ?_;refine K4 _ _ ?_;clear K4;refine bO (fun _ K7=>?_);refine dI hmx [[],[0],[0,1],[],[3],[3,4],[3,4,5],[],[7],[7,8],[7,8,9],ra 3 8,ra 0 12] [12] V [_,_,_,_,_,_,.string s,_,_,_,vi x.i,.int .u8 (gX s x.i)] H (ay (Z0 M (Rm M)) (Z1 0 31 M (Rk M)) (Z1 1 32 M (Rf Nv M)) (Z0 M (Rm M)) (ay (Z1 3 34 M (Rk M)) (Z1 4 35 M (Rf yS M)) (Z1 5 36 M (Ro iP 0 M)) (Z0 M (Rm M)) (ay (Z1 7 38 M (Rk M)) (Z1 8 39 M (Rf rY M)) (Z1 9 40 M (Ro aF 0 M)) ?_ (bN (bT M) dB)))) ?_
   ·refine eT 6 37 10 41 M M fun _ a w G1 hG HT H fin=>?_;refine qM x.i iY H wn M M M O M ?_;exact Qr
   clear H;intro a w G rZ H hv;have H:=H.aN (hv 2 33 M M) M;have H:=H.aN (hv 11 42 M M) M;clear hv;refine gM aeX (Li:=[]) (L:=yC b s x p (.slice vA x.lit.length vc) (.slice qA x.parts.length qc) :: (Lp++Lo)) H wn M (aks _ Lp Lo _ b s x.i p _ qA x.parts.length qc x.pl x.e x.lit.length _ (gX s x.i) hR.ptr (Hp.owns (Li:=[]) H.hp) hR.buf O) M ?_;clear H;rintro v43 _ L43 a w ⟨aCJ,UG,rfl,ahm,rfl⟩ D7 H;dsimp only [List.nil_append] at H;obtain ⟨Uo,VR,rfl,-,-⟩:=ahm.shape;have hst:qy s x=⟨x.i+1,x.lit++[Qf s x.i],x.parts,x.pl,x.e⟩:=av p28;have hok:=ajN s x ⟨O,c1⟩ hx1 hx2 hx3
   have hkk:k=(k - 1)+1:=by omega
   have Yl:Em s (k - 1) (qy s x)=mD s:=by rw [hkk,Em,aD ⟨O,c1⟩] at hsc;exact hsc
   have atg:BP b (qy s x).lit (qy s x).parts (aK b 2) (.slice Uo (qy s x).lit.length VR) (.slice qA (qy s x).parts.length qc) Lp UG:=by
    rw [hst];exact ⟨.inr M,by simpa [Lib.byteCells,alq] using ahm,hR.prt⟩
   refine aG ⟨M,?_⟩;refine K7 _ _ ?_;clear K7;refine kP H (SC (Rm M (Rk M (bQ rY aF 0 M M (Rd M (Rk M (Rf rY M ?_)))))));clear H;intro a H;refine bC aF 0 (vs:=[_]) H wn M ?_;clear H;intro w H;replace H:St _ _ _ _ _ _ (yC b s (qy s x) (aK b 2) (.slice Uo (qy s x).lit.length VR) (.slice qA (qy s x).parts.length qc) :: (Lp++UG)) _ _ _:=H.cast (by rw [hst];simp [yC,iO]);refine aG ?_;refine dY ((k - 1,qy s x,(aK b 2),Uo,VR,qA,qc,Lp,UG,_)) (by exact H.sub ⟨M,aB⟩) ?_
   (try dsimp only);exact ⟨atg,Yl,O,O,O,O,O,O⟩
  skip;refine dI hmx [[],[0],[0,1],[0,1,2],[],[4],[4,5],[4,5,6],ra 4 4,ra 0 9,ra 0 10,ra 0 11,ra 0 12,ra 0 13,ra 0 14,ra 0 15,ra 0 16] [] V [_,_,_,vi x.i,_,_,_,.string s,_,_,_,_,(aK b 0),_,vi x.e,_,_] H (ay (Z0 M (Rm M)) (Z1 0 2 M (Rk M)) (Z1 1 3 M (Rf rY M)) (Z1 2 4 M (Ro aF 0 M)) (ay (Z0 M (Rm M)) (Z1 4 6 M (Rk M)) (Z1 5 7 M (Rf yS M)) (Z1 6 8 M (Ro iP 0 M)) (ay (Z1 7 9 M (Rv iY M)) (Z2 3 5 8 10 M (Rc M)) (Z1 9 11 M (Rm M)) (Z1 10 12 M (YM (aI c0) M)) (ay ?_ (Z2 12 14 10 12 M (YF DC (aI c0) M)) (Z2 13 15 10 12 M (YO jo 0 (aI c0) M)) (Z2 14 16 10 12 M (YC (aI c0) M)) (bN (Z2 10 12 15 17 M (Pt (aI c0) M)) dB))))) ?_
  ·refine eT 11 13 10 12 M M fun _ a w G1 hG HT H fin=>?_;exact Qm
  clear H;intro a w G afU H hv;have H:=H.aN (hv 16 18 M M) M;clear hv;refine aG ⟨M,?_⟩;refine K3 _ _ ?_;clear K3;refine sQ H M (aY c1) ?_;refine dQ ?_;refine K1 _ _ ?_;clear K1;refine bO (fun _ K8=>?_)
  have Yz:x=mD s:=by
   exact abQ
  subst Yz;refine kP H (SC (Rm M ?_));clear H;intro a H;refine gM WA (Li:=[]) (L:=yC b s (mD s) p (.slice vA (mD s).lit.length vc) (.slice qA (mD s).parts.length qc) :: (Lp++Lo)) H wn M (WX _ Lp Lo _ b s (mD s).i p _ _ (mD s).pl (mD s).e (mD s).lit (mD s).parts hR (Hp.owns (Li:=[]) H.hp) O O) M ?_;clear H;rintro v52 Ux L52 a w ⟨p52,aA3,q52,akX,akT,rfl,Hw⟩ N7 H;dsimp only [List.nil_append] at H;obtain ⟨Jc,JO,rfl,-,-⟩:=Hw.buf.shape;obtain ⟨B52,d52,rfl,-,-⟩:=Hw.prt.shape;refine kH H (Kn K8 (SR fun _ K9=>Rm M (Rk M (bQ DC jo 0 M M (Rc M (Rm M (Sp 58 M ?_ ?_))))))) <;> clear H K8
  ·intro mh a H
   try have p58:=dT mh
   refine kH H (YM mh M ?_);clear H;intro a H;refine zm H (wg H M M mh) M M ?_;clear H;intro a H;refine kH H (YF QY mh M (YO aF 0 mh M (YC mh M (Pt mh M (Kz K9 (Cd M ?_ ?_)))))) <;> clear H K9
   ·exact acK
   exact abN
  intro mh a H
  try have p58:=dF mh
  refine kH H (aP mh M (aL mh M (Pf mh M (Kz K9 (Cf M M ?_)))));clear H K9;intro a H;refine iE ?_;refine (leave0 H results266 ?_).2
  exact Qh
 skip;refine dI hmx [[],[0],[0,1],[0,1,2],[],[4],[4,5],[4,5,6],ra 4 4,ra 0 9,ra 0 10,ra 0 11,ra 0 12,ra 0 13,ra 0 14,ra 0 15,ra 0 16] [] V [_,_,_,vi x.i,_,_,_,.string s,_,_,_,undef,undef,undef,undef,undef,_] H (ay (Z0 M (Rm M)) (Z1 0 2 M (Rk M)) (Z1 1 3 M (Rf rY M)) (Z1 2 4 M (Ro aF 0 M)) (ay (Z0 M (Rm M)) (Z1 4 6 M (Rk M)) (Z1 5 7 M (Rf yS M)) (Z1 6 8 M (Ro iP 0 M)) (ay (Z1 7 9 M (Rv iY M)) (Z2 3 5 8 10 M (Rc M)) (Z1 9 11 M (Rm M)) (aZ 10 (aY c0) M M) (ay (aZ 10 (aY c0) M M) (aZ 10 (aY c0) M M) (aZ 10 (aY c0) M M) (aZ 10 (aY c0) M M) (bN (Z2 10 12 15 17 M (Pf (aY c0) M)) dB))))) ?_
 clear H;intro a w G afU H hv;have H:=H.aN (hv 16 18 M M) M;clear hv;refine aG ⟨M,?_⟩;refine K3 _ _ ?_;clear K3;refine sQ H M M ?_;refine dQ ?_;refine K1 _ _ ?_;clear K1;refine bO (fun _ aR=>?_)
 have Yz:x=mD s:=by
  exact abQ
 subst Yz;refine kP H (SC (Rm M ?_));clear H;intro a H;refine gM WA (Li:=[]) (L:=yC b s (mD s) p (.slice vA (mD s).lit.length vc) (.slice qA (mD s).parts.length qc) :: (Lp++Lo)) H wn M (WX _ Lp Lo _ b s (mD s).i p _ _ (mD s).pl (mD s).e (mD s).lit (mD s).parts hR (Hp.owns (Li:=[]) H.hp) O O) M ?_;clear H;rintro v52 Ux L52 a w ⟨p52,aA3,q52,akX,akT,rfl,Hw⟩ N7 H;dsimp only [List.nil_append] at H;obtain ⟨Jc,JO,rfl,-,-⟩:=Hw.buf.shape;obtain ⟨B52,d52,rfl,-,-⟩:=Hw.prt.shape;refine kH H (Kn aR (SR fun _ bq=>Rm M (Rk M (bQ DC jo 0 M M (Rc M (Rm M (Sp 58 M ?_ ?_))))))) <;> clear H aR
 ·intro mh a H
  try have p58:=dT mh
  refine kH H (YM mh M ?_);clear H;intro a H;refine zm H (wg H M M mh) M M ?_;clear H;intro a H;refine kH H (YF QY mh M (YO aF 0 mh M (YC mh M (Pt mh M (Kz bq (Cd M ?_ ?_)))))) <;> clear H bq
  ·exact acK
  exact abN
 intro mh a H
 try have p58:=dF mh
 refine kH H (aP mh M (aL mh M (Pf mh M (Kz bq (Cf M M ?_)))));clear H bq;intro a H;refine iE ?_;refine (leave0 H results266 ?_).2
 exact Qh
section
def BF (c:Int):List Dat:=[.lf (.int .u8 c)]
theorem ajY {G:GH} {c:Int} {cs:List ah} (h:bB G (BF c) cs):cs=[.int .u8 c]:=by
 simp only [BF,bB,ak] at h
 obtain ⟨_,_,rfl,⟨rfl,_⟩,rfl⟩:=h
 rfl
def JN (s:ByteArray):List Int:=s.data.toList.map fun b=>(b.toNat:Int)
theorem amf (G:GH) (l:List Int):dx G 1 (l.map BF) (l.map fun c=>Value.int .u8 c):=by
 refine ⟨l.map fun c=>[.int .u8 c],by induction l with|nil=>rfl|cons x r ih=>simp [ih],by simp,fun j r cs hr hc=>?_⟩
 rw [tZ] at hr hc
 obtain ⟨x,hx,rfl⟩:=qD.1 hr
 rw [hx] at hc
 cases hc
 exact ⟨by simp only [BF,bB];exact ⟨_,_,M,by simp [ak,Value.oneCell'],M⟩,M⟩
theorem ayj {G:GH} {sz b o n cap:Nat} {cur:Array ah} {e:TypeId} {fz:Nat × Nat} {rows:List (List Dat)} (hb:G b=some (.cells cur e fz)) (h:ak (fun k=>if k=b then some (.cells cur e (0,0)) else G k) (.sl sz rows) (.slice (some ⟨b,o,none⟩) n cap)) (hr:∀ r∈rows,∃ c,r=BF c):ak G (.sl sz rows) (.slice (some ⟨b,o,none⟩) n cap):=by
 simp only [ak] at h |-
 obtain ⟨A,c,h1,h2,h3,h4⟩:=h
 refine ⟨A,c,h1,h2,h3,fun hn=>?_⟩
 obtain ⟨b',o',e',hrr⟩:=h4 hn
 injection h1 with e1
 subst e1
 injection e' with e2
 injection e2 with e3 e4
 subst e3;subst e4
 refine ⟨_,_,M,oz.mk fun k r hk=>?_⟩
 obtain ⟨cs,g1,g2,g3⟩:=hrr.get hk
 refine ⟨cs,g1,fun j u hj=>?_,?_⟩
 ·have:=g2 j u hj
  unfold aH at this |-
  simp only [if_true] at this
  rw [hb];exact this
 ·obtain ⟨c,rfl⟩:=hr r (lV hk)
  have:=ajY g3
  subst this
  simp only [BF,bB];exact ⟨_,_,M,by simp [ak,Value.oneCell'],M⟩
section
variable {N:Nat} {D:List Deferred} {w0:World} {F:Nat->Prop} {G0 G:GH} {L:OL} {T:List (Nat × ah)}
variable {r:Option Nat} {P:Program} {ops:Array Oper} {Q:Exit->Act->World->Prop} {rest:List Oper} {a:Act} {w:World}
variable {d:Nat} {ty:TypeId} {pos:String} {aQ:Array Edge} {g:Option (Nat × Bool)}
theorem aAV {w:World} {b o n:Nat} {c:Array ah} {e:TypeId} {fz:Nat × Nat} (h:w.heap[b]?=some (.cells c e fz)) (hn:n≠0):∃ Hf,wG b (.cells c e Hf) w (w.freeze ⟨b,o,none⟩ n):=by
 unfold World.freeze
 rw [av hn]
 refine ⟨if fz.1 == fz.2 then (o,o+n) else (min fz.1 o,max fz.2 (o+n)),M,M,M,by simp,?_,fun k hk=>?_⟩
 ·simp [Array.getElem?_modify,h]
 ·simp [Array.getElem?_modify,Ne.symm hk]
theorem azc {t u e:TypeId} {x:Operand} {s:ByteArray} (ht:P.underlying t=some .string) (hu:P.underlying u=some (.slice e)) (he:P.underlying e=some (.int .u8)) (H:St N D w0 F G0 G L T a w) (hw:Region.wanted ⟨some d,.convert t u x,ty,pos,aQ,g⟩ (yielded ops a.tmps)=true) (hx:ev T x=some (.string s)) (hz:s.size<=4294967296) (hd:Nat.blt d N=true)
  (k:∀ v G' a' w',(∀ k o,G k=some o->G' k=some o)->ak G' (.sl 1 ((JN s).map BF)) v->St N D w0 F G0 G' L ((d,v) :: T) a' w'->WL r P ops Q rest a' w'):WL r P ops Q (⟨some d,.convert t u x,ty,pos,aQ,g⟩ :: rest) a w:=by
 have hc:=Lib.run_convert_string_bytes (P:=P) w t u e s ht hu he
 have hge:=grownCap_ge w s.size 0 e
 have hml:s.size<=maxLen:=by
  have:maxLen=9223372036854775807:=rfl
  omega
 have hgm:=grownCap_le_maxLen w s.size 0 e hml
 have H1:=H.hp.drew.alloc (.cells (Lib.bytesCells w e s) e)
 have hw1:(w.drew.alloc (.cells (Lib.bytesCells w e s) e)).heap[w.drew.heap.size]?=some (.cells (Lib.bytesCells w e s) e (0,0)):=H1.own _ dX
 obtain ⟨fz,hu2⟩:=aAV (o:=(Lib.bytesCells w e s).size) (n:=1) hw1 Z
 have H2:=H1.upd (i:=0) M hu2
 have H3:St N D w0 F G0 G ((w.heap.size,.cells (Lib.bytesCells w e s) e fz) :: L) ((d,.slice (some ⟨w.heap.size,0,none⟩) s.size (grownCap w s.size 0 e)) :: T) (a.put (some d) (.slice (some ⟨w.heap.size,0,none⟩) s.size (grownCap w s.size 0 e))) (Lib.bytesWorld w e s):=H.put hd _ H2
 obtain ⟨G',hm,hb,H4⟩:=H3.fF
 have hlen:(JN s).length=s.size:=by rw [JN,bS,vM];rfl
 have hrep:ak G' (.sl 1 ((JN s).map BF)) (.slice (some ⟨w.heap.size,0,none⟩) s.size (grownCap w s.size 0 e)):=by
  refine ayj hb ?_ (fun r hr=>by obtain ⟨c,-,rfl⟩:=List.mem_map.1 hr;exact ⟨c,M⟩)
  refine ak.wz (cur:=Lib.bytesCells w e s) (e:=e) (n:=s.size) (cap:=grownCap w s.size 0 e) (by simp) (by rw [bS,hlen]) hge hgm ?_ (amf _ _)
  rw [Lib.bytesCells,Array.toList_append,Nat.mul_one,List.take_left' (by rw [Array.toList_map,bS,vM];rfl)]
  simp [JN]
 have k2:=k _ _ _ _ hm hrep H4
 refine fQ (v:=.slice (some ⟨w.heap.size,0,none⟩) s.size (grownCap w s.size 0 e)) (w':=Lib.bytesWorld w e s) hw M ?_ k2
 simp only [execOp,H.ev hx,dU,hc,nS,uf]
theorem azi {t yt:TypeId} {x y:Operand} {p q:ByteArray} (H:St N D w0 F G0 G L T a w) (hw:Region.wanted ⟨some d,.binOp .lss t x y yt,ty,pos,aQ,g⟩ (yielded ops a.tmps)=true) (hx:ev T x=some (.string p)) (hy:ev T y=some (.string q)) (hd:Nat.blt d N=true)
  (k:∀ a',St N D w0 F G0 G L ((d,.bool (Op.bytesLess p.toList q.toList)) :: T) a' w->WL r P ops Q rest a' w):WL r P ops Q (⟨some d,.binOp .lss t x y yt,ty,pos,aQ,g⟩ :: rest) a w:=by
 refine fQ (v:=.bool (Op.bytesLess p.toList q.toList)) (w':=w) hw M ?_ (k _ (H.put hd _ H.hp))
 simp [execOp,H.ev hx,H.ev hy,dU,eqGuard,binOp,Op.stringOp]
end
end
theorem aqf:aS 271:=aT func271 M
theorem aqc:aS 266:=aT func266 M
theorem aqa:aS 264:=aT func264 M
theorem aAv:qQ prog 340 [(0,1),(1,1),(2,2),(4,1),(5,1),(6,1)] [.string ⟨#[]⟩,.int .i64 0,.pointer none,.slice none 0 0,.slice none 0 0,.int .i64 0,.int .i64 0]:=⟨V,V⟩
theorem aqd:aS 267:=aT func267 M
theorem arP:dP prog 318 1 1:=⟨V⟩
theorem apQ:aS 246:=aT func246 M
theorem apR:aS 247:=aT func247 M
theorem aqb:aS 265:=aT func265 M
theorem apS:aS 248:=aT func248 M
def UU (fv:ah) (G:GH) (c:Int) (b:Bool):Prop:=∀ (G1:GH) (w1:World),(∀ b o,G b=some o->G1 b=some o)->Hold G1 w1->sJ prog fv [.int .u8 c] w1 (bG w1 G1 fun u G'=>u=.bool b)
theorem avF (G:GH) (w0:World) (hG:Hold G w0) (l:List Int) (p:Int->Bool) (v fv:ah) (hv:ak G (.sl 1 (l.map BF)) v) (hf:∀ c∈l,UU fv G c (p c)) :
  Calls prog 271 #[v,fv] w0 (bG w0 G fun u G'=>u=vi (oG (l.findIdx? p))):=by
 obtain ⟨A,c,rfl,hc1,hc2,hg⟩:=hv.slice;have hml:maxLen=9223372036854775807:=rfl;rw [bS] at *;refine eN [(0,_),(1,_)] func271 M ntmps271 M M hG ?_;intro a H;refine kP H (SR fun _ K1=>aj K1 M (SQ fun _ K2=>SR fun _ K3=>Rm M (Rl I8 M (Rm M (Kz K3 (SB ?_))))));clear H K1 K3;intro a H;skip;refine eX (ι:=Nat × GH) (Tc:=[(0,_),(1,_),(7,_)]) (Lc:=[]) (fun gh=>[(8,vi gh.1)]) (fun gh=>[]) (fun gh=>gh.2) (fun gh=>gh.1<=l.length∧(l.take gh.1).findIdx? p=none∧(∀ b o,G b=some o->gh.2 b=some o)) (fun gh=>l.length - gh.1) ((0,G)) (by exact H.sub ⟨M,M,M,M,aB⟩) ?_ ?_
 ·exact rU
 clear H;rintro ⟨k,g⟩ a w hI H;dsimp only at hI H;obtain ⟨hk,hno,hgm⟩:=hI;dsimp only [lca,bM] at H;refine kP H (SR fun _ K4=>Rc M (Kz K4 (SQ fun _ K5=>Cd M ?_ ?_))) <;> clear H K4
 ·intro h9 a H
  try have p9:=dT h9
  have hk2:k < l.length:=by omega
  obtain ⟨b,o,cs,rfl,hcl,hrow,hr⟩:=hg k (BF l[k]) (by simp [hk2]);obtain rfl:=ajY hr
  have hcell:aH G b (o+k*1)=some (.int .u8 l[k]):=by simpa using hrow 0 _ M
  refine kP H (Kc K5 (SQ fun _ K6=>SB (SR fun _ K7=>Rm M (aj K7 M (SR fun _ K8=>Rm M (Rm M (Rm M (Ri I8 TV M M (Rg TV M (aC hgm hcell) ?_)))))))));clear H K5 K7;intro a H;refine jO H wn M M (hf _ (lq hk2) _ _ hgm H.ro) M ?_;clear H;rintro v16 tX a w rfl nL H;refine K8 _ _ ?_;clear K8;refine jw H M ?_ ?_
  ·intro h16
   try have p16:=dT h16
   refine kP H (SR fun _ K9=>Rm M (aj K9 M ?_));clear H K9;intro a H;refine lr H results271 M ?_
   exact xJ
  exact JM
 intro h9 a H
 try have p9:=dF h9
 refine dQ ?_;refine K2 _ _ ?_;clear K2;refine kP H (SR fun _ aR=>aj aR M ?_);clear H aR;intro a H;refine lr H results271 M ?_
 exact xJ
theorem YK (o:Option Nat):decide (0<=oG o)=o.isSome:=by cases o <;> simp [oG]
theorem anJ (G:GH) (w0:World) (hG:Hold G w0) (l:List Int) (p:Int->Bool) (v fv:ah) (hv:ak G (.sl 1 (l.map BF)) v) (hf:∀ c∈l,UU fv G c (p c)) :
  Calls prog 264 #[v,fv] w0 (bG w0 G fun u G'=>u=.bool (l.findIdx? p).isSome):=by
 obtain ⟨A,c,rfl,hc1,hc2,-⟩:=hv.slice;rw [bS] at *;refine eN [(0,_),(1,_)] func264 M ntmps264 M M hG ?_;intro a H;refine kP H (SR fun _ K1=>aj K1 M (SR fun _ K2=>Rm M (Rm M ?_)));clear H K1;intro a H;refine s_call aqf H wn M (avF _ _ H.ro l p _ _ hv hf) M ?_;clear H;rintro v7 G7 a w rfl uG H;exact kH H (Rc M (aj K2 M (LR results264 M fun H=>H.rt (gH (YK _)))))
def M8 (c:Int):Bool:=decide (c < 32) || decide (c=127)
theorem anL (G:GH) (c:Int):UU (.func (.func 265) #[] #[]) G c (M8 c):=by
 intro G1 w0 hm hG;refine jy (caps:=[]) aqb ?_;refine eN [(0,_)] func265 M ntmps265 M M hG ?_;intro a H;refine kP H (SR fun _ K1=>aj K1 M (SR fun _ K2=>Rm M (Rc M (Rm M (Sp 5 M ?_ ?_))))) <;> clear H K1
 ·intro h5 a H
  try have p5:=dT h5
  exact kH H (aL h5 M (Pt h5 M (aj K2 M (LR results265 M fun H=>H.rt (gH (by unfold M8;first|(simp_all;done)|(simp_all;omega)))))))
 intro h5 a H
 try have p5:=dF h5
 exact kH H (YM h5 M (YC h5 M (Pf h5 M (aj K2 M (LR results265 M fun H=>H.rt (gH (by unfold M8;first|(simp_all;done)|(simp_all;omega))))))))
def zk (t:ByteArray):Int:=if 64 < t.size then 10 else if sI t=false then 12 else if ((JN t).findIdx? M8).isSome=true then 5 else LU (mD t)
def SY (t:ByteArray):List jV:=if zk t=0 then yT (mD t).lit (mD t).parts else []
theorem awi (G:GH) (l:List jV):dx G 3 (l.map jV.dat) (IB l):=by
 refine ⟨l.map jV.cells,M,by simp,fun j r cs hr hc=>?_⟩;rw [tZ] at hr hc;obtain ⟨x,hx,rfl⟩:=qD.1 hr;rw [hx] at hc
 cases hc
 exact ⟨ahS G x,M⟩
theorem abf {p:Prop} (h:p:=by
 first
  | exact H.rt ⟨_,by rw [he0],by rw [SY,aD he0];exact hrep⟩
  | exact H.rt ⟨_,by rw [he],by rw [SY,av (by rw [he];first|decide|assumption)];exact ak.qK M Z⟩):p:=h
theorem Qp {p:Prop} (h:p:=by
 refine fE ?_;refine (kJ H results246 (.cons (fM H M) (.cons (fM H M) .nil)) ?_).1
 exact abf):p:=h
theorem axB (G:GH) (w0:World) (hG:Hold G w0) (t:ByteArray) (ht:t.size < 4611686018427387904) :
  Calls prog 246 #[.string t] w0 (bG w0 G fun u G'=>∃ x,u=.tuple #[x,vi (zk t)]∧ak G' (.sl 3 ((SY t).map jV.dat)) x):=by
 refine eN [(0,_)] func246 M ntmps246 M M hG ?_;intro a H;refine kP H (SR fun _ K1=>Ra M (aj K1 M (SQ fun _ K2=>SB (SR fun _ K3=>Rm M (Rv iY M (Rc M (aj K3 M (Cd M ?_ ?_)))))))) <;> clear H K1 K3
 ·intro h5 a H
  try have p5:=dT h5
  refine bO (fun _ K4=>?_)
  have he:zk t=10:=by rw [zk,nk]
  refine kP H (SC (Ra M (bD K4 M ?_)));clear H K4;intro a H;exact Qp
 intro h5 a H
 try have p5:=dF h5
 refine kP H (SR fun _ K5=>Rm M ?_);clear H;intro a H;refine s_call Nk H wn M (Pk _ _ H.ro t ht) M ?_;clear H;rintro v11 _ a w ⟨rfl,rfl⟩ - H;refine kH H (Rn M (aj K5 M (Cd M ?_ ?_))) <;> clear H K5
 ·intro h9 a H
  try have p9:=dT h9
  refine bO (fun _ K6=>?_)
  have he:zk t=12:=by rw [zk,dK,aD (by simpa using h9)]
  refine kP H (SC (Ra M (bD K6 M ?_)));clear H K6;intro a H;exact Qp
 intro h9 a H
 try have p9:=dF h9
 refine kP H (SR fun _ K7=>Rm M ?_);clear H;intro a H;refine azc iY I8 O8 H wn M O M ?_;clear H;intro v15 Dg a w A9 ahp H;obtain ⟨A15,c15,rfl,-,-,-⟩:=ahp.slice;refine s_call aqa H wn M (anJ _ _ H.ro _ M8 _ _ ahp (fun c _=>anL _ c)) M ?_;clear H;rintro v16 tX a w rfl nL H;refine kH H (aj K7 M (Cd M ?_ ?_)) <;> clear H K7
 ·intro fT a H
  try have qL:=dT fT
  refine bO (fun _ K8=>?_)
  have he:zk t=5:=by rw [zk,dK,av (by simpa using h9),aD fT]
  refine kP H (SC (Ra M (bD K8 M ?_)));clear H K8;intro a H;exact Qp
 intro fT a H
 try have qL:=dF fT
 refine kP H (Kc K2 (SR fun _ K9=>Rm M ?_));clear H K2;intro a H;refine jU aAv [_,_,_,_,_,_,_] H wn M M M M ?_;clear H;intro a H;refine dR (cs:=[_,_,_,_,_,_,_]) H wn M M M ?_;clear H;intro b19 a w atm H;refine kH H (aj K9 M (SQ fun _ aR=>SR fun _ bq=>Rm M ?_));clear H K9;intro a H;refine gM aqc (Li:=[]) (L:=[yC b19 t CX (.pointer none) (.slice none 0 0) (.slice none 0 0)]) H wn M (azC _ [] [] _ b19 t _ _ _ ⟨.inl M,dw.nil,dw.nil⟩ (Hp.owns (Li:=[]) H.hp) O) M ?_;clear H;rintro v21 Us zy a w ⟨p',v',q',sN,kF,rfl,XA⟩ Cx H;dsimp only [List.nil_append] at H;obtain ⟨FV,c21,rfl,-,-⟩:=XA.buf.shape;obtain ⟨B21,d21,rfl,-,-⟩:=XA.prt.shape;refine bq _ _ ?_;clear bq;refine bO (fun _ bP=>?_)
 have he:zk t=LU (mD t):=by rw [zk,dK,av (by simpa using h9),av (by simp [fT])]
 refine kP H (SC (Rm M (Rk M (bQ DC jo 0 M M (Rc M (Kn bP (Cd M ?_ ?_))))))) <;> clear H bP
 ·intro jB a H
  try have p26:=dT jB
  refine bO (fun _ bU=>?_);have H:=H.sub (T':=[(4,_)]) ⟨M,aB⟩;refine dI hmx [[],[0],[0,1],[0,1,2],[],ra 0 5] [] V [_,_,_,vi (LU (mD t)),_,_] H (ay (Z0 M (Rm M)) (Z1 0 27 M (Rk M)) (Z1 1 28 M (Rf DC M)) (Z1 2 29 M (Ro jo 0 M)) (bN (Z0 M (Ra M)) (bN (Z1 3 30 M (Ra M)) dB))) ?_
  clear H;intro a w G wR H hv;have H:=H.aN (hv 4 2 M M) M;have H:=H.aN (hv 5 3 M M) M;clear hv;refine aG ⟨M,?_⟩;refine bU _ _ ?_;clear bU;exact Qp
 intro jB a H
 try have p26:=dF jB
 refine iE ?_;refine aR _ _ ?_;clear aR;refine bO (fun _ dh=>?_)
 have he0:zk t=0:=by rw [he];omega
 have H:=(St.cast H (show _=[_]++(sN++kF) from rfl)).perm (List.Perm.append_left _ oO);have H:=St.un H;obtain ⟨Gr,hmr,hrep,H⟩:=St.qp (Li:=[_]++kF) (Lo:=sN) H XA.prt (rows:=(yT (mD t).lit (mD t).parts).map jV.dat) (by simp) (awi _ _);dsimp only [lca,bM] at H;refine kP H (SC (Rm M (Rk M (bQ Nw O1 0 M M (Ra M (bD dh M ?_))))));clear H dh;intro a H;refine fE ?_;refine (kJ H results246 (.cons (fM H M) (.cons (fM H M) .nil)) ?_).1
 exact abf
structure jW where
 fmt:Int
 start:Int
 zq:ByteArray
 restart:Int
def jW.dat (x:jW):List Dat:=[li x.fmt,li x.start,.lf (.string x.zq),li x.restart]
abbrev jW.cells (x:jW):List ah:=[vi x.fmt,vi x.start,.string x.zq,vi x.restart]
theorem Y2 {G:GH} {x:jW} {cs:List ah} (h:bB G x.dat cs):cs=x.cells:=by
 simp only [jW.dat,bB,ak] at h
 exact abM
theorem avD (G:GH) (w0:World) (hG:Hold G w0) (l:List jV) (p:jV->Bool) (v fv:ah) (hv:ak G (.sl 3 (l.map jV.dat)) v) (hf:∀ x∈l,uM fv G x.dat (p x)) :
  Calls prog 267 #[v,fv] w0 (bG w0 G fun u G'=>u=vi (oG (l.findIdx? p))):=by
 obtain ⟨A,c,rfl,hc1,hc2,hg⟩:=hv.slice;have hml:maxLen=9223372036854775807:=rfl;rw [bS] at *;refine eN [(0,_),(1,_)] func267 M ntmps267 M M hG ?_;intro a H;refine kP H (SR fun _ K1=>aj K1 M (SQ fun _ K2=>SR fun _ K3=>Rm M (Rl Mc M (Rm M (Kz K3 (SB ?_))))));clear H K1 K3;intro a H;skip;refine eX (ι:=Nat × GH) (Tc:=[(0,_),(1,_),(7,_)]) (Lc:=[]) (fun gh=>[(8,vi gh.1)]) (fun gh=>[]) (fun gh=>gh.2) (fun gh=>gh.1<=l.length∧(l.take gh.1).findIdx? p=none∧(∀ b o,G b=some o->gh.2 b=some o)) (fun gh=>l.length - gh.1) ((0,G)) (by exact H.sub ⟨M,M,M,M,aB⟩) ?_ ?_
 ·exact rU
 clear H;rintro ⟨k,g⟩ a w hI H;dsimp only at hI H;obtain ⟨hk,hno,hgm⟩:=hI;dsimp only [lca,bM] at H;refine kP H (SR fun _ K4=>Rc M (Kz K4 (SQ fun _ K5=>Cd M ?_ ?_))) <;> clear H K4
 ·intro h9 a H
  try have p9:=dT h9
  have hk2:k < l.length:=by omega
  obtain ⟨b,o,cs,rfl,hcl,hrow,hr⟩:=hg k l[k].dat (by simp [hk2]);obtain rfl:=ahR hr;refine kP H (Kc K5 (SQ fun _ K6=>SB (SR fun _ K7=>Rm M (aj K7 M (SR fun _ K8=>Rm M (Rm M (Rm M (Ri Mc LZ M M ?_))))))));clear H K5 K7;intro a H;refine aU LZ (cs:=l[k].cells) H wn M M (fun j v hj=>H.hp.aH (aC hgm (hrow j v hj))) M ?_;clear H;intro a H;refine jO H wn M M (hf _ (lq hk2) _ _ _ hgm H.ro (ahS _ l[k])) M ?_;clear H;rintro v16 tX a w rfl nL H;refine K8 _ _ ?_;clear K8;refine jw H M ?_ ?_
  ·intro h16
   try have p16:=dT h16
   refine kP H (SR fun _ K9=>Rm M (aj K9 M ?_));clear H K9;intro a H;refine lr H results267 M ?_
   exact xJ
  exact JM
 intro h9 a H
 try have p9:=dF h9
 refine dQ ?_;refine K2 _ _ ?_;clear K2;refine kP H (SR fun _ aR=>aj aR M ?_);clear H aR;intro a H;refine lr H results267 M ?_
 exact xJ
theorem anI (G:GH) (w0:World) (hG:Hold G w0) (l:List jV) (p:jV->Bool) (v fv:ah) (hv:ak G (.sl 3 (l.map jV.dat)) v) (hf:∀ x∈l,uM fv G x.dat (p x)) :
  Calls prog 247 #[v,fv] w0 (bG w0 G fun u G'=>u=.bool (l.findIdx? p).isSome):=by
 obtain ⟨A,c,rfl,hc1,hc2,-⟩:=hv.slice;rw [bS] at *;refine eN [(0,_),(1,_)] func247 M ntmps247 M M hG ?_;intro a H;refine kP H (SR fun _ K1=>aj K1 M (SR fun _ K2=>Rm M (Rm M ?_)));clear H K1;intro a H;refine s_call aqd H wn M (avD _ _ H.ro l p _ _ hv hf) M ?_;clear H;rintro v7 G7 a w rfl uG H;exact kH H (Rc M (aj K2 M (LR results247 M fun H=>H.rt (gH (YK _)))))
theorem awl {G:GH} {bl:Nat} {k:Int} (hb:aH G bl 0=some (vi k)) (x:jV):uM (.func (.func 248) #[] #[(aK bl 0)]) G x.dat (decide (k < x.level)):=by
 intro G1 w0 cs hm hG hr;refine jy (caps:=[(aK bl 0)]) apS ?_;obtain rfl:=ahR hr;replace hb:=aC hm hb;refine eN [(0,_),(1,_)] func248 M ntmps248 M M hG ?_;intro a H;refine dz (fun _ K1=>?_);refine dR (cs:=[_,_,_]) H wn M M M ?_;clear H;intro b2 a w hb2 H;refine kH H (aj K1 M (SR fun _ K2=>bQ arP aF 0 M M (Rg aF M (by assumption) ?_)));clear H K1;intro a H;exact kH H (Rc M (aj K2 M (LR results248 M fun H=>H.rt M)))
def Lb (t:ByteArray) (k:Int):Int:=if k < 1∨9 < k then 2 else if zk t=0∧((SY t).findIdx? fun x=>decide (k < x.level)).isSome=true then 6 else zk t
theorem U6 {p:Prop} (h:p:=by
 exact H.rt (cZ vi (by unfold Lb;(repeat' split) <;> first|rfl|(exfalso;simp_all;done)|(exfalso;simp_all;omega)|(simp_all;done)))):p:=h
theorem VN {p:Prop} (h:p:=by
 intro a H;refine lr H results223 M ?_
 exact U6):p:=h
theorem awj (G:GH) (w0:World) (hG:Hold G w0) (t:ByteArray) (k:Int) (ht:t.size < 4611686018427387904) :
  Calls prog 223 #[.string t,vi k] w0 (bG w0 G fun u G'=>u=vi (Lb t k)):=by
 refine eN [(0,_),(1,_)] func223 M ntmps223 M M hG ?_;intro a H;refine dz (fun _ K1=>?_);refine dR (cs:=[_]) H wn M M M ?_;clear H;intro b3 a w hb3 H;refine kH H (aj K1 M (SQ fun _ K2=>SR fun _ K3=>Ro aF 0 M (Rc M (Rm M (Sp 9 M ?_ ?_))))) <;> clear H K1
 ·intro h9 a H
  try have p9:=dT h9
  refine kH H (aL h9 M (Pt h9 M (Kz K3 (Ct M M (SR fun _ K4=>aj K4 M ?_)))));clear H K3 K4;exact VN
 intro h9 a H
 try have p9:=dF h9
 refine kH H (YO aF 0 h9 M (YC h9 M (Pf h9 M (Kz K3 (Cd M ?_ ?_))))) <;> clear H K3
 ·intro h12 a H
  try have rE:=dT h12
  refine kP H (SR fun _ K5=>aj K5 M ?_);clear H K5;exact VN
 intro h12 a H
 try have rE:=dF h12
 refine iE ?_;refine K2 _ _ ?_;clear K2;refine bO (fun _ K6=>?_);obtain ⟨Ga,hma,tF,H⟩:=H.fF
 have hbk:aH Ga b3 0=some (vi k):=by unfold aH;rw [tF];rfl
 refine kP H (SC (Rm M ?_));clear H;intro a H;refine s_call apQ H wn M (axB _ _ H.ro t ht) M ?_;clear H;rintro v15 Dg a w ⟨x15,rfl,ahs⟩ A9 H;obtain ⟨A15,c15,rfl,-,-,-⟩:=ahs.slice;replace hbk:=aC A9 hbk;refine kH H (Rm M ?_);clear H;intro a H;(iterate 2 refine lT H wn M M M ?_;clear H;intro a H);refine kH H (Ra M (bD K6 M (SQ fun _ K7=>SR fun _ K8=>Rm M (Rc M (Rm M (Sp 20 M ?_ ?_)))))) <;> clear H K6
 ·intro h20 a H
  try have IK:=dT h20
  refine kH H (YM h20 M ?_);clear H;intro a H;refine uJ H (wg H M M h20) M M ?_;clear H;intro a H;refine s_call apR H (wg H M M h20) M (anI _ _ H.ro _ (fun x=>decide (k < x.level)) _ _ ahs (fun x _=>awl hbk x)) M ?_;clear H;rintro v23 G23 a w rfl H7 H;refine kH H (Pt h20 M (Kz K8 (Cd M ?_ ?_))) <;> clear H K8
  ·intro cK a H
   try have kV:=dT cK
   refine kP H (SC (bD K7 M (SR fun _ K9=>Rm M (aj K9 M ?_))));clear H K7 K9;intro a H;refine lr H results223 M ?_
   exact U6
  intro cK a H
  try have kV:=dF cK
  refine kP H (Kc K7 (SR fun _ aR=>Rm M (aj aR M ?_)));clear H K7 aR;exact VN
 intro h20 a H
 try have IK:=dF h20
 refine kH H (aP h20 M (Pf h20 M (Kz K8 (Cf M M (Kc K7 (SR fun _ bq=>Rm M (aj bq M ?_)))))));clear H K8 K7 bq;intro a H;refine lr H results223 M ?_
 exact U6
theorem BD:Ty prog 96 4 40 [.int .i64 0,.int .i64 0,.string ⟨#[]⟩,.int .i64 0] true:=⟨V,V⟩
theorem zu:prog.underlying 91=some (.slice 96):=by kernel_rfl
theorem afx:dP prog 96 0 0:=⟨V⟩
theorem afy:dP prog 96 1 1:=⟨V⟩
theorem arU:dP prog 96 2 2:=⟨V⟩
theorem apH:aS 223:=aT func223 M
theorem afz:dP prog 96 3 3:=⟨V⟩
def GU:Nat->List jW->Int
 | _,[]=>0
 | i,x :: r=>if x.fmt < 1∨7 < x.fmt then 3 else if x.start < 0∨32767 < x.start then 2 else if Lb x.zq ((i+1:Nat):Int)≠0 then Lb x.zq ((i+1:Nat):Int) else if x.restart < 0∨(i:Int) < x.restart then 5 else GU (i+1) r
def Ar (l:List jW):Int:=if l.length=0 then 11 else if 9 < l.length then 9 else GU 0 l
theorem M6 {l:List jW} {k:Nat} (h:k < l.length):GU k (l.drop k)=if l[k].fmt < 1∨7 < l[k].fmt then 3 else if l[k].start < 0∨32767 < l[k].start then 2 else if Lb l[k].zq ((k+1:Nat):Int)≠0 then Lb l[k].zq ((k+1:Nat):Int) else if l[k].restart < 0∨(k:Int) < l[k].restart then 5 else GU (k+1) (l.drop (k+1)):=by
 rw [rR h,GU]
theorem abg {p:Prop} (h:p:=by
 first
  | exact H.rt (cZ vi (by rw [Ar,nk]))
  | exact H.rt (cZ vi (by rw [Ar,dK,nk]))
  | exact H.rt (cZ vi (by rw [Ar,dK,dK,<- he,M6 hk2,nk]))
  | exact H.rt (cZ vi (by rw [Ar,dK,dK,<- he,M6 hk2,dK,nk]))
  | exact H.rt (cZ vi (by rw [Ar,dK,dK,<- he,M6 hk2,dK,dK,aD p45]))
  | exact H.rt (cZ vi (by rw [Ar,dK,dK,<- he,M6 hk2,dK,dK,av p45,nk]))
  | exact H.rt (cZ vi (by rw [Ar,dK,dK,<- he,uh O];rfl))):p:=h
theorem Du {p:Prop} (h:p:=by
 intro a H;refine lr H results185 M ?_
 exact abg):p:=h
theorem amQ (G:GH) (w0:World) (hG:Hold G w0) (l:List jW) (v:ah) (hv:ak G (.sl 4 (l.map jW.dat)) v) (ht:∀ x∈l,x.zq.size < 4611686018427387904) :
  Calls prog 185 #[v] w0 (bG w0 G fun u G'=>u=vi (Ar l)):=by
 obtain ⟨A,c,rfl,hc1,hc2,hg⟩:=hv.slice;have hml:maxLen=9223372036854775807:=rfl;rw [bS] at *;refine eN [(0,_)] func185 M ntmps185 M M hG ?_;intro a H;refine kP H (SR fun _ K1=>aj K1 M (SQ fun _ K2=>SB (SR fun _ K3=>Rm M (Rl zu M (Rc M (aj K3 M (Cd M ?_ ?_))))))) <;> clear H K1 K3
 ·intro h6 a H
  try have p6:=dT h6
  refine kP H (SR fun _ K4=>aj K4 M ?_);clear H K4;exact Du
 intro h6 a H
 try have p6:=dF h6
 refine kP H (SR fun _ K5=>Rm M (Rl zu M (Rc M (aj K5 M (Cd M ?_ ?_))))) <;> clear H K5
 ·intro h10 a H
  try have jc:=dT h10
  refine kP H (SR fun _ K6=>aj K6 M ?_);clear H K6;exact Du
 intro h10 a H
 try have jc:=dF h10
 refine kP H (Kc K2 (SQ fun _ K7=>SR fun _ K8=>Rm M (Rl zu M (Rm M (Kz K8 (SB ?_))))));clear H K2 K8;intro a H;skip;refine eX (ι:=Nat × GH) (Tc:=[(14,_),(15,_)]) (Lc:=[]) (fun gh=>[(16,vi gh.1)]) (fun gh=>[]) (fun gh=>gh.2) (fun gh=>gh.1<=l.length∧GU gh.1 (l.drop gh.1)=GU 0 l∧(∀ b o,G b=some o->gh.2 b=some o)) (fun gh=>l.length - gh.1) ((0,G)) (by exact H.sub ⟨M,M,M,aB⟩) ?_ ?_
 ·exact EJ
 clear H;rintro ⟨k,g⟩ a w hI H;dsimp only at hI H;obtain ⟨hk,he,hgm⟩:=hI;dsimp only [lca,bM] at H;refine kP H (SR fun _ K9=>Rc M (Kz K9 (SQ fun _ aR=>Cd M ?_ ?_))) <;> clear H K9
 ·intro cu a H
  try have lI:=dT cu
  have hk2:k < l.length:=by omega
  obtain ⟨b,o,cs,rfl,hcl,hrow,hr⟩:=hg k l[k].dat (by simp [hk2]);obtain rfl:=Y2 hr;refine kP H (Kc aR (SQ fun _ bq=>SB (SR fun _ bP=>Rm M (Ri zu BD M M ?_))));clear H aR;intro a H;refine aU BD (cs:=l[k].cells) H wn M M (fun j v hj=>H.hp.aH (aC hgm (hrow j v hj))) M ?_;clear H;intro a H;refine dJ BD H wn M ?_;clear H;intro b4 a w hb4 H;refine kH H (Ra M ?_);clear H;intro a H;refine bC BD 0 (vs:=[_,_,_,_]) H wn M ?_;clear H;intro w H;refine bP _ _ ?_;clear bP;refine kP H (SQ fun _ bU=>SB (SR fun _ dh=>bQ afx aF 0 M M (Rc M (Rm M (Sp 25 M ?_ ?_))))) <;> clear H
  ·intro jH a H
   try have p25:=dT jH
   refine kH H (aP jH M (Pt jH M (aj dh M (Ct M M (SR fun _ dZ=>aj dZ M ?_)))));clear H dh dZ;exact Du
  intro jH a H
  try have p25:=dF jH
  refine kH H (YF afx jH M (YO aF 0 jH M (YC jH M (Pf jH M (aj dh M (Cd M ?_ ?_)))))) <;> clear H dh
  ·intro h21 a H
   try have Ei:=dT h21
   refine kP H (SR fun _ eu=>aj eu M ?_);clear H eu;exact Du
  intro h21 a H
  try have Ei:=dF h21
  refine kP H (SR fun _ dS=>bQ afy aF 0 M M (Rc M (Rm M (Sp 34 M ?_ ?_)))) <;> clear H
  ·intro fq a H
   try have p34:=dT fq
   refine kH H (aP fq M (Pt fq M (aj dS M (Ct M M (SR fun _ eY=>aj eY M ?_)))));clear H dS eY;exact Du
  intro fq a H
  try have p34:=dF fq
  refine kH H (YF afy fq M (YO aF 0 fq M (YC fq M (Pf fq M (aj dS M (Cd M ?_ ?_)))))) <;> clear H dS
  ·intro jl a H
   try have p30:=dT jl
   refine kP H (SR fun _ gU=>aj gU M ?_);clear H gU;exact Du
  intro jl a H
  try have p30:=dF jl
  refine kP H (Kc bU (SQ fun _ fJ=>SR fun _ iD=>bQ arU iP 0 M M (Rm M (Rd M ?_))));clear H bU;intro a H;rw [show ((k:Int)+1)=((k+1:Nat):Int) from rfl] at H;refine s_call apH H wn M (awj _ _ H.ro l[k].zq ((k+1:Nat):Int) (ht _ (lq hk2))) M ?_;clear H;rintro v43 Mq a w rfl D7 H;refine kH H (aj iD M (SR fun _ jL=>Rm M (Rc M (Kz jL (Cd M ?_ ?_))))) <;> clear H iD jL
  ·intro h45 a H
   try have p45:=dT h45
   refine kP H (SR fun _ mM=>Rm M (aj mM M ?_));clear H mM;exact Du
  intro h45 a H
  try have p45:=dF h45
  refine kP H (Kc fJ (SR fun _ mH=>bQ afz aF 0 M M (Rc M (Rm M (Sp 50 M ?_ ?_))))) <;> clear H fJ
  ·intro h50 a H
   try have p50:=dT h50
   refine kH H (aL h50 M (aL h50 M (Pt h50 M (Kz mH (Ct M M (SR fun _ kX=>aj kX M ?_))))));clear H mH kX;exact Du
  intro h50 a H
  try have p50:=dF h50
  refine kH H (YF afz h50 M (YO aF 0 h50 M (YM h50 M (YC h50 M (Pf h50 M (Kz mH (Cd M ?_ ?_))))))) <;> clear H mH
  ·intro qx a H
   try have p55:=dT qx
   refine kP H (SR fun _ ou=>aj ou M ?_);clear H ou;exact Du
  intro qx a H
  try have p55:=dF qx
  refine kP H (Kc bq (SC (Rd M (Rm M ?_))));clear H bq;intro a H;refine aG ?_;refine dY ((k+1,Mq)) (by exact (H.fH (Pl:=[_]) (eD:=[]) [] Z M).sub ⟨M,M,M,aB⟩) ?_
  (try dsimp only);exact ⟨O,by rw [M6 hk2,dK,dK,av p45,dK] at he;exact he,fun b o h=>D7 b o (hgm b o h)⟩
 intro cu a H
 try have lI:=dF cu
 refine dQ ?_;refine K7 _ _ ?_;clear K7;refine kP H (SR fun _ ow=>aj ow M ?_);clear H ow;intro a H;refine lr H results185 M ?_
 exact abg
theorem Ac:Ty prog 32 1 24 [.slice none 0 0] false:=⟨V,V⟩
theorem tT:prog.underlying 32=some (.slice 93):=by kernel_rfl
theorem rJ:Ty prog 93 2 32 [.int .i64 0,.slice none 0 0] true:=⟨V,V⟩
theorem QZ:dP prog 93 0 0:=⟨V⟩
theorem O4:Ty prog 91 1 24 [.slice none 0 0] false:=⟨V,V⟩
theorem aeF:aS 125:=aT func125 M
theorem NC:dP prog 93 1 1:=⟨V⟩
theorem apm:aS 185:=aT func185 M
theorem JZ:aS 123:=aT func123 M
theorem apl:aS 184:=aT func184 M
theorem apk:aS 183:=aT func183 M
structure fC where
 id:Int
 levels:List jW
def fC.dat (x:fC):List Dat:=[li x.id,.sl 4 (x.levels.map jW.dat)]
structure gF where
 id:Int
 parent:Int
 author:ByteArray
 time:Int
 text:ByteArray
 done:Bool
def gF.dat (x:gF):List Dat:=[li x.id,li x.parent,.lf (.string x.author),li x.time,.lf (.string x.text),.lf (.bool x.done)]
abbrev gF.cells (x:gF):List ah:=[vi x.id,vi x.parent,.string x.author,vi x.time,.string x.text,.bool x.done]
structure jk where
 name:ByteArray
 value:ByteArray
def jk.dat (x:jk):List Dat:=[.lf (.string x.name),.lf (.string x.value)]
abbrev jk.cells (x:jk):List ah:=[.string x.name,.string x.value]
theorem QD {G:GH} {x:gF} {cs:List ah} (h:bB G x.dat cs):cs=x.cells:=by
 simp only [gF.dat,bB,ak] at h
 obtain ⟨_,_,rfl,⟨rfl,_⟩,_,_,rfl,⟨rfl,_⟩,_,_,rfl,⟨rfl,_⟩,_,_,rfl,⟨rfl,_⟩,_,_,rfl,⟨rfl,_⟩,_,_,rfl,⟨rfl,_⟩,rfl⟩:=h
 rfl
theorem aal {G:GH} {x:jk} {cs:List ah} (h:bB G x.dat cs):cs=x.cells:=by
 simp only [jk.dat,bB,ak] at h
 obtain ⟨_,_,rfl,⟨rfl,_⟩,_,_,rfl,⟨rfl,_⟩,rfl⟩:=h
 rfl
theorem Y0 {G:GH} {l:List fC} {A:Option Addr} {n c k:Nat} (hv:ak G (.sl 2 (l.map fC.dat)) (.slice A n c)) (hk:k < l.length):∃ b o B d,A=some ⟨b,o,none⟩∧(∀ j u,[vi l[k].id,.slice B l[k].levels.length d][j]?=some u->aH G b (o+k*2+j)=some u)∧ak G (.sl 4 (l[k].levels.map jW.dat)) (.slice B l[k].levels.length d):=by
 obtain ⟨A',c',he,_,_,hg⟩:=hv.slice
 injection he with e1 e2 e3
 subst e1;obtain ⟨b,o,cs,h1,h2,h3,h4⟩:=hg k l[k].dat (by simp [hk])
 simp only [fC.dat,bB] at h4
 obtain ⟨v1,_,rfl,⟨rfl,-⟩,v2,_,rfl,hl,rfl⟩:∃ v vs,cs=v :: vs∧ak G (li l[k].id) v∧∃ v2 vs2,vs=v2 :: vs2∧ak G (.sl 4 (l[k].levels.map jW.dat)) v2∧vs2=[]:=h4;obtain ⟨B,d,rfl,-,-,-⟩:=hl.slice;rw [bS] at *;exact ⟨b,o,B,d,h1,h3,hl⟩
theorem awc {G:GH} {bl:Nat} {l:List fC} {A:Option Addr} {n c:Nat} (hb:aH G bl 0=some (.slice A n c)) (hv:ak G (.sl 2 (l.map fC.dat)) (.slice A n c)):vJ (.func (.func 184) #[] #[(aK bl 0)]) G l.length fun k=>(l[k]?.map fC.id).getD 0:=by
 intro k hk G1 w0 hm hG;refine jy (caps:=[(aK bl 0)]) apl ?_;replace hb:=aC hm hb
 obtain rfl:n=l.length:=by have:=hv.len;simpa using this
 obtain ⟨b,o,B,d,rfl,hrow,-⟩:=Y0 (hv.mono hm) hk;have hq:=hrow 0 _ M;refine eN [(0,_),(1,_)] func184 M ntmps184 M M hG ?_;intro a H;refine kP H (SR fun _ K1=>aj K1 M (SR fun _ K2=>Rg Ac M (by assumption) ?_));clear H K1;intro a H;refine kH H (Rm M (Ri tT rJ M M (Rf QZ M (Rg aF M (by assumption) ?_))));clear H;intro a H;exact kH H (aj K2 M (LR results184 M fun H=>H.rt (by dsimp only;rw [eB hk];rfl)))
def Iz (l:List fC) (i:Nat):Int:=dO [wV (fun k=>(l[k]?.map fC.id).getD 0) i,Ar ((l[i]?.map fC.levels).getD [])]
theorem abh {p:Prop} (h:p:=by
 exact fin H jS (rfl)):p:=h
theorem acL {p:Prop} (h:p:=by
 refine eT 0 4 1 5 M M fun _ a w G1 hG HT H fin=>?_;refine s_call aeF H wn M (ahA _ _ H.ro k _ _ O (fun i hi=>(hcb.mono hG) i O)) M ?_;clear H;rintro v6 G6 a w rfl jS H;exact abh):p:=h
theorem Gy {p:Prop} (h:p:=by
 refine UM M fun _ a w G1 hG HT H fin=>?_;refine uJ H wn M M ?_;exact jG):p:=h
theorem awe {G:GH} {bl:Nat} {l:List fC} {A:Option Addr} {n c:Nat} (hb:aH G bl 0=some (.slice A n c)) (hv:ak G (.sl 2 (l.map fC.dat)) (.slice A n c)) (hl:l.length<=4294967296) (ht:∀ x∈l,∀ y∈x.levels,y.zq.size < 4611686018427387904):vJ (.func (.func 183) #[] #[(aK bl 0)]) G l.length (Iz l):=by
 intro k hk G1 w0 hm hG;refine jy (caps:=[(aK bl 0)]) apk ?_;replace hb:=aC hm hb;replace hv:=hv.mono hm;have hcb:=awc hb hv
 obtain rfl:n=l.length:=by have:=hv.len;simpa using this
 obtain ⟨b,o,B,d,rfl,hrow,hlv⟩:=Y0 hv hk;have hq:=hrow 1 _ M
 have he:Iz l k=dO [wV (fun k=>(l[k]?.map fC.id).getD 0) k,Ar l[k].levels]:=by unfold Iz;rw [eB hk];rfl
 refine eN [(0,_),(1,_)] func183 M ntmps183 M M hG ?_;intro a H;refine kP H (SR fun _ K1=>aj K1 M (SQ fun _ K2=>?_));clear H K1;intro a H;have H:=H.sub (T':=[(0,_),(1,_)]) ⟨M,M,aB⟩;refine dI hmx [[],[],[0,1],[],[],[3,4],[3,4,5],ra 3 4,ra 0 8,ra 0 9,ra 0 10,ra 0 11] [9,10,11] V [_,.func (.func 184) #[] #[(aK bl 0)],vi (wV (fun k=>(l[k]?.map fC.id).getD 0) k),_,_,_,_,_,vi (Ar l[k].levels)] H (ay (Z0 M (Rm M)) ?_ ?_ (X0 M fun hG=>Rg Ac M (aC hG hb)) (ay (Z0 M (Rm M)) (Z2 3 7 4 8 M (Ri tT rJ M M)) (Z1 5 9 M (Rf NC M)) (X1 6 10 M fun hG=>Rg O4 M (aC hG hq)) (ay ?_ (bT M) (bT M) (bT M) dB))) ?_
 ·exact Gy
 ·exact acL
 ·refine gN 7 11 M M fun _ a w G1 hG HT H fin=>?_;refine s_call apm H wn M (amQ _ _ H.ro _ _ (hlv.mono hG) (ht _ (lq hk))) M ?_;clear H;rintro v12 Df a w rfl oQ H;exact fin H oQ (rfl)
 clear H;intro a w G jC H hv;have H:=H.aN (hv 2 6 M M) M;have H:=H.aN (hv 8 12 M M) M;clear hv;refine iC rM jo [_,_] [_,_] H wn M M M M M (by intro i q h;match i,h with|0,h=>exact h|1,h=>exact h|n+2,h=>simp at h) M M ?_;clear H;intro b13 a w NK H;obtain ⟨Je,Cw,atj,H⟩:=H.fF;refine s_call sU H wn M (sW _ _ H.ro _ _ (Ab atj)) M ?_;clear H;rintro v14 _ a w ⟨rfl,rfl⟩ - H;refine kH H (Ra M ?_);clear H;intro a H;refine aG ⟨M,?_⟩;refine K2 _ _ ?_;clear K2;refine lr H results183 M ?_;exact H.rt (by rw [he])
def M0 (l:List fC):Int:=dO [dL (decide (64 < (l.length:Int))) 9,iX (Iz l) (min l.length 64)]
theorem vJ.le {fv:ah} {G:GH} {n m:Nat} {E:Nat->Int} (h:vJ fv G n E) (hm:m<=n):vJ fv G m E:=fun i hi=>h i O
theorem alG {p:Prop} (h:p:=by
 exact fin H iJ (cZ vi O)):p:=h
theorem abj {p:Prop} (h:p:=by
 exact fin H tu (rfl)):p:=h
theorem Qn {p:Prop} (h:p:=by
 refine gN 2 5 M M fun _ a w G1 hG HT H fin=>?_;refine s_call ng H wn M (nE _ _ H.ro _ 9) M ?_;clear H;rintro v6 G6 a w ⟨rfl,-⟩ jS H;exact abh):p:=h
theorem Qq {p:Prop} (h:p:=by
 refine gN 5 8 M M fun _ a w G1 hG HT H fin=>?_;refine azj H wn M M M ?_;clear H;intro a H;exact alG):p:=h
theorem MW {p:Prop} (h:p:=by
 clear H;rintro v11 zx a w rfl tu H;exact abj):p:=h
theorem amR (G:GH) (w0:World) (hG:Hold G w0) (l:List fC) (v:ah) (hv:ak G (.sl 2 (l.map fC.dat)) v) (hl:l.length<=4294967296) (ht:∀ x∈l,∀ y∈x.levels,y.zq.size < 4611686018427387904) :
  Calls prog 120 #[v] w0 (bG w0 G fun u G'=>u=vi (M0 l)):=by
 obtain ⟨A,c,rfl,hc1,hc2,-⟩:=hv.slice;rw [bS] at *;refine eN [(0,_)] func120 M ntmps120 M M hG ?_;intro a H;refine dz (fun _ K1=>?_);refine dR (cs:=[_]) H wn M M M ?_;clear H;intro b1 a w hb1 H;refine kH H (aj K1 M (SQ fun _ K2=>?_));clear H K1;intro a H;have H:=H.sub (T':=[(1,_)]) ⟨M,aB⟩;obtain ⟨Ga,hma,hb1',H⟩:=H.fF
 have hbl:aH Ga b1 0=some (.slice A l.length c):=by unfold aH;rw [hb1'];rfl
 have hcb:=awe hbl (hv.mono hma) hl ht;refine dI hmx [[],[0],[0,1],[0,1,2],[],[4],[4,5],[],ra 0 8,ra 0 9,ra 0 10,ra 0 11] [9,10,11] V [_,_,_,vi (dL (decide (64 < (l.length:Int))) 9),_,_,vi ((min l.length 64:Nat):Int),.func (.func 183) #[] #[(aK b1 0)],vi (iX (Iz l) (min l.length 64))] H (ay (X0 M fun hG=>Rg Ac M (aC hG hbl)) (Z1 0 3 M (Rl tT M)) (Z1 1 4 M (Rc M)) ?_ (ay (X0 M fun hG=>Rg Ac M (aC hG hbl)) (Z1 4 7 M (Rl tT M)) ?_ ?_ (ay ?_ (bT M) (bT M) (bT M) dB))) ?_
 ·exact Qn
 ·exact Qq
 ·exact Gy
 ·refine eT 6 9 7 10 M M fun _ a w G1 hG HT H fin=>?_;refine s_call JZ H wn M (MI _ _ H.ro (min l.length 64) (Iz l) _ O ((hcb.mono hG).le (Nat.min_le_left _ _))) M ?_;exact MW
 clear H;intro a w G jC H hv;have H:=H.aN (hv 3 6 M M) M;have H:=H.aN (hv 8 11 M M) M;clear hv;refine iC rM jo [_,_] [_,_] H wn M M M M M (by intro i q h;match i,h with|0,h=>exact h|1,h=>exact h|n+2,h=>simp at h) M M ?_;clear H;intro b12 a w Hy H;obtain ⟨Df,DZ,Hz,H⟩:=H.fF;refine s_call sU H wn M (sW _ _ H.ro _ _ (Ab Hz)) M ?_;clear H;rintro v13 _ a w ⟨rfl,rfl⟩ - H;refine kH H (Ra M ?_);clear H;intro a H;refine aG ⟨M,?_⟩;refine K2 _ _ ?_;clear K2;refine lr H results120 M ?_;exact xK
theorem lJ:prog.underlying 31=some (.slice 192):=by kernel_rfl
theorem jf:Ty prog 192 6 72 [.int .i64 0,.int .i64 0,.string ⟨#[]⟩,.int .i64 0,.int .i64 0,.slice none 0 0] true:=⟨V,V⟩
theorem xQ:dP prog 192 1 1:=⟨V⟩
theorem ER:dP prog 192 2 2:=⟨V⟩
theorem vV:dP prog 192 0 0:=⟨V⟩
theorem aeV:aS 243:=aT func243 M
theorem apG:aS 221:=aT func221 M
theorem apO:aS 244:=aT func244 M
theorem apP:aS 245:=aT func245 M
structure bY where
 id:Int
 kind:Int
 name:ByteArray
 base:Int
 next:Int
 props:List aO
def bY.dat (x:bY):List Dat:=[li x.id,li x.kind,.lf (.string x.name),li x.base,li x.next,.sl 2 (x.props.map aO.dat)]
theorem OW {G:GH} {x:bY} {cs:List ah} (h:bB G x.dat cs):∃ A c,cs=[vi x.id,vi x.kind,.string x.name,vi x.base,vi x.next,.slice A x.props.length c]∧ak G (.sl 2 (x.props.map aO.dat)) (.slice A x.props.length c):=by
 simp only [bY.dat,bB] at h
 obtain ⟨v1,_,rfl,h1,v2,_,rfl,h2,v3,_,rfl,h3,v4,_,rfl,h4,v5,_,rfl,h5,v6,_,rfl,h6,rfl⟩:=h
 simp only [ak] at h1 h2 h3 h4 h5
 obtain ⟨rfl,-⟩:=h1;obtain ⟨rfl,-⟩:=h2;obtain ⟨rfl,-⟩:=h3;obtain ⟨rfl,-⟩:=h4;obtain ⟨rfl,-⟩:=h5;obtain ⟨A,c,rfl,-,-,-⟩:=h6.slice;rw [bS] at *;exact ⟨A,c,M,h6⟩
theorem Eo {G:GH} {l:List bY} {A:Option Addr} {n c k:Nat} (hv:ak G (.sl 6 (l.map bY.dat)) (.slice A n c)) (hk:k < l.length):∃ b o pA pc,A=some ⟨b,o,none⟩∧(∀ j u,[vi l[k].id,vi l[k].kind,.string l[k].name,vi l[k].base,vi l[k].next,.slice pA l[k].props.length pc][j]?=some u->aH G b (o+k*6+j)=some u)∧ak G (.sl 2 (l[k].props.map aO.dat)) (.slice pA l[k].props.length pc) ∧
  bB G l[k].dat [vi l[k].id,vi l[k].kind,.string l[k].name,vi l[k].base,vi l[k].next,.slice pA l[k].props.length pc]:=by
 obtain ⟨A',c',he,_,_,hg⟩:=hv.slice
 injection he with e1 e2 e3
 subst e1;obtain ⟨b,o,cs,h1,h2,h3,h4⟩:=hg k l[k].dat (by simp [hk]);obtain ⟨pA,pc,rfl,hp⟩:=OW h4;exact ⟨b,o,pA,pc,h1,h3,hp,h4⟩
def okB (x:Int):Bool:=decide (32<=x∧x<=126)
def IG (s:ByteArray) (k:Nat):Bool:=(List.range k).all fun i=>okB (gX s i)
def KX (s:ByteArray):Bool:=decide (s.size≠0∧s.size<=40∧gX s 0≠32∧gX s (s.size - 1)≠32) && IG s s.size
theorem awG (s:ByteArray) (k:Nat):IG s (k+1)=(IG s k && okB (gX s k)):=by simp [IG,List.range_succ]
theorem awF {s:ByteArray} {k:Nat} (hk:k < s.size) (h:okB (gX s k)=false):IG s s.size=false:=by
 rw [IG,List.all_eq_false];exact ⟨k,by simpa using hk,by simp [h]⟩
theorem Gw {p:Prop} (h:p:=by
 first
  | exact H.rt (gH (by rw [KX,mY O,MH]))
  | exact H.rt (gH (by rw [KX,mP O,show s.size=k by omega,hno];rfl))
  | exact H.rt (gH (by rw [KX,awF (k:=k) O (mY O),Bool.and_false]))):p:=h
theorem Sb (G:GH) (w0:World) (hG:Hold G w0) (s:ByteArray) (hs:s.size<=4611686018427387904):Calls prog 218 #[.string s] w0 (bG w0 G fun u G'=>u=.bool (KX s)):=by
 refine eN [(0,_)] func218 M ntmps218 M M hG ?_;intro a H;refine kP H (SR fun _ K1=>aj K1 M (SQ fun _ K2=>SR fun _ K3=>Rm M (Rv iY M (Rc M (Rm M (Sp 7 M ?_ ?_)))))) <;> clear H K1
 ·intro h7 a H
  try have p7:=dT h7
  refine kH H (aP h7 M (Pt h7 M (Rm M (aP M M (Pt M M (Rm M (aP M M (aP M M (Pt M M (Kz K3 (Ct M M (SR fun _ K4=>aj K4 M ?_))))))))))));clear H K3 K4;intro a H;refine lr H results218 M ?_
  exact Gw
 intro h7 a H
 try have p7:=dF h7
 refine kH H (YM h7 M ?_);clear H;intro a H;refine FM iY H (wg H M M h7) M M ?_;clear H;intro a H;refine kH H (YC h7 M (Pf h7 M (Rm M (Sp 12 M ?_ ?_)))) <;> clear H
 ·intro h12 a H
  try have rE:=dT h12
  refine kH H (aP h12 M (Pt h12 M (Rm M (aP M M (aP M M (Pt M M (Kz K3 (Ct M M (SR fun _ K5=>aj K5 M ?_)))))))));clear H K3 K5;intro a H;refine lr H results218 M ?_
  exact Gw
 intro h12 a H
 try have rE:=dF h12
 refine kH H (YM h12 M ?_);clear H;intro a H;refine qM 0 iY H (wg H M M h12) M M M O M ?_;clear H;intro a H;rw [<- pF] at H;refine kH H (YC h12 M (Pf h12 M (Rm M (Sp 17 M ?_ ?_)))) <;> clear H
 ·intro cu a H
  try have lI:=dT cu
  refine kH H (aP cu M (aP cu M (Pt cu M (Kz K3 (Ct M M (SR fun _ K6=>aj K6 M ?_))))));clear H K3 K6;intro a H;refine lr H results218 M ?_
  exact Gw
 intro cu a H
 try have lI:=dF cu
 refine kH H (YM cu M (YM cu M ?_));clear H;intro a H;refine FM iY H (wg H M M cu) M M ?_;clear H;intro a H;refine zo _ H (wg H M M cu) M M M O O M ?_;clear H;intro a H;refine qM (s.size - 1) iY H (wg H M M cu) M M O O M ?_;clear H;intro a H;rw [<- pF] at H;refine kH H (YC cu M (Pf cu M (Kz K3 (Cd M ?_ ?_)))) <;> clear H K3
 ·intro cK a H
  try have kV:=dT cK
  refine kP H (SR fun _ K7=>aj K7 M ?_);clear H K7;intro a H;refine lr H results218 M ?_
  exact Gw
 intro cK a H
 try have kV:=dF cK
 refine kP H (Kc K2 (SQ fun _ K8=>SR fun _ K9=>Rm M (Rv iY M (Rm M (Kz K9 (SB ?_))))));clear H K2 K9;intro a H;skip;refine eX (ι:=Nat) (Tc:=[(0,_),(26,_)]) (Lc:=[]) (fun gh=>[(27,vi gh)]) (fun gh=>[]) (fun gh=>G) (fun gh=>gh<=s.size∧IG s gh=true) (fun gh=>s.size - gh) (0) (by exact H.sub ⟨M,M,M,aB⟩) ?_ ?_
 ·exact JC
 clear H;intro k a w hI H;obtain ⟨hk,hno⟩:=hI;dsimp only [lca,bM] at H;refine kP H (SR fun _ aR=>Rc M (Kz aR (SQ fun _ bq=>Cd M ?_ ?_))) <;> clear H aR
 ·intro fZ a H
  try have p28:=dT fZ
  refine kP H (Kc bq (SQ fun _ bP=>SB (SR fun _ bU=>Rm M (aj bU M (SR fun _ dh=>Rm M (Rm M ?_))))));clear H bq bU;intro a H;refine qM k iY H wn M M M O M ?_;clear H;intro a H;rw [<- pF] at H;refine kH H (Rc M (Rm M (Sp 34 M ?_ ?_))) <;> clear H
  ·intro fq a H
   try have p34:=dT fq
   refine kH H (aL fq M (aL fq M (Pt fq M (Kz dh (Ct M M (SR fun _ dZ=>aj dZ M ?_))))));clear H dh dZ;intro a H;refine lr H results218 M ?_
   exact Gw
  intro fq a H
  try have p34:=dF fq
  refine kH H (YM fq M (YM fq M ?_));clear H;intro a H;refine qM k iY H (wg H M M fq) M M M O M ?_;clear H;intro a H;rw [<- pF] at H;refine kH H (YC fq M (Pf fq M (Kz dh (Cd M ?_ ?_)))) <;> clear H dh
  ·intro jN a H
   try have p39:=dT jN
   refine kP H (SR fun _ eu=>aj eu M ?_);clear H eu;intro a H;refine lr H results218 M ?_
   exact Gw
  intro jN a H
  try have p39:=dF jN
  refine kP H (Kc bP (SC (Rd M (Rm M ?_))));clear H bP;intro a H;refine aG ?_;refine dY ((k+1)) (by exact H.sub ⟨M,M,M,aB⟩) ?_
  exact ⟨O,by rw [awG,hno];simp [okB];omega⟩
 intro fZ a H
 try have p28:=dF fZ
 refine dQ ?_;refine K8 _ _ ?_;clear K8;refine kP H (SR fun _ dS=>aj dS M ?_);clear H dS;intro a H;refine lr H results218 M ?_
 exact Gw
theorem ahB (G:GH) (w0:World) (hG:Hold G w0) (l:List bY) (p:bY->Bool) (v fv:ah) (hv:ak G (.sl 6 (l.map bY.dat)) v) (hf:∀ x∈l,uM fv G x.dat (p x)) :
  Calls prog 243 #[v,fv] w0 (bG w0 G fun u G'=>u=vi (oG (l.findIdx? p))):=by
 obtain ⟨A,c,rfl,hc1,hc2,-⟩:=hv.slice;have hml:maxLen=9223372036854775807:=rfl;rw [bS] at *;refine eN [(0,_),(1,_)] func243 M ntmps243 M M hG ?_;intro a H;refine kP H (SR fun _ K1=>aj K1 M (SQ fun _ K2=>SR fun _ K3=>Rm M (Rl lJ M (Rm M (Kz K3 (SB ?_))))));clear H K1 K3;intro a H;skip;refine eX (ι:=Nat × GH) (Tc:=[(0,_),(1,_),(7,_)]) (Lc:=[]) (fun gh=>[(8,vi gh.1)]) (fun gh=>[]) (fun gh=>gh.2) (fun gh=>gh.1<=l.length∧(l.take gh.1).findIdx? p=none∧(∀ b o,G b=some o->gh.2 b=some o)) (fun gh=>l.length - gh.1) ((0,G)) (by exact H.sub ⟨M,M,M,M,aB⟩) ?_ ?_
 ·exact rU
 clear H;rintro ⟨k,g⟩ a w hI H;dsimp only at hI H;obtain ⟨hk,hno,hgm⟩:=hI;dsimp only [lca,bM] at H;refine kP H (SR fun _ K4=>Rc M (Kz K4 (SQ fun _ K5=>Cd M ?_ ?_))) <;> clear H K4
 ·intro h9 a H
  try have p9:=dT h9
  have hk2:k < l.length:=by omega
  obtain ⟨b,o,pA,pc,rfl,hrow,hp,hrep⟩:=Eo (hv.mono hgm) hk2;refine kP H (Kc K5 (SQ fun _ K6=>SB (SR fun _ K7=>Rm M (aj K7 M (SR fun _ K8=>Rm M (Rm M (Rm M (Ri lJ jf M M ?_))))))));clear H K5 K7;intro a H;refine aU jf (cs:=[_,_,_,_,_,_]) H wn M M (fun j v hj=>H.hp.aH (hrow j v hj)) M ?_;clear H;intro a H;refine jO H wn M M (hf _ (lq hk2) _ _ _ hgm H.ro hrep) M ?_;clear H;rintro v16 tX a w rfl nL H;refine K8 _ _ ?_;clear K8;refine jw H M ?_ ?_
  ·intro h16
   try have p16:=dT h16
   refine kP H (SR fun _ K9=>Rm M (aj K9 M ?_));clear H K9;intro a H;refine lr H results243 M ?_
   exact xJ
  exact JM
 intro h9 a H
 try have p9:=dF h9
 refine dQ ?_;refine K2 _ _ ?_;clear K2;refine kP H (SR fun _ aR=>aj aR M ?_);clear H aR;intro a H;refine lr H results243 M ?_
 exact xJ
def OC (p q:ByteArray):Bool:=p.toList == q.toList
theorem arX {G:GH} {bk bn:Nat} {kind:Int} {name:ByteArray} (hk:aH G bk 0=some (vi kind)) (hn:aH G bn 0=some (.string name)) (x:bY):uM (.func (.func 244) #[] #[(aK bk 0),(aK bn 0)]) G x.dat (decide (x.kind=kind) && OC x.name name):=by
 intro G1 w0 cs hm hG hr;refine jy (caps:=[(aK bk 0),(aK bn 0)]) apO ?_;obtain ⟨pA,pc,rfl,-⟩:=OW hr;replace hk:=aC hm hk;replace hn:=aC hm hn;refine eN [(0,_),(1,_),(2,_)] func244 M ntmps244 M M hG ?_;intro a H;refine dz (fun _ K1=>?_);refine dR (cs:=[_,_,_,_,_,_]) H wn M M M ?_;clear H;intro b3 a w hb3 H;refine kH H (aj K1 M (SR fun _ K2=>bQ xQ aF 0 M M (Rg aF M (by assumption) ?_)));clear H K1;intro a H;refine kH H (Rc M (Rm M (Sp 9 M ?_ ?_))) <;> clear H
 ·intro h9 a H
  try have p9:=dT h9
  refine kH H (YF ER h9 M (YO iP 0 h9 M (YR iP h9 M (by assumption) ?_)));clear H;intro a H;refine CV H (wg H M M h9) M M M ?_;clear H;intro a H;exact kH H (Pt h9 M (aj K2 M (LR results244 M fun H=>H.rt (by unfold OC;simp_all))))
 intro h9 a H
 try have p9:=dF h9
 exact kH H (aL h9 M (aL h9 M (Pf h9 M (aj K2 M (LR results244 M fun H=>H.rt (by unfold OC;simp_all))))))
theorem arW {G:GH} {bi:Nat} {id:Int} (hb:aH G bi 0=some (vi id)) (x:bY):uM (.func (.func 245) #[] #[(aK bi 0)]) G x.dat (decide (x.id=id)):=by
 intro G1 w0 cs hm hG hr;refine jy (caps:=[(aK bi 0)]) apP ?_;obtain ⟨pA,pc,rfl,-⟩:=OW hr;replace hb:=aC hm hb;refine eN [(0,_),(1,_)] func245 M ntmps245 M M hG ?_;intro a H;refine dz (fun _ K1=>?_);refine dR (cs:=[_,_,_,_,_,_]) H wn M M M ?_;clear H;intro b2 a w hb2 H;refine kH H (aj K1 M (SR fun _ K2=>bQ vV aF 0 M M (Rg aF M (by assumption) ?_)));clear H K1;intro a H;exact kH H (Rc M (aj K2 M (LR results245 M fun H=>H.rt M)))
def EW (l:List bY) (kind:Int) (name:ByteArray):Option Nat:=l.findIdx? fun x=>decide (x.kind=kind) && OC x.name name
def Q0 (l:List bY) (id:Int):Option Nat:=l.findIdx? fun x=>decide (x.id=id)
theorem ahH (o:Option Nat):decide (0<=oG o)=o.isSome:=by cases o <;> simp [oG]
theorem arY (G:GH) (w0:World) (hG:Hold G w0) (l:List bY) (kind:Int) (name:ByteArray) (v:ah) (hv:ak G (.sl 6 (l.map bY.dat)) v) :
  Calls prog 219 #[v,vi kind,.string name] w0 (bG w0 G fun u G'=>u=.tuple #[vi (max (oG (EW l kind name)) 0),.bool (EW l kind name).isSome]):=by
 obtain ⟨A,c,rfl,hc1,hc2,-⟩:=hv.slice;rw [bS] at *;refine eN [(0,_),(1,_),(2,_)] func219 M ntmps219 M M hG ?_;intro a H;refine dz (fun _ K1=>?_);refine dR (cs:=[_]) H wn M M M ?_;clear H;intro b4 a w hb4 H;refine dR (cs:=[_]) H wn M M M ?_;clear H;intro b5 a w hb5 H;refine kH H (Ra M (aj K1 M (SQ fun _ K2=>?_)));clear H K1;intro a H;obtain ⟨Ga,hma,zP,H⟩:=H.fF;obtain ⟨Gb,hmb,AV,H⟩:=H.fF
 have q4:aH Gb b4 0=some (vi kind):=by unfold aH;rw [AV];rfl
 have q5:aH Gb b5 0=some (.string name):=by unfold aH;rw [hmb _ _ zP];rfl
 refine kP H (SC (Rm M ?_));clear H;intro a H;refine uJ H wn M M ?_;clear H;intro a H;refine s_call aeV H wn M (ahB _ _ H.ro l (fun x=>decide (x.kind=kind) && OC x.name name) _ _ ((hv.mono hma).mono hmb) (fun x _=>arX q4 q5 x)) M ?_;clear H;rintro v11 zx a w rfl DY H;refine kH H (bD K2 M (SR fun _ K3=>Rm M ?_));clear H K2;intro a H;refine TK H wn M M M ?_;clear H;intro a H;refine kH H (Rm M (Rc M (Ra M (aj K3 M ?_))));clear H K3;intro a H;refine fE ?_;refine (kJ H results219 (.cons (fM H M) (.cons (fM H M) .nil)) ?_).1;exact H.rt (by rw [<- ahH];rfl)
theorem arZ (G:GH) (w0:World) (hG:Hold G w0) (l:List bY) (id:Int) (v:ah) (hv:ak G (.sl 6 (l.map bY.dat)) v) :
  Calls prog 221 #[v,vi id] w0 (bG w0 G fun u G'=>u=.tuple #[vi (max (oG (Q0 l id)) 0),.bool (Q0 l id).isSome]):=by
 obtain ⟨A,c,rfl,hc1,hc2,-⟩:=hv.slice;rw [bS] at *;refine eN [(0,_),(1,_)] func221 M ntmps221 M M hG ?_;intro a H;refine dz (fun _ K1=>?_);refine dR (cs:=[_]) H wn M M M ?_;clear H;intro b3 a w hb3 H;refine kH H (Ra M (aj K1 M (SQ fun _ K2=>?_)));clear H K1;intro a H;obtain ⟨Ga,hma,tF,H⟩:=H.fF
 have q3:aH Ga b3 0=some (vi id):=by unfold aH;rw [tF];rfl
 refine kP H (SC (Rm M ?_));clear H;intro a H;refine uJ H wn M M ?_;clear H;intro a H;refine s_call aeV H wn M (ahB _ _ H.ro l (fun x=>decide (x.id=id)) _ _ (hv.mono hma) (fun x _=>arW q3 x)) M ?_;clear H;rintro v9 G9 a w rfl Bc H;refine kH H (bD K2 M (SR fun _ K3=>Rm M ?_));clear H K2;intro a H;refine TK H wn M M M ?_;clear H;intro a H;refine kH H (Rm M (Rc M (Ra M (aj K3 M ?_))));clear H K3;intro a H;refine fE ?_;refine (kJ H results221 (.cons (fM H M) (.cons (fM H M) .nil)) ?_).1;exact H.rt (by rw [<- ahH];rfl)
def Oy (l:List bY) (kind id:Int):Bool:=match Q0 l id with|some i=>decide ((l[i]?.map bY.kind)=some kind)|none=>false
theorem abk {p:Prop} (h:p:=by
 first
  | exact H.rt (gH (by rw [Oy,<- ho];dsimp only;rw [eB hil];simp))
  | exact H.rt (gH (by rw [Oy,<- ho];cases o <;> simp_all))):p:=h
theorem YJ (G:GH) (w0:World) (hG:Hold G w0) (l:List bY) (kind id:Int) (v:ah) (hv:ak G (.sl 6 (l.map bY.dat)) v) :
  Calls prog 181 #[v,vi kind,vi id] w0 (bG w0 G fun u G'=>u=.bool (Oy l kind id)):=by
 obtain ⟨A,c,rfl,hc1,hc2,-⟩:=hv.slice;rw [bS] at *;refine eN [(0,_),(1,_),(2,_)] func181 M ntmps181 M M hG ?_;intro a H;refine kP H (SR fun _ K1=>aj K1 M (SR fun _ K2=>Rm M (Rm M ?_)));clear H K1;intro a H;refine s_call apG H wn M (arZ _ _ H.ro l id _ hv) M ?_;clear H;rintro v12 Df a w rfl DZ H;obtain ⟨o,ho⟩:∃ o,o=Q0 l id:=⟨_,M⟩;rw [<- ho] at H;refine kH H (Rm M ?_);clear H;intro a H;(iterate 2 refine lT H wn M M M ?_;clear H;intro a H);refine kH H (Ra M (aj K2 M (SR fun _ K3=>Rm M (Rm M (Sp 16 M ?_ ?_))))) <;> clear H K2
 ·intro h16 a H
  try have p16:=dT h16
  obtain ⟨i,rfl⟩:=Option.isSome_iff_exists.1 h16
  have hil:i < l.length:=by
   obtain ⟨hi,-⟩:=List.findIdx?_eq_some_iff_getElem.1 ho.symm;exact hi
  rw [show max (oG (some i)) 0=(i:Int) by simp [oG]] at H;obtain ⟨b,o',pA,pc,rfl,hrow,hp,hrep⟩:=Eo (hv.mono DZ) hil;have r1:aH Df b (o'+i*6+1)=some (vi l[i].kind):=hrow 1 _ M;refine kH H (YM h16 M (YM h16 M (YI lJ jf h16 M M (YF xQ h16 M (YR aF h16 M (by assumption) ?_)))));clear H;intro a H;refine kH H (YM h16 M (YC h16 M (Pt h16 M (aj K3 M ?_))));clear H K3;intro a H;refine lr H results181 M ?_
  exact abk
 intro h16 a H
 try have p16:=dF h16
 refine kH H (aP h16 M (aL h16 M (aL h16 M (Pf h16 M (aj K3 M ?_)))));clear H K3;intro a H;refine lr H results181 M ?_
 exact abk
theorem QO:aS 218:=aT func218 M
theorem apD:aS 219:=aT func219 M
theorem J7:dP prog 192 5 5:=⟨V⟩
theorem apF:aS 220:=aT func220 M
theorem aeH:aS 129:=aT func129 M
theorem ak.pre {G:GH} {sz:Nat} {rows:List (List Dat)} {A:Option Addr} {n c:Nat} (h:ak G (.sl sz rows) (.slice A n c)) (k:Nat) (hk:k<=rows.length):ak G (.sl sz (rows.take k)) (.slice A k c):=by
 have h:=h.part 0 k (lg _) hk
 have e:(if c=0 then A else A.map (·.add (0*sz)))=A:=by
  split
  ·rfl
  cases A <;> simp [Addr.add]
 rw [e] at h
 simpa using h
theorem aoe (G:GH) (w0:World) (hG:Hold G w0) (kind:Int):Calls prog 220 #[vi kind] w0 (bG w0 G fun u G'=>u=vi (if kind=1 then 2 else 1)):=by
 refine eN [(0,_)] func220 M ntmps220 M M hG ?_;intro a H;refine kP H (SR fun _ K1=>aj K1 M (SQ fun _ K2=>SR fun _ K3=>Rm M (Rc M (Kz K3 (Cd M ?_ ?_))))) <;> clear H K1 K3
 ·intro h4 a H
  try have p4:=dT h4
  exact kP H (SR fun _ K4=>aj K4 M (LR results220 M fun H=>H.rt (by first|(rw [nk];done)|rw [dK])))
 intro h4 a H
 try have p4:=dF h4
 exact kP H (Kc K2 (SR fun _ K5=>aj K5 M (LR results220 M fun H=>H.rt (by first|(rw [nk];done)|rw [dK]))))
def zV (l:List bY) (k:Nat):Option Int:=if k=0 then none else l[k - 1]?.map bY.id
theorem SS {l:List bY} {k:Nat} (h:k=0):zV l k=none:=aD h
def MJ (k:Int):Bool:=decide (k=20) || decide (k=1)
def yw (q:Option Int) (dup:Bool) (s:bY):Int :=
 if s.id < 1∨1073741824 < s.id then 18 else if q=some s.id then 7 else if FD q s.id=true then 6 else if s.kind≠1∧s.kind≠2 then 3 else if KX s.name=false then 13 else if dup=true then 7
 else if s.props.any (fun p=>MJ p.key)=true then 4 else qU (if s.kind=1 then 2 else 1) s.props
def nY (l:List bY) (k:Nat) (s:bY):Int:=yw (zV l k) (EW (l.take k) s.kind s.name).isSome s
theorem abl {p:Prop} (h:p:=by
 first
  | exact H.rt (cZ vi e0.symm)
  | exact H.rt (cZ vi e4.symm)
  | exact H.rt (cZ vi e7.symm)
  | exact H.rt (cZ vi e13.symm)
  | exact H.rt (cZ vi e3.symm)
  | exact H.rt (cZ vi e6.symm)
  | exact H.rt (cZ vi (by rw [nY,yw,nk]))):p:=h
theorem U7 {p:Prop} (h:p:=by
 exact ⟨O,q1',q2',O,by simpa using kI,fun b o h=>hm63 b o (jS b o (Km b o h))⟩):p:=h
theorem alI {p:Prop} (h:p:=by
 exact ⟨x.props[n],lq hn2,by simp [MJ];omega⟩):p:=h
theorem yK {p:Prop} (h:p:=by
 intro a H;refine lr H results180 M ?_
 exact abl):p:=h
theorem adq {p:Prop} (h:p:=by
 intro kI a H
 try have p60:=dF kI
 refine iE ?_;refine ⟨Ji,by exact H.sub ⟨M,M,M,aB⟩,?_⟩;exact U7):p:=h
theorem abI {p:Prop} (h:p:=by
 rw [nY,yw,dK,av q1',av q2',av q3,av q4,av q5,aD];rw [List.any_eq_true];exact alI):p:=h
theorem acr {p:Prop} (h:p:=by
 refine gN 8 65 M M fun _ a w G1 hG HT H fin=>?_;refine lT H wn M M M ?_;exact jG):p:=h
set_option maxHeartbeats 1000000 in
theorem axk (G:GH) (w0:World) (hG:Hold G w0) (l:List bY) (k:Nat) (v:ah) (hv:ak G (.sl 6 (l.map bY.dat)) v) (hk:k < l.length) (hs:l[k].name.size<=4611686018427387904) :
  Calls prog 180 #[v,vi k] w0 (bG w0 G fun u G'=>u=vi (nY l k l[k])):=by
 obtain ⟨A,c,rfl,hc1,hc2,-⟩:=hv.slice;have hml:maxLen=9223372036854775807:=rfl;rw [bS] at *;obtain ⟨b,o,pA,pc,rfl,hrow,hp,hrep⟩:=Eo hv hk;obtain ⟨x,hx⟩:∃ x,x=l[k]:=⟨_,M⟩;rw [<- hx] at hs hrow hp hrep |-;have hdp:∀ j v,[vi x.id,vi x.kind,.string x.name,vi x.base,vi x.next,.slice pA x.props.length pc][j]?=some v->aH G b (o+k*6+j)=some v:=hrow;obtain ⟨_,_,he0,aCk,aCl,-⟩:=hp.slice
 injection he0 with _ he1 he2
 rw [bS] at *;subst he2
 obtain ⟨pk,hpk⟩:∃ pk,0 < k->aH G b (o+(k - 1)*6+0)=some (vi pk)∧zV l k=some pk:=by
  by_cases h0:0 < k
  ·obtain ⟨b',o',_,_,he,hr',-,-⟩:=Eo hv (show k - 1 < l.length by omega)
   injection he with he
   injection he with e1 e2 e3
   subst e1;subst e2;exact ⟨_,fun _=>⟨hr' 0 _ M,by rw [zV,dK,eB O];rfl⟩⟩
  exact ⟨0,fun h=>absurd h h0⟩
 refine eN [(0,_),(1,_)] func180 M ntmps180 M M hG ?_;intro a H;refine kP H (SR fun _ K1=>aj K1 M (SR fun _ K2=>Rm M (Rm M (Ri lJ jf M M ?_))));clear H K1;intro a H;refine aU jf (cs:=[_,_,_,_,_,_]) H wn M M (fun j v hj=>H.hp.aH (hrow j v hj)) M ?_;clear H;intro a H;refine dJ jf H wn M ?_;clear H;intro b5 a w hb5 H;refine bC jf 0 (vs:=[_,_,_,_,_,_]) H wn M ?_;clear H;intro w H;refine K2 _ _ ?_;clear K2;refine uj (ι:=GH) (Tc:=[(0,_),(1,_),(5,_)]) (Lc:=[(_,_)]) (fun gh=>[]) (fun gh=>[]) (fun gh=>gh) (fun gh=>¬ (x.id < 1∨1073741824 < x.id)∧¬ zV l k=some x.id∧¬ FD (zV l k) x.id=true∧¬ (x.kind≠1∧x.kind≠2)∧¬ KX x.name=false∧(∀ b o,G b=some o->gh b=some o)) (by exact H.sub ⟨M,M,M,aB⟩) ?_ ?_
 ·skip;refine kP H (SB (SR fun _ K3=>bQ vV aF 0 M M (Rc M (Rm M (Sp 18 M ?_ ?_))))) <;> clear H
  ·intro h18 a H
   try have tN:=dT h18
   refine kH H (aP h18 M (Pt h18 M (aj K3 M (Ct M M (SR fun _ K4=>aj K4 M ?_)))));clear H K3 K4;exact yK
  intro h18 a H
  try have tN:=dF h18
  refine kH H (YF vV h18 M (YO aF 0 h18 M (YC h18 M (Pf h18 M (aj K3 M (Cd M ?_ ?_)))))) <;> clear H K3
  ·intro eO a H
   try have lS:=dT eO
   refine kP H (SR fun _ K5=>aj K5 M ?_);clear H K5;exact yK
  intro eO a H
  try have lS:=dF eO
  refine bO (fun _ K6=>?_)
  by_cases c0:0 < (k:Int)
  ·skip
   by_cases c1:x.id=pk
   ·skip;refine dI hmx [[],[0],[0,1],[0,1,2],ra 0 4,[0,1,2],[0,1,2],[0,1,2,6],[0,1,2,5,6,7],[0,1,2,5,6,7,8],[0,1,2,5,6,7,8,9],ra 0 11,ra 0 12,ra 0 13] [13] V [_,_,_,_,vi x.id,_,_,vi ((k - 1:Nat):Int),_,_,_,_,_] H (ay (Z0 M (Rm M)) (Z1 0 24 M (Rc M)) (Z1 1 25 M (Rm M)) (Z1 2 26 M (YF vV (aI c0) M)) (ay (Z2 3 27 2 26 M (YO aF 0 (aI c0) M)) (Z1 2 26 M (YM (aI c0) M)) (Z1 2 26 M (YM (aI c0) M)) ?_ (ay (Z3 5 29 7 31 2 26 M (YI lJ jf (aI c0) M M)) (Z2 8 32 2 26 M (YF vV (aI c0) M)) (X2 9 33 2 26 M fun hG=>YR aF (aI c0) M (aC hG (hpk O).1)) (Z3 4 28 10 34 2 26 M (YC (aI c0) M)) (bN (Z2 2 26 11 35 M (Pt (aI c0) M)) (bN (bT M) dB))))) ?_
    ·refine eT 6 30 2 26 M M fun _ a w G1 hG HT H fin=>?_;exact zI
    clear H;intro a w G Km H hv;have H:=H.aN (hv 12 36 M M) M;clear hv;refine kH H (Ra M ?_);clear H;intro a H;refine aG ⟨M,?_⟩;refine K6 _ _ ?_;clear K6;refine Cc H M (aI c1) ?_;refine bO (fun _ K7=>?_)
    have e7:nY l k x=7:=by rw [nY,yw,dK,aD (by rw [(hpk O).2,c1])]
    refine kP H (SC (bD K7 M ?_));clear H K7;exact yK
   skip;refine dI hmx [[],[0],[0,1],[0,1,2],ra 0 4,[0,1,2],[0,1,2],[0,1,2,6],[0,1,2,5,6,7],[0,1,2,5,6,7,8],[0,1,2,5,6,7,8,9],ra 0 11,ra 0 12,ra 0 13] [13] V [_,_,_,_,vi x.id,_,_,vi ((k - 1:Nat):Int),_,_,_,_,_] H (ay (Z0 M (Rm M)) (Z1 0 24 M (Rc M)) (Z1 1 25 M (Rm M)) (Z1 2 26 M (YF vV (aI c0) M)) (ay (Z2 3 27 2 26 M (YO aF 0 (aI c0) M)) (Z1 2 26 M (YM (aI c0) M)) (Z1 2 26 M (YM (aI c0) M)) ?_ (ay (Z3 5 29 7 31 2 26 M (YI lJ jf (aI c0) M M)) (Z2 8 32 2 26 M (YF vV (aI c0) M)) (X2 9 33 2 26 M fun hG=>YR aF (aI c0) M (aC hG (hpk O).1)) (Z3 4 28 10 34 2 26 M (YC (aI c0) M)) (bN (Z2 2 26 11 35 M (Pt (aI c0) M)) (bN (bT M) dB))))) ?_
   ·refine eT 6 30 2 26 M M fun _ a w G1 hG HT H fin=>?_;exact zI
   clear H;intro a w G Km H hv;have H:=H.aN (hv 12 36 M M) M;clear hv;refine kH H (Ra M ?_);clear H;intro a H;refine aG ⟨M,?_⟩;refine K6 _ _ ?_;clear K6;refine sQ H M (aY c1) ?_;refine bO (fun _ K8=>?_)
   have q1:¬ (0 < (k:Int)∧x.id=pk):=by first|exact fun h=>c1 h.2|exact fun h=>c0 h.1
   have q1':¬ zV l k=some x.id:=fun h=>q1 (by
    by_cases h0:0 < k
    ·exact Qt
    rw [SS O] at h
    cases h)
   by_cases c3:x.id < pk
   ·skip;refine dI hmx [[],[0],[0,1],[0,1,2],ra 0 4,[0,1,2],[0,1,2],[0,1,2,6],[0,1,2,5,6,7],[0,1,2,5,6,7,8],[0,1,2,5,6,7,8,9],ra 0 11,ra 0 12,ra 0 13] [13] V [_,_,_,_,vi x.id,_,_,vi ((k - 1:Nat):Int),_,_,_,_,_] H (ay (Z0 M (Rm M)) (Z1 0 38 M (Rc M)) (Z1 1 39 M (Rm M)) (Z1 2 40 M (YF vV (aI c0) M)) (ay (Z2 3 41 2 40 M (YO aF 0 (aI c0) M)) (Z1 2 40 M (YM (aI c0) M)) (Z1 2 40 M (YM (aI c0) M)) ?_ (ay (Z3 5 43 7 45 2 40 M (YI lJ jf (aI c0) M M)) (Z2 8 46 2 40 M (YF vV (aI c0) M)) (X2 9 47 2 40 M fun hG=>YR aF (aI c0) M (aC hG (aC Km (hpk O).1))) (Z3 4 42 10 48 2 40 M (YC (aI c0) M)) (bN (Z2 2 40 11 49 M (Pt (aI c0) M)) (bN (bT M) dB))))) ?_
    ·refine eT 6 44 2 40 M M fun _ a w G1 hG HT H fin=>?_;exact zI
    clear H;intro a w G jS H hv;have H:=H.aN (hv 12 50 M M) M;clear hv;refine kH H (Ra M ?_);clear H;intro a H;refine aG ⟨M,?_⟩;refine K8 _ _ ?_;clear K8;refine Cc H M (aI c3) ?_;refine bO (fun _ K9=>?_)
    have e6:nY l k x=6:=by rw [nY,yw,dK,av q1',aD (by rw [(hpk O).2];exact aI c3)]
    refine kP H (SC (bD K9 M ?_));clear H K9;exact yK
   skip;refine dI hmx [[],[0],[0,1],[0,1,2],ra 0 4,[0,1,2],[0,1,2],[0,1,2,6],[0,1,2,5,6,7],[0,1,2,5,6,7,8],[0,1,2,5,6,7,8,9],ra 0 11,ra 0 12,ra 0 13] [13] V [_,_,_,_,vi x.id,_,_,vi ((k - 1:Nat):Int),_,_,_,_,_] H (ay (Z0 M (Rm M)) (Z1 0 38 M (Rc M)) (Z1 1 39 M (Rm M)) (Z1 2 40 M (YF vV (aI c0) M)) (ay (Z2 3 41 2 40 M (YO aF 0 (aI c0) M)) (Z1 2 40 M (YM (aI c0) M)) (Z1 2 40 M (YM (aI c0) M)) ?_ (ay (Z3 5 43 7 45 2 40 M (YI lJ jf (aI c0) M M)) (Z2 8 46 2 40 M (YF vV (aI c0) M)) (X2 9 47 2 40 M fun hG=>YR aF (aI c0) M (aC hG (aC Km (hpk O).1))) (Z3 4 42 10 48 2 40 M (YC (aI c0) M)) (bN (Z2 2 40 11 49 M (Pt (aI c0) M)) (bN (bT M) dB))))) ?_
   ·refine eT 6 44 2 40 M M fun _ a w G1 hG HT H fin=>?_;exact zI
   clear H;intro a w G jS H hv;have H:=H.aN (hv 12 50 M M) M;clear hv;refine kH H (Ra M ?_);clear H;intro a H;refine aG ⟨M,?_⟩;refine K8 _ _ ?_;clear K8;refine sQ H M (aY c3) ?_;refine bO (fun _ aR=>?_)
   have q2:¬ (0 < (k:Int)∧x.id < pk):=by first|exact fun h=>c3 h.2|exact fun h=>c0 h.1
   have q2':¬ FD (zV l k) x.id=true:=fun h=>q2 (by
    by_cases h0:0 < k
    ·exact Qk
    rw [SS O] at h
    cases h)
   refine kP H (SC (bQ xQ aF 0 M M (Rc M (Rm M (Sp 55 M ?_ ?_))))) <;> clear H
   ·intro qx a H
    try have p55:=dT qx
    refine kH H (YF xQ qx M (YO aF 0 qx M (YC qx M (Pt qx M (bD aR M (Cd M ?_ ?_)))))) <;> clear H aR
    ·intro mg a H
     try have p51:=dT mg
     refine bO (fun _ bq=>?_)
     have e3:nY l k x=3:=by rw [nY,yw,dK,av q1',av q2',nk]
     refine kP H (SC (bD bq M ?_));clear H bq;exact yK
    intro mg a H
    try have p51:=dF mg
    refine kP H (SR fun _ bP=>bQ ER iP 0 M M ?_);clear H;intro a H;refine s_call QO H wn M (Sb _ _ H.ro x.name hs) M ?_;clear H;rintro v63 Ji a w rfl hm63 H;refine kH H (Rn M (aj bP M (Cd M ?_ ?_))) <;> clear H bP
    ·intro kI a H
     try have p60:=dT kI
     refine bO (fun _ bU=>?_)
     have e13:nY l k x=13:=by rw [nY,yw,dK,av q1',av q2',dK,aD (by simpa using kI)]
     refine kP H (SC (bD bU M ?_));clear H bU;exact yK
    exact adq
   intro qx a H
   try have p55:=dF qx
   refine kH H (aP qx M (Pf qx M (bD aR M (Cf M M (SR fun _ dh=>bQ ER iP 0 M M ?_)))));clear H aR;intro a H;refine s_call QO H wn M (Sb _ _ H.ro x.name hs) M ?_;clear H;rintro v63 Ji a w rfl hm63 H;refine kH H (Rn M (aj dh M (Cd M ?_ ?_))) <;> clear H dh
   ·intro kI a H
    try have p60:=dT kI
    refine bO (fun _ dZ=>?_)
    have e13:nY l k x=13:=by rw [nY,yw,dK,av q1',av q2',dK,aD (by simpa using kI)]
    refine kP H (SC (bD dZ M ?_));clear H dZ;exact yK
   intro kI a H
   try have p60:=dF kI
   refine iE ?_;refine ⟨Ji,by exact H.sub ⟨M,M,M,aB⟩,?_⟩;exact U7
  skip;refine dI hmx [[],[0],[0,1],[0,1,2],ra 0 4,[0,1,2],[0,1,2],[0,1,2,6],[0,1,2,5,6,7],[0,1,2,5,6,7,8],[0,1,2,5,6,7,8,9],ra 0 11,ra 0 12,ra 0 13] [13] V [_,_,_,undef,undef,undef,undef,undef,undef,undef,undef,undef,_] H (ay (Z0 M (Rm M)) (Z1 0 24 M (Rc M)) (Z1 1 25 M (Rm M)) (aZ 2 (aY c0) M M) (ay (aZ 2 (aY c0) M M) (aZ 2 (aY c0) M M) (aZ 2 (aY c0) M M) (aZ 2 (aY c0) M M) (ay (aZ 2 (aY c0) M M) (aZ 2 (aY c0) M M) (aZ 2 (aY c0) M M) (aZ 2 (aY c0) M M) (bN (Z2 2 26 11 35 M (Pf (aY c0) M)) (bN (bT M) dB))))) ?_
  clear H;intro a w G Km H hv;have H:=H.aN (hv 12 36 M M) M;clear hv;refine kH H (Ra M ?_);clear H;intro a H;refine aG ⟨M,?_⟩;refine K6 _ _ ?_;clear K6;refine sQ H M M ?_;refine bO (fun _ eu=>?_)
  have q1:¬ (0 < (k:Int)∧x.id=pk):=by first|exact fun h=>c1 h.2|exact fun h=>c0 h.1
  have q1':¬ zV l k=some x.id:=fun h=>q1 (by
   by_cases h0:0 < k
   ·exact Qt
   rw [SS O] at h
   cases h)
  refine dI hmx [[],[0],[0,1],[0,1,2],ra 0 4,[0,1,2],[0,1,2],[0,1,2,6],[0,1,2,5,6,7],[0,1,2,5,6,7,8],[0,1,2,5,6,7,8,9],ra 0 11,ra 0 12,ra 0 13] [13] V [_,_,_,undef,undef,undef,undef,undef,undef,undef,undef,undef,_] H (ay (Z0 M (Rm M)) (Z1 0 38 M (Rc M)) (Z1 1 39 M (Rm M)) (aZ 2 (aY c0) M M) (ay (aZ 2 (aY c0) M M) (aZ 2 (aY c0) M M) (aZ 2 (aY c0) M M) (aZ 2 (aY c0) M M) (ay (aZ 2 (aY c0) M M) (aZ 2 (aY c0) M M) (aZ 2 (aY c0) M M) (aZ 2 (aY c0) M M) (bN (Z2 2 40 11 49 M (Pf (aY c0) M)) (bN (bT M) dB))))) ?_
  clear H;intro a w G jS H hv;have H:=H.aN (hv 12 50 M M) M;clear hv;refine kH H (Ra M ?_);clear H;intro a H;refine aG ⟨M,?_⟩;refine eu _ _ ?_;clear eu;refine sQ H M M ?_;refine bO (fun _ dS=>?_)
  have q2:¬ (0 < (k:Int)∧x.id < pk):=by first|exact fun h=>c3 h.2|exact fun h=>c0 h.1
  have q2':¬ FD (zV l k) x.id=true:=fun h=>q2 (by
   by_cases h0:0 < k
   ·exact Qk
   rw [SS O] at h
   cases h)
  refine kP H (SC (bQ xQ aF 0 M M (Rc M (Rm M (Sp 55 M ?_ ?_))))) <;> clear H
  ·intro qx a H
   try have p55:=dT qx
   refine kH H (YF xQ qx M (YO aF 0 qx M (YC qx M (Pt qx M (bD dS M (Cd M ?_ ?_)))))) <;> clear H dS
   ·intro mg a H
    try have p51:=dT mg
    refine bO (fun _ eY=>?_)
    have e3:nY l k x=3:=by rw [nY,yw,dK,av q1',av q2',nk]
    refine kP H (SC (bD eY M ?_));clear H eY;exact yK
   intro mg a H
   try have p51:=dF mg
   refine kP H (SR fun _ gU=>bQ ER iP 0 M M ?_);clear H;intro a H;refine s_call QO H wn M (Sb _ _ H.ro x.name hs) M ?_;clear H;rintro v63 Ji a w rfl hm63 H;refine kH H (Rn M (aj gU M (Cd M ?_ ?_))) <;> clear H gU
   ·intro kI a H
    try have p60:=dT kI
    refine bO (fun _ fJ=>?_)
    have e13:nY l k x=13:=by rw [nY,yw,dK,av q1',av q2',dK,aD (by simpa using kI)]
    refine kP H (SC (bD fJ M ?_));clear H fJ;exact yK
   exact adq
  intro qx a H
  try have p55:=dF qx
  refine kH H (aP qx M (Pf qx M (bD dS M (Cf M M (SR fun _ iD=>bQ ER iP 0 M M ?_)))));clear H dS;intro a H;refine s_call QO H wn M (Sb _ _ H.ro x.name hs) M ?_;clear H;rintro v63 Ji a w rfl hm63 H;refine kH H (Rn M (aj iD M (Cd M ?_ ?_))) <;> clear H iD
  ·intro kI a H
   try have p60:=dT kI
   refine bO (fun _ jL=>?_)
   have e13:nY l k x=13:=by rw [nY,yw,dK,av q1',av q2',dK,aD (by simpa using kI)]
   refine kP H (SC (bD jL M ?_));clear H jL;exact yK
  intro kI a H
  try have p60:=dF kI
  refine iE ?_;refine ⟨Ji,by exact H.sub ⟨M,M,M,aB⟩,?_⟩;exact U7
 clear H;intro g a w hI H;obtain ⟨q0,q1',q2',q3,q4,hgm⟩:=hI;dsimp only [lca,bM] at H;refine bO (fun _ mM=>?_);refine bO (fun _ mH=>?_);have aho:=(hv.mono hgm).pre k (by rw [bS];omega);rw [<- List.map_take] at aho;have auA:=hp.mono hgm;refine dI hmx [[],[],[0,1],[],[3],[],[5],ra 0 7,ra 0 8,ra 0 9,ra 0 9,ra 0 10,ra 0 12] [12] V [_,_,.slice (some ⟨b,o,none⟩) k c,_,vi x.kind,_,.string x.name,.tuple #[vi (max (oG (EW (l.take k) x.kind x.name)) 0),.bool (EW (l.take k) x.kind x.name).isSome],_,vi (max (oG (EW (l.take k) x.kind x.name)) 0),.bool (EW (l.take k) x.kind x.name).isSome,_] H (ay (Z0 M (Rm M)) (Z0 M (Rm M)) ?_ (Z0 M (Rf xQ M)) (ay (Z1 3 69 M (Ro aF 0 M)) (Z0 M (Rf ER M)) (Z1 5 71 M (Ro iP 0 M)) ?_ (ay (Z1 7 73 M (Rm M)) ?_ ?_ (Z1 9 74 M (Ra M)) (bN (bT M) dB)))) ?_
 ·refine eT 0 66 1 67 M M fun _ a w G1 hG HT H fin=>?_;refine IY lJ jf k H wn M M M O M ?_;exact jG
 ·refine Dj 2 68 4 70 6 72 M M fun _ a w G1 hG HT H fin=>?_;refine s_call apD H wn M (arY _ _ H.ro (l.take k) x.kind x.name _ (aho.mono hG)) M ?_;clear H;rintro v73 G73 a w rfl asW H;exact fin H asW (rfl)
 ·exact acr
 ·exact acr
 clear H;intro a w G oQ H hv;have H:=H.aN (hv 10 75 M M) M;clear hv;refine kH H (Ra M ?_);clear H;intro a H;refine aG ⟨M,?_⟩;refine mH _ _ ?_;clear mH;refine kP H (SR fun _ kX=>Rm M (Kz kX (Cd M ?_ ?_))) <;> clear H kX
 ·intro DK a H
  try have Zp:=dT DK
  refine bO (fun _ ou=>?_)
  have e7:nY l k x=7:=by rw [nY,yw,dK,av q1',av q2',av q3,av q4,aD DK]
  refine kP H (SC (bD ou M ?_));clear H ou;exact yK
 intro DK a H
 try have Zp:=dF DK
 refine kP H (Kc mM (SQ fun _ ow=>SQ fun _ kY=>?_));clear H mM;intro a H
 have q5:¬ (EW (l.take k) x.kind x.name).isSome=true:=by simpa using DK
 have Bf:=auA.mono oQ;refine kP H (SC (bQ J7 tO 0 M M (Rl gV M (Rm M (Kn kY (SB ?_))))));clear H kY;intro a H;skip;refine eX (ι:=Nat) (Tc:=[(5,_),(78,_),(79,_)]) (Lc:=[(_,_)]) (fun gh=>[(80,vi gh)]) (fun gh=>[]) (fun gh=>G) (fun gh=>gh<=x.props.length∧(x.props.take gh).any (fun p=>MJ p.key)=false) (fun gh=>x.props.length - gh) (0) (by exact H.sub ⟨M,M,M,M,aB⟩) ?_ ?_
 ·exact JC
 clear H;intro n a w hI H;obtain ⟨hn,hno⟩:=hI;dsimp only [lca,bM] at H;refine kP H (SR fun _ qj=>Rc M (Kz qj (SQ fun _ qB=>Cd M ?_ ?_))) <;> clear H qj
 ·intro Cq a H
  try have p81:=dT Cq
  have hn2:n < x.props.length:=by omega
  obtain ⟨pb,po,rfl,hrow2⟩:=IU Bf hn2;have hrow:=hrow2;refine kP H (Kc qB (SQ fun _ qO=>SB (SR fun _ rO=>Ri gV iA M M ?_)));clear H qB;intro a H;refine aU iA (cs:=[_,_]) H wn M M (fun j v hj=>H.hp.aH (hrow j v hj)) M ?_;clear H;intro a H;refine dJ iA H wn M ?_;clear H;intro b9 a w uz H;refine bC iA 0 (vs:=[_,_]) H wn M ?_;clear H;intro w H;refine rO _ _ ?_;clear rO;refine kP H (SR fun _ qP=>bQ xP aF 0 M M (Rc M (Rm M (Sp 87 M ?_ ?_)))) <;> clear H
  ·intro h87 a H
   try have Zr:=dT h87
   refine kH H (aP h87 M (Pt h87 M (Kz qP (Ct M M (SQ fun _ rP=>?_)))));clear H qP;intro a H
   have e4:nY l k x=4:=by
    exact abI
   refine kP H (SC (bD rP M ?_));clear H rP;exact yK
  intro h87 a H
  try have Zr:=dF h87
  refine kH H (YF xP h87 M (YO aF 0 h87 M (YC h87 M (Pf h87 M (Kz qP (Cd M ?_ ?_)))))) <;> clear H qP
  ·intro Xr a H
   try have p91:=dT Xr
   refine bO (fun _ vK=>?_)
   have e4:nY l k x=4:=by
    exact abI
   refine kP H (SC (bD vK M ?_));clear H vK;exact yK
  intro Xr a H
  try have p91:=dF Xr
  refine kP H (Kc qO (SC (Rd M (Rm M ?_))));clear H qO;intro a H;refine aG ?_;refine dY ((n+1)) (by exact (H.fH (Pl:=[_,_]) (eD:=[_]) [1] Z M).sub ⟨M,M,M,M,aB⟩) ?_
  exact ⟨O,by rw [kG hn2,List.any_append,hno];simp [MJ];omega⟩
 intro Cq a H
 try have p81:=dF Cq
 refine dQ ?_;refine ow _ _ ?_;clear ow;refine bO (fun _ sM=>?_)
 have q6:¬ x.props.any (fun p=>MJ p.key)=true:=by
  rw [show x.props.take n=x.props from jF O] at hno;rw [hno];decide
 have e0:nY l k x=qU (if x.kind=1 then 2 else 1) x.props:=by rw [nY,yw,dK,av q1',av q2',av q3,av q4,av q5,av q6]
 refine dI hmx [[],[0],[0,1],[],[3],ra 0 5,ra 0 6] [5,6] V [_,vi x.kind,vi (if x.kind=1 then 2 else 1),_,.slice pA x.props.length pc] H (ay (Z0 M (Rf xQ M)) (Z1 0 93 M (Ro aF 0 M)) ?_ (Z0 M (Rf J7 M)) (bN (Z1 3 96 M (Ro tO 0 M)) (bN (bT M) (bN (bT M) dB)))) ?_
 ·refine gN 1 94 M M fun _ a w G1 hG HT H fin=>?_;refine s_call apF H wn M (aoe _ _ H.ro x.kind) M ?_;clear H;rintro v95 G95 a w rfl asZ H;exact fin H asZ (rfl)
 clear H;intro a w G E9 H hv;have H:=H.aN (hv 2 95 M M) M;have H:=H.aN (hv 4 97 M M) M;clear hv;refine s_call aeH H wn M (aiH _ _ H.ro _ x.props _ (Bf.mono E9)) M ?_;clear H;rintro v98 G98 a w rfl aCj H;refine kH H (Ra M ?_);clear H;intro a H;refine aG ⟨M,?_⟩;refine sM _ _ ?_;clear sM;refine lr H results180 M ?_
 exact abl
theorem C9:Ty prog 33 1 24 [.slice none 0 0] false:=⟨V,V⟩
theorem vE:prog.underlying 33=some (.slice 107):=by kernel_rfl
theorem wZ:Ty prog 107 6 64 [.int .i64 0,.int .i64 0,.string ⟨#[]⟩,.int .i64 0,.string ⟨#[]⟩,.bool false] true:=⟨V,V⟩
theorem afn:dP prog 107 0 0:=⟨V⟩
theorem afo:dP prog 107 1 1:=⟨V⟩
theorem apI:aS 224:=aT func224 M
theorem apo:aS 187:=aT func187 M
theorem arG:dP prog 107 2 2:=⟨V⟩
theorem aeG:aS 127:=aT func127 M
theorem arH:dP prog 107 3 3:=⟨V⟩
theorem arI:dP prog 107 4 4:=⟨V⟩
theorem aeO:aS 190:=aT func190 M
theorem apr:aS 189:=aT func189 M
theorem apq:aS 188:=aT func188 M
theorem apn:aS 186:=aT func186 M
theorem Iu {G:GH} {b:Nat} (l:List Int) (h:G b=some (.cells (l.map vi).toArray 49 (0,0))) (hl:l.length<=maxLen):ak G (.sl 1 (l.map fun k=>[li k])) (.slice (some ⟨b,0,none⟩) l.length l.length) :=
 ak.wz h (by simp) (eG _) hl (jF (by simp)) (Eb G l)
theorem V7 {G:GH} {l:List gF} {A:Option Addr} {n c k:Nat} (hv:ak G (.sl 6 (l.map gF.dat)) (.slice A n c)) (hk:k < l.length):∃ b o,A=some ⟨b,o,none⟩∧(∀ j u,l[k].cells[j]?=some u->aH G b (o+k*6+j)=some u)∧bB G l[k].dat l[k].cells:=by
 obtain ⟨A',c',he,_,_,hg⟩:=hv.slice
 injection he with e1 e2 e3
 subst e1;obtain ⟨b,o,cs,h1,h2,h3,h4⟩:=hg k l[k].dat (by simp [hk]);have:=QD h4;subst this;exact ⟨b,o,h1,h3,h4⟩
theorem anB {G:GH} {bl:Nat} {l:List gF} {A:Option Addr} {n c:Nat} (hb:aH G bl 0=some (.slice A n c)) (hv:ak G (.sl 6 (l.map gF.dat)) (.slice A n c)):vJ (.func (.func 189) #[] #[(aK bl 0)]) G l.length fun k=>(l[k]?.map gF.id).getD 0:=by
 intro k hk G1 w0 hm hG;refine jy (caps:=[(aK bl 0)]) apr ?_;replace hb:=aC hm hb
 obtain rfl:n=l.length:=by have:=hv.len;simpa using this
 obtain ⟨b,o,rfl,hrow,-⟩:=V7 (hv.mono hm) hk;have hq:=hrow 0 _ M;refine eN [(0,_),(1,_)] func189 M ntmps189 M M hG ?_;intro a H;refine kP H (SR fun _ K1=>aj K1 M (SR fun _ K2=>Rg C9 M (by assumption) ?_));clear H K1;intro a H;refine kH H (Rm M (Ri vE wZ M M (Rf afn M (Rg aF M (by assumption) ?_))));clear H;intro a H;exact kH H (aj K2 M (LR results189 M fun H=>H.rt (by dsimp only;rw [eB hk];rfl)))
theorem anC {G:GH} {bc:Nat} {x:gF} (hb:aH G bc 1=some (vi x.parent)) (y:gF):uM (.func (.func 188) #[] #[(aK bc 0)]) G y.dat (decide (y.id=x.parent)):=by
 intro G1 w0 cs hm hG hr;refine jy (caps:=[(aK bc 0)]) apq ?_;obtain rfl:=QD hr;replace hb:=aC hm hb;refine eN [(0,_),(1,_)] func188 M ntmps188 M M hG ?_;intro a H;refine dz (fun _ K1=>?_);refine dR (cs:=[_,_,_,_,_,_]) H wn M M M ?_;clear H;intro b2 a w hb2 H;refine kH H (aj K1 M (SR fun _ K2=>bQ afn aF 0 M M (Rf afo M (Rg aF M (by assumption) ?_))));clear H K1;intro a H;exact kH H (Rc M (aj K2 M (LR results188 M fun H=>H.rt M)))
theorem avy (G:GH) (w0:World) (hG:Hold G w0) (l:List gF) (p:gF->Bool) (v fv:ah) (hv:ak G (.sl 6 (l.map gF.dat)) v) (hf:∀ x∈l,uM fv G x.dat (p x)) :
  Calls prog 224 #[v,fv] w0 (bG w0 G fun u G'=>u=vi (oG (l.findIdx? p))):=by
 obtain ⟨A,c,rfl,hc1,hc2,hg⟩:=hv.slice;have hml:maxLen=9223372036854775807:=rfl;rw [bS] at *;refine eN [(0,_),(1,_)] func224 M ntmps224 M M hG ?_;intro a H;refine kP H (SR fun _ K1=>aj K1 M (SQ fun _ K2=>SR fun _ K3=>Rm M (Rl vE M (Rm M (Kz K3 (SB ?_))))));clear H K1 K3;intro a H;skip;refine eX (ι:=Nat × GH) (Tc:=[(0,_),(1,_),(7,_)]) (Lc:=[]) (fun gh=>[(8,vi gh.1)]) (fun gh=>[]) (fun gh=>gh.2) (fun gh=>gh.1<=l.length∧(l.take gh.1).findIdx? p=none∧(∀ b o,G b=some o->gh.2 b=some o)) (fun gh=>l.length - gh.1) ((0,G)) (by exact H.sub ⟨M,M,M,M,aB⟩) ?_ ?_
 ·exact rU
 clear H;rintro ⟨k,g⟩ a w hI H;dsimp only at hI H;obtain ⟨hk,hno,hgm⟩:=hI;dsimp only [lca,bM] at H;refine kP H (SR fun _ K4=>Rc M (Kz K4 (SQ fun _ K5=>Cd M ?_ ?_))) <;> clear H K4
 ·intro h9 a H
  try have p9:=dT h9
  have hk2:k < l.length:=by omega
  obtain ⟨b,o,rfl,hrow,hrep⟩:=V7 hv hk2;refine kP H (Kc K5 (SQ fun _ K6=>SB (SR fun _ K7=>Rm M (aj K7 M (SR fun _ K8=>Rm M (Rm M (Rm M (Ri vE wZ M M ?_))))))));clear H K5 K7;intro a H;refine aU wZ (cs:=l[k].cells) H wn M M (fun j v hj=>H.hp.aH (aC hgm (hrow j v hj))) M ?_;clear H;intro a H;refine jO H wn M M (hf _ (lq hk2) _ _ _ hgm H.ro (hrep.mono hgm)) M ?_;clear H;rintro v16 tX a w rfl nL H;refine K8 _ _ ?_;clear K8;refine jw H M ?_ ?_
  ·intro h16
   try have p16:=dT h16
   refine kP H (SR fun _ K9=>Rm M (aj K9 M ?_));clear H K9;intro a H;refine lr H results224 M ?_
   exact xJ
  exact JM
 intro h9 a H
 try have p9:=dF h9
 refine dQ ?_;refine K2 _ _ ?_;clear K2;refine kP H (SR fun _ aR=>aj aR M ?_);clear H aR;intro a H;refine lr H results224 M ?_
 exact xJ
theorem anF (G:GH) (w0:World) (hG:Hold G w0) (l:List gF) (p:gF->Bool) (v fv:ah) (hv:ak G (.sl 6 (l.map gF.dat)) v) (hf:∀ x∈l,uM fv G x.dat (p x)) :
  Calls prog 187 #[v,fv] w0 (bG w0 G fun u G'=>u=.bool (l.findIdx? p).isSome):=by
 obtain ⟨A,c,rfl,hc1,hc2,-⟩:=hv.slice;rw [bS] at *;refine eN [(0,_),(1,_)] func187 M ntmps187 M M hG ?_;intro a H;refine kP H (SR fun _ K1=>aj K1 M (SR fun _ K2=>Rm M (Rm M ?_)));clear H K1;intro a H;refine s_call apI H wn M (avy _ _ H.ro l p _ _ hv hf) M ?_;clear H;rintro v7 G7 a w rfl uG H;exact kH H (Rc M (aj K2 M (LR results187 M fun H=>H.rt (gH (YK _)))))
def JB (l:List gF) (i:Nat) (x:gF):Bool:=decide (x.parent=0) || ((l.take i).findIdx? fun y=>decide (y.id=x.parent)).isSome
def V6 (l:List gF) (i:Nat) (x:gF):Int:=dO [wV (fun k=>(l[k]?.map gF.id).getD 0) i,dL (!JB l i x) 8,dL (!xH x.author) 39,dL (!decide (0<=x.time∧x.time<=1099511627776)) 40,Er x.text]
def JV (l:List gF) (i:Nat):Int:=match l[i]? with|some x=>V6 l i x|none=>0
theorem anA {G:GH} {bl:Nat} {l:List gF} {A:Option Addr} {n c:Nat} (hb:aH G bl 0=some (.slice A n c)) (hv:ak G (.sl 6 (l.map gF.dat)) (.slice A n c)) (hl:l.length<=4294967296) (ht:∀ x∈l,x.author.size < 4611686018427387904∧x.text.size < 4611686018427387904):vJ (.func (.func 186) #[] #[(aK bl 0)]) G l.length (JV l):=by
 intro k hk G1 w0 hm hG;refine jy (caps:=[(aK bl 0)]) apn ?_;replace hb:=aC hm hb;replace hv:=hv.mono hm;have hcb:=anB hb hv;obtain ⟨_,_,hee,hvc,-,-⟩:=hv.slice
 injection hee with _ _ hcc
 subst hcc;rw [bS] at hvc
 obtain rfl:n=l.length:=by have:=hv.len;simpa using this
 obtain ⟨b,o,rfl,hrow,hrep⟩:=V7 hv hk;have hte:=ht _ (lq hk);obtain ⟨x,hx⟩:∃ x,x=l[k]:=⟨_,M⟩;rw [<- hx] at hrow hte
 have he:JV l k=V6 l k x:=by unfold JV;rw [eB hk,hx]
 refine eN [(0,_),(1,_)] func186 M ntmps186 M M hG ?_;intro a H;refine kP H (SR fun _ K1=>aj K1 M (SR fun _ K2=>Rg C9 M (by assumption) ?_));clear H K1;intro a H;refine kH H (Rm M (Ri vE wZ M M ?_));clear H;intro a H;refine aU wZ (cs:=x.cells) H wn M M (fun j v hj=>H.hp.aH (hrow j v hj)) M ?_;clear H;intro a H;refine dJ wZ H wn M ?_;clear H;intro b4 a w hb4 H;refine bC wZ 0 (vs:=[_,_,_,_,_,_]) H wn M ?_;clear H;intro w H;obtain ⟨Ga,hma,AV,H⟩:=H.fF
 have hcell:∀ (j:Nat) (u:ah),x.cells[j]?=some u->aH Ga b4 j=some u:=fun j u hj=>by unfold aH;rw [AV];simpa using hj
 have q1:=hcell 1 _ M;have hbA:=aC hma hb;have R4:=(hv.mono hma).pre k (by rw [bS];omega);rw [<- List.map_take] at R4;refine K2 _ _ ?_;clear K2;refine uj (ι:=Bool × GH) (Tc:=[(0,_),(1,_),(4,_)]) (Lc:=[]) (fun gh=>[(5,.bool gh.1)]) (fun gh=>[]) (fun gh=>gh.2) (fun gh=>gh.1=JB l k x∧(∀ b o,Ga b=some o->gh.2 b=some o)) (by exact H.sub ⟨M,M,M,aB⟩) ?_ ?_
 ·skip;refine kP H (SC (Rf afo M (Rg aF M (by assumption) ?_)));clear H;intro a H;refine kH H (Rc M (Rm M (Sp 13 M ?_ ?_))) <;> clear H
  ·intro fT a H
   try have qL:=dT fT
   refine kH H (aP fT M (aL fT M (Pt fT M (Ra M ?_))));clear H;intro a H;refine aG ?_;refine ⟨(_,_),by exact H.sub ⟨M,M,M,M,aB⟩,?_⟩;(try dsimp only)
   first
   | exact ⟨by unfold JB;rw [mP (by assumption)];rfl,fun _ _ h=>h⟩
   | exact ⟨by unfold JB;rw [mY (by assumption)];rfl,hm18⟩
  intro fT a H
  try have qL:=dF fT
  refine kH H (YR C9 fT M (by assumption) ?_);clear H;intro a H;refine kH H (YM fT M ?_);clear H;intro a H;refine IY vE wZ k H (wg H M M fT) M M M O M ?_;clear H;intro a H;refine uJ H (wg H M M fT) M M ?_;clear H;intro a H;refine s_call apo H (wg H M M fT) M (anF _ _ H.ro (l.take k) (fun y=>decide (y.id=x.parent)) _ _ R4 (fun y _=>anC q1 y)) M ?_;clear H;rintro v18 G18 a w rfl hm18 H;refine kH H (Pf fT M (Ra M ?_));clear H;intro a H;refine aG ?_;refine ⟨(_,_),by exact H.sub ⟨M,M,M,M,aB⟩,?_⟩;(try dsimp only)
  first
  | exact ⟨by unfold JB;rw [mP (by assumption)];rfl,fun _ _ h=>h⟩
  | exact ⟨by unfold JB;rw [mY (by assumption)];rfl,hm18⟩
 clear H;rintro ⟨bf,g⟩ a w hI H;dsimp only at hI H;obtain ⟨hbf,hgm⟩:=hI;replace hcell:=fun j u hj=>aC hgm (hcell j u hj);replace hcb:=(hcb.mono hma).mono hgm;dsimp only [lca,bM] at H;refine bO (fun _ K3=>?_);have H:=H.sub (T':=[(0,_),(1,_),(4,_),(5,_)]) ⟨M,M,M,M,aB⟩;refine dI hmx [[],[],[0,1],[],[3],ra 0 5,[],[6],ra 0 8,ra 0 9,ra 0 10,[],[11],ra 0 13,ra 0 14,ra 0 15,[],[16],ra 0 18,ra 0 19,ra 0 20,ra 0 21] [19,20,21] V [_,.func (.func 189) #[] #[(aK bl 0)],vi (wV (fun k=>(l[k]?.map gF.id).getD 0) k),_,_,vi (dL (!bf) 8),_,_,.bool (xH x.author),_,vi (dL (!xH x.author) 39),_,_,.bool (decide (0<=x.time∧x.time<=1099511627776)),_,vi (dL (!decide (0<=x.time∧x.time<=1099511627776)) 40),_,_,vi (Er x.text)] H (ay (Z0 M (Rm M)) ?_ ?_ (Z0 M (Rm M)) (ay (Z1 3 23 M (Rn M)) ?_ (Z0 M (Rf arG M)) (X1 6 26 M fun hG=>Rg iP M (aC hG (hcell 2 _ M))) (ay ?_ (Z1 8 28 M (Rn M)) ?_ (Z0 M (Rf arH M)) (ay (X1 11 31 M fun hG=>Rg aF M (aC hG (hcell 3 _ M))) ?_ (Z1 13 33 M (Rn M)) ?_ (ay (Z0 M (Rf arI M)) (X1 16 36 M fun hG=>Rg iP M (aC hG (hcell 4 _ M))) ?_ (bT M) (bN (bT M) (bN (bT M) dB))))))) ?_
 ·exact Gy
 ·refine eT 0 20 1 21 M M fun _ a w G1 hG HT H fin=>?_;refine s_call aeF H wn M (ahA _ _ H.ro k _ _ O (fun i hi=>(hcb.mono hG) i O)) M ?_;clear H;rintro v22 Ut a w rfl Xv H;exact fin H Xv (rfl)
 ·refine gN 4 24 M M fun _ a w G1 hG HT H fin=>?_;refine s_call ng H wn M (nE _ _ H.ro _ 8) M ?_;clear H;rintro v25 FZ a w ⟨rfl,-⟩ asE H;exact fin H asE (rfl)
 ·refine gN 7 27 M M fun _ a w G1 hG HT H fin=>?_;refine s_call aeG H wn M (aaM _ _ H.ro x.author hte.1) M ?_;clear H;rintro v28 Mj a w ⟨rfl,-⟩ asG H;exact fin H asG (rfl)
 ·refine gN 9 29 M M fun _ a w G1 hG HT H fin=>?_;refine s_call ng H wn M (nE _ _ H.ro _ 39) M ?_;clear H;rintro v30 F4 a w ⟨rfl,-⟩ Xw H;exact fin H Xw (rfl)
 ·refine gN 12 32 M M fun _ a w G1 hG HT H fin=>?_;refine s_call yO H wn M (za _ _ H.ro x.time 0 1099511627776) M ?_;clear H;rintro v33 G33 a w ⟨rfl,-⟩ asK H;exact fin H asK (rfl)
 ·refine gN 14 34 M M fun _ a w G1 hG HT H fin=>?_;refine s_call ng H wn M (nE _ _ H.ro _ 40) M ?_;clear H;rintro v35 Uu a w ⟨rfl,-⟩ Xx H;exact fin H Xx (rfl)
 ·refine gN 17 37 M M fun _ a w G1 hG HT H fin=>?_;refine s_call aeO H wn M (ajQ _ _ H.ro x.text hte.2) M ?_;clear H;rintro v38 Uv a w rfl asM H;exact fin H asM (rfl)
 clear H;intro a w G rZ H hv;have H:=H.aN (hv 2 22 M M) M;have H:=H.aN (hv 5 25 M M) M;have H:=H.aN (hv 10 30 M M) M;have H:=H.aN (hv 15 35 M M) M;have H:=H.aN (hv 18 38 M M) M;clear hv;refine iC rM jo [_,_,_,_,_] [_,_,_,_,_] H wn M M M M M (by intro i q h;match i,h with|0,h=>exact h|1,h=>exact h|2,h=>exact h|3,h=>exact h|4,h=>exact h|n+5,h=>simp at h) M M ?_;clear H;intro b39 a w aBS H;obtain ⟨G39,XZ,atq,H⟩:=H.fF;refine s_call sU H wn M (sW _ _ H.ro _ _ (Iu [wV (fun k=>(l[k]?.map gF.id).getD 0) k,dL (!bf) 8,dL (!xH x.author) 39,dL (!decide (0<=x.time∧x.time<=1099511627776)) 40,Er x.text] atq (show 5<=maxLen by decide))) rfl ?_;clear H;rintro v40 _ a w ⟨rfl,rfl⟩ - H;refine kH H (Ra M ?_);clear H;intro a H;refine aG ⟨M,?_⟩;refine K3 _ _ ?_;clear K3;refine lr H results186 M ?_;exact H.rt (by rw [he,V6,<- hbf])
def Qz (l:List gF):Int:=dO [dL (decide (1024 < (l.length:Int))) 9,iX (JV l) (min l.length 1024)]
theorem amP (G:GH) (w0:World) (hG:Hold G w0) (l:List gF) (v:ah) (hv:ak G (.sl 6 (l.map gF.dat)) v) (hl:l.length<=4294967296) (ht:∀ x∈l,x.author.size < 4611686018427387904∧x.text.size < 4611686018427387904) :
  Calls prog 121 #[v] w0 (bG w0 G fun u G'=>u=vi (Qz l)):=by
 obtain ⟨A,c,rfl,hc1,hc2,-⟩:=hv.slice;rw [bS] at *;refine eN [(0,_)] func121 M ntmps121 M M hG ?_;intro a H;refine dz (fun _ K1=>?_);refine dR (cs:=[_]) H wn M M M ?_;clear H;intro b1 a w hb1 H;refine kH H (aj K1 M (SQ fun _ K2=>?_));clear H K1;intro a H;have H:=H.sub (T':=[(1,_)]) ⟨M,aB⟩;obtain ⟨Ga,hma,hb1',H⟩:=H.fF
 have hbl:aH Ga b1 0=some (.slice A l.length c):=by unfold aH;rw [hb1'];rfl
 have hcb:=anA hbl (hv.mono hma) hl ht;refine dI hmx [[],[0],[0,1],[0,1,2],[],[4],[4,5],[],ra 0 8,ra 0 9,ra 0 10,ra 0 11] [9,10,11] V [_,_,_,vi (dL (decide (1024 < (l.length:Int))) 9),_,_,vi ((min l.length 1024:Nat):Int),.func (.func 186) #[] #[(aK b1 0)],vi (iX (JV l) (min l.length 1024))] H (ay (X0 M fun hG=>Rg C9 M (aC hG hbl)) (Z1 0 3 M (Rl vE M)) (Z1 1 4 M (Rc M)) ?_ (ay (X0 M fun hG=>Rg C9 M (aC hG hbl)) (Z1 4 7 M (Rl vE M)) ?_ ?_ (ay ?_ (bT M) (bT M) (bT M) dB))) ?_
 ·exact Qn
 ·exact Qq
 ·exact Gy
 ·refine eT 6 9 7 10 M M fun _ a w G1 hG HT H fin=>?_;refine s_call JZ H wn M (MI _ _ H.ro (min l.length 1024) (JV l) _ O ((hcb.mono hG).le (Nat.min_le_left _ _))) M ?_;exact MW
 clear H;intro a w G jC H hv;have H:=H.aN (hv 3 6 M M) M;have H:=H.aN (hv 8 11 M M) M;clear hv;refine iC rM jo [_,_] [_,_] H wn M M M M M (by intro i q h;match i,h with|0,h=>exact h|1,h=>exact h|n+2,h=>simp at h) M M ?_;clear H;intro b12 a w Hy H;obtain ⟨Df,DZ,Hz,H⟩:=H.fF;refine s_call sU H wn M (sW _ _ H.ro _ _ (Ab Hz)) M ?_;clear H;rintro v13 _ a w ⟨rfl,rfl⟩ - H;refine kH H (Ra M ?_);clear H;intro a H;refine aG ⟨M,?_⟩;refine K2 _ _ ?_;clear K2;refine lr H results121 M ?_;exact xK
def ze:Nat->List Int->List MapEntry
 | _,[]=>[]
 | i,k :: r=>⟨.int .i64 k,.int .i64 (i:Int),i⟩ :: ze (i+1) r
theorem ahX (x:Int):∀ (i:Nat) (l:List Int),ze i (l++[x])=ze i l++[⟨.int .i64 x,.int .i64 ((i+l.length:Nat):Int),i+l.length⟩]
 | _,[]=>rfl
 | i,k :: r=>by
  rw [qm,ze,ahX x (i+1) r,ze,qm,lW,show i+1+r.length=i+(r.length+1) by omega]
def wU (x:Int):Nat->List Int->Option Nat
 | _,[]=>none
 | i,k :: r=>if k=x then some i else wU x (i+1) r
theorem ahv {x:Int}:∀ {l:List Int} {i n:Nat},wU x i l=some n->i<=n
 | [],_,_,h=>by cases h
 | k :: r,i,n,h=>by
  rw [wU] at h;split at h
  ·cases h;exact eG _
  ·have:=ahv h;omega
theorem ahx {x:Int}:∀ {l:List Int} {i:Nat},x∉l->wU x i l=none
 | [],_,_=>rfl
 | k :: r,i,h=>by
  rw [wU,av (fun e=>h (by simp [e])),ahx (fun hm=>h (gW _ hm))]
theorem WR (x:Int):∀ (i j:Nat) (l:List Int),Instr.findNow (.int .i64) (.int .i64 x) (ze i l) j=some ((wU x i l).map fun n=>(j+(n - i),.int .i64 (n:Int)))
 | _,_,[]=>rfl
 | i,j,k :: r=>by
  have ih:=WR x (i+1) (j+1) r
  by_cases e:k=x
  ·subst e
   simp only [ze,Instr.findNow,Instr.sameNow,aD,wU,beq_self_eq_true]
   simp
  ·have hb:(x == k)=false:=by simp;exact fun h=>e h.symm
   simp only [ze,Instr.findNow,Instr.sameNow,aD,hb,wU,av e,ih]
   cases h:wU x (i+1) r with
   | none=>rfl
   | some n =>
    have:=ahv h
    simp only [wH,pO,iQ,and_true]
    omega
abbrev alr (b:Nat) (l:List Int):Nat × Obj:=(b,.map (ze 0 l).toArray l.length)
theorem awr (l:List Int) (x:Int):(ze 0 l).toArray.push ⟨.int .i64 x,.int .i64 (l.length:Int),l.length⟩=(ze 0 (l++[x])).toArray:=by
 rw [ahX,List.push_toArray,gy]
section
section
variable {P:Program} {N:Nat} {D:List Deferred} {w0 w w':World} {F:Nat->Prop} {G0 G G':GH} {L L' Li Lo:OL} {T:List (Nat × ah)} {a a':Act} {Q:Exit->Act->World->Prop}
variable {r:Option Nat} {ops:Array Oper} {rest:List Oper}
def Uz (P:Program) (Gi:GH) (B:OL) (gv:ah) (xs:List AP):Prop :=
 ∀ (J:Nat->GH->OL->Prop) (Jx:GH->OL->Prop) (fv:ah) (G:GH) (L:OL) (w:World),fv.cells=#[fv]->(∀ b o,Gi b=some o->G b=some o)->F6 J->MB Jx->J 0 G L->gJ G (B++L) w->PI P fv G xs J Jx ->
  sJ P gv [fv] w (fV w G (B++L) fun _ G' L'=>J xs.length G' L'∨Jx G' L')
theorem Uz.mono {Gi ED:GH} {B:OL} {gv:ah} {xs:List AP} (h:Uz P Gi B gv xs) (hm:∀ b o,Gi b=some o->ED b=some o):Uz P ED B gv xs :=
 fun J Jx fv G L w h0 h1=>h J Jx fv G L w h0 fun b o hb=>h1 b o (hm b o hb)
end
end
section
section
variable {P:Program} {N:Nat} {D:List Deferred} {w0 w w':World} {F:Nat->Prop} {G0 G G':GH} {L L' Li Lo:OL} {T:List (Nat × ah)} {a a':Act} {Q:Exit->Act->World->Prop}
variable {r:Option Nat} {ops:Array Oper} {rest:List Oper}
def Jl (P:Program) (Gi:GH) (B:OL) (gv:ah) (xs:List AP) (fin:Bool):Prop :=
 ∀ (J:Nat->GH->OL->Prop) (Jx:GH->OL->Prop) (fv:ah) (G:GH) (L:OL) (w:World),fv.cells=#[fv]->(∀ b o,Gi b=some o->G b=some o)->F6 J->MB Jx->J 0 G L->gJ G (B++L) w->PI P fv G xs J Jx->(fin=false->∀ g l,¬ J xs.length g l) ->
  sJ P gv [fv] w (fV w G (B++L) fun _ G' L'=>J xs.length G' L'∨Jx G' L')
theorem Jl.mono {Gi ED:GH} {B:OL} {gv:ah} {xs:List AP} {fin:Bool} (h:Jl P Gi B gv xs fin) (hm:∀ b o,Gi b=some o->ED b=some o):Jl P ED B gv xs fin :=
 fun J Jx fv G L w h0 h1=>h J Jx fv G L w h0 fun b o hb=>h1 b o (hm b o hb)
theorem amo {fin:Bool} {B:OL} {Av:Operand} {ps:List Nat} {assign body:Code} {gf:FuncId} {caps:List ah} {xs:List AP} {Gi:GH}
  (H:St N D w0 F G0 G (B++L) T a w) (hg:ev T Av=some (.func (.func gf) #[] caps.toArray)) (en:∀ args w,(callFunc gf args).run P w=.ok (.enter gf args) w) (hit:Jl P Gi B (.func (.func gf) #[] caps.toArray) xs fin) (hGi:∀ b o,Gi b=some o->G b=some o)
  (hps:ps.all (Nat.blt · N)=true) (hlen:∀ k args g,zw xs k args g->args.length=ps.length)
  (J:Nat->GH->OL->Prop) (Jx:Code->GH->OL->Prop) (hno:fin=false->∀ g l,¬ J xs.length g l) (zO:F6 J) (hJx:∀ c,MB (Jx c)) (h0:J 0 G L) (Yi:UN P N ps assign body T G J Jx xs)
  (hdone:∀ Dk G1 L1 a1 w1,(∀ b o,G b=some o->G1 b=some o)->J xs.length G1 L1->St N ({ target:=.collected Dk,args:=#[] } :: D) w0 F G0 G1 ((Dk,.deferred (some [])) :: L1) T a1 w1->Q .normal a1 w1)
  (hstop:∀ Dk c G1 L1 a1 w1,(∀ b o,G b=some o->G1 b=some o)->Jx c G1 L1->St N ({ target:=.collected Dk,args:=#[] } :: D) w0 F G0 G1 ((Dk,.deferred (some [])) :: L1) T a1 w1->WP none P c Q a1 w1) :
  WP none P (.rangeFunc Av ps.toArray assign body) Q a w:=by
 refine wpIn_rangeFunc ?_
 intro fn _
 have hev:=H.ev hg
 let q:Rec:=⟨fn,a.tmps,ps.toArray,assign,body,w.heap.size⟩
 obtain ⟨W1,hW1⟩:∃ W1,W1=(w.alloc (.deferred (some []))).alloc (q.at .ready none):=⟨_,M⟩
 have H1:Hp w0 F G0 G (B++((w.heap.size+1,q.at .ready none) :: (w.heap.size,.deferred (some [])) :: L)) W1:=by
  have:=(H.hp.alloc (.deferred (some []))).alloc (q.at .ready none)
  rw [World.size_alloc] at this
  rw [hW1]
  refine this.perm ?_
  have e:=oO (l₁:=[(w.heap.size+1,q.at .ready none),(w.heap.size,Obj.deferred (some []))]) (l₂:=B)
  have e2:=List.Perm.append_right L e
  rw [jv,jv] at e2
  exact e2
 refine ⟨w.heap.size+1,[{ target:=.collected w.heap.size,args:=#[] }],W1,{ target:=.fn (.func gf) caps.toArray,args:=#[.func (.yield (w.heap.size+1)) #[] #[]] },W1,gf,
  #[.func (.yield (w.heap.size+1)) #[] #[]]++caps.toArray,W1,by rw [hW1];exact run_enterLoop_outer fn a.tmps ps.toArray assign body,?_,fun _ _=>trivial,?_,PO none,?_⟩
 ·simp only [resolve,rangeCall,hev]
  simp [Deferred.ofValue,Act.eval]
 ·simp [invoke,en]
 ·have hcv:=hit (fun k=>Jr (w.heap.size+1) q [(w.heap.size,.deferred (some []))] (J k)) (PW (w.heap.size+1) q [(w.heap.size,.deferred (some []))] Jx) (.func (.yield (w.heap.size+1)) #[] #[]) G
   ((w.heap.size+1,q.at .ready none) :: (w.heap.size,.deferred (some [])) :: L) W1 rfl hGi (fun k G G' L hm ⟨Lu,e,h⟩=>⟨Lu,e,zO k G G' Lu hm h⟩) (fun G G' L hm ⟨c,Lu,e,h⟩=>⟨c,Lu,e,hJx c G G' Lu hm h⟩) ⟨L,M,h0⟩ (Hp.owns (Li:=[]) H1) (adB H.oP H.get hps hlen Yi) (fun e g l ⟨Lu,_,h⟩=>hno e g Lu h)
  replace hcv:=hcv.go
  have e:(do let d <- Deferred.ofValue (.func (.func gf) #[] caps.toArray) [Value.func (.yield (w.heap.size+1)) #[] #[]].toArray;invoke d.target d.args:Sem Next).run P W1=.ok (.enter gf (#[.func (.yield (w.heap.size+1)) #[] #[]]++caps.toArray)) W1:=by
   simp [Deferred.ofValue,invoke,en]
  rw [e] at hcv
  refine (VU hcv).mono ?_
  rintro e w2 ⟨v,G2,L2,rfl,hch,hJ⟩
  have H2:=Hp.change (Li:=[]) H1 hch
  rcases hJ with ⟨Lu,rfl,hJ⟩|⟨c,Lu,rfl,hJ⟩
  ·have hl:=H2.own _ (dX)
   have H3:=(H2.upd (i:=0) M (FQ (q.at .exhausted none) hl)).drop (Dp _ _)
   exact ⟨none,_,run_endLoop hl (by simp),hdone _ G2 Lu _ _ hch.gm hJ ⟨H.oP,H.get,by simp [H.uU],H3⟩⟩
  ·have hl:=H2.own _ (dX)
   have H3:=(H2.upd (i:=0) M (FQ (q.at .exhausted (some c)) hl)).drop (Dp _ _)
   exact ⟨some c,_,run_endLoop hl (by simp),hstop _ c G2 Lu _ _ hch.gm hJ ⟨H.oP,H.get,by simp [H.uU],H3⟩⟩
theorem amr {fin:Bool} {B:OL} {ι κ:Type} {Lc:OL} {Av:Operand} {ps:List Nat} {assign body:Code} {gf:FuncId} {caps:List ah} {xs:List AP} {Gi:GH}
  (Lv:Nat->ι->OL) (Lt:Nat->ι->OL) (inv:Nat->ι->GH->Prop) (cx:κ->Code) (Lx Gg:κ->OL) (Bl:κ->GH->Prop) (i0:ι)
  (H:St N D w0 F G0 G (B++(Lc++Lv 0 i0++Lt 0 i0)) T a w) (hg:ev T Av=some (.func (.func gf) #[] caps.toArray)) (en:∀ args w,(callFunc gf args).run P w=.ok (.enter gf args) w) (hit:Jl P Gi B (.func (.func gf) #[] caps.toArray) xs fin) (hGi:∀ b o,Gi b=some o->G b=some o)
  (hno:fin=false->∀ i g,¬ inv xs.length i g) (hps:ps.all (Nat.blt · N)=true) (hlen:∀ k args g,zw xs k args g->args.length=ps.length) (hinv:∀ k i (G G':GH),(∀ b o,G b=some o->G' b=some o)->inv k i G->inv k i G') (XV:∀ x (G G':GH),(∀ b o,G b=some o->G' b=some o)->Bl x G->Bl x G') (h0:inv 0 i0 G)
  (round:∀ (l:Nat) (IX Dw:Obj) (bk:OL) (k:Nat) (args:List ah) (i:ι) (G1:GH) (w1:World) (F1:Nat->Prop) (B1:Code->Exit->Act->World->Prop) (a1:Act),zw xs k args G1->(∀ b o,G b=some o->G1 b=some o)->inv k i G1 ->
   (∀ T' G2 L2 a2 w2 c,St N [] w1 F1 G1 G2 ((l,IX) :: L2) T' a2 w2->(∀ w3,St N [] w1 F1 G1 G2 ((l,Dw) :: L2) T' a2 w3->WP (some l) P c (B1 c) a2 w3)->Exit.then (fun a2 w2=>∃ w3,(Instr.beginRound l).run P w2=.ok () w3∧c.wpIn (FW (some l)) 0 P (B1 c) a2 w3) (fun _ _ _=>False) .normal a2 w2) ->
   (∀ i' T' G2 a2 w2 c,St N [] w1 F1 G1 G2 ((l,Dw) :: (Lc++Lv (k+1) i'++(bk++Lt (k+1) i'))) T' a2 w2->inv (k+1) i' G2->B1 c .normal a2 w2) ->
   (∀ x T' G2 a2 w2 c,St N [] w1 F1 G1 G2 ((l,Dw) :: (Lc++Lx x++(bk++Gg x))) T' a2 w2->Bl x G2->(cx x=.ret->B1 c .ret a2 w2)∧∀ n,cx x=.exit n->B1 c (.exit n) a2 w2) ->
   St N [] w1 F1 G1 G1 ((l,IX) :: (Lc++Lv k i++(bk++Lt k i))) (BZ ps args T) a1 w1 ->
   WP (some l) P assign (Exit.then (fun a2 w2=>∃ w3,(Instr.beginRound l).run P w2=.ok () w3∧body.wpIn (FW (some l)) 0 P (B1 body) a2 w3) (fun _ _ _=>False)) a1 w1)
  (hdone:∀ Dk i G1 a1 w1,(∀ b o,G b=some o->G1 b=some o)->inv xs.length i G1->St N ({ target:=.collected Dk,args:=#[] } :: D) w0 F G0 G1 ((Dk,.deferred (some [])) :: (Lc++Lv xs.length i++Lt xs.length i)) T a1 w1->Q .normal a1 w1)
  (hstop:∀ Dk x G1 a1 w1,(∀ b o,G b=some o->G1 b=some o)->Bl x G1->St N ({ target:=.collected Dk,args:=#[] } :: D) w0 F G0 G1 ((Dk,.deferred (some [])) :: (Lc++Lx x++Gg x)) T a1 w1->WP none P (cx x) Q a1 w1) :
  WP none P (.rangeFunc Av ps.toArray assign body) Q a w:=by
 refine amo (J:=fun k g L=>∃ i,L=Lc++Lv k i++Lt k i∧inv k i g) (Jx:=fun c g L=>∃ x,c=cx x∧L=Lc++Lx x++Gg x∧Bl x g) H hg en hit hGi hps hlen (hno:=fun e g l ⟨i,_,h⟩=>hno e i g h) (fun k G G' L hm ⟨i,e,h⟩=>⟨i,e,hinv k i G G' hm h⟩) (fun c G G' L hm ⟨x,e1,e2,h⟩=>⟨x,e1,e2,XV x G G' hm h⟩) ⟨i0,M,h0⟩ ?_ ?_ ?_
 ·rintro l q bk k args G1 L1 w1 a1 hk hm ⟨i,rfl,hi⟩ H1
  have pm:∀ A B:OL,(bk++(A++B)).Perm (A++(bk++B)):=fun A B=>by
   rw [<- jv,<- jv]
   exact List.Perm.append_right B oO
  refine round l (q.at .ready none) (q.at .busy none) bk k args i G1 w1 _ (fun _=>roundPost P l _) a1 hk hm hi ?_ ?_ ?_ (H1.perm (List.Perm.cons _ (pm _ _)))
  ·intro T' G2 L2 a2 w2 c H2 h
   exact adv H2 h
  ·intro i' T' G2 a2 w2 c H2 h2
   exact LD none (H2.perm (List.Perm.cons _ (pm _ _).symm)) ⟨_,M,i',M,h2⟩
  ·intro x T' G2 a2 w2 c H2 h2
   have H3:=H2.perm (List.Perm.cons _ (pm _ _).symm)
   refine ⟨fun e=>?_,fun n e=>?_⟩
   ·exact LD (some .ret) H3 ⟨_,_,M,x,e.symm,M,h2⟩
   ·exact LD (some (.exit n)) H3 ⟨_,_,M,x,e.symm,M,h2⟩
 ·rintro Dk G1 L1 a1 w1 hm ⟨i,rfl,hi⟩ H1
  exact hdone Dk i G1 a1 w1 hm hi H1
 ·rintro Dk c G1 L1 a1 w1 hm ⟨x,rfl,rfl,hx⟩ H1
  exact hstop Dk x G1 a1 w1 hm hx H1
end
end
theorem I6:prog.underlying 130=some (.map 3 3):=by kernel_rfl
theorem rH:Ty prog 31 1 24 [.slice none 0 0] false:=⟨V,V⟩
theorem Nu:dP prog 192 3 3:=⟨V⟩
theorem aeT:aS 222:=aT func222 M
theorem ahw {x:Int}:∀ {l:List Int} {i n:Nat},wU x i l=some n->n < i+l.length
 | [],_,_,h=>by cases h
 | k :: r,i,n,h=>by
  rw [wU] at h;split at h
  ·cases h;simp
  have:=ahw h;simp only [lW];omega
def zJ (l:List bY):Nat->Int->List bY
 | 0,_=>[]
 | f+1,id=>if id=0 then [] else match wU id 0 (l.map bY.id) with|none=>[]|some i=>match l[i]? with|none=>[]|some s=>s :: zJ l f s.base
def JR (l:List bY) (id:Int):List bY:=zJ l (l.length+1) id
theorem amL {l:List bY} {f:Nat} {id:Int} (h:id=0):zJ l f id=[]:=by
 cases f with
 | zero=>rfl
 | succ f=>rw [zJ,aD h]
theorem amJ {l:List bY} {f:Nat} {id:Int} (h0:¬ id=0) (h:wU id 0 (l.map bY.id)=none):zJ l f id=[]:=by
 cases f with
 | zero=>rfl
 | succ f=>rw [zJ,av h0,h]
theorem amK {l:List bY} {f i:Nat} {id:Int} (h0:¬ id=0) (h:wU id 0 (l.map bY.id)=some i) (hi:i < l.length):zJ l (f+1) id=l[i] :: zJ l f l[i].base:=by
 rw [zJ,av h0,h];dsimp only;rw [eB hi]
def stP (x:bY):AP:=fun args g=>∃ cs,args=[.agg cs.toArray]∧bB g x.dat cs
theorem ajK {A:List bY} {k:Nat} {args:List ah} {g:GH} (h:zw (A.map stP) k args g):∃ (hk:k < A.length) (cs:List ah),args=[.agg cs.toArray]∧bB g A[k].dat cs:=by
 obtain ⟨p,hp,hargs⟩:=h;rw [tZ] at hp;obtain ⟨q,hq,rfl⟩:=qD.1 hp;obtain ⟨hk,rfl⟩:=ko.1 hq;obtain ⟨cs,h1,h2⟩:=hargs;exact ⟨hk,cs,h1,h2⟩
abbrev bI (b:Nat) (n:Int):Nat × Obj:=(b,.cells #[vi n] 3 (0,0))
set_option maxHeartbeats 1000000 in
theorem amM {G:GH} {bl bi:Nat} {l:List bY} {id:Int} {v:ah} (hb:aH G bl 0=some v) (hv:ak G (.sl 6 (l.map bY.dat)) v) (hnd:∀ (k:Nat) (h:k < l.length),l[k].id∉(l.take k).map bY.id) :
  Jl prog G [bI bi id] (.func (.func 222) #[] #[(aK bl 0),(aK bi 0)]) ((JR l id).map stP) (decide ((JR l id).length<=l.length)):=by
 intro J Jx fv G1 L w0 hfv hGi zO hJx hJ hO hcb hfin;refine jy (caps:=[(aK bl 0),(aK bi 0)]) aeT ?_;obtain ⟨A,c,rfl,hc1,hc2,-⟩:=hv.slice;have hml:maxLen=9223372036854775807:=rfl;rw [bS] at *;replace hb:=aC hGi hb;replace hv:=hv.mono hGi;refine jA (N:=46) (T:=[(0,_),(1,_),(2,_)]) func222 M ntmps222 M M hO ?_;intro a H;refine dz (fun _ K1=>?_);refine FN H wn M ?_;clear H;intro bm a w hbm H;refine kH H (aj K1 M (SQ fun _ K2=>SR fun _ K3=>Rg rH M (by assumption) ?_));clear H K1;intro a H;refine kH H (Rl lJ M (Rm M (Kz K3 (SB ?_))));clear H K3;intro a H;skip;refine eX (ι:=Nat) (Tc:=[(0,_),(1,_),(2,_),(4,_),(10,_),(11,_)]) (Lc:=[(_,_)]) (fun gh=>[(12,vi gh)]) (fun gh=>[alr bm ((l.take gh).map bY.id)]++L) (fun gh=>G1) (fun gh=>gh<=l.length) (fun gh=>l.length - gh) (0) (by exact (H.fH (Pl:=[_,_]) (eD:=[_,_]) [1,0] Z M).sub ⟨M,M,M,M,M,M,M,aB⟩) ?_ ?_
 ·exact lg _
 clear H;intro k a w hI H;have hk:=hI;dsimp only [lca,bM] at H;refine kP H (SR fun _ K4=>Rc M (Kz K4 (SQ fun _ K5=>Cd M ?_ ?_))) <;> clear H K4
 ·intro fT a H
  try have qL:=dT fT
  have hk2:k < l.length:=by omega
  obtain ⟨b,o,pA,pc,rfl,hrow,hp,hrep⟩:=Eo hv hk2;have aus:=hnd k hk2
  have hlk:((l.take k).map bY.id).length=k:=by rw [bS,List.length_take];omega
  have hnx:(l.take k).map bY.id++[l[k].id]=(l.take (k+1)).map bY.id:=by rw [kG hk2,kR];rfl
  refine kP H (Kc K5 (SQ fun _ K6=>SB (SR fun _ K7=>Rm M (Ri lJ jf M M ?_))));clear H K5;intro a H;refine aU jf (cs:=[_,_,_,_,_,_]) H wn M M (fun j v hj=>H.hp.aH (hrow j v hj)) M ?_;clear H;intro a H;refine dJ jf H wn M ?_;clear H;intro b6 a w hb6 H;refine kH H (Ra M ?_);clear H;intro a H;refine bC jf 0 (vs:=[_,_,_,_,_,_]) H wn M ?_;clear H;intro w H;refine K7 _ _ ?_;clear K7;refine kP H (SC (Rm M (bQ vV aF 0 M M (Rm M ?_))));clear H;intro a H;refine ajs (i:=2) (ky:=vi l[k].id) (v:=vi k) I6 mF H wn M M M M (by trivial) (by rw [List.toList_toArray,WR,ahx aus];rfl) ?_;clear H;intro w H
  have hpush:((ze 0 ((l.take k).map bY.id)).toArray.push ⟨vi l[k].id,vi k,((l.take k).map bY.id).length⟩)=(ze 0 ((l.take (k+1)).map bY.id)).toArray:=by rw [<- hnx,<- awr,hlk]
  rw [hpush,show ((l.take k).map bY.id).length+1=((l.take (k+1)).map bY.id).length by rw [<- hnx];simp] at H;refine kH H (Kn K6 (SC (Rd M (Rm M ?_))));clear H K6;intro a H;refine aG ?_;refine dY ((k+1)) (by exact (H.fH (Pl:=[_,_,_]) (eD:=[_,_]) [1,2] Z M).sub ⟨M,M,M,M,M,M,M,aB⟩) ?_
  exact by omega
 intro fT a H
 try have qL:=dF fT
 obtain rfl:k=l.length:=by omega
 rw [yG] at H;refine dQ ?_;refine K2 _ _ ?_;clear K2;refine EL ?_;skip;refine eX (ι:=Int × Nat × Nat × OL × GH) (Tc:=[(0,_),(1,_),(2,_),(4,_)]) (Lc:=[(_,_)]) (fun gh=>[]) (fun gh=>[bI bi gh.1]++gh.2.2.2.1) (fun gh=>gh.2.2.2.2) (fun gh=>(∀ b o,G1 b=some o->gh.2.2.2.2 b=some o)∧Now ((JR l id).map stP) stP J (JR l id).length gh.2.2.1 (zJ l gh.2.1 gh.1) gh.2.2.2.2 gh.2.2.2.1∧gh.2.2.1+gh.2.1=l.length+1) (fun gh=>gh.2.1) ((id,l.length+1,0,L,G1)) (by exact (H.fH (Pl:=[_,_]) (eD:=[_,_]) [1,0] Z M).sub ⟨M,M,M,M,aB⟩) ?_ ?_
 ·exact ⟨fun _ _ h=>h,⟨hJ,fun i a h=>by rw [gy,tZ];rw [show zJ l (l.length+1) id=JR l id from rfl] at h;rw [h];rfl,gy _⟩,gy _⟩
 clear H;rintro ⟨i,f,j1,Lt,g⟩ a w hI H;dsimp only at hI H;obtain ⟨hgm,lD,hjf⟩:=hI;have hbg:=aC hgm hb;dsimp only [lca,bM] at H;refine kP H (SQ fun _ K8=>SR fun _ K9=>Ro aF 1 M (Rc M (Kz K9 (Cd M ?_ ?_)))) <;> clear H K9
 ·intro h23 a H
  try have Br:=dT h23
  have h0:¬ i=0:=by simpa using h23
  obtain ⟨an,han⟩:∃ an,an=wU i 0 (l.map bY.id):=⟨_,M⟩;have hfn:=WR i 0 0 (l.map bY.id);rw [<- han] at hfn;refine kP H (Kc K8 (SB (SR fun _ aR=>Rm M (Ro aF 1 M ?_))));clear H K8;intro a H;refine azh (i:=0) (zv:=vi 0) _ I6 mF V H wn M M M (by trivial) (by simpa using hfn) M ?_;clear H;intro a H;refine kH H (Rm M ?_);clear H;intro a H;(iterate 2 refine lT H wn M M M ?_;clear H;intro a H);refine kH H (Ra M (aj aR M (SQ fun _ bq=>SR fun _ bP=>Rm M (Rn M (Rm M (Sp 32 M ?_ ?_)))))) <;> clear H aR
  ·intro h32 a H
   try have p32:=dT h32
   obtain rfl:an=none:=by
    cases an with
    | none=>rfl
    | some n=>simp [Ed] at h32
   rw [amJ h0 han.symm] at lD;refine kH H (aP h32 M (aL h32 M (aL h32 M (Pt h32 M (Kz bP (Ct M M ?_))))));clear H bP;intro a H;refine fE ?_;refine (leave0 H results222 ?_).1;refine H.hp.mW (L':=Lt) (by repeat (first|exact lX _|apply List.Sublist.cons)) (.inl ?_);have h:=lD.len
   simp only [List.length_nil,zF] at h
   rw [<- h];exact lD.now
  intro h32 a H
  try have p32:=dF h32
  obtain ⟨n,rfl⟩:∃ n,an=some n:=by
   cases an with
   | none=>simp [Ed] at h32
   | some n=>exact ⟨n,M⟩
  have hnl:n < l.length:=by have:=ahw han.symm;simpa using this
  obtain ⟨f',rfl⟩:∃ f',f=f'+1:=by
   cases f with
   | succ f'=>exact ⟨f',M⟩
   | zero =>
    exfalso
    have hl:=lD.len
    simp only [zJ,List.length_nil,zF] at hl
    refine hfin (mY O) g Lt ?_;rw [<- hl];exact lD.now
  rw [amK h0 han.symm hnl] at lD;dsimp only [Ed,Option.map_some] at H;obtain ⟨b,o,pA,pc,rfl,hrow,hp,hrep⟩:=Eo (hv.mono hgm) hnl;refine kH H (YM h32 M (YR rH h32 M (by assumption) ?_));clear H;intro a H;refine kH H (YM h32 M (YI lJ jf h32 M M ?_));clear H;intro a H;refine aU jf (cs:=[_,_,_,_,_,_]) H (wg H M M h32) M M (fun j v hj=>H.hp.aH (hrow j v hj)) M ?_;clear H;intro a H;refine El (Li:=[_,_]) (L:=Lt) H (wg H M M h32) M M (hcb j1 _ _ _ _ ⟨_,lD.head,_,M,hrep⟩ hgm lD.now (Hp.owns (Li:=[_,_]) H.hp)) M ?_;clear H;rintro v38 Uv aaA a w ⟨b38,rfl,hb1,hb2⟩ KF H;have hbg:=aC KF hbg;have r3:=aC KF (hrow 3 _ M);refine kH H (YN h32 M (Pf h32 M (Kz bP (Cd M ?_ ?_)))) <;> clear H bP
  ·intro lC a H
   try have p40:=dT lC
   refine fE ?_;refine (leave0 H results222 ?_).1;exact H.hp.mW (L':=aaA) (by repeat (first|exact lX _|apply List.Sublist.cons)) (.inr (hb2 (by simpa using lC)))
  intro lC a H
  try have p40:=dF lC
  refine kP H (Kc bq (SC (Rg rH M (by assumption) ?_)));clear H bq;intro a H;refine kH H (Rm M (Ri lJ jf M M (Rf Nu M (Rg aF M (by assumption) ?_))));clear H;intro a H;refine bC aF 1 (vs:=[_]) H wn M ?_;clear H;intro w H;refine aG ?_;refine dY ((l[n].base,f',j1+1,aaA,Uv)) (by exact H.sub ⟨M,M,M,M,aB⟩) ?_
  (try dsimp only);exact ⟨fun b o h=>KF b o (hgm b o h),lD.step (hb1 (by simpa using lC)),O⟩
 intro h23 a H
 try have Br:=dF h23
 refine dQ ?_;refine (leave0 H results222 ?_).2;rw [amL (by simpa using h23)] at lD;refine H.hp.mW (L':=Lt) (by repeat (first|exact lX _|apply List.Sublist.cons)) (.inl ?_);have h:=lD.len
 simp only [List.length_nil,zF] at h
 rw [<- h];exact lD.now
theorem apj:aS 182:=aT func182 M
theorem aph:aS 180:=aT func180 M
theorem Ww:aS 181:=aT func181 M
theorem J6:dP prog 192 4 4:=⟨V⟩
theorem amN {G:GH} {w0:World} (hO:gJ G [] w0) (l:List bY) (id:Int) (v:ah) (hv:ak G (.sl 6 (l.map bY.dat)) v) :
  Calls prog 182 #[v,vi id] w0 (fV w0 G [] fun u G' L'=>∃ bl bi,u=.func (.func 222) #[] #[(aK bl 0),(aK bi 0)]∧L'=[bI bi id]∧aH G' bl 0=some v):=by
 obtain ⟨A,c,rfl,hc1,hc2,-⟩:=hv.slice;refine jA (N:=6) (T:=[(0,_),(1,_)]) func182 M ntmps182 M M hO ?_;intro a H;refine dz (fun _ K1=>?_);refine dR (cs:=[_]) H wn M M M ?_;clear H;intro b2 a w hb2 H;refine dR (cs:=[_]) H wn M M M ?_;clear H;intro b3 a w hb3 H;refine kH H (aj K1 M (SR fun _ K2=>?_));clear H K1;intro a H;refine uJ H wn M M ?_;clear H;intro a H;refine kH H (aj K2 M ?_);clear H K2;intro a H;refine lr H results182 M ?_;have H:=H.fH (Pl:=[_,_]) (eD:=[_,_]) [1,0] Z M;obtain ⟨Ga,hma,hb2',H⟩:=H.fF;exact H.hp.gL ⟨b2,b3,M,M,by unfold aH;rw [hb2'];rfl⟩
def vU (p:Nat->Int):Nat->Nat->Int
 | _,0=>0
 | k,n+1=>if p k=0 then vU p (k+1) n else p k
theorem arx {p:Nat->Int} {k m:Nat} (h:k < m):vU p k (m - k)=if p k=0 then vU p (k+1) (m - (k+1)) else p k:=by
 obtain ⟨n,hn⟩:∃ n,m - k=n+1:=⟨m - k - 1,O⟩;rw [hn,vU,show m - (k+1)=n by omega]
theorem arw {p:Nat->Int} {k m:Nat} (h:m<=k):vU p k (m - k)=0:=by rw [show m - k=0 by omega];rfl
theorem afi {p:Nat->Int}:∀ {n k:Nat},vU p k n=0->∀ j,k<=j->j < k+n->p j=0
 | 0,k,_,j,h1,h2=>by omega
 | n+1,k,h,j,h1,h2=>by
  rw [vU] at h;split at h
  ·rename_i hp
   by_cases e:j=k
   ·rw [e];exact hp
   exact afi h j O O
  rename_i hp;exact absurd h hp
def Bq (l:List bY) (k:Nat):Int:=match l[k]? with|some s=>nY l k s|none=>0
theorem aiB {l:List bY} {k:Nat} (h:k < l.length):Bq l k=nY l k l[k]:=by unfold Bq;rw [eB h]
def yI (l:List bY) (s:bY):Bool:=(decide (s.base≠0) && !Oy l s.kind s.base) || (decide (s.next≠0) && (decide (s.kind=2) || !Oy l 1 s.next))
def Wh (l:List bY) (s:bY):Bool:=decide (l.length < (JR l s.id).length)
def Ao (l:List bY):Int:=if 128 < l.length then 9 else if vU (Bq l) 0 l.length≠0 then vU (Bq l) 0 l.length else if l.any (yI l)=true then 25 else if l.any (Wh l)=true then 16 else 0
theorem axj {l:List bY} (h:vU (Bq l) 0 l.length=0) {k:Nat} (hk:k+1 < l.length):l[k].id < l[k+1].id:=by
 have h1:=afi h (k+1) (lg _) O;rw [aiB hk,nY,yw] at h1
 have hp:zV l (k+1)=some l[k].id:=by rw [zV,dK,Nat.add_sub_cancel,eB O];rfl
 rw [hp] at h1
 split at h1
 ·cases h1
 split at h1
 ·cases h1
 split at h1
 ·cases h1
 rename_i _ h2 h3
 have h2':¬ l[k].id=l[k+1].id:=fun e=>h2 (by rw [e]);have h3':¬ l[k+1].id < l[k].id:=fun e=>h3 (aI e)
 omega
theorem aiC {l:List bY} (h:vU (Bq l) 0 l.length=0):∀ {k j:Nat} (hk:k < l.length) (hj:j < k),l[j].id < l[k].id
 | k+1,j,hk,hj=>by
  have h1:=axj h hk
  by_cases e:j=k
  ·subst e;exact h1
  have:=aiC h (k:=k) (j:=j) O O
  omega
theorem aiD {l:List bY} (h:vU (Bq l) 0 l.length=0) (k:Nat) (hk:k < l.length):l[k].id∉(l.take k).map bY.id:=by
 intro hm;obtain ⟨x,hx1,hx2⟩:=List.mem_map.1 hm;obtain ⟨j,hj,rfl⟩:=List.getElem_of_mem hx1;rw [List.getElem_take] at hx2;rw [List.length_take] at hj;have:=aiC h hk (j:=j) O
 omega
theorem aaL {α:Type} {p:α->Bool} {l:List α} {k:Nat} (hk:k < l.length) (h:(l.take k).any p=false) (hp:p l[k]=false):(l.take (k+1)).any p=false:=by
 rw [kG hk,List.any_append,h];simp [hp]
theorem JA {α:Type} {p:α->Bool} {l:List α} {k:Nat} (hk:k < l.length) (hp:p l[k]=true):l.any p=true:=List.any_eq_true.2 ⟨_,lq hk,hp⟩
theorem aaK {α:Type} {p:α->Bool} {l:List α} {k:Nat} (hk:l.length<=k) (h:(l.take k).any p=false):¬ l.any p=true:=by
 rw [jF hk] at h;rw [h];decide
theorem Qi {p:Prop} (h:p:=by
 first
  | exact H.rt (cZ vi (by rw [Ao,nk]))
  | exact H.rt (cZ vi (by rw [av (by simpa using oH)] at heq;rw [Ao,dK,<- heq,aD (by simpa using oH)]))
  | exact H.rt (cZ vi (by rw [Ao,dK,av (by rw [hok];decide),aD hbad]))
  | exact H.rt (cZ vi (by rw [Ao,dK,av (by rw [hok];decide),av hbad,aD (JA hj2 hI)]))
  | exact H.rt (cZ vi (by rw [Ao,dK,av (by rw [hok];decide),av hbad,av (aaK O hnc)]))):p:=h
theorem U8 {p:Prop} (h:p:=by
 exact ⟨O,aaL hk4 hno (by unfold yI;simp_all),lQ⟩):p:=h
theorem MQ {p:Prop} (h:p:=by
 refine fE ?_;refine (leave1 H results119 (.cons (TH jo H M (H.hp.yu 1 M M)) .nil) ?_).1
 exact Qi):p:=h
theorem acG {p:Prop} (h:p:=by
 intro jg a H
 try have p59:=dF jg
 refine kP H (Kc eY (SC (Rd M (Rm M ?_))));clear H eY;intro a H;refine aG ?_;refine dY ((k+1,g2)) (by exact (H.fH (Pl:=[_,_,_]) (eD:=[_,_]) [1,2] Z M).sub ⟨M,M,M,M,M,aB⟩) ?_
 (try dsimp only);exact U8):p:=h
theorem adl {p:Prop} (h:p:=by
 refine fE ?_;refine (leave1 H results119 (.cons (TH jo H M (H.hp.yu 0 M M)) .nil) ?_).1
 exact Qi):p:=h
set_option maxHeartbeats 1000000 in
theorem amW (G:GH) (w0:World) (hG:Hold G w0) (l:List bY) (v:ah) (hv:ak G (.sl 6 (l.map bY.dat)) v) (hN:∀ s∈l,s.name.size<=4611686018427387904) :
  Calls prog 119 #[v] w0 (bG w0 G fun u G'=>u=vi (Ao l)):=by
 obtain ⟨A,c,rfl,hc1,hc2,-⟩:=hv.slice;have hml:maxLen=9223372036854775807:=rfl;rw [bS] at *;refine eN [(0,_)] func119 M ntmps119 M M hG ?_;intro a H;refine dz (fun _ K1=>?_);refine dR (cs:=[_]) H wn M M M ?_;clear H;intro b1 a w hb1 H;refine dJ jo H wn M ?_;clear H;intro b2 a w hb2 H;refine K1 _ _ ?_;clear K1;refine kP H (SQ fun _ K2=>SR fun _ K3=>Ro rH 1 M (Rl lJ M (Rc M (Kz K3 (Cd M ?_ ?_))))) <;> clear H K3
 ·intro h12 a H
  try have rE:=dT h12
  refine dz (fun _ K4=>?_);refine bC jo 0 (vs:=[_]) H wn M ?_;clear H;intro w H;refine K4 _ _ ?_;clear K4;exact adl
 intro h12 a H
 try have rE:=dF h12
 refine kP H (Kc K2 (SQ fun _ K5=>SR fun _ K6=>Ro rH 1 M (Rl lJ M (Rm M (Kz K6 (SB ?_))))));clear H K2 K6;intro a H;skip;refine eX (ι:=Nat × GH) (Tc:=[(1,_),(2,_),(14,_)]) (Lc:=[(_,_),(_,_)]) (fun gh=>[(15,vi gh.1)]) (fun gh=>[]) (fun gh=>gh.2) (fun gh=>gh.1<=l.length∧vU (Bq l) gh.1 (l.length - gh.1)=vU (Bq l) 0 l.length∧(∀ b o,G b=some o->gh.2 b=some o)) (fun gh=>l.length - gh.1) ((0,G)) (by exact H.sub ⟨M,M,M,M,aB⟩) ?_ ?_
 ·exact EJ
 clear H;rintro ⟨k,g⟩ a w hI H;dsimp only at hI H;obtain ⟨hk,heq,hgm⟩:=hI;dsimp only [lca,bM] at H;refine kP H (SR fun _ K7=>Rc M (Kz K7 (SQ fun _ K8=>Cd M ?_ ?_))) <;> clear H K7
 ·intro h16 a H
  try have p16:=dT h16
  have hk2:k < l.length:=by omega
  rw [arx hk2,aiB hk2] at heq;refine kP H (Kc K8 (SQ fun _ K9=>SB (SR fun _ aR=>Rm M (aj aR M (SR fun _ bq=>Ro rH 1 M (Rm M ?_))))));clear H K8 aR;intro a H;refine s_call aph H wn M (axk _ _ H.ro l k _ (hv.mono hgm) hk2 (hN _ (lq hk2))) M ?_;clear H;rintro v20 Jg a w rfl ru H;refine kH H (aj bq M (SR fun _ bP=>Rm M (Rc M (Kz bP (Cd M ?_ ?_))))) <;> clear H bq bP
  ·intro h22 a H
   try have oH:=dT h22
   refine kP H (SR fun _ bU=>Rm M ?_);clear H;intro a H;refine bC jo 0 (vs:=[_]) H wn M ?_;clear H;intro w H;refine bU _ _ ?_;clear bU;exact adl
  intro h22 a H
  try have oH:=dF h22
  refine kP H (Kc K9 (SC (Rd M (Rm M ?_))));clear H K9;intro a H;refine aG ?_;refine dY ((k+1,Jg)) (by exact H.sub ⟨M,M,M,M,aB⟩) ?_
  (try dsimp only);exact ⟨O,by rw [aD (by simpa using oH)] at heq;exact heq,fun b o h=>ru b o (hgm b o h)⟩
 intro h16 a H
 try have p16:=dF h16
 have hok:vU (Bq l) 0 l.length=0:=by rw [<- heq];exact arw O
 clear heq;have CJ:=hv.mono hgm;refine dQ ?_;refine K5 _ _ ?_;clear K5;refine kP H (SQ fun _ dh=>SR fun _ dZ=>Ro rH 1 M (Rl lJ M (Rm M (Kz dZ (SB ?_)))));clear H dZ;intro a H;skip;refine eX (ι:=Nat × GH) (Tc:=[(1,_),(2,_),(25,_),(26,_)]) (Lc:=[(_,_),(_,_)]) (fun gh=>[(27,vi gh.1)]) (fun gh=>[]) (fun gh=>gh.2) (fun gh=>gh.1<=l.length∧(l.take gh.1).any (yI l)=false∧(∀ b o,g b=some o->gh.2 b=some o)) (fun gh=>l.length - gh.1) ((0,g)) (by exact H.sub ⟨M,M,M,M,M,aB⟩) ?_ ?_
 ·exact EJ
 clear H;rintro ⟨k,g2⟩ a w hI H;dsimp only at hI H;obtain ⟨hk3,hno,lQ⟩:=hI;have Bj:=CJ.mono lQ;dsimp only [lca,bM] at H;refine kP H (SR fun _ eu=>Rc M (Kz eu (SQ fun _ dS=>Cd M ?_ ?_))) <;> clear H eu
 ·intro fZ a H
  try have p28:=dT fZ
  have hk4:k < l.length:=by omega
  obtain ⟨b,o,pA,pc,rfl,hrow,hp,hrep⟩:=Eo Bj hk4;refine kP H (Kc dS (SQ fun _ eY=>SB (SR fun _ gU=>Ri lJ jf M M ?_)));clear H dS;intro a H;refine aU jf (cs:=[_,_,_,_,_,_]) H wn M M (fun j v hj=>H.hp.aH (hrow j v hj)) M ?_;clear H;intro a H;refine dJ jf H wn M ?_;clear H;intro b6 a w hb6 H;refine bC jf 0 (vs:=[_,_,_,_,_,_]) H wn M ?_;clear H;intro w H;refine gU _ _ ?_;clear gU;refine kP H (SR fun _ fJ=>bQ Nu aF 0 M M (Rc M (Rm M (Sp 34 M ?_ ?_)))) <;> clear H
  ·intro fq a H
   try have p34:=dT fq
   refine kH H (YO rH 2 fq M (YF xQ fq M (YO aF 0 fq M (YF Nu fq M (YO aF 0 fq M ?_)))));clear H;intro a H;refine s_call Ww H (wg H M M fq) M (YJ _ _ H.ro l l[k].kind l[k].base _ Bj) M ?_;clear H;rintro v40 g2 a w rfl yX H;replace lQ:=fun b o (h:g b=some o)=>yX b o (lQ b o h);replace Bj:=Bj.mono yX;refine kH H (YN fq M (Pt fq M (Rm M (Sp 43 M ?_ ?_)))) <;> clear H
   ·intro h43 a H
    try have p43:=dT h43
    refine kH H (aL h43 M (aL h43 M (Ku M (Ku M (Ku M (Ku M (Ku M (Ku M (Ku M (Ku M (Ku M (Ku M (Ks h43 M (Pt h43 M (Kz fJ (Ct M M (SQ fun _ iD=>?_)))))))))))))))));clear H fJ;intro a H;have hbad:l.any (yI l)=true:=JA hk4 (by unfold yI;simp_all);refine nU ?_;refine bC jo 1 (vs:=[_]) H wn M ?_;clear H;intro w H;refine aG ?_;refine iD _ _ ?_;clear iD;exact MQ
   intro h43 a H
   try have p43:=dF h43
   refine kH H (YF J6 h43 M (YO aF 0 h43 M (YC h43 M (YM h43 M (Sp 47 M ?_ ?_))))) <;> clear H
   ·intro h47 a H
    try have p47:=dT h47
    refine kH H (YF xQ h47 M (YO aF 0 h47 M (YC h47 M (YM h47 M (Sp 51 M ?_ ?_))))) <;> clear H
    ·intro mg a H
     try have p51:=dT mg
     refine kH H (aP mg M (aL mg M (PT h47 mg M (PT h43 h47 M (Pf h43 M (Kz fJ (Ct M M (SQ fun _ jL=>?_))))))));clear H fJ;intro a H;have hbad:l.any (yI l)=true:=JA hk4 (by unfold yI;simp_all);refine nU ?_;refine bC jo 1 (vs:=[_]) H wn M ?_;clear H;intro w H;refine aG ?_;refine jL _ _ ?_;clear jL;exact MQ
    intro mg a H
    try have p51:=dF mg
    refine kH H (YO rH 2 mg M (YF J6 mg M (YO aF 0 mg M ?_)));clear H;intro a H;refine s_call Ww H (wg H M M mg) M (YJ _ _ H.ro l 1 l[k].next _ Bj) M ?_;clear H;rintro v55 g2 a w rfl Bb H;replace lQ:=fun b o (h:g b=some o)=>Bb b o (lQ b o h);replace Bj:=Bj.mono Bb;refine kH H (YN mg M (PF h47 mg M (PT h43 h47 M (Pf h43 M (Kz fJ (Cd M ?_ ?_)))))) <;> clear H fJ
    ·intro jg a H
     try have p59:=dT jg
     refine bO (fun _ mM=>?_);have hbad:l.any (yI l)=true:=JA hk4 (by unfold yI;simp_all);refine nU ?_;refine bC jo 1 (vs:=[_]) H wn M ?_;clear H;intro w H;refine aG ?_;refine mM _ _ ?_;clear mM;exact MQ
    exact acG
   intro h47 a H
   try have p47:=dF h47
   refine kH H (aL h47 M (aL h47 M (Ku M (Ku M (Ku M (Ku M (Ku M (Ks h47 M (PF h43 h47 M (Pf h43 M (Kz fJ (Cf M M (Kc eY (SC (Rd M (Rm M ?_))))))))))))))));clear H fJ eY;intro a H;refine aG ?_;refine dY ((k+1,g2)) (by exact (H.fH (Pl:=[_,_,_]) (eD:=[_,_]) [1,2] Z M).sub ⟨M,M,M,M,M,aB⟩) ?_
   (try dsimp only);exact U8
  intro fq a H
  try have p34:=dF fq
  refine kH H (aP fq M (aL fq M (aL fq M (Pf fq M (Rm M ?_)))));clear H;intro a H;refine LK J6 H (wg H M M M) M M ?_;clear H;intro a H;refine rG aF H (wg H M M M) M (H.hp.yu 0 M M) M ?_;clear H;intro a H;refine LJ H (wg H M M M) M M M M ?_;clear H;intro a H;refine LM H (wg H M M M) M M ?_;clear H;intro a H;refine ZM H 47 M ?_ ?_
  ·intro h47
   try have p47:=dT h47
   refine kH H (YF xQ h47 M (YO aF 0 h47 M (YC h47 M (YM h47 M (Sp 51 M ?_ ?_))))) <;> clear H
   ·intro mg a H
    try have p51:=dT mg
    refine kH H (aP mg M (aL mg M (PT h47 mg M ?_)));clear H;intro a H;refine OQ H (wg H M M M) M h47 M M ?_;clear H;intro a H;refine kH H (Pf M M (Kz fJ (Ct M M (SQ fun _ mH=>?_))));clear H fJ;intro a H;have hbad:l.any (yI l)=true:=JA hk4 (by unfold yI;simp_all);refine nU ?_;refine bC jo 1 (vs:=[_]) H wn M ?_;clear H;intro w H;refine aG ?_;refine mH _ _ ?_;clear mH;exact MQ
   intro mg a H
   try have p51:=dF mg
   refine kH H (YO rH 2 mg M (YF J6 mg M (YO aF 0 mg M ?_)));clear H;intro a H;refine s_call Ww H (wg H M M mg) M (YJ _ _ H.ro l 1 l[k].next _ Bj) M ?_;clear H;rintro v55 g2 a w rfl Bb H;replace lQ:=fun b o (h:g b=some o)=>Bb b o (lQ b o h);replace Bj:=Bj.mono Bb;refine kH H (YN mg M (PF h47 mg M ?_));clear H;intro a H;refine OQ H (wg H M M M) M h47 M M ?_;clear H;intro a H;refine kH H (Pf M M (Kz fJ (Cd M ?_ ?_))) <;> clear H fJ
   ·intro jg a H
    try have p59:=dT jg
    refine bO (fun _ kX=>?_);have hbad:l.any (yI l)=true:=JA hk4 (by unfold yI;simp_all);refine nU ?_;refine bC jo 1 (vs:=[_]) H wn M ?_;clear H;intro w H;refine aG ?_;refine kX _ _ ?_;clear kX;exact MQ
   exact acG
  intro h47
  try have p47:=dF h47
  refine kH H (aL h47 M (aL h47 M (Ku M (Ku M (Ku M (Ku M (Ku M (Ks h47 M ?_))))))));clear H;intro a H;refine TM H (wg H M M M) M h47 M M ?_;clear H;intro a H;refine kH H (Pf M M (Kz fJ (Cf M M (Kc eY (SC (Rd M (Rm M ?_)))))));clear H fJ eY;intro a H;refine aG ?_;refine dY ((k+1,g2)) (by exact (H.fH (Pl:=[_,_,_]) (eD:=[_,_]) [1,2] Z M).sub ⟨M,M,M,M,M,aB⟩) ?_
  (try dsimp only);exact U8
 intro fZ a H
 try have p28:=dF fZ
 have hbad:=aaK O hno;refine dQ ?_;refine dh _ _ ?_;clear dh;refine kP H (SQ fun _ ou=>SR fun _ ow=>Ro rH 1 M (Rl lJ M (Rm M (Kz ow (SB ?_)))));clear H ow;intro a H;skip;refine amm (ι:=Nat × GH × List Nat) (Tc:=[(1,_),(2,_),(61,_),(62,_)]) (Lc:=[(_,_),(_,_)]) (fun gh=>Za gh.2.2) (fun gh=>[(63,vi gh.1)]) (fun gh=>[]++(IC gh.2.2++[])) (fun gh=>gh.2.1) (fun gh=>gh.1<=l.length∧(l.take gh.1).any (Wh l)=false∧(∀ b o,g2 b=some o->gh.2.1 b=some o)) (fun gh=>l.length - gh.1) ((0,g2,[])) (by exact H.sub ⟨M,M,M,M,M,aB⟩) ?_ ?_
 ·exact EJ
 clear H;rintro ⟨j,g3,ds⟩ a w hI H;dsimp only at hI H;obtain ⟨hj,hnc,xW⟩:=hI;have Yy:=Bj.mono xW;dsimp only [lca,bM] at H;refine kP H (SR fun _ kY=>Rc M (Kz kY (SQ fun _ qj=>Cd M ?_ ?_))) <;> clear H kY
 ·intro h64 a H
  try have p64:=dT h64
  have hj2:j < l.length:=by omega
  obtain ⟨b,o,pA,pc,rfl,hrow,hp,hrep⟩:=Eo Yy hj2;refine kP H (Kc qj (SQ fun _ qB=>SB (SR fun _ qO=>Ri lJ jf M M ?_)));clear H qj;intro a H;refine aU jf (cs:=[_,_,_,_,_,_]) H wn M M (fun j v hj=>H.hp.aH (hrow j v hj)) M ?_;clear H;intro a H;refine dJ jf H wn M ?_;clear H;intro b8 a w DU H;refine bC jf 0 (vs:=[_,_,_,_,_,_]) H wn M ?_;clear H;intro w H;refine qO _ _ ?_;clear qO;refine dz (fun _ rO=>?_);refine dJ aF H wn M ?_;clear H;intro b9 a w uz H;refine bC aF 0 (vs:=[_]) H wn M ?_;clear H;intro w H;refine rO _ _ ?_;clear rO;refine kP H (SR fun _ qP=>Ro rH 3 M (bQ vV aF 1 M M ?_));clear H;intro a H;refine gM apj (Li:=[_,_,_,_]++IC ds) (L:=[]) (St.un (A:=[_,_,_,_]) H) wn M (amN (Hp.owns (Li:=[_,_,_,_]++IC ds) (St.un (A:=[_,_,_,_]) H).hp) l l[j].id _ Yy) M ?_;clear H;rintro v70 g4 L70 a w ⟨bl,bi,rfl,rfl,hbl⟩ agJ H;have H:=(St.OA (A:=[_,_,_,_,_]) (B:=IC ds) (H.perm oO));dsimp only [lca,bM] at H;have hit:=amM (l:=l) (id:=l[j].id) (bi:=bi) hbl (Yy.mono agJ) (aiD hok);refine qP _ _ ?_;clear qP;refine EL ?_;skip;refine amr (B:=[(_,_)]) (ι:=Unit) (κ:=Int) (Lc:=[(_,_),(_,_)]) (fun (k:Nat) (gh:Unit)=>[(b9,.cells #[vi k] 3 (0,0)),(b2,.cells #[vi 0] 49 (0,0))]) (fun (k:Nat) (gh:Unit)=>(IC ds++[])) (fun (k:Nat) (gh:Unit) (g:GH)=>k<=l.length) (fun (gx:Int)=>Code.ret) (fun (gx:Int)=>[(b9,.cells #[vi gx] 3 (0,0)),(b2,.cells #[vi 16] 49 (0,0))]) (fun (gx:Int)=>(IC ds++[])) (fun (gx:Int) (g:GH)=>Wh l l[j]=true) (()) (by exact H.fH (Pl:=[_,_,_,_,_]) (eD:=[_,_,_,_,_]) [0,2,4,1,3] Z M) M aeT (hit) (fun _ _ h=>h) (fun e i g h=>absurd (of_decide_eq_false e) (by rw [bS] at h;omega)) rfl (fun k args g h=>by obtain ⟨_,_,rfl,_⟩:=ajK h;rfl) (fun _ _ _ _ _ h=>h) (fun _ _ _ _ h=>h) (lg _) ?_ ?_ ?_
  ·clear H;intro l21 IX Dw bk k args gh Us w21 F21 B21 a agC Cx hI atz aur avc H;obtain ⟨agC,aBF,rfl,aCm⟩:=ajK agC;dsimp only [BZ,List.cons_append,List.nil_append] at H;refine iE ?_;refine atz _ _ _ _ _ _ (by exact H) ?_;clear H;intro w H;refine kP H (SB (SR fun _ rP=>Ro aF 3 M (Rd M ?_)));clear H;intro a H;refine bC aF 3 (vs:=[_]) H wn M ?_;clear H;intro w H;refine rP _ _ ?_;clear rP;refine kP H (SR fun _ vK=>Ro aF 3 M (Ro rH 2 M (Rl lJ M (Rc M (Kz vK (Cd M ?_ ?_)))))) <;> clear H vK
   ·intro xR a H
    try have IL:=dT xR
    refine dz (fun _ sM=>?_);refine bC jo 4 (vs:=[_]) H wn M ?_;clear H;intro w H;refine sM _ _ ?_;clear sM;refine fE ?_;refine (avc ((k:Int)+1) _ _ _ _ _ (by exact H) ?_).1 M;exact mP O
   intro xR a H
   try have IL:=dF xR
   refine iE ?_;refine aur (()) _ _ _ _ _ (by exact H) ?_
   omega
  ·clear H;intro aav gh aay a w Cx hI H;dsimp only [lca,bM] at H;refine qB _ _ ?_;clear qB;refine kP H (SC (Rd M (Rm M ?_)));clear H;intro a H;refine aG ?_;refine awh ((j+1,aay,aav :: ds)) (by exact (H.fH (Pl:=[_,_,_,_,_]) (eD:=[_,_,_]) [4,2,0] Z M).sub ⟨M,M,M,M,M,aB⟩) ?_ ?_
   ·(try dsimp only);exact ⟨O,aaL hj2 hnc (mY (by rw [bS] at hI;omega)),fun b o h=>Cx b o (agJ b o (xW b o h))⟩
   first|omega|(dsimp only;omega)
  clear H;intro aav x aay a w Cx hI H;dsimp only [lca,bM] at H;refine fE ?_;refine (YV H 0 M ?_).1;clear H;intro a w H;dsimp only [List.eraseIdx_cons_succ,List.eraseIdx_cons_zero] at H;refine (YW (Lh:=[_,_,_,_]) _ H ?_).1;clear H;intro a w H;dsimp only [lca,bM] at H;refine (leave1 H results119 (.cons (TH jo H M (H.hp.yu 3 M M)) .nil) ?_).1
  exact Qi
 intro h64 a H
 try have p64:=dF h64
 refine dQ ?_;refine ou _ _ ?_;clear ou;refine dz (fun _ xB=>?_);refine bC jo 0 (vs:=[_]) H wn M ?_;clear H;intro w H;refine xB _ _ ?_;clear xB;refine fE ?_;refine (YW (Lh:=[_,_]) _ H ?_).1;clear H;intro a w H;dsimp only [lca,bM] at H;refine (leave1 H results119 (.cons (TH jo H M (H.hp.yu 0 M M)) .nil) ?_).1
 exact Qi
theorem xq:Ty prog 34 1 24 [.slice none 0 0] false:=⟨V,V⟩
theorem sH:prog.underlying 34=some (.slice 110):=by kernel_rfl
theorem xg:Ty prog 110 2 32 [.string ⟨#[]⟩,.string ⟨#[]⟩] true:=⟨V,V⟩
theorem J4:dP prog 110 0 0:=⟨V⟩
theorem aeP:aS 192:=aT func192 M
theorem afp:dP prog 110 1 1:=⟨V⟩
theorem ES:dP prog 36 0 0:=⟨V⟩
theorem aou:aS 119:=aT func119 M
theorem ET:dP prog 36 1 1:=⟨V⟩
theorem aov:aS 120:=aT func120 M
theorem Ny:dP prog 36 2 2:=⟨V⟩
theorem aow:aS 121:=aT func121 M
theorem Nz:dP prog 36 3 3:=⟨V⟩
theorem aox:aS 122:=aT func122 M
theorem aps:aS 191:=aT func191 M
theorem akn {G:GH} {l:List jk} {A:Option Addr} {n c k:Nat} (hv:ak G (.sl 2 (l.map jk.dat)) (.slice A n c)) (hk:k < l.length):∃ b o,A=some ⟨b,o,none⟩∧(∀ j u,l[k].cells[j]?=some u->aH G b (o+k*2+j)=some u):=by
 obtain ⟨A',c',he,_,_,hg⟩:=hv.slice
 injection he with e1 e2 e3
 subst e1;obtain ⟨b,o,cs,h1,h2,h3,h4⟩:=hg k l[k].dat (by simp [hk]);have:=aal h4;subst this;exact Gq
def akm (k:Nat) (x:jk) (pn:ByteArray):Int:=dO [dL (!xM x.name) 13,dL (decide (0 < (k:Int)) && (x.name.toList == pn.toList)) 7,dL (decide (0 < (k:Int)) && Op.bytesLess x.name.toList pn.toList) 6,Er x.value]
def Mf (l:List jk) (k:Nat):Int:=match l[k]? with|some x=>akm k x ((l[k - 1]?.map jk.name).getD ⟨#[]⟩)|none=>0
theorem Qj {p:Prop} (h:p:=by
 exact fin H iJ (gH (by first|(rw [mP c0,MF];done)|(rw [mY c0,MH];done)))):p:=h
theorem MR {p:Prop} (h:p:=by
 clear H;intro a H;exact aaW):p:=h
theorem acT {p:Prop} (h:p:=by
 refine gN 4 8 M M fun _ a w G1 hG HT H fin=>?_;refine s_call aeP H wn M (aeb _ _ H.ro x.name hte.1) M ?_;clear H;rintro v9 G9 a w ⟨rfl,-⟩ asY H;exact fin H asY (rfl)):p:=h
theorem acU {p:Prop} (h:p:=by
 refine gN 48 52 M M fun _ a w G1 hG HT H fin=>?_;refine s_call aeO H wn M (ajQ _ _ H.ro x.value hte.2) M ?_;clear H;rintro v53 G53 a w rfl Xy H;exact fin H Xy (rfl)):p:=h
theorem acV {p:Prop} (h:p:=by
 refine gN 24 28 M M fun _ a w G1 hG HT H fin=>?_;refine s_call ng H wn M (nE _ _ H.ro _ 7) M ?_;clear H;rintro v29 F3 a w ⟨rfl,-⟩ asH H;exact fin H asH (rfl)):p:=h
theorem acW {p:Prop} (h:p:=by
 refine gN 42 46 M M fun _ a w G1 hG HT H fin=>?_;refine s_call ng H wn M (nE _ _ H.ro _ 6) M ?_;clear H;rintro v47 G47 a w ⟨rfl,-⟩ asQ H;exact fin H asQ (rfl)):p:=h
theorem acY {p:Prop} (h:p:=by
 refine gN 6 10 M M fun _ a w G1 hG HT H fin=>?_;refine s_call ng H wn M (nE _ _ H.ro _ 13) M ?_;clear H;rintro v11 zx a w ⟨rfl,-⟩ tu H;exact abj):p:=h
set_option maxHeartbeats 2000000 in
theorem aA4 {G:GH} {bl:Nat} {l:List jk} {A:Option Addr} {n c:Nat} (hb:aH G bl 0=some (.slice A n c)) (hv:ak G (.sl 2 (l.map jk.dat)) (.slice A n c)) (hl:l.length<=4294967296) (ht:∀ x∈l,x.name.size < 4611686018427387904∧x.value.size < 4611686018427387904):vJ (.func (.func 191) #[] #[(aK bl 0)]) G l.length (Mf l):=by
 intro k hk G1 w0 hm hG;refine jy (caps:=[(aK bl 0)]) aps ?_;replace hb:=aC hm hb;replace hv:=hv.mono hm
 obtain rfl:n=l.length:=by have:=hv.len;simpa using this
 obtain ⟨b,o,rfl,hrow⟩:=akn hv hk
 have hk1:k - 1 < l.length:=by omega
 obtain ⟨b',o',he',hrow'⟩:=akn hv hk1
 injection he' with he'
 injection he' with e1 e2
 subst e1;subst e2;have hte:=ht _ (lq hk)
 have he:Mf l k=akm k l[k] l[k - 1].name:=by unfold Mf;rw [eB hk,eB hk1];rfl
 obtain ⟨x,hx⟩:∃ x,x=l[k]:=⟨_,M⟩;obtain ⟨y,hy⟩:∃ y,y=l[k - 1]:=⟨_,M⟩;rw [<- hx] at hrow hte he;rw [<- hy] at hrow' he;refine eN [(0,_),(1,_)] func191 M ntmps191 M M hG ?_;intro a H;refine kP H (SR fun _ K1=>aj K1 M (SQ fun _ K2=>?_));clear H K1;intro a H;have H:=H.sub (T':=[(0,_),(1,_)]) ⟨M,M,aB⟩
 by_cases c0:0 < (k:Int)
 ·skip;refine dI hmx [[],[],[0,1],[0,1,2],ra 0 4,ra 0 5,ra 0 6,ra 0 7,[],[8],ra 0 10,ra 0 11,ra 0 11,ra 0 13,ra 0 14,ra 0 15,ra 0 11,ra 0 11,(ra 0 11++[17]),(ra 0 11++[17,18]),(ra 0 11++ra 16 4),(ra 0 11++ra 16 5),(ra 0 11++ra 16 6),ra 0 23,ra 0 24,ra 0 25,[],[26],ra 0 28,ra 0 29,ra 0 29,ra 0 31,ra 0 32,ra 0 33,ra 0 29,ra 0 29,(ra 0 29++[35]),(ra 0 29++[35,36]),(ra 0 29++ra 34 4),(ra 0 29++ra 34 5),(ra 0 29++ra 34 6),ra 0 41,ra 0 42,ra 0 43,[],[],[44,45],[44,45,46],ra 44 4,ra 0 49,ra 0 50,ra 0 51,ra 0 52] [50,51,52] V [_,_,_,_,_,.bool (xM x.name),_,vi (dL (!xM x.name) 13),_,_,_,_,_,_,_,_,_,_,vi ((max k 1:Nat):Int),vi ((k - 1:Nat):Int),_,_,_,.bool (x.name.toList == y.name.toList),.bool (decide (0 < (k:Int)) && (x.name.toList == y.name.toList)),vi (dL (decide (0 < (k:Int)) && (x.name.toList == y.name.toList)) 7),_,_,_,_,_,_,_,_,_,_,vi ((max k 1:Nat):Int),vi ((k - 1:Nat):Int),_,_,_,.bool (Op.bytesLess x.name.toList y.name.toList),.bool (decide (0 < (k:Int)) && Op.bytesLess x.name.toList y.name.toList),vi (dL (decide (0 < (k:Int)) && Op.bytesLess x.name.toList y.name.toList) 6),_,_,_,_,_,vi (Er x.value)] H (ay (X0 M fun hG=>Rg xq M (aC hG hb)) (Z0 M (Rm M)) (Z2 0 4 1 5 M (Ri sH xg M M)) (Z1 2 6 M (Rf J4 M)) (ay (X1 3 7 M fun hG=>Rg iP M (aC hG (hrow 0 _ M))) ?_ (Z1 5 9 M (Rn M)) ?_ (ay (Z0 M (Rm M)) (Z1 8 12 M (Rc M)) (Z1 9 13 M (Rm M)) (X1 10 14 M fun hG=>YR xq (aI c0) M (aC hG hb)) (ay (Z1 10 14 M (YM (aI c0) M)) (Z3 11 15 12 16 10 14 M (YI sH xg (aI c0) M M)) (Z2 13 17 10 14 M (YF J4 (aI c0) M)) (X2 14 18 10 14 M fun hG=>YR iP (aI c0) M (aC hG (hrow 0 _ M))) (ay (X1 10 14 M fun hG=>YR xq (aI c0) M (aC hG hb)) (Z1 10 14 M (YM (aI c0) M)) ?_ ?_ (ay (Z3 16 20 19 23 10 14 M (YI sH xg (aI c0) M M)) (Z2 20 24 10 14 M (YF J4 (aI c0) M)) (X2 21 25 10 14 M fun hG=>YR iP (aI c0) M (aC hG (hrow' 0 _ M))) ?_ (ay ?_ ?_ (Z0 M (Rm M)) (Z1 26 30 M (Rc M)) (ay (Z1 27 31 M (Rm M)) (X1 28 32 M fun hG=>YR xq (aI c0) M (aC hG hb)) (Z1 28 32 M (YM (aI c0) M)) (Z3 29 33 30 34 28 32 M (YI sH xg (aI c0) M M)) (ay (Z2 31 35 28 32 M (YF J4 (aI c0) M)) (X2 32 36 28 32 M fun hG=>YR iP (aI c0) M (aC hG (hrow 0 _ M))) (X1 28 32 M fun hG=>YR xq (aI c0) M (aC hG hb)) (Z1 28 32 M (YM (aI c0) M)) (ay ?_ ?_ (Z3 34 38 37 41 28 32 M (YI sH xg (aI c0) M M)) (Z2 38 42 28 32 M (YF J4 (aI c0) M)) (ay (X2 39 43 28 32 M fun hG=>YR iP (aI c0) M (aC hG (hrow' 0 _ M))) ?_ ?_ ?_ (ay (X0 M fun hG=>Rg xq M (aC hG hb)) (Z0 M (Rm M)) (Z2 44 48 45 49 M (Ri sH xg M M)) (Z1 46 50 M (Rf afp M)) (ay (X1 47 51 M fun hG=>Rg iP M (aC hG (hrow 1 _ M))) ?_ (bT M) (bT M) (bN (bT M) dB)))))))))))))) ?_
  ·exact acT
  ·exact acY
  ·refine eT 17 21 10 14 M M fun _ a w G1 hG HT H fin=>?_;refine TK H (wg H M M (aI c0)) M M M ?_;exact MR
  ·refine eT 18 22 10 14 M M fun _ a w G1 hG HT H fin=>?_;exact zI
  ·refine Dj 15 19 22 26 10 14 M M fun _ a w G1 hG HT H fin=>?_;refine CV H (wg H M M (aI c0)) M M M ?_;exact jG
  ·refine eT 10 14 23 27 M M fun _ a w G1 hG HT H fin=>?_;refine kH H (Pt (aI c0) M ?_);clear H;intro a H;exact Qj
  ·exact acV
  ·refine eT 35 39 28 32 M M fun _ a w G1 hG HT H fin=>?_;refine TK H (wg H M M (aI c0)) M M M ?_;exact MR
  ·refine eT 36 40 28 32 M M fun _ a w G1 hG HT H fin=>?_;exact zI
  ·refine Dj 33 37 40 44 28 32 M M fun _ a w G1 hG HT H fin=>?_;refine azi H (wg H M M (aI c0)) M M M ?_;exact jG
  ·refine eT 28 32 41 45 M M fun _ a w G1 hG HT H fin=>?_;refine kH H (Pt (aI c0) M ?_);clear H;intro a H;exact Qj
  ·exact acW
  ·exact acU
  clear H;intro a w G jC H hv;have H:=H.aN (hv 7 11 M M) M;have H:=H.aN (hv 25 29 M M) M;have H:=H.aN (hv 43 47 M M) M;have H:=H.aN (hv 49 53 M M) M;clear hv;refine iC rM jo [_,_,_,_] [_,_,_,_] H wn M M M M M (by intro i q h;match i,h with|0,h=>exact h|1,h=>exact h|2,h=>exact h|3,h=>exact h|n+4,h=>simp at h) M M ?_;clear H;intro Ca a w agq H;obtain ⟨G54,aul,XE,H⟩:=H.fF;refine s_call sU H wn M (sW _ _ H.ro _ _ (Iu [dL (!xM x.name) 13,dL (decide (0 < (k:Int)) && (x.name.toList == y.name.toList)) 7,dL (decide (0 < (k:Int)) && Op.bytesLess x.name.toList y.name.toList) 6,Er x.value] XE (show 4<=maxLen by decide))) rfl ?_;clear H;rintro v55 _ a w ⟨rfl,rfl⟩ - H;refine kH H (Ra M ?_);clear H;intro a H;refine aG ⟨M,?_⟩;refine K2 _ _ ?_;clear K2;refine lr H results191 M ?_;exact H.rt (by rw [he];rfl)
 skip;refine dI hmx [[],[],[0,1],[0,1,2],ra 0 4,ra 0 5,ra 0 6,ra 0 7,[],[8],ra 0 10,ra 0 11,ra 0 11,ra 0 13,ra 0 14,ra 0 15,ra 0 11,ra 0 11,(ra 0 11++[17]),(ra 0 11++[17,18]),(ra 0 11++ra 16 4),(ra 0 11++ra 16 5),(ra 0 11++ra 16 6),ra 0 23,ra 0 24,ra 0 25,[],[26],ra 0 28,ra 0 29,ra 0 29,ra 0 31,ra 0 32,ra 0 33,ra 0 29,ra 0 29,(ra 0 29++[35]),(ra 0 29++[35,36]),(ra 0 29++ra 34 4),(ra 0 29++ra 34 5),(ra 0 29++ra 34 6),ra 0 41,ra 0 42,ra 0 43,[],[],[44,45],[44,45,46],ra 44 4,ra 0 49,ra 0 50,ra 0 51,ra 0 52] [50,51,52] V [_,_,_,_,_,.bool (xM x.name),_,vi (dL (!xM x.name) 13),_,_,_,undef,undef,undef,undef,undef,undef,undef,undef,undef,undef,undef,undef,undef,.bool (decide (0 < (k:Int)) && (x.name.toList == y.name.toList)),vi (dL (decide (0 < (k:Int)) && (x.name.toList == y.name.toList)) 7),_,_,_,undef,undef,undef,undef,undef,undef,undef,undef,undef,undef,undef,undef,undef,.bool (decide (0 < (k:Int)) && Op.bytesLess x.name.toList y.name.toList),vi (dL (decide (0 < (k:Int)) && Op.bytesLess x.name.toList y.name.toList) 6),_,_,_,_,_,vi (Er x.value)] H (ay (X0 M fun hG=>Rg xq M (aC hG hb)) (Z0 M (Rm M)) (Z2 0 4 1 5 M (Ri sH xg M M)) (Z1 2 6 M (Rf J4 M)) (ay (X1 3 7 M fun hG=>Rg iP M (aC hG (hrow 0 _ M))) ?_ (Z1 5 9 M (Rn M)) ?_ (ay (Z0 M (Rm M)) (Z1 8 12 M (Rc M)) (Z1 9 13 M (Rm M)) (aZ 10 (aY c0) M M) (ay (aZ 10 (aY c0) M M) (aZ 10 (aY c0) M M) (aZ 10 (aY c0) M M) (aZ 10 (aY c0) M M) (ay (aZ 10 (aY c0) M M) (aZ 10 (aY c0) M M) (aZ 10 (aY c0) M M) (aZ 10 (aY c0) M M) (ay (aZ 10 (aY c0) M M) (aZ 10 (aY c0) M M) (aZ 10 (aY c0) M M) (aZ 10 (aY c0) M M) (ay ?_ ?_ (Z0 M (Rm M)) (Z1 26 30 M (Rc M)) (ay (Z1 27 31 M (Rm M)) (aZ 28 (aY c0) M M) (aZ 28 (aY c0) M M) (aZ 28 (aY c0) M M) (ay (aZ 28 (aY c0) M M) (aZ 28 (aY c0) M M) (aZ 28 (aY c0) M M) (aZ 28 (aY c0) M M) (ay (aZ 28 (aY c0) M M) (aZ 28 (aY c0) M M) (aZ 28 (aY c0) M M) (aZ 28 (aY c0) M M) (ay (aZ 28 (aY c0) M M) (aZ 28 (aY c0) M M) ?_ ?_ (ay (X0 M fun hG=>Rg xq M (aC hG hb)) (Z0 M (Rm M)) (Z2 44 48 45 49 M (Ri sH xg M M)) (Z1 46 50 M (Rf afp M)) (ay (X1 47 51 M fun hG=>Rg iP M (aC hG (hrow 1 _ M))) ?_ (bT M) (bT M) (bN (bT M) dB)))))))))))))) ?_
 ·exact acT
 ·exact acY
 ·refine eT 10 14 23 27 M M fun _ a w G1 hG HT H fin=>?_;refine kH H (Pf (aY c0) M ?_);clear H;intro a H;exact Qj
 ·exact acV
 ·refine eT 28 32 41 45 M M fun _ a w G1 hG HT H fin=>?_;refine kH H (Pf (aY c0) M ?_);clear H;intro a H;exact Qj
 ·exact acW
 ·exact acU
 clear H;intro a w G jC H hv;have H:=H.aN (hv 7 11 M M) M;have H:=H.aN (hv 25 29 M M) M;have H:=H.aN (hv 43 47 M M) M;have H:=H.aN (hv 49 53 M M) M;clear hv;refine iC rM jo [_,_,_,_] [_,_,_,_] H wn M M M M M (by intro i q h;match i,h with|0,h=>exact h|1,h=>exact h|2,h=>exact h|3,h=>exact h|n+4,h=>simp at h) M M ?_;clear H;intro Ca a w agq H;obtain ⟨G54,aul,XE,H⟩:=H.fF;refine s_call sU H wn M (sW _ _ H.ro _ _ (Iu [dL (!xM x.name) 13,dL (decide (0 < (k:Int)) && (x.name.toList == y.name.toList)) 7,dL (decide (0 < (k:Int)) && Op.bytesLess x.name.toList y.name.toList) 6,Er x.value] XE (show 4<=maxLen by decide))) rfl ?_;clear H;rintro v55 _ a w ⟨rfl,rfl⟩ - H;refine kH H (Ra M ?_);clear H;intro a H;refine aG ⟨M,?_⟩;refine K2 _ _ ?_;clear K2;refine lr H results191 M ?_;exact H.rt (by rw [he];rfl)
def QA (l:List jk):Int:=dO [dL (decide (128 < (l.length:Int))) 9,iX (Mf l) (min l.length 128)]
theorem amU (G:GH) (w0:World) (hG:Hold G w0) (l:List jk) (v:ah) (hv:ak G (.sl 2 (l.map jk.dat)) v) (hl:l.length<=4294967296) (ht:∀ x∈l,x.name.size < 4611686018427387904∧x.value.size < 4611686018427387904) :
  Calls prog 122 #[v] w0 (bG w0 G fun u G'=>u=vi (QA l)):=by
 obtain ⟨A,c,rfl,hc1,hc2,-⟩:=hv.slice;rw [bS] at *;refine eN [(0,_)] func122 M ntmps122 M M hG ?_;intro a H;refine dz (fun _ K1=>?_);refine dR (cs:=[_]) H wn M M M ?_;clear H;intro b1 a w hb1 H;refine kH H (aj K1 M (SQ fun _ K2=>?_));clear H K1;intro a H;have H:=H.sub (T':=[(1,_)]) ⟨M,aB⟩;obtain ⟨Ga,hma,hb1',H⟩:=H.fF
 have hbl:aH Ga b1 0=some (.slice A l.length c):=by unfold aH;rw [hb1'];rfl
 have hcb:=aA4 hbl (hv.mono hma) hl ht;refine dI hmx [[],[0],[0,1],[0,1,2],[],[4],[4,5],[],ra 0 8,ra 0 9,ra 0 10,ra 0 11] [9,10,11] V [_,_,_,vi (dL (decide (128 < (l.length:Int))) 9),_,_,vi ((min l.length 128:Nat):Int),.func (.func 191) #[] #[(aK b1 0)],vi (iX (Mf l) (min l.length 128))] H (ay (X0 M fun hG=>Rg xq M (aC hG hbl)) (Z1 0 3 M (Rl sH M)) (Z1 1 4 M (Rc M)) ?_ (ay (X0 M fun hG=>Rg xq M (aC hG hbl)) (Z1 4 7 M (Rl sH M)) ?_ ?_ (ay ?_ (bT M) (bT M) (bT M) dB))) ?_
 ·exact Qn
 ·exact Qq
 ·exact Gy
 ·refine eT 6 9 7 10 M M fun _ a w G1 hG HT H fin=>?_;refine s_call JZ H wn M (MI _ _ H.ro (min l.length 128) (Mf l) _ O ((hcb.mono hG).le (Nat.min_le_left _ _))) M ?_;exact MW
 clear H;intro a w G jC H hv;have H:=H.aN (hv 3 6 M M) M;have H:=H.aN (hv 8 11 M M) M;clear hv;refine iC rM jo [_,_] [_,_] H wn M M M M M (by intro i q h;match i,h with|0,h=>exact h|1,h=>exact h|n+2,h=>simp at h) M M ?_;clear H;intro b12 a w Hy H;obtain ⟨Df,DZ,Hz,H⟩:=H.fF;refine s_call sU H wn M (sW _ _ H.ro _ _ (Ab Hz)) M ?_;clear H;rintro v13 _ a w ⟨rfl,rfl⟩ - H;refine kH H (Ra M ?_);clear H;intro a H;refine aG ⟨M,?_⟩;refine K2 _ _ ?_;clear K2;refine lr H results122 M ?_;exact xK
structure BQ where
 styles:List bY
 lists:List fC
 comments:List gF
 vars:List jk
structure Am (G:GH) (s:BQ) (a b c d:ah):Prop where
 st:ak G (.sl 6 (s.styles.map bY.dat)) a
 li:ak G (.sl 2 (s.lists.map fC.dat)) b
 cm:ak G (.sl 6 (s.comments.map gF.dat)) c
 va:ak G (.sl 2 (s.vars.map jk.dat)) d
structure UR (s:BQ):Prop where
 sn:∀ x∈s.styles,x.name.size<=4611686018427387904
 ln:s.lists.length<=4294967296
 lt:∀ x∈s.lists,∀ y∈x.levels,y.zq.size < 4611686018427387904
 cn:s.comments.length<=4294967296
 ct:∀ x∈s.comments,x.author.size < 4611686018427387904∧x.text.size < 4611686018427387904
 vn:s.vars.length<=4294967296
 vt:∀ x∈s.vars,x.name.size < 4611686018427387904∧x.value.size < 4611686018427387904
 pl:∀ x∈s.styles,x.props.length<=4294967296
 ll:∀ x∈s.lists,x.levels.length<=4294967296
def M4 (s:BQ):Int:=dO [Ao s.styles,M0 s.lists,Qz s.comments,QA s.vars]
theorem amT (G:GH) (w0:World) (hG:Hold G w0) (s:BQ) (a b c d:ah) (hR:Am G s a b c d) (hz:UR s) :
  Calls prog 67 #[.agg #[a,b,c,d]] w0 (bG w0 G fun u G'=>u=vi (M4 s)):=by
 obtain ⟨sA,sn,sc,rfl⟩:=hR.st.form;obtain ⟨lA,ln,lc,rfl⟩:=hR.li.form;obtain ⟨cA,cn,cc,rfl⟩:=hR.cm.form;obtain ⟨vA,vn,vc,rfl⟩:=hR.va.form;refine eN [(0,_)] func67 M ntmps67 M M hG ?_;intro a H;refine dz (fun _ K1=>?_);refine dR (cs:=[_,_,_,_]) H wn M M M ?_;clear H;intro b1 a w hb1 H;refine kH H (aj K1 M (SQ fun _ K2=>?_));clear H K1;intro a H;have H:=H.sub (T':=[(1,_)]) ⟨M,aB⟩;obtain ⟨Ga,hma,hb1',H⟩:=H.fF
 have hc0:aH Ga b1 0=some (.slice sA sn sc):=by unfold aH;rw [hb1'];rfl
 have hc1:aH Ga b1 1=some (.slice lA ln lc):=by unfold aH;rw [hb1'];rfl
 have hc2:aH Ga b1 2=some (.slice cA cn cc):=by unfold aH;rw [hb1'];rfl
 have hc3:aH Ga b1 3=some (.slice vA vn vc):=by unfold aH;rw [hb1'];rfl
 refine dI hmx [[],[0],[0,1],[],[3],ra 0 5,[],[6],ra 0 8,[],[9],ra 0 11,ra 0 12,ra 0 13,ra 0 14] [12,13,14] V [_,_,vi (Ao s.styles),_,_,vi (M0 s.lists),_,_,vi (Qz s.comments),_,_,vi (QA s.vars)] H (ay (Z0 M (Rf ES M)) (X1 0 3 M fun hG=>Rg rH M (aC hG hc0)) ?_ (Z0 M (Rf ET M)) (ay (X1 3 6 M fun hG=>Rg Ac M (aC hG hc1)) ?_ (Z0 M (Rf Ny M)) (X1 6 9 M fun hG=>Rg C9 M (aC hG hc2)) (ay ?_ (Z0 M (Rf Nz M)) (X1 9 12 M fun hG=>Rg xq M (aC hG hc3)) ?_ (bN (bT M) (bN (bT M) (bN (bT M) dB)))))) ?_
 ·refine gN 1 4 M M fun _ a w G1 hG HT H fin=>?_;refine s_call aou H wn M (amW _ _ H.ro s.styles _ ((hR.st.mono hma).mono hG) hz.sn) M ?_;clear H;rintro v5 G5 a w rfl oD H;exact fin H oD (rfl)
 ·refine gN 4 7 M M fun _ a w G1 hG HT H fin=>?_;refine s_call aov H wn M (amR _ _ H.ro s.lists _ ((hR.li.mono hma).mono hG) hz.ln hz.lt) M ?_;clear H;rintro v8 G8 a w rfl tC H;exact fin H tC (rfl)
 ·refine gN 7 10 M M fun _ a w G1 hG HT H fin=>?_;refine s_call aow H wn M (amP _ _ H.ro s.comments _ ((hR.cm.mono hma).mono hG) hz.cn hz.ct) M ?_;exact MW
 ·refine gN 10 13 M M fun _ a w G1 hG HT H fin=>?_;refine s_call aox H wn M (amU _ _ H.ro s.vars _ ((hR.va.mono hma).mono hG) hz.vn hz.vt) M ?_;clear H;rintro v14 EB a w rfl Hr H;exact fin H Hr (rfl)
 clear H;intro a w G jC H hv;have H:=H.aN (hv 2 5 M M) M;have H:=H.aN (hv 5 8 M M) M;have H:=H.aN (hv 8 11 M M) M;have H:=H.aN (hv 11 14 M M) M;clear hv;refine iC rM jo [_,_,_,_] [_,_,_,_] H wn M M M M M (by intro i q h;match i,h with|0,h=>exact h|1,h=>exact h|2,h=>exact h|3,h=>exact h|n+4,h=>simp at h) M M ?_;clear H;intro b15 a w XC H;obtain ⟨Dg,A9,atl,H⟩:=H.fF;refine s_call sU H wn M (sW _ _ H.ro _ _ (Iu [Ao s.styles,M0 s.lists,Qz s.comments,QA s.vars] atl (show 4<=maxLen by decide))) rfl ?_;clear H;rintro v16 _ a w ⟨rfl,rfl⟩ - H;refine kH H (Ra M ?_);clear H;intro a H;refine aG ⟨M,?_⟩;refine K2 _ _ ?_;clear K2;refine lr H results67 M ?_;exact xK
section
def jh:Nat->List (Int × ah)->List MapEntry
 | _,[]=>[]
 | i,(k,v) :: r=>⟨.int .i64 k,v,i⟩ :: jh (i+1) r
theorem ahZ (x:Int × ah):∀ (i:Nat) (l:List (Int × ah)),jh i (l++[x])=jh i l++[⟨.int .i64 x.1,x.2,i+l.length⟩]
 | _,[]=>rfl
 | i,k :: r=>by
  rw [qm,jh,ahZ x (i+1) r,jh,qm,lW,show i+1+r.length=i+(r.length+1) by omega]
def uZ (x:Int):List (Int × ah)->Option ah
 | []=>none
 | (k,v) :: r=>if k=x then some v else uZ x r
theorem KZ {x:Int}:∀ {l:List (Int × ah)},x∉l.map (·.1)->uZ x l=none
 | [],_=>rfl
 | (k,v) :: r,h=>by
  rw [uZ,av (fun e=>h (by simp [e])),KZ (fun hm=>h (gW _ hm))]
theorem WS (x:Int):∀ (i j:Nat) (l:List (Int × ah)),∃ an,Instr.findNow (.int .i64) (.int .i64 x) (jh i l) j=some an∧an.map (·.2)=uZ x l
 | _,_,[]=>⟨none,M,M⟩
 | i,j,(k,v) :: r=>by
  obtain ⟨an,h1,h2⟩:=WS x (i+1) (j+1) r
  by_cases e:k=x
  ·subst e
   exact ⟨some (j,v),by simp only [jh,Instr.findNow,Instr.sameNow,aD,beq_self_eq_true],by rw [uZ,aD M];rfl⟩
  ·have hb:(x == k)=false:=by simp;exact fun h=>e h.symm
   exact ⟨an,by simpa only [jh,Instr.findNow,Instr.sameNow,aD,hb] using h1,by rw [uZ,av e];exact h2⟩
abbrev fG (l:List (Int × ah)):Obj:=.map (jh 0 l).toArray l.length
section
variable {N:Nat} {D:List Deferred} {w0:World} {F:Nat->Prop} {G0 G:GH} {L:OL} {T:List (Nat × ah)}
variable {r:Option Nat} {P:Program} {ops:Array Oper} {Q:Exit->Act->World->Prop} {rest:List Oper} {a:Act} {w:World}
variable {d:Nat} {ty:TypeId} {pos:String} {aQ:Array Edge} {g:Option (Nat × Bool)}
theorem Bw {t kt et:TypeId} {x y:Operand} {b:Nat} {l:List (Int × ah)} {ky:Int} {zv:ah} (hm:P.underlying t=some (.map kt et)) (hk:P.underlying kt=some (.int .i64)) (hz:(P.info? et).map (fun i=>i.zero)=some (some zv)) (H:St N D w0 F G0 G L T a w)
  (hw:Region.wanted ⟨some d,.lookup t x y false,ty,pos,aQ,g⟩ (yielded ops a.tmps)=true) (hx:ev T x=some (.map (some b))) (hy:ev T y=some (.int .i64 ky)) (hb:w.heap[b]?=some (fG l)) (hd:Nat.blt d N=true)
  (k:∀ a',St N D w0 F G0 G L ((d,(uZ ky l).getD zv) :: T) a' w->WL r P ops Q rest a' w):WL r P ops Q (⟨some d,.lookup t x y false,ty,pos,aQ,g⟩ :: rest) a w:=by
 obtain ⟨an,hf,han⟩:=WS ky 0 0 l
 obtain ⟨inf,hi1,hi2⟩:=qD.1 hz
 refine fQ (v:=(uZ ky l).getD zv) (w':=w) hw M ?_ (k _ (H.put hd _ H.hp))
 have hkey:MapKept.IsKey (.int .i64) (.int .i64 ky):=by trivial
 have hf2:Instr.findNow (.int .i64) (.int .i64 ky) (jh 0 l).toArray.toList 0=some an:=by simpa using hf
 replace hb:w.heap[b]?=some (.map (jh 0 l).toArray l.length):=hb
 generalize (jh 0 l).toArray=es at hb hf2
 have h1:=MapKept.run_checkKey (P:=P) (w:=w) hk hkey es.isEmpty 9999
 have h2:=MapKept.run_findKey (P:=P) (w:=w) hk hf2
 rw [<- han]
 cases an with
 | none=>simp [execOp,Instr.lookup,H.ev hx,H.ev hy,dU,nZ hm,MapKept.run_getObj_map hb,h1,h2,Result.andThen,zeroValue,FL hi1,hi2]
 | some q=>simp [execOp,Instr.lookup,H.ev hx,H.ev hy,dU,nZ hm,MapKept.run_getObj_map hb,h1,h2,Result.andThen]
theorem LP {t kt et:TypeId} {x y z:Operand} {b i:Nat} {l:List (Int × ah)} {ky:Int} {v:ah} (hm:P.underlying t=some (.map kt et)) (hk:P.underlying kt=some (.int .i64)) (H:St N D w0 F G0 G L T a w)
  (hw:Region.wanted ⟨none,.mapUpdate t x y z,ty,pos,aQ,g⟩ (yielded ops a.tmps)=true) (hx:ev T x=some (.map (some b))) (hy:ev T y=some (.int .i64 ky)) (hzv:ev T z=some v) (hi:L[i]?=some (b,fG l)) (hn:uZ ky l=none)
  (k:∀ w',St N D w0 F G0 G (L.set i (b,fG (l++[(ky,v)]))) T a w'->WL r P ops Q rest a w'):WL r P ops Q (⟨none,.mapUpdate t x y z,ty,pos,aQ,g⟩ :: rest) a w:=by
 obtain ⟨an,hf,han⟩:=WS ky 0 0 l
 have hnone:an=none:=by
  rw [hn] at han
  cases an with
  | none=>rfl
  | some q=>cases han
 subst hnone
 refine ajs (i:=i) hm hk H hw hx hy hzv hi (by trivial) (by simpa using hf) ?_
 intro w' H'
 have e:(jh 0 l).toArray.push ⟨.int .i64 ky,v,l.length⟩=(jh 0 (l++[(ky,v)])).toArray:=by
  rw [ahZ,List.push_toArray,gy]
 refine k w' ?_
 rw [e] at H'
 rw [fG,iW]
 exact H'
end
end
theorem xu:prog.underlying 131=some (.map 3 4):=by kernel_rfl
theorem oh:Ty prog 102 3 32 [.int .i64 0,.string ⟨#[]⟩,.int .i64 0] true:=⟨V,V⟩
theorem aAs:qQ prog 133 [(0,1),(1,1),(2,1),(3,1),(4,1),(5,1)] [.map none,.map none,.map none,.map none,.map none,.int .i64 0]:=⟨V,V⟩
theorem J8:dP prog 38 3 7:=⟨V⟩
theorem Nr:dP prog 133 0 0:=⟨V⟩
theorem OY:Ty prog 130 1 8 [.map none] false:=⟨V,V⟩
theorem afr:dP prog 133 1 1:=⟨V⟩
theorem vC:Ty prog 131 1 8 [.map none] false:=⟨V,V⟩
theorem Ck:dP prog 38 2 6:=⟨V⟩
theorem xk:Ty prog 30 1 24 [.slice none 0 0] false:=⟨V,V⟩
theorem om:prog.underlying 30=some (.slice 102):=by kernel_rfl
theorem Ns:dP prog 133 2 2:=⟨V⟩
theorem WO:dP prog 102 0 0:=⟨V⟩
structure bV where
 id:Int
 author:ByteArray
 time:Int
def bV.dat (x:bV):List Dat:=[li x.id,.lf (.string x.author),li x.time]
abbrev bV.cells (x:bV):List ah:=[vi x.id,.string x.author,vi x.time]
theorem OJ {G:GH} {x:bV} {cs:List ah} (h:bB G x.dat cs):cs=x.cells:=by
 simp only [bV.dat,bB,ak] at h
 exact abT
theorem ZH {G:GH} {l:List bV} {A:Option Addr} {n c k:Nat} (hv:ak G (.sl 3 (l.map bV.dat)) (.slice A n c)) (hk:k < l.length):∃ b o,A=some ⟨b,o,none⟩∧(∀ j u,l[k].cells[j]?=some u->aH G b (o+k*3+j)=some u):=by
 obtain ⟨A',c',he,_,_,hg⟩:=hv.slice
 injection he with e1 e2 e3
 subst e1;obtain ⟨b,o,cs,h1,h2,h3,h4⟩:=hg k l[k].dat (by simp [hk]);have:=OJ h4;subst this;exact Gq
abbrev gY (b ms ml mr mb mu:Nat) (n:Int):Nat × Obj:=(b,.cells #[.map (some ms),.map (some ml),.map (some mr),.map (some mb),.map (some mu),vi n] 133 (0,0))
def Bo (l:List bY):List (Int × ah):=l.map fun s=>(s.id,vi s.kind)
def gq (l:List Int):List (Int × ah):=l.map fun k=>(k,.bool true)
structure xw (us:List Int) (G:GH) (st:List bY) (li:List fC) (rv:List bV) (ms ml mr mu:Nat):Prop where
 sty:G ms=some (fG (Bo st))
 nM:G ml=some (fG (gq (li.map fC.id)))
 rev:G mr=some (fG (gq (rv.map bV.id)))
 use:G mu=some (fG (gq us))
theorem xw.mono {us:List Int} {G G':GH} {st:List bY} {li:List fC} {rv:List bV} {ms ml mr mu:Nat} (h:xw us G st li rv ms ml mr mu) (hm:∀ b o,G b=some o->G' b=some o):xw us G' st li rv ms ml mr mu:=⟨hm _ _ h.sty,hm _ _ h.nM,hm _ _ h.rev,hm _ _ h.use⟩
structure Uq (G:GH) (st:List bY) (li:List fC) (rv:List bV) (ms ml mr:Nat):Prop where
 sty:G ms=some (fG (Bo st))
 nM:G ml=some (fG (gq (li.map fC.id)))
 rev:G mr=some (fG (gq (rv.map bV.id)))
theorem Uq.with {us:List Int} {G G':GH} {st:List bY} {li:List fC} {rv:List bV} {ms ml mr mu:Nat} (h:Uq G st li rv ms ml mr) (hm:∀ b o,G b=some o->G' b=some o) (hu:G' mu=some (fG (gq us))):xw us G' st li rv ms ml mr mu:=⟨hm _ _ h.sty,hm _ _ h.nM,hm _ _ h.rev,hu⟩
def Dc (l:List Int):Prop:=∀ (k:Nat) (h:k < l.length),l[k]∉l.take k
theorem awq {l:List bY} {k:Nat} (h:k < l.length):Bo (l.take (k+1))=Bo (l.take k)++[(l[k].id,vi l[k].kind)]:=by rw [Bo,kG h,kR];rfl
theorem ahW {l:List Int} {k:Nat} (h:k < l.length):gq (l.take (k+1))=gq (l.take k)++[(l[k],.bool true)]:=by rw [gq,kG h,kR];rfl
theorem awp {l:List bY} {k:Nat} (f:Dc (l.map bY.id)) (h:k < l.length):uZ l[k].id (Bo (l.take k))=none:=by
 refine KZ ?_;have:=f k (by simpa using h)
 simpa [Bo,List.map_take,List.map_map,Function.comp_def] using this
theorem ahV {l:List Int} {k:Nat} (f:Dc l) (h:k < l.length):uZ l[k] (gq (l.take k))=none:=by
 refine KZ ?_;have:=f k h
 simpa [gq,List.map_map,Function.comp_def] using this
theorem U9 {p:Prop} (h:p:=by
 exact ⟨lg _,fun _ _ h=>h⟩):p:=h
theorem awP (G:GH) (w0:World) (hO:gJ G [] w0) (D:kN) (st:List bY) (li:List fC) (rv:List bV) (hst:ak G (.sl 6 (st.map bY.dat)) (aW D.s1)) (NT:ak G (.sl 2 (li.map fC.dat)) (aW D.s2)) (qJ:ak G (.sl 3 (rv.map bV.dat)) (aW D.r))
  (f1:Dc (st.map bY.id)) (f2:Dc (li.map fC.id)) (f3:Dc (rv.map bV.id)) (z1:st.length<=4294967296) (z2:li.length<=4294967296) (z3:rv.length<=4294967296) :
  Calls prog 69 #[D.val] w0 (fV w0 G [] fun u G' L'=>∃ b ms ml mr mb mu,u=(aK b 0)∧L'=[gY b ms ml mr mb mu 0,(mb,fG []),(mu,fG [])]∧Uq G' st li rv ms ml mr):=by
 obtain ⟨df,dp,dd,dy,⟨rA,rn,rc⟩,⟨sA,sn,sc⟩,⟨lA,ln,lc⟩,d3,d4,ins,mv⟩:=D;dsimp only at hst NT qJ
 obtain rfl:sn=st.length:=by have:=hst.len;simpa using this
 obtain rfl:ln=li.length:=by have:=NT.len;simpa using this
 obtain rfl:rn=rv.length:=by have:=qJ.len;simpa using this
 have hml:maxLen=9223372036854775807:=rfl;refine jA (N:=64) (T:=[(0,_)]) func69 M ntmps69 M M hO ?_;intro a H;refine dz (fun _ K1=>?_);refine dR (cs:=[_,_,_,_,_,_,_,_,_,_,_]) H wn M M M ?_;clear H;intro b1 a w hb1 H;refine kH H (aj K1 M (SQ fun _ K2=>?_));clear H K1;intro a H;obtain ⟨Ga,hma,hb1',H⟩:=H.fF
 have hc7:aH Ga b1 7=some (.slice sA st.length sc):=by unfold aH;rw [hb1'];rfl
 have hc8:aH Ga b1 8=some (.slice lA li.length lc):=by unfold aH;rw [hb1'];rfl
 have hc6:aH Ga b1 6=some (.slice rA rv.length rc):=by unfold aH;rw [hb1'];rfl
 replace hst:=hst.mono hma;replace NT:=NT.mono hma;replace qJ:=qJ.mono hma;refine nU ?_;refine FN H wn M ?_;clear H;intro b10 a w aBK H;refine FN H wn M ?_;clear H;intro b11 a w Kt H;refine FN H wn M ?_;clear H;intro b12 a w Hy H;refine FN H wn M ?_;clear H;intro b13 a w NK H;refine FN H wn M ?_;clear H;intro b14 a w agl H;refine jU aAs [_,_,_,_,_,_] H wn M M M M ?_;clear H;intro a H;refine dR (cs:=[_,_,_,_,_,_]) H wn M M M ?_;clear H;intro b16 a w agm H;refine kH H (bD K2 M (SQ fun _ K3=>SR fun _ K4=>Rf J8 M (Rf ES M (Rg rH M (by assumption) ?_))));clear H K2;intro a H;refine kH H (Rl lJ M (Rm M (Kz K4 (SB ?_))));clear H K4;intro a H;skip;refine eX (ι:=Nat × GH) (Tc:=[(1,_),(3,_),(19,_),(20,_)]) (Lc:=[(_,_),(_,_),(_,_),(_,_),(_,_)]) (fun gh=>[(21,vi gh.1)]) (fun gh=>[(b10,fG (Bo (st.take gh.1)))]) (fun gh=>gh.2) (fun gh=>gh.1<=st.length∧(∀ b o,Ga b=some o->gh.2 b=some o)) (fun gh=>st.length - gh.1) ((0,Ga)) (by exact H.sub ⟨M,M,M,M,M,aB⟩) ?_ ?_
 ·exact U9
 clear H;rintro ⟨k,g1⟩ a w hI H;dsimp only at hI H;obtain ⟨hk,KJ⟩:=hI;dsimp only [lca,bM] at H;refine kP H (SR fun _ K5=>Rc M (Kz K5 (SQ fun _ K6=>Cd M ?_ ?_))) <;> clear H K5
 ·intro h22 a H
  try have oH:=dT h22
  have hk2:k < st.length:=by omega
  obtain ⟨xb,xo,pA,pc,rfl,hrow,-,-⟩:=Eo (hst.mono KJ) hk2;have hnew:=awp f1 hk2;refine kP H (Kc K6 (SQ fun _ K7=>SB (SR fun _ K8=>Ri lJ jf M M ?_)));clear H K6;intro a H;refine aU jf (cs:=_) H wn M M (fun j v hj=>H.hp.aH (hrow j v hj)) M ?_;clear H;intro a H;refine dJ jf H wn M ?_;clear H;intro b5 a w hb5 H;refine bC jf 0 (vs:=[_,_,_,_,_,_]) H wn M ?_;clear H;intro w H;refine K8 _ _ ?_;clear K8;refine dI hmx [[],[0],[0,1],[0,1,2],[],[4],[],[6],ra 0 8] [8] V [_,_,_,.map (some b10),_,vi st[k].id,_,vi st[k].kind] H (ay (Z0 M (Rm M)) (Z1 0 25 M (Rk M)) (Z1 1 26 M (Rf Nr M)) (Z1 2 27 M (Ro OY 1 M)) (ay (Z0 M (Rf vV M)) (Z1 4 29 M (Ro aF 0 M)) (Z0 M (Rf xQ M)) (Z1 6 31 M (Ro aF 0 M)) (bN (bT M) dB))) ?_
  clear H;intro a w G oD H hv;have H:=H.aN (hv 3 28 M M) M;have H:=H.aN (hv 5 30 M M) M;have H:=H.aN (hv 7 32 M M) M;clear hv;refine LP (i:=6) I6 mF H wn M M M M hnew ?_;clear H;intro w H;dsimp only [List.set,List.append,lca,bM] at H;rw [<- awq hk2] at H;refine aG ⟨M,?_⟩;refine K7 _ _ ?_;clear K7;refine kP H (SC (Rd M (Rm M ?_)));clear H;intro a H;refine aG ?_;refine dY ((k+1,G)) (by exact (H.fH (Pl:=[_,_,_,_,_,_,_]) (eD:=[_,_,_,_,_,_]) [1,2,3,4,5,6] Z M).sub ⟨M,M,M,M,M,aB⟩) ?_
  (try dsimp only);exact ⟨O,fun b o h=>oD b o (KJ b o h)⟩
 intro h22 a H
 try have oH:=dF h22
 obtain rfl:k=st.length:=by omega
 rw [yG] at H;have aB3:=aC KJ hc8;refine dQ ?_;refine K3 _ _ ?_;clear K3;refine kP H (SQ fun _ K9=>SR fun _ aR=>Rf J8 M (Rf ET M (Rg Ac M (by assumption) ?_)));clear H;intro a H;refine kH H (Rl tT M (Rm M (Kz aR (SB ?_))));clear H aR;intro a H;skip;refine eX (ι:=Nat × GH) (Tc:=[(1,_),(3,_),(36,_),(37,_)]) (Lc:=[(_,_),(_,_),(_,_),(_,_),(_,_)]) (fun gh=>[(38,vi gh.1)]) (fun gh=>[(b11,fG (gq ((li.map fC.id).take gh.1)))]) (fun gh=>gh.2) (fun gh=>gh.1<=li.length∧(∀ b o,g1 b=some o->gh.2 b=some o)) (fun gh=>li.length - gh.1) ((0,g1)) (by exact (H.fH (Pl:=[_,_,_,_,_,_]) (eD:=[_,_,_,_,_,_]) [0,1,2,3,5,4] Z M).sub ⟨M,M,M,M,M,aB⟩) ?_ ?_
 ·exact U9
 clear H;rintro ⟨k,g2⟩ a w hI H;dsimp only at hI H;obtain ⟨hk,RJ⟩:=hI;dsimp only [lca,bM] at H;refine kP H (SR fun _ bq=>Rc M (Kz bq (SQ fun _ bP=>Cd M ?_ ?_))) <;> clear H bq
 ·intro jN a H
  try have p39:=dT jN
  have hk2:k < li.length:=by omega
  obtain ⟨xb,xo,B,d,rfl,hrow,-⟩:=Y0 ((NT.mono KJ).mono RJ) hk2
  have hk3:k < (li.map fC.id).length:=by simpa using hk2
  have hnew:=ahV f2 hk3
  have sw:(li.map fC.id)[k]=li[k].id:=by simp
  rw [sw] at hnew;refine kP H (Kc bP (SQ fun _ bU=>SB (SR fun _ dh=>Ri tT rJ M M ?_)));clear H bP;intro a H;refine aU rJ (cs:=_) H wn M M (fun j v hj=>H.hp.aH (hrow j v hj)) M ?_;clear H;intro a H;refine dJ rJ H wn M ?_;clear H;intro b7 a w xV H;refine bC rJ 0 (vs:=[_,_]) H wn M ?_;clear H;intro w H;refine dh _ _ ?_;clear dh;refine dI hmx [[],[0],[0,1],[0,1,2],[],[4],ra 0 6] [6] V [_,_,_,.map (some b11),_,vi li[k].id] H (ay (Z0 M (Rm M)) (Z1 0 42 M (Rk M)) (Z1 1 43 M (Rf afr M)) (Z1 2 44 M (Ro vC 1 M)) (bN (Z0 M (Rf QZ M)) (bN (Z1 4 46 M (Ro aF 0 M)) (bN (bT M) dB)))) ?_
  clear H;intro a w G wR H hv;have H:=H.aN (hv 3 45 M M) M;have H:=H.aN (hv 5 47 M M) M;clear hv;refine LP (i:=6) xu mF H wn M M M M hnew ?_;clear H;intro w H;dsimp only [List.set,List.append,lca,bM] at H;rw [<- sw,<- ahW hk3] at H;refine aG ⟨M,?_⟩;refine bU _ _ ?_;clear bU;refine kP H (SC (Rd M (Rm M ?_)));clear H;intro a H;refine aG ?_;refine dY ((k+1,G)) (by exact (H.fH (Pl:=[_,_,_,_,_,_,_]) (eD:=[_,_,_,_,_,_]) [1,2,3,4,5,6] Z M).sub ⟨M,M,M,M,M,aB⟩) ?_
  (try dsimp only);exact ⟨O,fun b o h=>wR b o (RJ b o h)⟩
 intro jN a H
 try have p39:=dF jN
 obtain rfl:k=li.length:=by omega
 rw [jF (by simp)] at H;have aB2:=aC RJ (aC KJ hc6);refine dQ ?_;refine K9 _ _ ?_;clear K9;refine kP H (SQ fun _ dZ=>SR fun _ eu=>Rf Ck M (Rg xk M (by assumption) ?_));clear H;intro a H;refine kH H (Rl om M (Rm M (Kz eu (SB ?_))));clear H eu;intro a H;skip;refine eX (ι:=Nat × GH) (Tc:=[(3,_),(50,_),(51,_)]) (Lc:=[(_,_),(_,_),(_,_),(_,_),(_,_)]) (fun gh=>[(52,vi gh.1)]) (fun gh=>[(b12,fG (gq ((rv.map bV.id).take gh.1)))]) (fun gh=>gh.2) (fun gh=>gh.1<=rv.length∧(∀ b o,g2 b=some o->gh.2 b=some o)) (fun gh=>rv.length - gh.1) ((0,g2)) (by exact (H.fH (Pl:=[_,_,_,_,_,_]) (eD:=[_,_,_,_,_,_]) [0,1,2,4,5,3] Z M).sub ⟨M,M,M,M,aB⟩) ?_ ?_
 ·exact U9
 clear H;rintro ⟨k,g3⟩ a w hI H;dsimp only at hI H;obtain ⟨hk,agN⟩:=hI;dsimp only [lca,bM] at H;refine kP H (SR fun _ dS=>Rc M (Kz dS (SQ fun _ eY=>Cd M ?_ ?_))) <;> clear H dS
 ·intro qZ a H
  try have p53:=dT qZ
  have hk2:k < rv.length:=by omega
  obtain ⟨xb,xo,rfl,hrow⟩:=ZH (((qJ.mono KJ).mono RJ).mono agN) hk2
  have hk3:k < (rv.map bV.id).length:=by simpa using hk2
  have hnew:=ahV f3 hk3
  have sw:(rv.map bV.id)[k]=rv[k].id:=by simp
  rw [sw] at hnew;refine kP H (Kc eY (SQ fun _ gU=>SB (SR fun _ fJ=>Ri om oh M M ?_)));clear H eY;intro a H;refine aU oh (cs:=_) H wn M M (fun j v hj=>H.hp.aH (hrow j v hj)) M ?_;clear H;intro a H;refine dJ oh H wn M ?_;clear H;intro b9 a w uz H;refine bC oh 0 (vs:=[_,_,_]) H wn M ?_;clear H;intro w H;refine fJ _ _ ?_;clear fJ;refine dI hmx [[],[0],[0,1],[0,1,2],[],[4],ra 0 6] [6] V [_,_,_,.map (some b12),_,vi rv[k].id] H (ay (Z0 M (Rm M)) (Z1 0 56 M (Rk M)) (Z1 1 57 M (Rf Ns M)) (Z1 2 58 M (Ro vC 1 M)) (bN (Z0 M (Rf WO M)) (bN (Z1 4 60 M (Ro aF 0 M)) (bN (bT M) dB)))) ?_
  clear H;intro a w G DR H hv;have H:=H.aN (hv 3 59 M M) M;have H:=H.aN (hv 5 61 M M) M;clear hv;refine LP (i:=6) xu mF H wn M M M M hnew ?_;clear H;intro w H;dsimp only [List.set,List.append,lca,bM] at H;rw [<- sw,<- ahW hk3] at H;refine aG ⟨M,?_⟩;refine gU _ _ ?_;clear gU;refine kP H (SC (Rd M (Rm M ?_)));clear H;intro a H;refine aG ?_;refine dY ((k+1,G)) (by exact (H.fH (Pl:=[_,_,_,_,_,_,_]) (eD:=[_,_,_,_,_,_]) [1,2,3,4,5,6] Z M).sub ⟨M,M,M,M,aB⟩) ?_
  (try dsimp only);exact ⟨O,fun b o h=>DR b o (agN b o h)⟩
 intro qZ a H
 try have p53:=dF qZ
 obtain rfl:k=rv.length:=by omega
 rw [jF (by simp)] at H;refine dQ ?_;refine dZ _ _ ?_;clear dZ;refine kP H (SR fun _ iD=>Rm M (aj iD M ?_));clear H iD;intro a H;refine fE ?_;have H:=H.fH (Pl:=[_,_,_,_,_,_]) (eD:=[_,_,_,_,_,_]) [3,4,5,0,2,1] Z M;obtain ⟨Gs,hms,hs,H⟩:=H.fF;obtain ⟨Gl,D8,hl,H⟩:=H.fF;obtain ⟨Gr,hmr,hr,H⟩:=H.fF;refine lv H results69 M ?_;exact H.hp.gL ⟨b16,b10,b11,b12,b13,b14,M,M,⟨hmr _ _ (D8 _ _ hs),hmr _ _ hl,hr⟩⟩
section
theorem arK:dP prog 133 4 4:=⟨V⟩
theorem afs:dP prog 133 3 3:=⟨V⟩
variable {us:List Int}
theorem FC (x:Int):∀ l:List Int,(uZ x (gq l)).getD (.bool false)=.bool (decide (x∈l))
 | []=>rfl
 | k :: r=>by
  have ih:=FC x r;rw [gq,fD,uZ]
  by_cases e:k=x
  ·subst e;simp
  rw [av e,show (r.map fun k=>(k,Value.bool true))=gq r from rfl,ih]
  simp [show x≠k from fun h=>e h.symm]
def TR (st:List bY) (v:Int):Int:=((st.find? fun s=>decide (s.id=v)).map bY.kind).getD 0
theorem Oz (x:Int):∀ l:List bY,(uZ x (Bo l)).getD (vi 0)=vi (TR l x)
 | []=>rfl
 | s :: r=>by
  have ih:=Oz x r;rw [Bo,fD,uZ]
  by_cases e:s.id=x
  ·subst e;simp [TR]
  rw [av e,show (r.map fun s=>(s.id,vi s.kind))=Bo r from rfl,ih]
  simp [TR,e]
def rD (us bR:List Int) (x:Int):Int:=if ¬ (1<=x∧x<=1073741824)∨x∈us then 18 else if x∈bR then 7 else 0
def nW (us bR:List Int) (x:Int):List Int:=if rD us bR x=0 then bR++[x] else bR
theorem awo (l:List Int) (x:Int):gq (l++[x])=gq l++[(x,.bool true)]:=by simp [gq]
theorem abm {p:Prop} (h:p:=by
 first
  | exact H.hp.gL ⟨by rw [e],by rw [nW,aD e],M⟩
  | exact H.hp.gL ⟨by rw [e],by rw [nW,av (by rw [e];decide)],rfl⟩):p:=h
theorem Vn {p:Prop} (h:p:=by
 intro a H;refine lr H results198 M ?_
 exact abm):p:=h
theorem V3 (G:GH) (L:OL) (w0:World) (st:List bY) (li:List fC) (rv:List bV) (b ms ml mr mb mu:Nat) (n:Int) (bR:List Int) (x:Int) (hck:xw us G st li rv ms ml mr mu) (hO:gJ G (gY b ms ml mr mb mu n :: (mb,fG (gq bR)) :: L) w0) :
  Calls prog 198 #[(aK b 0),vi x] w0 (fV w0 G (gY b ms ml mr mb mu n :: (mb,fG (gq bR)) :: L) fun u G' L'=>u=vi (rD us bR x)∧L'=gY b ms ml mr mb mu n :: (mb,fG (gq (nW us bR x))) :: L∧G=G'):=by
 refine jA (N:=29) (T:=[(0,_),(1,_)]) func198 M ntmps198 M M hO ?_;intro a H;refine kP H (SR fun _ K1=>aj K1 M (SQ fun _ K2=>SB (SR fun _ K3=>Rm M ?_)));clear H K1;intro a H;refine s_call yO H wn M (za _ _ H.ro x 1 1073741824) M ?_;clear H;rintro v7 _ a w ⟨rfl,rfl⟩ - H;refine kH H (Rn M (Rm M (Sp 9 M ?_ ?_))) <;> clear H
 ·intro h9 a H
  try have p9:=dT h9
  refine kH H (aP h9 M (aP h9 M (Pt h9 M (aj K3 M (Ct M M (SQ fun _ K4=>?_))))));clear H K3;intro a H
  have e:rD us bR x=18:=by rw [rD,aD (by first|(simp_all;done)|(simp_all;omega))]
  refine kP H (SC (bD K4 M ?_));clear H K4;exact Vn
 intro h9 a H
 try have p9:=dF h9
 refine kH H (YM h9 M ?_);clear H;intro a H;refine zm H (wg H M M h9) M M ?_;clear H;intro a H;refine kH H (YF arK h9 M (YO vC 0 h9 M (YM h9 M ?_)));clear H;intro a H;refine Bw (zv:=.bool false) xu mF V H (wg H M M h9) M M (H.ro _ _ hck.use) M ?_;clear H;intro a H;rw [FC] at H;refine kH H (Pf h9 M (aj K3 M (Cd M ?_ ?_))) <;> clear H K3
 ·intro h5 a H
  try have p5:=dT h5
  refine bO (fun _ K5=>?_)
  have e:rD us bR x=18:=by rw [rD,aD (by first|(simp_all;done)|(simp_all;omega))]
  refine kP H (SC (bD K5 M ?_));clear H K5;exact Vn
 intro h5 a H
 try have p5:=dF h5
 have hin:¬ (¬ (1<=x∧x<=1073741824)∨x∈us):=by first|(simp_all;done)|(simp_all;omega)
 refine kP H (SR fun _ K6=>Rm M (Rk M (bQ afs vC 0 M M (Rm M ?_))));clear H;intro a H;refine Bw (zv:=.bool false) xu mF V H wn M M (H.hp.own _ (gW _ dX)) M ?_;clear H;intro a H;rw [FC] at H;refine kH H (aj K6 M (Cd M ?_ ?_)) <;> clear H K6
 ·intro cu a H
  refine bO (fun _ K7=>?_)
  have e:rD us bR x=7:=by rw [rD,av hin,aD (pQ cu)]
  refine kP H (SC (bD K7 M ?_));clear H K7;exact Vn
 intro cu a H
 have hx:x∉bR:=of_decide_eq_false cu;have hnew:uZ x (gq bR)=none:=KZ (by simpa [gq,List.map_map,Function.comp_def] using hx)
 have e:rD us bR x=0:=by rw [rD,av hin,av hx]
 refine kP H (Kc K2 (SR fun _ K8=>Rm M (Rk M (bQ afs vC 0 M M (Rm M ?_)))));clear H K2;intro a H;refine LP (i:=1) xu mF H wn M M M M hnew ?_;clear H;intro w H;dsimp only [List.set] at H;rw [<- awo] at H;refine K8 _ _ ?_;clear K8;refine kP H (SR fun _ K9=>aj K9 M ?_);clear H K9;intro a H;refine lr H results198 M ?_
 exact abm
def yB (st:List bY) (nM:List Int) (key v:Int):Int :=
 if key=20∨key=1 then dL (decide (v≠0∧TR st v≠(if key=1 then 2 else 1))) 25 else if key=33 then dL (decide (v≠0∧v∉nM)) 26 else 0
theorem ML {p:Prop} (h:p:=by
 exact H.rt ⟨cZ vi (by unfold yB;(repeat' split) <;> first|rfl|(simp_all;done)|(exfalso;simp_all;done)|(congr 1;rw [rT];simp only [Bool.not_eq_true',vO,oM];exact ⟨fun h=>⟨p31,h⟩,fun h=>h.2⟩)),M⟩):p:=h
theorem Vz {p:Prop} (h:p:=by
 intro a H;refine lr H results130 M ?_
 exact ML):p:=h
theorem MS {p:Prop} (h:p:=by
 refine lr H results130 M ?_
 exact ML):p:=h
theorem adM (G:GH) (w0:World) (hG:Hold G w0) (st:List bY) (li:List fC) (rv:List bV) (b ms ml mr mb mu:Nat) (n:Int) (key v:Int) (hck:xw us G st li rv ms ml mr mu) (hb:G b=some (gY b ms ml mr mb mu n).2) :
  Calls prog 130 #[(aK b 0),vi key,vi v] w0 (bG w0 G fun u G'=>u=vi (yB st (li.map fC.id) key v)∧G=G'):=by
 have hc0:aH G b 0=some (.map (some ms)):=by unfold aH;rw [hb];rfl
 have hc1:aH G b 1=some (.map (some ml)):=by unfold aH;rw [hb];rfl
 refine eN [(0,_),(1,_),(2,_)] func130 M ntmps130 M M hG ?_;intro a H;refine kP H (SR fun _ K1=>aj K1 M (SQ fun _ K2=>SR fun _ K3=>Rm M (Kz K3 (SB (SQ fun _ K4=>SR fun _ K5=>Rc M (aj K5 M (Cd M ?_ ?_))))))) <;> clear H K1 K3 K5
 ·intro h9 a H
  try have p9:=dT h9
  refine kP H (Kc K4 (Ct M h9 (SR fun _ K6=>aj K6 M (SQ fun _ K7=>SR fun _ K8=>Rm M (Rc M (Kz K8 (Cd M ?_ ?_))))))) <;> clear H K4 K6 K8
  ·intro fT a H
   try have qL:=dT fT
   refine kP H (SC (bD K7 M (SR fun _ K9=>Rm M (Rc M (Rm M (Sp 16 M ?_ ?_)))))) <;> clear H K7
   ·intro h16 a H
    try have p16:=dT h16
    refine kH H (YM h16 M ?_);clear H;intro a H;refine zm H (wg H M M h16) M M ?_;clear H;intro a H;refine kH H (YF Nr h16 M (YR OY h16 M (by assumption) ?_));clear H;intro a H;refine kH H (YM h16 M ?_);clear H;intro a H;refine Bw (zv:=vi 0) I6 mF V H (wg H M M h16) M M (H.ro _ _ hck.sty) M ?_;clear H;intro a H;rw [Oz] at H;refine kH H (YM h16 M (YC h16 M (Pt h16 M ?_)));clear H;intro a H;refine s_call ng H wn M (nE _ _ H.ro _ 25) M ?_;clear H;rintro v26 _ a w ⟨rfl,rfl⟩ - H;refine kH H (aj K9 M ?_);clear H K9;intro a H;refine lr H results130 M ?_
    exact ML
   intro h16 a H
   try have p16:=dF h16
   refine kH H (aP h16 M (aP h16 M (aL h16 M (Pf h16 M ?_))));clear H;intro a H;refine s_call ng H wn M (nE _ _ H.ro _ 25) M ?_;clear H;rintro v26 _ a w ⟨rfl,rfl⟩ - H;refine kH H (aj K9 M ?_);clear H K9;intro a H;exact MS
  intro fT a H
  try have qL:=dF fT
  refine kP H (Kc K7 (SR fun _ aR=>Rm M (Rc M (Rm M (Sp 16 M ?_ ?_))))) <;> clear H K7
  ·intro h16 a H
   try have p16:=dT h16
   refine kH H (YM h16 M ?_);clear H;intro a H;refine zm H (wg H M M h16) M M ?_;clear H;intro a H;refine kH H (YF Nr h16 M (YR OY h16 M (by assumption) ?_));clear H;intro a H;refine kH H (YM h16 M ?_);clear H;intro a H;refine Bw (zv:=vi 0) I6 mF V H (wg H M M h16) M M (H.ro _ _ hck.sty) M ?_;clear H;intro a H;rw [Oz] at H;refine kH H (YM h16 M (YC h16 M (Pt h16 M ?_)));clear H;intro a H;refine s_call ng H wn M (nE _ _ H.ro _ 25) M ?_;clear H;rintro v26 _ a w ⟨rfl,rfl⟩ - H;refine kH H (aj aR M ?_);clear H aR;intro a H;exact MS
  intro h16 a H
  try have p16:=dF h16
  refine kH H (aP h16 M (aP h16 M (aL h16 M (Pf h16 M ?_))));clear H;intro a H;refine s_call ng H wn M (nE _ _ H.ro _ 25) M ?_;clear H;rintro v26 _ a w ⟨rfl,rfl⟩ - H;refine kH H (aj aR M ?_);clear H aR;exact Vz
 intro h9 a H
 try have p9:=dF h9
 refine kP H (SC (Rc M (bD K4 M (Cd M ?_ ?_)))) <;> clear H K4
 ·intro h9 a H
  try have p9:=dT h9
  refine kP H (SR fun _ bq=>aj bq M (SQ fun _ bP=>SR fun _ bU=>Rm M (Rc M (Kz bU (Cd M ?_ ?_))))) <;> clear H bq bU
  ·intro fT a H
   try have qL:=dT fT
   refine kP H (SC (bD bP M (SR fun _ dh=>Rm M (Rc M (Rm M (Sp 16 M ?_ ?_)))))) <;> clear H bP
   ·intro h16 a H
    try have p16:=dT h16
    refine kH H (YM h16 M ?_);clear H;intro a H;refine zm H (wg H M M h16) M M ?_;clear H;intro a H;refine kH H (YF Nr h16 M (YR OY h16 M (by assumption) ?_));clear H;intro a H;refine kH H (YM h16 M ?_);clear H;intro a H;refine Bw (zv:=vi 0) I6 mF V H (wg H M M h16) M M (H.ro _ _ hck.sty) M ?_;clear H;intro a H;rw [Oz] at H;refine kH H (YM h16 M (YC h16 M (Pt h16 M ?_)));clear H;intro a H;refine s_call ng H wn M (nE _ _ H.ro _ 25) M ?_;clear H;rintro v26 _ a w ⟨rfl,rfl⟩ - H;refine kH H (aj dh M ?_);clear H dh;intro a H;refine lr H results130 M ?_
    exact ML
   intro h16 a H
   try have p16:=dF h16
   refine kH H (aP h16 M (aP h16 M (aL h16 M (Pf h16 M ?_))));clear H;intro a H;refine s_call ng H wn M (nE _ _ H.ro _ 25) M ?_;clear H;rintro v26 _ a w ⟨rfl,rfl⟩ - H;refine kH H (aj dh M ?_);clear H dh;intro a H;exact MS
  intro fT a H
  try have qL:=dF fT
  refine kP H (Kc bP (SR fun _ dZ=>Rm M (Rc M (Rm M (Sp 16 M ?_ ?_))))) <;> clear H bP
  ·intro h16 a H
   try have p16:=dT h16
   refine kH H (YM h16 M ?_);clear H;intro a H;refine zm H (wg H M M h16) M M ?_;clear H;intro a H;refine kH H (YF Nr h16 M (YR OY h16 M (by assumption) ?_));clear H;intro a H;refine kH H (YM h16 M ?_);clear H;intro a H;refine Bw (zv:=vi 0) I6 mF V H (wg H M M h16) M M (H.ro _ _ hck.sty) M ?_;clear H;intro a H;rw [Oz] at H;refine kH H (YM h16 M (YC h16 M (Pt h16 M ?_)));clear H;intro a H;refine s_call ng H wn M (nE _ _ H.ro _ 25) M ?_;clear H;rintro v26 _ a w ⟨rfl,rfl⟩ - H;refine kH H (aj dZ M ?_);clear H dZ;intro a H;exact MS
  intro h16 a H
  try have p16:=dF h16
  refine kH H (aP h16 M (aP h16 M (aL h16 M (Pf h16 M ?_))));clear H;intro a H;refine s_call ng H wn M (nE _ _ H.ro _ 25) M ?_;clear H;rintro v26 _ a w ⟨rfl,rfl⟩ - H;refine kH H (aj dZ M ?_);clear H dZ;exact Vz
 intro h9 a H
 try have p9:=dF h9
 refine kP H (SR fun _ eu=>Rc M (aj eu M (Cd M ?_ ?_))) <;> clear H eu
 ·intro h27 a H
  try have p27:=dT h27
  refine kP H (SR fun _ dS=>Rm M (Rc M (Rm M (Sp 31 M ?_ ?_)))) <;> clear H
  ·intro h31 a H
   try have p31:=dT h31
   refine kH H (YM h31 M ?_);clear H;intro a H;refine zm H (wg H M M h31) M M ?_;clear H;intro a H;refine kH H (YF afr h31 M (YR vC h31 M (by assumption) ?_));clear H;intro a H;refine kH H (YM h31 M ?_);clear H;intro a H;refine Bw (zv:=.bool false) xu mF V H (wg H M M h31) M M (H.ro _ _ hck.nM) M ?_;clear H;intro a H;rw [FC] at H;refine kH H (YN h31 M (Pt h31 M ?_));clear H;intro a H;refine s_call ng H wn M (nE _ _ H.ro _ 26) M ?_;clear H;rintro v40 _ a w ⟨rfl,rfl⟩ - H;refine kH H (aj dS M ?_);clear H dS;intro a H;exact MS
  intro h31 a H
  try have p31:=dF h31
  refine kH H (aP h31 M (aL h31 M (aL h31 M (Pf h31 M ?_))));clear H;intro a H;refine s_call ng H wn M (nE _ _ H.ro _ 26) M ?_;clear H;rintro v40 _ a w ⟨rfl,rfl⟩ - H;refine kH H (aj dS M ?_);clear H dS;exact Vz
 intro h27 a H
 try have p27:=dF h27
 refine kP H (Kc K2 (SR fun _ eY=>aj eY M ?_));clear H K2 eY;intro a H;refine lr H results130 M ?_
 exact ML
end
section
section
variable {N:Nat} {D:List Deferred} {w0:World} {F:Nat->Prop} {G0 G G':GH} {L L':OL} {T:List (Nat × ah)}
variable {r:Option Nat} {P:Program} {ops:Array Oper} {Q:Exit->Act->World->Prop} {rest:List Oper} {a:Act} {w w':World}
theorem Eu {ι:Type} {Tc:List (Nat × ah)} {l:List Oper} (k:Nat) (Tv:ι->List (Nat × ah)) (Pr:ι->Prop) (_:St N D w0 F G0 G L Tc a w)
  (h1:(∀ i a w,Pr i->St N D w0 F G0 G L (Tv i++Tc) a w->WL r P ops Q (l.drop k) a w)->WL r P ops Q l a w)
  (h2:∀ i a w,Pr i->St N D w0 F G0 G L (Tv i++Tc) a w->WL r P ops Q (l.drop k) a w):WL r P ops Q l a w:=h1 h2
theorem Change.back (h:Change w w' G G' L L'):Change w w' G G L L' :=
 ⟨h.os,h.tape,h.output,h.size,h.fr,fun _ _ h=>h,fun _ _ h=>.inl h,⟨fun k o hk=>h.owns.ro k o (h.gm k o hk),h.owns.own,fun p hp=>(by
  have hs:=h.owns.sep p hp
  cases hg:G p.1 with
  | none=>rfl
  | some o=>have:=h.gm _ _ hg;rw [hs] at this;cases this),h.owns.nd⟩,h.lx⟩
theorem fV.back {R:ah->GH->OL->Prop} {R':ah->OL->Prop} (hR:∀ v G' L',R v G' L'->R' v L') {e:Ending} (h:fV w G L R e w'):fV w G L (fun v G' L'=>G=G'∧R' v L') e w':=by
 obtain ⟨v,G',L',rfl,hc,hr⟩:=h
 exact ⟨v,G,L',M,hc.back,M,hR _ _ _ hr⟩
theorem Calls.als {f:FuncId} {args:Array ah} {R:ah->GH->OL->Prop} {R':ah->OL->Prop} (h:Calls P f args w (fV w G L R)) (hR:∀ v G' L',R v G' L'->R' v L'):Calls P f args w (fV w G L fun v G' L'=>G=G'∧R' v L') :=
 h.mono fun _ _=>fV.back hR
theorem bG.back {R:ah->GH->Prop} {e:Ending} (h:bG w G R e w'):bG w G (fun v G'=>(∃ g,R v g)∧G=G') e w':=by
 obtain ⟨v,G',rfl,hb,hX,hr⟩:=h
 exact ⟨v,G,M,hb,⟨fun _ _ h=>h,fun _ _ h=>.inl h,fun k o hk=>hX.2.2 k o (hX.1 k o hk)⟩,⟨G',hr⟩,M⟩
theorem aaO {f:FuncId} {args:Array ah} {R:ah->GH->Prop} (h:Calls P f args w (bG w G R)):Calls P f args w (bG w G fun v G'=>(∃ g,R v g)∧G=G'):=h.mono fun _ _=>bG.back
theorem gJ.add {b:Nat} {o:Obj} (h:gJ G ((b,o) :: L) w):Hold (G.add b o) w:=fun k o' hk=>by
 unfold GH.add at hk
 split at hk
 ·next e=>cases hk;subst e;exact h.own _ dX
 ·exact h.ro k o' hk
theorem aym {b:Nat} {o:Obj} {R:ah->GH->Prop} {R':ah->Prop} (hO:gJ G ((b,o) :: L) w) (hR:∀ v G',R v G'->R' v) {e:Ending} (h:bG w (G.add b o) R e w'):fV w G ((b,o) :: L) (fun v G' L'=>G=G'∧L'=(b,o) :: L∧R' v) e w':=by
 obtain ⟨v,G',rfl,hb,hX,hr⟩:=h
 exact ⟨v,G,_,M,(hO.hp.below hb).ajR,M,M,hR _ _ hr⟩
end
end
section
theorem QV:dP prog 161 0 0:=⟨V⟩
theorem yQ:dP prog 161 1 1:=⟨V⟩
theorem QW:dP prog 161 3 3:=⟨V⟩
theorem EP:dP prog 161 2 2:=⟨V⟩
theorem aeI:aS 130:=aT func130 M
variable {us:List Int}
structure bE where
 st:List bY
 nM:List Int
 kM:List Int
 us:List Int
abbrev bL (us:List Int) (st:List bY) (li:List fC) (rv:List bV):bE:=⟨st,li.map fC.id,rv.map bV.id,us⟩
theorem Fz {G:GH} {l:List bZ} {A:Option Addr} {n c k:Nat} (hv:ak G (.sl 4 (l.map bZ.dat)) (.slice A n c)) (hk:k < l.length):∃ b o,A=some ⟨b,o,none⟩∧(∀ j u,l[k].cells[j]?=some u->aH G b (o+k*4+j)=some u):=by
 obtain ⟨A',c',he,_,_,hg⟩:=hv.slice
 injection he with e1 e2 e3
 subst e1;obtain ⟨b,o,cs,h1,h2,h3,h4⟩:=hg k l[k].dat (by simp [hk]);have:=YU h4;subst this;exact Gq
theorem QK {G:GH} {l:List gG} {A:Option Addr} {n c k:Nat} (hv:ak G (.sl 2 (l.map gG.dat)) (.slice A n c)) (hk:k < l.length):∃ b o,A=some ⟨b,o,none⟩∧(∀ j u,l[k].cells[j]?=some u->aH G b (o+k*2+j)=some u):=by
 obtain ⟨A',c',he,_,_,hg⟩:=hv.slice
 injection he with e1 e2 e3
 subst e1;obtain ⟨b,o,cs,h1,h2,h3,h4⟩:=hg k l[k].dat (by simp [hk]);have:=Nh h4;subst this;exact Gq
def Bn (C:bE) (e:Int) (k:Nat) (x:bZ) (pk:Int):Int :=
 if x.rev∉C.kM then 22 else if wO e x.key=false then 4 else if 0 < k∧x.key < pk then 6 else if x.had=false then dL (decide (x.before≠0)) 21 else dO [uQ x.key x.before,yB C.st C.nM x.key x.before]
def xZ (C:bE) (e:Int) (l:List bZ) (k:Nat):Int:=match l[k]? with|some x=>Bn C e k x ((l[k - 1]?.map bZ.key).getD 0)|none=>0
theorem Qs {p:Prop} (h:p:=by
 refine lr H results132 M ?_
 exact H.rt (by rw [he];refine cZ vi ?_;clear he hrow hrow' hq hx hy;unfold Bn;(repeat' split) <;> first|rfl|(simp_all;done)|(exfalso;simp_all;done))):p:=h
theorem acp {p:Prop} (h:p:=by
 intro a H;refine lr H results132 M ?_
 exact H.rt (by rw [he];refine cZ vi ?_;clear he hrow hrow' hq hx hy;unfold Bn;(repeat' split) <;> first|rfl|(simp_all;done)|(exfalso;simp_all;done))):p:=h
theorem acH {p:Prop} (h:p:=by
 refine Dj 5 56 7 58 9 60 M M fun _ a w G1 hG HT H fin=>?_;refine s_call aeI H wn M (adM _ _ H.ro st li rv b ms ml mr mb mu n x.key x.before (hck.mono hG) (hG _ _ hb)) M ?_;clear H;rintro v61 G61 a w ⟨rfl,-⟩ asT H;exact fin H asT (rfl)):p:=h
theorem acQ {p:Prop} (h:p:=by
 refine eT 1 52 3 54 M M fun _ a w G1 hG HT H fin=>?_;refine s_call aeR H wn M (adL _ _ H.ro x.key x.before) M ?_;clear H;rintro v55 PU a w rfl asS H;exact fin H asS (rfl)):p:=h
theorem avW (G:GH) (w0:World) (hG:Hold G w0) (st:List bY) (li:List fC) (rv:List bV) (b ms ml mr mb mu:Nat) (n:Int) (hck:xw us G st li rv ms ml mr mu) (hb:G b=some (gY b ms ml mr mb mu n).2)
  (e:Int) (l:List bZ) (v:ah) (hv:ak G (.sl 4 (l.map bZ.dat)) v) (k:Nat) (hk:k < l.length) :
  Calls prog 132 #[(aK b 0),vi e,v,vi k] w0 (bG w0 G fun u G'=>u=vi (xZ (bL us st li rv) e l k)):=by
 have hc2:aH G b 2=some (.map (some mr)):=by unfold aH;rw [hb];rfl
 obtain ⟨A,c,rfl,hl1,hl2,-⟩:=hv.slice;have hml:maxLen=9223372036854775807:=rfl;rw [bS] at *;obtain ⟨xb,xo,rfl,hrow⟩:=Fz hv hk
 have hk1:k - 1 < l.length:=by omega
 obtain ⟨b',o',he',hrow'⟩:=Fz hv hk1
 injection he' with he'
 injection he' with e1 e2
 subst e1;subst e2
 have he:xZ (bL us st li rv) e l k=Bn (bL us st li rv) e k l[k] l[k - 1].key:=by unfold xZ;rw [eB hk,eB hk1];rfl
 obtain ⟨x,hx⟩:∃ x,x=l[k]:=⟨_,M⟩;obtain ⟨y,hy⟩:∃ y,y=l[k - 1]:=⟨_,M⟩;rw [<- hx] at hrow he;rw [<- hy] at hrow' he;have hq:=hrow' 1 _ M;refine eN [(0,_),(1,_),(2,_),(3,_)] func132 M ntmps132 M M hG ?_;intro a H;refine kP H (SR fun _ K1=>aj K1 M (SR fun _ K2=>Rm M (Rm M (Ri lU jP M M ?_))));clear H K1;intro a H;refine aU jP (cs:=x.cells) H wn M M (fun j v hj=>H.hp.aH (hrow j v hj)) M ?_;clear H;intro a H;refine dJ jP H wn M ?_;clear H;intro b9 a w uz H;refine bC jP 0 (vs:=[_,_,_,_]) H wn M ?_;clear H;intro w H;refine K2 _ _ ?_;clear K2;refine kP H (SQ fun _ K3=>SB (SQ fun _ K4=>?_));clear H;intro a H;refine dI hmx [[],[0],[0,1],[0,1,2],[],[4],ra 0 6,ra 0 7,ra 0 8] [8] V [_,_,_,_,_,vi x.rev,.bool (decide (x.rev∈rv.map bV.id)),_] H (ay (Z0 M (Rm M)) (Z1 0 15 M (Rk M)) (Z1 1 16 M (Rf Ns M)) (X1 2 17 M fun hG=>Rg vC M (aC hG hc2)) (ay (Z0 M (Rf QV M)) (Z1 4 19 M (Ro aF 0 M)) ?_ (Z1 6 21 M (Rn M)) (bN (bT M) dB))) ?_
 ·refine eT 3 18 5 20 M M fun _ a w G1 hG HT H fin=>?_;refine Bw (zv:=.bool false) xu mF V H wn M M (H.ro _ _ (hG _ _ hck.rev)) M ?_;clear H;intro a H;rw [FC] at H;exact JE
 clear H;intro a w G DT H hv;have H:=H.aN (hv 7 22 M M) M;clear hv;refine kH H (Ra M ?_);clear H;intro a H;refine aG ⟨M,?_⟩;refine K4 _ _ ?_;clear K4;refine jw H M ?_ ?_
 ·intro eO
  try have lS:=dT eO
  refine kP H (SR fun _ K5=>aj K5 M ?_);clear H K5;intro a H;exact Qs
 intro eO
 try have lS:=dF eO
 refine kP H (SR fun _ K6=>Rm M (bQ yQ aF 0 M M ?_));clear H;intro a H;refine s_call aeQ H wn M (aaO (afD _ _ H.ro e x.key)) M ?_;clear H;rintro v27 _ a w ⟨⟨_,rfl⟩,rfl⟩ - H;refine kH H (Rn M (aj K6 M (Cd M ?_ ?_))) <;> clear H K6
 ·intro h23 a H
  try have Br:=dT h23
  refine kP H (SR fun _ K7=>aj K7 M ?_);clear H K7;intro a H;exact Qs
 intro h23 a H
 try have Br:=dF h23
 refine bO (fun _ K8=>?_);replace hq:=aC DT hq
 by_cases c0:0 < (k:Int)
 ·skip
  by_cases c1:x.key < y.key
  ·skip;refine dI hmx [[],[0],[0,1],[0,1,2],ra 0 4,[0,1,2],[0,1,2],[0,1,2,6],[0,1,2,5,6,7],[0,1,2,5,6,7,8],[0,1,2,5,6,7,8,9],ra 0 11,ra 0 12,ra 0 13] [13] V [_,_,_,_,vi x.key,_,_,vi ((k - 1:Nat):Int),_,_,_,_,_] H (ay (Z0 M (Rm M)) (Z1 0 30 M (Rc M)) (Z1 1 31 M (Rm M)) (Z1 2 32 M (YF yQ (aI c0) M)) (ay (Z2 3 33 2 32 M (YO aF 0 (aI c0) M)) (Z1 2 32 M (YM (aI c0) M)) (Z1 2 32 M (YM (aI c0) M)) ?_ (ay (Z3 5 35 7 37 2 32 M (YI lU jP (aI c0) M M)) (Z2 8 38 2 32 M (YF yQ (aI c0) M)) (X2 9 39 2 32 M fun hG=>YR aF (aI c0) M (aC hG hq)) (Z3 4 34 10 40 2 32 M (YC (aI c0) M)) (bN (Z2 2 32 11 41 M (Pt (aI c0) M)) (bN (bT M) dB))))) ?_
   ·refine eT 6 36 2 32 M M fun _ a w G1 hG HT H fin=>?_;exact zI
   clear H;intro a w G jS H hv;have H:=H.aN (hv 12 42 M M) M;clear hv;refine kH H (Ra M ?_);clear H;intro a H;refine aG ⟨M,?_⟩;refine K8 _ _ ?_;clear K8;refine Cc H M (aI c1) ?_;refine bO (fun _ K9=>?_);have hz:0 < k∧x.key < y.key:=⟨O,c1⟩;refine kP H (SC (bD K9 M ?_));clear H K9;exact acp
  skip;refine dI hmx [[],[0],[0,1],[0,1,2],ra 0 4,[0,1,2],[0,1,2],[0,1,2,6],[0,1,2,5,6,7],[0,1,2,5,6,7,8],[0,1,2,5,6,7,8,9],ra 0 11,ra 0 12,ra 0 13] [13] V [_,_,_,_,vi x.key,_,_,vi ((k - 1:Nat):Int),_,_,_,_,_] H (ay (Z0 M (Rm M)) (Z1 0 30 M (Rc M)) (Z1 1 31 M (Rm M)) (Z1 2 32 M (YF yQ (aI c0) M)) (ay (Z2 3 33 2 32 M (YO aF 0 (aI c0) M)) (Z1 2 32 M (YM (aI c0) M)) (Z1 2 32 M (YM (aI c0) M)) ?_ (ay (Z3 5 35 7 37 2 32 M (YI lU jP (aI c0) M M)) (Z2 8 38 2 32 M (YF yQ (aI c0) M)) (X2 9 39 2 32 M fun hG=>YR aF (aI c0) M (aC hG hq)) (Z3 4 34 10 40 2 32 M (YC (aI c0) M)) (bN (Z2 2 32 11 41 M (Pt (aI c0) M)) (bN (bT M) dB))))) ?_
  ·refine eT 6 36 2 32 M M fun _ a w G1 hG HT H fin=>?_;exact zI
  clear H;intro a w G jS H hv;have H:=H.aN (hv 12 42 M M) M;clear hv;refine kH H (Ra M ?_);clear H;intro a H;refine aG ⟨M,?_⟩;refine K8 _ _ ?_;clear K8;refine sQ H M (aY c1) ?_;refine bO (fun _ aR=>?_)
  have hz:¬ (0 < k∧x.key < y.key):=by first|exact fun h=>c1 h.2|exact fun h=>c0 O
  refine kP H (SC (bQ QW Et 0 M M (Rn M (bD aR M (Cd M ?_ ?_))))) <;> clear H aR
  ·intro h43 a H
   try have p43:=dT h43
   refine kP H (SR fun _ bq=>bQ EP aF 0 M M (Rc M ?_));clear H;intro a H;refine s_call ng H wn M (nE _ _ H.ro _ 21) M ?_;clear H;rintro v50 _ a w ⟨rfl,rfl⟩ - H;refine kH H (aj bq M ?_);clear H bq;exact acp
  intro h43 a H
  try have p43:=dF h43
  refine iE ?_;refine K3 _ _ ?_;clear K3;refine bO (fun _ bP=>?_);replace hck:=(hck.mono DT).mono jS;replace hb:=jS _ _ (DT _ _ hb);refine dI hmx [[],[0],[],[2],ra 0 4,[],[],[6],[],[8],ra 0 10,ra 0 11,ra 0 12,ra 0 13] [11,12,13] V [_,vi x.key,_,vi x.before,vi (uQ x.key x.before),_,_,vi x.key,_,vi x.before,vi (yB st (li.map fC.id) x.key x.before)] H (ay (Z0 M (Rf yQ M)) (Z1 0 51 M (Ro aF 0 M)) (Z0 M (Rf EP M)) (Z1 2 53 M (Ro aF 0 M)) (ay ?_ (Z0 M (Rm M)) (Z0 M (Rf yQ M)) (Z1 6 57 M (Ro aF 0 M)) (ay (Z0 M (Rf EP M)) (Z1 8 59 M (Ro aF 0 M)) ?_ (bT M) (bN (bT M) (bN (bT M) dB))))) ?_
  ·exact acQ
  ·exact acH
  clear H;intro a w G wR H hv;have H:=H.aN (hv 4 55 M M) M;have H:=H.aN (hv 10 61 M M) M;clear hv;refine iC rM jo [_,_] [_,_] H wn M M M M M (by intro i q h;match i,h with|0,h=>exact h|1,h=>exact h|n+2,h=>simp at h) M M ?_;clear H;intro b62 a w atu H;obtain ⟨G62,aun,XF,H⟩:=H.fF;refine s_call sU H wn M (sW _ _ H.ro _ _ (Ab XF)) M ?_;clear H;rintro v63 _ a w ⟨rfl,rfl⟩ - H;refine kH H (Ra M ?_);clear H;intro a H;refine aG ⟨M,?_⟩;refine bP _ _ ?_;clear bP;exact Qs
 skip;refine dI hmx [[],[0],[0,1],[0,1,2],ra 0 4,[0,1,2],[0,1,2],[0,1,2,6],[0,1,2,5,6,7],[0,1,2,5,6,7,8],[0,1,2,5,6,7,8,9],ra 0 11,ra 0 12,ra 0 13] [13] V [_,_,_,undef,undef,undef,undef,undef,undef,undef,undef,undef,_] H (ay (Z0 M (Rm M)) (Z1 0 30 M (Rc M)) (Z1 1 31 M (Rm M)) (aZ 2 (aY c0) M M) (ay (aZ 2 (aY c0) M M) (aZ 2 (aY c0) M M) (aZ 2 (aY c0) M M) (aZ 2 (aY c0) M M) (ay (aZ 2 (aY c0) M M) (aZ 2 (aY c0) M M) (aZ 2 (aY c0) M M) (aZ 2 (aY c0) M M) (bN (Z2 2 32 11 41 M (Pf (aY c0) M)) (bN (bT M) dB))))) ?_
 clear H;intro a w G jS H hv;have H:=H.aN (hv 12 42 M M) M;clear hv;refine kH H (Ra M ?_);clear H;intro a H;refine aG ⟨M,?_⟩;refine K8 _ _ ?_;clear K8;refine sQ H M M ?_;refine bO (fun _ bU=>?_)
 have hz:¬ (0 < k∧x.key < y.key):=by first|exact fun h=>c1 h.2|exact fun h=>c0 O
 refine kP H (SC (bQ QW Et 0 M M (Rn M (bD bU M (Cd M ?_ ?_))))) <;> clear H bU
 ·intro h43 a H
  try have p43:=dT h43
  refine kP H (SR fun _ dh=>bQ EP aF 0 M M (Rc M ?_));clear H;intro a H;refine s_call ng H wn M (nE _ _ H.ro _ 21) M ?_;clear H;rintro v50 _ a w ⟨rfl,rfl⟩ - H;refine kH H (aj dh M ?_);clear H dh;intro a H;exact Qs
 intro h43 a H
 try have p43:=dF h43
 refine iE ?_;refine K3 _ _ ?_;clear K3;refine bO (fun _ dZ=>?_);replace hck:=(hck.mono DT).mono jS;replace hb:=jS _ _ (DT _ _ hb);refine dI hmx [[],[0],[],[2],ra 0 4,[],[],[6],[],[8],ra 0 10,ra 0 11,ra 0 12,ra 0 13] [11,12,13] V [_,vi x.key,_,vi x.before,vi (uQ x.key x.before),_,_,vi x.key,_,vi x.before,vi (yB st (li.map fC.id) x.key x.before)] H (ay (Z0 M (Rf yQ M)) (Z1 0 51 M (Ro aF 0 M)) (Z0 M (Rf EP M)) (Z1 2 53 M (Ro aF 0 M)) (ay ?_ (Z0 M (Rm M)) (Z0 M (Rf yQ M)) (Z1 6 57 M (Ro aF 0 M)) (ay (Z0 M (Rf EP M)) (Z1 8 59 M (Ro aF 0 M)) ?_ (bT M) (bN (bT M) (bN (bT M) dB))))) ?_
 ·exact acQ
 ·exact acH
 clear H;intro a w G wR H hv;have H:=H.aN (hv 4 55 M M) M;have H:=H.aN (hv 10 61 M M) M;clear hv;refine iC rM jo [_,_] [_,_] H wn M M M M M (by intro i q h;match i,h with|0,h=>exact h|1,h=>exact h|n+2,h=>simp at h) M M ?_;clear H;intro b62 a w atu H;obtain ⟨G62,aun,XF,H⟩:=H.fF;refine s_call sU H wn M (sW _ _ H.ro _ _ (Ab XF)) M ?_;clear H;rintro v63 _ a w ⟨rfl,rfl⟩ - H;refine kH H (Ra M ?_);clear H;intro a H;refine aG ⟨M,?_⟩;refine dZ _ _ ?_;clear dZ;refine lr H results132 M ?_
 exact H.rt (by rw [he];refine cZ vi ?_;clear he hrow hrow' hq hx hy;unfold Bn;(repeat' split) <;> first|rfl|(simp_all;done)|(exfalso;simp_all;done))
end
end Go.Proofs.YtdiflmikikiedaaGreat
