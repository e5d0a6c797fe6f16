/-
  What the claim stands on, part 4: Kw Sms Tot Gr Tts Dk Dw Bmm Dv Mmx Wgt Mb Can Brw Blr Brd Brr.
-/
import Derived.Test.YtomebajfpcjoeaaDoorWac
import Derived.ProofKit
import Derived.Deep.Slices
import Derived.Laws.StructEq
namespace Go.Proofs.YtomebajfpcjoeaaDoor
set_option linter.all false
open Go.Proofs.Tryd
open Go.RowKit
theorem Qk:bD 15:=bH func15 O
theorem GZ:bD 16:=bH func16 O
theorem Zl:FD prog 60 [0,1]:=⟨Z,Z,Z,Z,Z⟩
theorem Zm:FD prog 62 [0,1,2]:=⟨Z,Z,Z,Z,Z⟩
theorem UW {G:GH} {b:Nat} {x y:Int} (hb:G b=some (.cells #[vi x,vi y] 3 (0,0))):ay G (.sl 1 ([x,y].map eF)) (.slice (some ⟨b,0,none⟩) 2 2) :=
 ay.mP (xs:=[vi x,vi y]) hb O (aV _) Y (gX (aV _)) (wO _ [x,y])
theorem EI {G:GH} {l:List Int} {v:aj} (h:ay G (.sl 1 (l.map eF)) v):aT G (jF l) [v]:=by
 simp only [jF,aT]
 exact ⟨_,_,O,h,O⟩
theorem JW {G:GH}:∀ (B A:List (List Int)) (vs us:List aj),bU G 1 (A.map jF) vs->us.length=B.length->(∀ (i:Nat) (r:List Int) (u:aj),B[i]?=some r->us[i]?=some u->ay G (.sl 1 (r.map eF)) u)->bU G 1 ((A++B).map jF) (vs++us)
 | [],A,vs,[],h,_,_=>by rw [kr,kr];exact h
 | x :: B,A,vs,u :: us,h,hl,hr=>by
  have h2:=h.snoc (EI (hr 0 x u O O)) O;have h3:=JW B (A++[x]) (vs++[u]) us (by simpa using h2) (by simpa using hl) (fun i r w h1 h2=>hr (i+1) r w (by simpa using h1) (by simpa using h2))
  simpa using h3
theorem JB {G:GH} {l:List fD} {A:Option Addr} {n c k:Nat} (hv:ay G (.sl 3 (l.map fD.dat)) (.slice A n c)) (hk:k < l.length):∃ b o,A=some ⟨b,o,none⟩∧(∀ j u,[vi l[k].a,vi l[k].b,vi l[k].score][j]?=some u->aQ G b (o+k*3+j)=some u):=by
 obtain ⟨A',c',he,_,_,hg⟩:=hv.slice
 injection he with e1 e2 e3
 subst e1;obtain ⟨b,o,cs,h1,h2,h3,h4⟩:=hg k l[k].dat (by simp [hk]);obtain rfl:=acs h4;exact Ap
theorem sV {p:Prop} (h:p:=by
 have Hb:=H.full;have H:=Hb;clear hc;refine zI H (wg H O O O) O O ?_;exact aI):p:=h
theorem vQ {p:Prop} (h:p:=by
 have Hb:=H.full;have H:=Hb;clear hc;refine J4 H (wg H O O O) O O O O ?_;exact aI):p:=h
theorem sW {p:Prop} (h:p:=by
 have Hb:=H.full;have H:=Hb;clear hc;refine kH H (Pt O O ?_);exact aI):p:=h
theorem Nh {p:Prop} (h:p:=by
 have H:=H.ak (hv 12 36 (hc 12 Y) O) O;have Hb:=H.full;have H:=Hb;clear hc;refine bO bV cK 2 H (wg H O O O) O O O Y O ?_;exact aI):p:=h
theorem Nu {p:Prop} (h:p:=by
 have Hb:=H.full;have H:=Hb;clear hc;refine zH bV H (wg H O O O) O O ?_;exact aI):p:=h
theorem Oh {p:Prop} (h:p:=by
 intro av a w G1 _ ah hc hG HT hv;have H:=HT;clear ah;have H:=H.ak (hv 12 36 (hc 12 Y) O) O;exact sV):p:=h
set_option maxHeartbeats 2000000 in
theorem Sl (G:GH) (w0:World) (hG:Hold G w0):Calls prog 4 #[] w0 (bK w0 G fun u G'=>u=.bool true):=by
 refine eN [] func4 O ntmps4 O O hG ?_;intro a H;refine kP H (SR fun _ K1=>au K1 O (SR fun _ K2=>?_));clear H K1;intro a H;refine s_call Qj H wn O (Pj _ _ H.ro (fun _ _ h=>by cases h) vC sA UF LV Y Y) rfl ?_;clear H;rintro v9 G9 a w ⟨x9,y9,rfl,hx,hy⟩ hm9 H;rw [aeU] at hx;rw [VX] at hy;obtain ⟨xA,xc,rfl,-,-,-⟩:=hx.slice;obtain ⟨yA,yc,rfl,-,-,-⟩:=hy.slice;(try dsimp only [List.map_cons,List.map_nil,List.length_cons,List.length_nil] at H);refine kH H (Rm O ?_);clear H;intro a H;(iterate 3 refine fG H wn O O O ?_;clear H;intro a H);refine kH H (Ra O (Ra O (au K2 O (SR fun _ K1=>?_))));clear H K2;intro a H;refine s_call Qk H wn O (Pg _ _ H.ro (fun _ _ h=>by cases h) vC sA UF LV) rfl ?_;clear H;rintro v14 LA a w rfl Ej H;rw [aeR] at H;refine kH H (Rm O ?_);clear H;intro a H;(iterate 2 refine fG H wn O O O ?_;clear H;intro a H);refine kH H (Ra O (au K1 O (SR fun _ K2=>?_)));clear H K1;intro a H;refine eU bP aG [_,_] [_,_] H wn O O O O O (by intro i q h;match i,h with|0,h=>exact h|1,h=>exact h|n+2,h=>simp at h) O O ?_;clear H;intro b18 a w Q7 H;refine eU bP aG [_,_] [_,_] H wn O O O O O (by intro i q h;match i,h with|0,h=>exact h|1,h=>exact h|n+2,h=>simp at h) O O ?_;clear H;intro b19 a w agJ H;refine eU gI bI [_,_] [_,_] H wn O O O O O (by intro i q h;match i,h with|0,h=>exact h|1,h=>exact h|n+2,h=>simp at h) O O ?_;clear H;intro b20 a w agK H;obtain ⟨Ga,hma,hga,H⟩:=H.gP;obtain ⟨Gb,hmb,hgb,H⟩:=H.gP;obtain ⟨Gc,hmc,hgc,H⟩:=H.gP;have ht1:=UW (hmc _ _ hgb);have ht2:=UW hgc;have ht3:ay Gc (.sl 1 ([[500,900],[1000,600]].map jF)) _:=ay.mP (xs:=[_,_]) (hmc _ _ (hmb _ _ hga)) O (aV _) Y O (by simpa using ((bU.nil (sz:=1)).snoc (EI ht2) O).snoc (EI ht1) O);refine s_call GZ H wn O (FX _ _ H.ro _ _ ht3) O ?_;clear H;rintro v21 vK a w ⟨z21,rfl,hz⟩ oK H;rw [aeS] at hz;rw [aeT] at H;obtain ⟨zA,zc,rfl,-,-,-⟩:=hz.slice;(try dsimp only [List.map_cons,List.map_nil,List.length_cons,List.length_nil] at H);refine kH H (Rm O ?_);clear H;intro a H;(iterate 2 refine fG H wn O O O ?_;clear H;intro a H);refine kH H (Ra O (au K2 O (SQ fun _ K1=>?_)));clear H K2;intro a H;obtain ⟨xb,xo,rfl,hx2⟩:=xk (k:=2) ((((((hx.mono Ej).mono hma).mono hmb).mono hmc).mono oK)) Y;obtain ⟨yb,yo,rfl,hy2⟩:=xk (k:=2) ((((((hy.mono Ej).mono hma).mono hmb).mono hmc).mono oK)) Y;obtain ⟨_,_,ey,hy0⟩:=xk (k:=0) ((((((hy.mono Ej).mono hma).mono hmb).mono hmc).mono oK)) Y
 injection ey with ey;injection ey with Zt Zu;subst Zt;subst Zu
 obtain ⟨zb,zo,rfl,hz1⟩:=JB (k:=1) hz Y;refine dI fF [[],[0],[0,1],[0,1,2],ra 0 4,ra 0 5,ra 0 6,ra 0 7,ra 0 8,ra 0 9,ra 0 10,ra 0 11,ra 0 12,ra 0 13,ra 0 14,ra 0 15,ra 0 13,(ra 0 13++[16]),(ra 0 13++[16,17]),ra 0 19,ra 0 20,ra 0 21,ra 0 22,ra 0 23,ra 0 24,ra 0 25,ra 0 26,ra 0 27,ra 0 28,ra 0 29,ra 0 30,ra 0 31,ra 0 32,ra 0 33,ra 0 34,ra 0 35,ra 0 36,ra 0 37,ra 0 38,ra 0 39,ra 0 40,ra 0 41,ra 0 42,ra 0 43,ra 0 44,ra 0 45,ra 0 46,ra 0 47,ra 0 48,ra 0 46,ra 0 50,ra 0 51,ra 0 52] [52] Z [vi 0,.bool true,.bool true,.slice (some ⟨xb,xo,none⟩) 3 xc,vi 3,.bool true,.bool true,.bool true,.slice (some ⟨yb,yo,none⟩) 3 yc,vi 3,.bool true,.bool true,.bool true,.slice (some ⟨xb,xo,none⟩) 3 xc,(aD xb (xo+2*2)),.agg #[vi 3,vi 3],.slice (some ⟨yb,yo,none⟩) 3 yc,(aD yb (yo+2*2)),.agg #[vi 3,vi 3],.bool true,.bool true,.bool true,.slice (some ⟨yb,yo,none⟩) 3 yc,(aD yb (yo+0*2)),(aD yb (yo+0*2+0)),vi 4,.bool true,.bool true,.bool true,vi 666,.bool true,.bool true,.bool true,vi 0,.bool true,.bool true,.bool true,vi 0,.bool true,.bool true,.bool true,.slice (some ⟨zb,zo,none⟩) 2 zc,vi 2,.bool true,.bool true,.bool true,.slice (some ⟨zb,zo,none⟩) 2 zc,(aD zb (zo+1*3)),.agg #[vi 1,vi 1,vi 600],.agg #[vi 1,vi 1,vi 600],.bool true,.bool true] H (aF ?_ ?_ ?_ ?_ (aF ?_ ?_ ?_ ?_ (aF ?_ ?_ ?_ ?_ (aF ?_ ?_ ?_ ?_ (aF ?_ ?_ ?_ ?_ (aF ?_ ?_ ?_ ?_ (aF ?_ ?_ ?_ ?_ (aF ?_ ?_ ?_ ?_ (aF ?_ ?_ ?_ ?_ (aF ?_ ?_ ?_ ?_ (aF ?_ ?_ ?_ ?_ (aF ?_ ?_ ?_ ?_ (aF ?_ ?_ ?_ ?_ (gN (gB O) fB)))))))))))))) ?_
 ·exact aO
 ·intro av a w G1 _ ah hc hG HT hv;have H:=HT;clear ah;have H:=H.ak (hv 0 24 (hc 0 Y) O) O;exact uM
 ·intro av a w G1 _ ah hc hG HT hv;have H:=HT;clear ah;have H:=H.ak (hv 1 25 (hc 1 Y) O) O;exact lq
 ·intro av a w G1 _ ah hc hG HT hv;have H:=HT;clear ah;have H:=H.ak (hv 2 26 (hc 2 Y) O) O;exact sV
 ·intro av a w G1 _ ah hc hG HT hv;have H:=HT;clear ah;have H:=H.ak (hv 3 27 (hc 3 Y) O) O;have H:=H.ak (hv 2 26 (hc 2 Y) O) O;exact Nu
 ·intro av a w G1 _ ah hc hG HT hv;have H:=HT;clear ah;have H:=H.ak (hv 4 28 (hc 4 Y) O) O;have H:=H.ak (hv 2 26 (hc 2 Y) O) O;exact vQ
 ·intro av a w G1 _ ah hc hG HT hv;have H:=HT;clear ah;have H:=H.ak (hv 2 26 (hc 2 Y) O) O;have H:=H.ak (hv 5 29 (hc 5 Y) O) O;exact sW
 ·intro av a w G1 _ ah hc hG HT hv;have H:=HT;clear ah;have H:=H.ak (hv 6 30 (hc 6 Y) O) O;exact lq
 ·intro av a w G1 _ ah hc hG HT hv;have H:=HT;clear ah;have H:=H.ak (hv 7 31 (hc 7 Y) O) O;exact sV
 ·intro av a w G1 _ ah hc hG HT hv;have H:=HT;clear ah;have H:=H.ak (hv 8 32 (hc 8 Y) O) O;have H:=H.ak (hv 7 31 (hc 7 Y) O) O;exact Nu
 ·intro av a w G1 _ ah hc hG HT hv;have H:=HT;clear ah;have H:=H.ak (hv 9 33 (hc 9 Y) O) O;have H:=H.ak (hv 7 31 (hc 7 Y) O) O;exact vQ
 ·intro av a w G1 _ ah hc hG HT hv;have H:=HT;clear ah;have H:=H.ak (hv 7 31 (hc 7 Y) O) O;have H:=H.ak (hv 10 34 (hc 10 Y) O) O;exact sW
 ·intro av a w G1 _ ah hc hG HT hv;have H:=HT;clear ah;have H:=H.ak (hv 11 35 (hc 11 Y) O) O;exact lq
 ·exact Oh
 ·intro av a w G1 _ ah hc hG HT hv;have H:=HT;clear ah;have H:=H.ak (hv 13 37 (hc 13 Y) O) O;exact Nh
 ·intro av a w G1 _ ah hc hG HT hv;have H:=HT;clear ah;have H:=H.ak (hv 14 38 (hc 14 Y) O) O;have H:=H.ak (hv 12 36 (hc 12 Y) O) O;have Hb:=H.full;have H:=Hb;clear hc;refine dL cK (cs:=[_,_]) H (wg H O O O) O O (fun j v hj=>H.hp.aQ (aK hG (hx2 j v hj))) O ?_;exact aI
 ·exact Oh
 ·intro av a w G1 _ ah hc hG HT hv;have H:=HT;clear ah;have H:=H.ak (hv 16 40 (hc 16 Y) O) O;exact Nh
 ·intro av a w G1 _ ah hc hG HT hv;have H:=HT;clear ah;have H:=H.ak (hv 17 41 (hc 17 Y) O) O;have H:=H.ak (hv 12 36 (hc 12 Y) O) O;have Hb:=H.full;have H:=Hb;clear hc;refine dL cK (cs:=[_,_]) H (wg H O O O) O O (fun j v hj=>H.hp.aQ (aK hG (hy2 j v hj))) O ?_;exact aI
 ·intro av a w G1 _ ah hc hG HT hv;have H:=HT;clear ah;have H:=H.ak (hv 15 39 (hc 15 Y) O) O;have H:=H.ak (hv 18 42 (hc 18 Y) O) O;have H:=H.ak (hv 12 36 (hc 12 Y) O) O;have Hb:=H.full;have H:=Hb;clear hc;refine TT Zl H (wg H O O O) O O O O ?_;exact aI
 ·intro av a w G1 _ ah hc hG HT hv;have H:=HT;clear ah;have H:=H.ak (hv 12 36 (hc 12 Y) O) O;have H:=H.ak (hv 19 43 (hc 19 Y) O) O;exact sW
 ·intro av a w G1 _ ah hc hG HT hv;have H:=HT;clear ah;have H:=H.ak (hv 20 44 (hc 20 Y) O) O;exact lq
 ·intro av a w G1 _ ah hc hG HT hv;have H:=HT;clear ah;have H:=H.ak (hv 21 45 (hc 21 Y) O) O;exact sV
 ·intro av a w G1 _ ah hc hG HT hv;have H:=HT;clear ah;have H:=H.ak (hv 22 46 (hc 22 Y) O) O;have H:=H.ak (hv 21 45 (hc 21 Y) O) O;have Hb:=H.full;have H:=Hb;clear hc;refine bO bV cK 0 H (wg H O O O) O O O Y O ?_;exact aI
 ·intro av a w G1 _ ah hc hG HT hv;have H:=HT;clear ah;have H:=H.ak (hv 23 47 (hc 23 Y) O) O;have H:=H.ak (hv 21 45 (hc 21 Y) O) O;have Hb:=H.full;have H:=Hb;clear hc;refine EM HY H (wg H O O O) O O ?_;exact aI
 ·intro av a w G1 _ ah hc hG HT hv;have H:=HT;clear ah;have H:=H.ak (hv 24 48 (hc 24 Y) O) O;have H:=H.ak (hv 21 45 (hc 21 Y) O) O;have Hb:=H.full;have H:=Hb;clear hc;refine iF aG H (wg H O O O) O (H.hp.aQ (aK hG (hy0 0 _ O))) O ?_;exact aI
 ·intro av a w G1 _ ah hc hG HT hv;have H:=HT;clear ah;have H:=H.ak (hv 25 49 (hc 25 Y) O) O;have H:=H.ak (hv 21 45 (hc 21 Y) O) O;exact vQ
 ·intro av a w G1 _ ah hc hG HT hv;have H:=HT;clear ah;have H:=H.ak (hv 21 45 (hc 21 Y) O) O;have H:=H.ak (hv 26 50 (hc 26 Y) O) O;exact sW
 ·intro av a w G1 _ ah hc hG HT hv;have H:=HT;clear ah;have H:=H.ak (hv 27 51 (hc 27 Y) O) O;exact lq
 ·intro av a w G1 _ ah hc hG HT hv;have H:=HT;clear ah;have H:=H.ak (hv 28 52 (hc 28 Y) O) O;exact sV
 ·intro av a w G1 _ ah hc hG HT hv;have H:=HT;clear ah;have H:=H.ak (hv 29 53 (hc 29 Y) O) O;have H:=H.ak (hv 28 52 (hc 28 Y) O) O;exact vQ
 ·intro av a w G1 _ ah hc hG HT hv;have H:=HT;clear ah;have H:=H.ak (hv 28 52 (hc 28 Y) O) O;have H:=H.ak (hv 30 54 (hc 30 Y) O) O;exact sW
 ·intro av a w G1 _ ah hc hG HT hv;have H:=HT;clear ah;have H:=H.ak (hv 31 55 (hc 31 Y) O) O;exact lq
 ·intro av a w G1 _ ah hc hG HT hv;have H:=HT;clear ah;have H:=H.ak (hv 32 56 (hc 32 Y) O) O;exact sV
 ·intro av a w G1 _ ah hc hG HT hv;have H:=HT;clear ah;have H:=H.ak (hv 33 57 (hc 33 Y) O) O;have H:=H.ak (hv 32 56 (hc 32 Y) O) O;exact vQ
 ·intro av a w G1 _ ah hc hG HT hv;have H:=HT;clear ah;have H:=H.ak (hv 32 56 (hc 32 Y) O) O;have H:=H.ak (hv 34 58 (hc 34 Y) O) O;exact sW
 ·intro av a w G1 _ ah hc hG HT hv;have H:=HT;clear ah;have H:=H.ak (hv 35 59 (hc 35 Y) O) O;exact lq
 ·intro av a w G1 _ ah hc hG HT hv;have H:=HT;clear ah;have H:=H.ak (hv 36 60 (hc 36 Y) O) O;exact sV
 ·intro av a w G1 _ ah hc hG HT hv;have H:=HT;clear ah;have H:=H.ak (hv 37 61 (hc 37 Y) O) O;have H:=H.ak (hv 36 60 (hc 36 Y) O) O;exact vQ
 ·intro av a w G1 _ ah hc hG HT hv;have H:=HT;clear ah;have H:=H.ak (hv 36 60 (hc 36 Y) O) O;have H:=H.ak (hv 38 62 (hc 38 Y) O) O;exact sW
 ·intro av a w G1 _ ah hc hG HT hv;have H:=HT;clear ah;have H:=H.ak (hv 39 63 (hc 39 Y) O) O;exact lq
 ·intro av a w G1 _ ah hc hG HT hv;have H:=HT;clear ah;have H:=H.ak (hv 40 64 (hc 40 Y) O) O;exact sV
 ·intro av a w G1 _ ah hc hG HT hv;have H:=HT;clear ah;have H:=H.ak (hv 41 65 (hc 41 Y) O) O;have H:=H.ak (hv 40 64 (hc 40 Y) O) O;have Hb:=H.full;have H:=Hb;clear hc;refine zH qP H (wg H O O O) O O ?_;exact aI
 ·intro av a w G1 _ ah hc hG HT hv;have H:=HT;clear ah;have H:=H.ak (hv 42 66 (hc 42 Y) O) O;have H:=H.ak (hv 40 64 (hc 40 Y) O) O;exact vQ
 ·intro av a w G1 _ ah hc hG HT hv;have H:=HT;clear ah;have H:=H.ak (hv 40 64 (hc 40 Y) O) O;have H:=H.ak (hv 43 67 (hc 43 Y) O) O;exact sW
 ·intro av a w G1 _ ah hc hG HT hv;have H:=HT;clear ah;have H:=H.ak (hv 44 68 (hc 44 Y) O) O;exact lq
 ·intro av a w G1 _ ah hc hG HT hv;have H:=HT;clear ah;have H:=H.ak (hv 45 69 (hc 45 Y) O) O;exact sV
 ·intro av a w G1 _ ah hc hG HT hv;have H:=HT;clear ah;have H:=H.ak (hv 46 70 (hc 46 Y) O) O;have H:=H.ak (hv 45 69 (hc 45 Y) O) O;have Hb:=H.full;have H:=Hb;clear hc;refine bO qP uj 1 H (wg H O O O) O O O Y O ?_;exact aI
 ·intro av a w G1 _ ah hc hG HT hv;have H:=HT;clear ah;have H:=H.ak (hv 47 71 (hc 47 Y) O) O;have H:=H.ak (hv 45 69 (hc 45 Y) O) O;have Hb:=H.full;have H:=Hb;clear hc;refine dL uj (cs:=[_,_,_]) H (wg H O O O) O O (fun j v hj=>H.hp.aQ (aK hG (hz1 j v hj))) O ?_;exact aI
 ·intro av a w G1 _ ah hc hG HT hv;have H:=HT;clear ah;have H:=H.ak (hv 45 69 (hc 45 Y) O) O;have Hb:=H.full;have H:=Hb;clear hc;refine jQ Ki [_,_,_] H (wg H O O O) O O O O ?_;exact aI
 ·intro av a w G1 _ ah hc hG HT hv;have H:=HT;clear ah;have H:=H.ak (hv 48 72 (hc 48 Y) O) O;have H:=H.ak (hv 49 73 (hc 49 Y) O) O;have H:=H.ak (hv 45 69 (hc 45 Y) O) O;have Hb:=H.full;have H:=Hb;clear hc;refine TT Zm H (wg H O O O) O O O O ?_;exact aI
 ·intro av a w G1 _ ah hc hG HT hv;have H:=HT;clear ah;have H:=H.ak (hv 45 69 (hc 45 Y) O) O;have H:=H.ak (hv 50 74 (hc 50 Y) O) O;exact sW
 clear H;intro a w G agC H hv;have H:=H.ak (hv 51 75 O O) O;clear hv;refine kH H (Ra O ?_);clear H;intro a H;refine aB ⟨O,?_⟩;refine K1 _ _ ?_;clear K1;refine lr H results4 O ?_;exact H.rt O
theorem Sg {x:ByteArray}:∀ {l:List ByteArray} {i m:Nat},kX x i l=some m->∃ n,m=i+n+1∧l[n]?=some x
 | [],_,_,h=>by cases h
 | y :: l,i,m,h=>by
  rw [kX] at h
  split at h
  ·rename_i e
   injection h with h
   exact ⟨0,V,by simp [e]⟩
  obtain ⟨n,h1,h2⟩:=Sg h;exact ⟨n+1,V,by simpa using h2⟩
theorem Sd {x:ByteArray}:∀ {l:List ByteArray} {i:Nat},kX x i l=none->x∉l
 | [],_,_=>by simp
 | y :: l,i,h=>by
  rw [kX] at h
  split at h
  ·cases h
  rename_i e
  intro hm
  rcases mq.1 hm with rfl|hm
  ·exact e O
  exact Sd h hm
theorem acd {l:List ByteArray} (hl:l.Nodup) (x:ByteArray):(qI l x).Nodup∧(∀ (n:Nat) (y:ByteArray),l[n]?=some y->(qI l x)[n]?=some y)∧∃ n,wN l x=n+1∧(qI l x)[n]?=some x:=by
 unfold wN qI
 cases h:kX x 0 l with
 | some m =>
  obtain ⟨n,h1,h2⟩:=Sg h;exact ⟨by simpa using hl,fun _ _ h=>by simpa using h,n,by simp;omega,by simpa using h2⟩
 | none =>
  have hx:=Sd h;refine ⟨?_,fun n y hy=>?_,l.length,by simp,by simp⟩
  ·simp only [Option.isSome_none,xM,if_false]
   rw [List.nodup_append];exact ⟨hl,by simp,fun a ha b hb e=>by rw [sJ] at hb;subst hb;subst e;exact hx ha⟩
  simp only [Option.isSome_none,xM,if_false]
  rw [sK (fV.1 hy).1];exact hy
structure nN (l:List (dN × ByteArray)) (o:List bJ) (K:List ByteArray):Prop where
 len:o.length=l.length
 at_:∀ i (h:i < l.length) (h2:i < o.length),∃ n:Nat,o[i].key=(n:Int)+1∧K[n]?=some l[i].2∧o[i].weight=jk l[i].1
theorem Cj (l:List (dN × ByteArray)) (ks:List ByteArray) (hk:ks.Nodup):∀ k,k<=l.length->(bW (l.take k) ks).2.Nodup∧(∀ (n:Nat) (y:ByteArray),ks[n]?=some y->(bW (l.take k) ks).2[n]?=some y)∧nN (l.take k) (bW (l.take k) ks).1 (bW (l.take k) ks).2
 | 0,_=>⟨by simpa [bW] using hk,fun n y h=>by simpa [bW] using h,by simp [bW],fun i h=>by simp at h⟩
 | k+1,h=>by
  obtain ⟨h1,h2,h3⟩:=Cj l ks hk k V;have hp:=acd h1 l[k].2;obtain ⟨n,hn1,hn2⟩:=hp.2.2;rw [Ck V];refine ⟨hp.1,fun n y hy=>hp.2.1 n y (h2 n y hy),?_,fun i hi hi2=>?_⟩
  ·have:=h3.len
   simp only [lZ,gW,List.length_singleton,List.length_take] at *;omega
  have hl:=h3.len
  simp only [lZ] at hi2 |-
  rw [List.length_take] at hi hl
  by_cases e:i < k
  ·obtain ⟨q,q1,q2,q3⟩:=h3.at_ i (by rw [List.length_take];omega) V;refine ⟨q,?_,?_,?_⟩
   ·rw [List.getElem_append_left V];exact q1
   ·rw [List.getElem_take];rw [List.getElem_take] at q2;exact hp.2.1 _ _ q2
   rw [List.getElem_append_left V,List.getElem_take];rw [List.getElem_take] at q3;exact q3
  have hik:i=k:=by omega
  subst hik;refine ⟨n,?_,?_,?_⟩
  ·rw [List.getElem_append_right V];simp [hn1]
  ·rw [List.getElem_take];exact hn2
  rw [List.getElem_append_right V,List.getElem_take];simp
theorem nN.take {l:List (dN × ByteArray)} {o:List bJ} {K:List ByteArray} (h:nN l o K) (n:Nat):nN (l.take n) (o.take n) K:=by
 refine ⟨by rw [List.length_take,List.length_take,h.len],fun i hi hi2=>?_⟩;rw [List.length_take] at hi hi2;obtain ⟨m,h1,h2,h3⟩:=h.at_ i V V;exact ⟨m,by rw [List.getElem_take];exact h1,by rw [List.getElem_take];exact h2,by rw [List.getElem_take,List.getElem_take];exact h3⟩
theorem nN.up {l:List (dN × ByteArray)} {o:List bJ} {K K':List ByteArray} (h:nN l o K) (hu:∀ (n:Nat) (y:ByteArray),K[n]?=some y->K'[n]?=some y):nN l o K' :=
 ⟨h.len,fun i hi hi2=>by obtain ⟨n,q1,q2,q3⟩:=h.at_ i hi hi2;exact ⟨n,q1,hu _ _ q2,q3⟩⟩
theorem afk (a b:ByteArray):∃ K:List ByteArray,K.Nodup∧nN ((aY a).take 2048) (jS a) K∧nN ((aY b).take 2048) (mg a b) K:=by
 obtain ⟨h1,h2,h3⟩:=Cj (aY a) [] List.nodup_nil _ (aV _);rw [pz] at h1 h3;obtain ⟨g1,g2,g3⟩:=Cj (aY b) (bW (aY a) []).2 h1 _ (aV _);rw [pz] at g1 g2 g3;exact ⟨_,g1,(h3.up g2).take 2048,g3.take 2048⟩
theorem acL {K:List ByteArray} (h:K.Nodup) {n m:Nat} {x:ByteArray} (h1:K[n]?=some x) (h2:K[m]?=some x):n=m:=by
 obtain ⟨p1,e1⟩:=fV.1 h1;obtain ⟨p2,e2⟩:=fV.1 h2;exact (List.getElem_inj h).1 (e1.trans e2.symm)
theorem Sk {la lb:List (dN × ByteArray)} {x y:List bJ} {K:List ByteArray} (hK:K.Nodup) (hx:nN la x K) (hy:nN lb y K) {i k:Nat} (hi:i < la.length) (hk:k < lb.length):(x[i]'(by rw [hx.len];exact hi)).key=(y[k]'(by rw [hy.len];exact hk)).key↔la[i].2=lb[k].2:=by
 obtain ⟨n,n1,n2,-⟩:=hx.at_ i hi (by rw [hx.len];exact hi);obtain ⟨m,m1,m2,-⟩:=hy.at_ k hk (by rw [hy.len];exact hk);rw [n1,m1]
 constructor
 ·intro e
  have:n=m:=by omega
  subst this;rw [n2] at m2;exact Option.some.inj m2
 intro e;rw [e] at n2;rw [acL hK n2 m2]
theorem UC {l:List (dN × ByteArray)} {x:List bJ} {K:List ByteArray} (hx:nN l x K):x.map (·.weight)=l.map fun q=>jk q.1:=by
 apply List.ext_getElem
 ·simp [hx.len]
 intro i h1 h2;rw [bG] at h1 h2;obtain ⟨-,-,-,q⟩:=hx.at_ i h2 h1
 simp [q]
theorem UA:∀ (x y:List bJ),x.map (·.weight)=y.map (·.weight)->gT x=gT y
 | [],[],_=>rfl
 | [],y :: ys,h=>by simp at h
 | x :: xs,[],h=>by simp at h
 | x :: xs,y :: ys,h=>by
  simp only [gV,List.cons.injEq] at h
  rw [gT,gT,h.1,UA xs ys h.2]
theorem Ko (x y:List bJ):gT (x++y)=gT x+gT y:=by
 induction x with
 | nil=>simp [gT]
 | cons a x ih=>simp only [lJ,gT,ih];omega
theorem EW {a b:List bJ} {k:Nat} (hk:¬ k < b.length):∀ (q i:Nat),a.length - i<=q->dJ a b i k=0
 | 0,i,h=>mU V
 | q+1,i,h=>by
  by_cases hi:i < a.length
  ·rw [Kg hi hk,EW hk q (i+1) V]
  exact mU hi
theorem Ce {a b c d:List bJ} (h1:c.length=b.length) (h2:d.length=a.length) (hk:∀ i k (hi:i < a.length) (hk:k < b.length),a[i].key=b[k].key↔(c[k]'V).key=(d[i]'V).key)
  (hwc:∀ k (hk:k < b.length),(c[k]'V).weight=b[k].weight) (hwd:∀ i (hi:i < a.length),(d[i]'V).weight=a[i].weight):∀ (q i k:Nat),(a.length - i)+(b.length - k)<=q->dJ a b i k=dJ c d k i
 | 0,i,k,hq=>by rw [mU V,mU V]
 | q+1,i,k,hq=>by
  by_cases hi:i < a.length
  ·by_cases hkb:k < b.length
   ·rw [uf hi hkb,uf (show k < c.length by omega) (show i < d.length by omega)];rw [Ce h1 h2 hk hwc hwd q (i+1) k V,Ce h1 h2 hk hwc hwd q i (k+1) V,Ce h1 h2 hk hwc hwd q (i+1) (k+1) V]
    have hw:iR (c[k]'V) (d[i]'V)=iR a[i] b[k]:=by rw [iR,iR,hwc k hkb,hwd i hi];omega
    rw [hw,Int.max_comm (dJ c d k (i+1)) (dJ c d (k+1) i)]
    by_cases e:a[i].key=b[k].key
    ·have e2:=(hk i k hi hkb).1 e
     simp only [e,e2,true_and]
    have e2:¬ (c[k]'V).key=(d[i]'V).key:=fun h=>e ((hk i k hi hkb).2 h)
    simp only [e,e2,false_and]
   rw [EW hkb _ i (aV _),mU V]
  rw [mU hi,EW V _ k (aV _)]
theorem Uz {x:List bJ} {i:Nat} (hi:i < x.length):gT (x.drop i)=x[i].weight+gT (x.drop (i+1)):=by
 rw [List.drop_eq_getElem_cons hi];rfl
theorem E8 {x:List bJ} (h:∀ y∈x,1<=y.weight∧y.weight<=1000) (i:Nat):0<=gT (x.drop i):=by
 have:=E5 (x.drop i) (fun y hy=>h y (List.mem_of_mem_drop hy));omega
theorem EU {a b:List bJ} (ha:∀ x∈a,1<=x.weight∧x.weight<=1000) (hb:∀ x∈b,1<=x.weight∧x.weight<=1000):∀ (q i k:Nat),(a.length - i)+(b.length - k)<=q->dJ a b i k<=gT (a.drop i)∧dJ a b i k<=gT (b.drop k)
 | 0,i,k,hq=>by rw [mU V];exact ⟨E8 ha i,E8 hb k⟩
 | q+1,i,k,hq=>by
  have p1:=E8 ha i;have p2:=E8 hb k
  by_cases hi:i < a.length
  ·by_cases hk:k < b.length
   ·have e1:=EU ha hb q (i+1) k V;have e2:=EU ha hb q i (k+1) V;have e3:=EU ha hb q (i+1) (k+1) V;have s1:=Uz hi;have s2:=Uz hk;have w1:=ha _ (dK hi);have w2:=hb _ (dK hk);rw [uf hi hk]
    unfold iR
    split <;> omega
   rw [EW hk _ i (aV _)];exact ⟨p1,p2⟩
  rw [mU hi];exact ⟨p1,p2⟩
def lF (a b:ByteArray):Int:=qZ (jS a) (mg a b)
theorem ael (a b:ByteArray):0<=lF a b∧lF a b<=1000:=by
 have h1:=EU (Fj a) (KE a b) _ 0 0 (aV _);have h2:=zK (Fj a) (KE a b) _ 0 0 (aV _);rw [List.drop_zero,List.drop_zero] at h1;rw [lF,qZ]
 split
 ·decide
 rename_i hne
 have hs:=Ko (jS a) (mg a b)
 have hp:0 < gT (jS a++mg a b):=by omega
 refine ⟨Int.tdiv_nonneg V V,?_⟩;rw [Int.tdiv_eq_ediv_of_nonneg V];have:=Int.ediv_le_ediv hp (show 2000*dJ (jS a) (mg a b) 0 0<=1000*gT (jS a++mg a b) by omega)
 rwa [Int.mul_ediv_cancel _ V] at this
theorem Zn:Lp prog 62 [(0,false),(1,false),(2,false)]:=⟨Z,Z,Z,Z,Z⟩
theorem Nt {p:Prop} (h:p:=by
 have Hb:=H.full;have H:=Hb;clear hc;refine bO qP uj k H wn O O O hk1 O ?_;exact aI):p:=h
theorem Ue (G:GH) (w0:World) (hG:Hold G w0) (l:List fD) (v u:aj) (hv:ay G (.sl 3 (l.map fD.dat)) v) (hu:ay G (.sl 3 (l.map fD.dat)) u) :
  Calls prog 9 #[v,u] w0 (bK w0 G fun r G'=>r=.bool true):=by
 obtain ⟨A,c,rfl,hc1,hc2,-⟩:=hv.slice;obtain ⟨B,c2,rfl,hd1,hd2,-⟩:=hu.slice;have hml:maxLen=9223372036854775807:=rfl;rw [bG] at *;refine eN [(0,_),(1,_)] func9 O ntmps9 O O hG ?_;intro a H;refine kP H (SR fun _ K1=>au K1 O (SQ fun _ K2=>SR fun _ K3=>Rm O (Rl qP O (Rm O (Rl qP O (Rc O (Kz K3 (Cd O ?_ ?_)))))))) <;> clear H K1 K3
 ·intro h10 a H
  try have nE:=dT h10
  simp at nE
 intro h10 a H
 try have nE:=dF h10
 refine kP H (Kc K2 (SQ fun _ K1=>SR fun _ K3=>au K3 O (SB ?_)));clear H K2 K3;intro a H;skip;refine dz (ι:=Nat × GH) (Tc:=[(0,_),(1,_)]) (Lc:=[]) (fun gh=>[(5,vi gh.1)]) (fun gh=>[]) (fun gh=>gh.2) (fun gh=>gh.1<=l.length∧(∀ b o,G b=some o->gh.2 b=some o)) (fun gh=>l.length - gh.1) ((0,G)) (by exact H.sub ⟨O,O,O,aH⟩) ?_ ?_
 ·exact F7
 clear H;rintro ⟨k,g⟩ a w hI H;dsimp only at hI H;obtain ⟨hk,hgm⟩:=hI;dsimp only [lca,bR] at H;refine kP H (SQ fun _ K2=>SR fun _ K3=>Rm O (Rm O (Rl qP O (Rc O (Kz K3 (Cd O ?_ ?_)))))) <;> clear H K3
 ·intro dQ a H
  try have jr:=dT dQ
  have hk1:k < l.length:=by omega
  obtain ⟨b,o,rfl,hrow⟩:=JB (hv.mono hgm) hk1;obtain ⟨b2,o2,rfl,hrow2⟩:=JB (hu.mono hgm) hk1;refine kP H (Kc K2 (SQ fun _ K3=>SB (SQ fun _ K4=>?_)));clear H K2;intro a H;refine dI fF [[],[],[0,1],[0,1,2],[],[],[4,5],[4,5,6],ra 0 8] [] Z [.slice (some ⟨b,o,none⟩) l.length c,vi k,(aD b (o+k*3)),.agg #[vi l[k].a,vi l[k].b,vi l[k].score],.slice (some ⟨b2,o2,none⟩) l.length c2,vi k,(aD b2 (o2+k*3)),.agg #[vi l[k].a,vi l[k].b,vi l[k].score],.bool false] H (aF ?_ ?_ ?_ ?_ (aF ?_ ?_ ?_ ?_ (gN ?_ fB))) ?_
  ·exact aO
  ·exact aO
  ·intro av a w G1 _ ah hc hG HT hv;have H:=HT;clear ah;have H:=H.ak (hv 0 17 (hc 0 Y) O) O;have H:=H.ak (hv 1 18 (hc 1 Y) O) O;exact Nt
  ·intro av a w G1 _ ah hc hG HT hv;have H:=HT;clear ah;have H:=H.ak (hv 2 19 (hc 2 Y) O) O;have Hb:=H.full;have H:=Hb;clear hc;refine dL uj (cs:=[_,_,_]) H wn O O (fun j v hj=>H.hp.aQ (aK hG (hrow j v hj))) O ?_;exact aI
  ·exact aO
  ·exact aO
  ·intro av a w G1 _ ah hc hG HT hv;have H:=HT;clear ah;have H:=H.ak (hv 4 21 (hc 4 Y) O) O;have H:=H.ak (hv 5 22 (hc 5 Y) O) O;exact Nt
  ·intro av a w G1 _ ah hc hG HT hv;have H:=HT;clear ah;have H:=H.ak (hv 6 23 (hc 6 Y) O) O;have Hb:=H.full;have H:=Hb;clear hc;refine dL uj (cs:=[_,_,_]) H wn O O (fun j v hj=>H.hp.aQ (aK hG (hrow2 j v hj))) O ?_;exact aI
  ·intro av a w G1 _ ah hc hG HT hv;have H:=HT;clear ah;have H:=H.ak (hv 3 20 (hc 3 Y) O) O;have H:=H.ak (hv 7 24 (hc 7 Y) O) O;have Hb:=H.full;have H:=Hb;clear hc;refine adD (.inr O) Zn H wn O O O O ?_;clear H;intro a H;refine aB ⟨O,?_⟩;exact iN Z (fun _ _ _ _ _ h=>h) O O HT Hb hG hv (fun _ _ h=>h) (by simp [jO]) H
  clear H;intro a w G uX H hv;have H:=H.ak (hv 8 25 O O) O;clear hv;refine aB ⟨O,?_⟩;refine K4 _ _ ?_;clear K4;refine rD H O O ?_;refine kP H (Kc K3 (SC (Rm O (Rd O (Ra O ?_)))));clear H K3;intro a H;refine aB ?_;refine aX ((k+1,G)) (by exact H.sub ⟨O,O,O,aH⟩) ?_
  (try dsimp only);exact ⟨V,fun b o h=>uX b o (hgm b o h)⟩
 intro dQ a H
 refine bQ ?_;refine K1 _ _ ?_;clear K1;exact kP H (SR fun _ K1=>au K1 O (LR results9 O fun H=>H.rt O))
theorem aaN {S:List (List Int)} (h:0 < S.length):(S.headD []).length=S[0].length:=by
 match S,h with
 | r :: S',_=>rfl
structure xI (S:List (List Int)) (m:Nat):Prop where
 wid:∀ r∈S,r.length=m
 len:S.length<=1024∧m<=1024
 ok:∀ i k,i < S.length->k < m->0<=aP S i k∧aP S i k<=1000
theorem QN:∀ {l:List Int},tJ l=0->∀ e∈l,e=0
 | [],_,e,h=>by cases h
 | x :: l,h,e,he=>by
  rw [tJ] at h
  split at h
  ·rename_i hx
   rcases mq.1 he with rfl|he
   ·exact hx
   exact QN h e he
  exact absurd h (by assumption)
theorem PO {S:List (List Int)} (h:kS S=0):xI S (S.headD []).length:=by
 rw [kS] at h
 split at h
 ·exact absurd h Y
 rename_i hl
 have hr:∀ r∈S,¬ 1024 < r.length∧r.length=(S.headD []).length∧r.all tZ=true:=by
  intro r hr;have h0:=QN h _ (List.mem_map.2 ⟨r,hr,O⟩);rw [om] at h0
  split at h0
  ·exact absurd h0 Y
  split at h0
  ·exact absurd h0 Y
  rename_i h1 h2
  split at h0
  ·rename_i h3;exact ⟨h1,xO.1 h2,h3⟩
  exact absurd h0 Y
 refine ⟨fun r h=>(hr r h).2.1,⟨V,?_⟩,fun i k hi hk=>?_⟩
 ·cases S with
  | nil=>exact dO _
  | cons r S=>have:=hr r (nP ..);rw [List.headD_cons];omega
 have hx:=hr _ (dK hi)
 have hk2:k < S[i].length:=by omega
 rw [zF hi hk2];have h3:=fM.1 hx.2.2 _ (dK hk2)
 simpa [tZ] using h3
theorem xI.row {G:GH} {S:List (List Int)} {m i k:Nat} (hS:xI S m) {A:Option Addr} {n c:Nat} (hv:ay G (.sl 1 (S.map jF)) (.slice A n c)) (hi:i < S.length) (hk:k < m) :
  ∃ b o nb no bc,A=some ⟨b,o,none⟩∧aQ G b (o+i*1)=some (.slice (some ⟨nb,no,none⟩) m bc)∧aQ G nb (no+k*1)=some (vi (aP S i k)):=by
 obtain ⟨b,o,bA,bc,rfl,g1,g2⟩:=tX hv hi;have hw:S[i].length=m:=hS.wid _ (dK hi);obtain ⟨nb,no,rfl,g3⟩:=mO g2 (show k < S[i].length by omega);exact ⟨b,o,nb,no,bc,O,by rw [g1,hw],by rw [g3,zF hi V]⟩
def lH (S:List (List Int)) (m i:Nat):List Int:=(List.range (m+1)).map fun k=>tot (aP S) S.length m i k
def lI (S:List (List Int)) (m:Nat):List (List Int):=(List.range (S.length+1)).map (lH S m)
theorem afh {S:List (List Int)} {m i k:Nat} (hk:k<=m):(lH S m i)[k]?=some (tot (aP S) S.length m i k):=by simp [lH,List.getElem?_range,show k < m+1 by omega]
theorem UQ {S:List (List Int)} {m i:Nat} {fl:List Int} (hl:fl.length=m+1) (h:∀ q,q<=m->fl[q]?=some (tot (aP S) S.length m i q)):fl=lH S m i:=by
 apply List.ext_getElem?
 intro q
 by_cases hq:q<=m
 ·rw [h q hq,afh hq]
 rw [List.getElem?_eq_none V,List.getElem?_eq_none (by simp [lH];omega)]
abbrev FV (b:Nat) (cs:List aj):Nat × Obj:=(b,.cells cs.toArray 46 (0,0))
def uG (g:GH) (S:List (List Int)) (m:Nat) (cs:List aj) (j:Nat):Prop:=cs.length=S.length+1∧∀ r,j<=r->r<=S.length->∃ b,cs[r]?=some (.slice (some ⟨b,0,none⟩) (m+1) (m+1))∧ay g (.sl 1 ((lH S m r).map eF)) (.slice (some ⟨b,0,none⟩) (m+1) (m+1))
theorem uG.mono {g g':GH} {S:List (List Int)} {m:Nat} {cs:List aj} {j:Nat} (h:uG g S m cs j) (hm:∀ b o,g b=some o->g' b=some o):uG g' S m cs j :=
 ⟨h.1,fun r h1 h2=>by obtain ⟨b,e,hr⟩:=h.2 r h1 h2;exact ⟨b,e,hr.mono hm⟩⟩
theorem uG.cat {g:GH} {S:List (List Int)} {m:Nat} {cs:List aj} (h:uG g S m cs 0):bU g 1 ((lI S m).map jF) cs:=by
 have hc:=JW (G:=g) (lI S m) [] [] cs bU.nil (by simp [lI,h.1]) (fun i r u h1 h2=>by
  have hi:i<=S.length:=by have:=(fV.1 h2).1;have:=h.1;omega
  obtain ⟨b,e,hr⟩:=h.2 i (dO _) hi;rw [lI,oD,List.getElem?_range V,oF] at h1;rw [e] at h2
  injection h1 with h1;injection h2 with h2
  subst h1;subst h2;exact hr)
 simpa using hc
theorem EY {c:List aj} {o:Nat} {v:aj}:setRow c o [v]=c.set o v:=rfl
theorem CW {p:Prop} (h:p:=by
 exact ay.mP (xs:=fl.map vi) hg3 (by rw [bG,hfl]) (aV _) V (gX (by simp [hfl])) (wO _ _)):p:=h
theorem CX {p:Prop} (h:p:=by
 exact ⟨V,wL,fun b o h=>qF b o (fE b o h)⟩):p:=h
theorem Db {p:Prop} (h:p:=by
 have Hb:=H.full;have H:=Hb;clear hc;refine iF bI H wn O (H.hp.jh 0 O (by rw [eP,Nat.mul_one];exact (List.getElem?_toArray ..).trans hci)) O ?_;clear H;intro a H;refine aB ⟨O,?_⟩;exact Ao):p:=h
theorem Oz {p:Prop} (h:p:=by
 have Hb:=H.full;have H:=Hb;clear hc;refine iF bI H wn O (H.hp.jh 0 O (by rw [eP,Nat.mul_one];exact (List.getElem?_toArray ..).trans hen)) O ?_;clear H;intro a H;refine aB ⟨O,?_⟩;exact Ao):p:=h
theorem F9 {p:Prop} (h:p:=by
 have Hb:=H.full;have H:=Hb;clear hc;refine bO gI bI i H wn O O O hi1 O ?_;exact aI):p:=h
set_option maxHeartbeats 2000000 in
theorem UR (G:GH) (w0:World) (hG:Hold G w0) {S:List (List Int)} {m:Nat} (hS:xI S m) (v:aj) (hv:ay G (.sl 1 (S.map jF)) v) :
  Calls prog 25 #[v,vi S.length,vi m] w0 (bK w0 G fun r G'=>ay G' (.sl 1 ((lI S m).map jF)) r):=by
 obtain ⟨A,c,rfl,hc1,hc2,-⟩:=hv.slice;have hml:maxLen=9223372036854775807:=rfl;have hln:=hS.len;have htb:∀ i k,0<=tot (aP S) S.length m i k∧tot (aP S) S.length m i k<=1000*((S.length - i:Nat):Int):=fun i k=>zO (fun i k hi hk=>(hS.ok i k hi hk).2) _ i k (aV _);rw [bG] at *;refine eN [(0,_),(1,_),(2,_)] func25 O ntmps25 O O hG ?_;intro a H;refine kP H (SR fun _ K1=>au K1 O (SR fun _ K2=>Rm O (Rd O ?_)));clear H K1;intro a H;refine lW (S.length+1) gI bI H wn O O V V V O ?_;clear H;intro b12 a w agD H;refine kH H (au K2 O (SQ fun _ K1=>SR fun _ K3=>Rm O (au K3 O (SB ?_))));clear H K2 K3;intro a H;skip;refine dz (ι:=Nat × List aj × GH) (Tc:=[(0,_),(1,_),(2,_),(7,_)]) (Lc:=[]) (fun gh=>[(8,vi ((gh.1:Int) - 1))]) (fun gh=>[FV b12 gh.2.1]) (fun gh=>gh.2.2) (fun gh=>gh.1<=S.length+1∧uG gh.2.2 S m gh.2.1 gh.1∧(∀ b o,G b=some o->gh.2.2 b=some o)) (fun gh=>gh.1) ((S.length+1,List.replicate (S.length+1) (.slice none 0 0),G)) (by exact by rw [show (((S.length+1:Nat):Int) - 1)=(S.length:Int) by omega];exact H.sub ⟨O,O,O,O,O,aH⟩) ?_ ?_
 ·exact ⟨aV _,⟨by simp,fun r h1 h2=>absurd h1 V⟩,fun _ _ h=>h⟩
 clear H;rintro ⟨j,cs,g⟩ a w hI H;dsimp only at hI H;obtain ⟨hj,hra,hgm⟩:=hI;dsimp only [lca,bR] at H;refine kP H (SQ fun _ K2=>SR fun _ K3=>Rm O (Rc O (Kz K3 (Cd O ?_ ?_)))) <;> clear H K3
 ·intro jg a H
  try have nG:=dT jg
  obtain ⟨i,rfl⟩:∃ i,j=i+1:=⟨j - 1,V⟩;rw [show (((i+1:Nat):Int) - 1)=(i:Int) by omega] at H
  have hi:i<=S.length:=by omega
  refine kP H (Kc K2 (SQ fun _ K3=>SB (SR fun _ K4=>Rm O (Rm O (Rm O (Rd O ?_))))));clear H K2;intro a H;refine lW (m+1) bP aG H wn O O V V V O ?_;clear H;intro mD a w Iz H;refine bO gI bI i H wn O O O V O ?_;clear H;intro a H;refine nI bI 1 (c:=cs) (vs:=[_]) (cs.set i (.slice (some ⟨mD,0,none⟩) (m+1) (m+1))) H wn O O O O O O (Eq.mpr Nat.ble_eq (by have:=hra.1;simp only [List.length_singleton];omega)) (by rw [eP,Nat.mul_one];exact EY) ?_;clear H;intro w H;dsimp only [List.set] at H;obtain ⟨cs2,hcs2⟩:∃ x,x=cs.set i (.slice (some ⟨mD,0,none⟩) (m+1) (m+1)):=⟨_,O⟩;rw [<- hcs2] at H
  have rO:cs2.length=S.length+1:=by rw [hcs2,List.length_set];exact hra.1
  have hci:cs2[i]?=some (.slice (some ⟨mD,0,none⟩) (m+1) (m+1)):=by rw [hcs2,List.getElem?_set_self (by have:=hra.1;omega)]
  have hcn:∀ r,i < r->cs2[r]?=cs[r]?:=fun r hr=>by rw [hcs2,List.getElem?_set_ne V]
  rw [show List.replicate (m+1) (Value.int .i64 0)=(List.replicate (m+1) (0:Int)).map vi from List.map_replicate.symm] at H;refine K4 _ _ ?_;clear K4;refine kP H (SR fun _ K2=>Rm O (Rs O (au K2 O (SB ?_))));clear H K2;intro a H;skip;refine dz (ι:=Nat × List Int × GH) (Tc:=[(0,_),(1,_),(2,_),(7,_),(8,_)]) (Lc:=[(_,_)]) (fun gh=>[(9,vi ((gh.1:Int) - 1))]) (fun gh=>[bF mD gh.2.1]) (fun gh=>gh.2.2) (fun gh=>gh.1<=m∧gh.2.1.length=m+1∧(∀ q,gh.1<=q->q<=m->gh.2.1[q]?=some (tot (aP S) S.length m i q))∧(∀ q,q < gh.1->gh.2.1[q]?=some 0)∧(∀ b o,G b=some o->gh.2.2 b=some o)∧(∀ b o,g b=some o->gh.2.2 b=some o)) (fun gh=>gh.1) ((m,List.replicate (m+1) 0,g)) (by exact (H.dB (Pl:=[_,_]) (bS:=[_,_]) [1,0] Y O).sub ⟨O,O,O,O,O,O,aH⟩) ?_ ?_
  ·exact ⟨aV _,by simp,fun q h1 h2=>by rw [zP V];simp [List.getElem?_replicate];omega,fun q hq=>by simp [List.getElem?_replicate];omega,hgm,fun _ _ h=>h⟩
  clear H;rintro ⟨p,fl,g2⟩ a w hI H;dsimp only at hI H;obtain ⟨hp,hfl,ny,hf0,fE,hgg⟩:=hI;dsimp only [lca,bR] at H;refine kP H (SQ fun _ K2=>SR fun _ K4=>Rm O (Rc O (Rm O (Sp 28 O ?_ ?_)))) <;> clear H
  ·intro gy a H
   try have p28:=dT gy
   refine kH H (YM gy O (YM gy O (YC gy O (Pt gy O (Kz K4 (Cd O ?_ ?_)))))) <;> clear H K4
   ·intro h32 a H
    try have p32:=dT h32
    obtain ⟨k,rfl⟩:∃ k,p=k+1:=⟨p - 1,V⟩;rw [show (((k+1:Nat):Int) - 1)=(k:Int) by omega] at H
    have hk:k < m:=by omega
    have hi1:i < S.length:=by omega
    obtain ⟨bn,hen,hrn⟩:=hra.2 (i+1) (aV _) V;rw [<- hcn _ (Nat.lt_succ_self i)] at hen;obtain ⟨_,_,e0,QT⟩:=mO (k:=k) (hrn.mono hgg) (by simp [lH];omega)
    injection e0 with e0;injection e0 with e1 e2;subst e1;subst e2
    obtain ⟨_,_,e0,D6⟩:=mO (k:=k+1) (hrn.mono hgg) (by simp [lH];omega)
    injection e0 with e0;injection e0 with e1 e2;subst e1;subst e2
    rw [show (lH S m (i+1))[k]'(by simp [lH];omega)=tot (aP S) S.length m (i+1) k by simp [lH]] at QT;rw [show (lH S m (i+1))[k+1]'(by simp [lH];omega)=tot (aP S) S.length m (i+1) (k+1) by simp [lH]] at D6;have hb1:=htb (i+1) k;have hb2:=htb i (k+1);have hb3:=htb (i+1) (k+1);have hok:=hS.ok i k hi1 hk;have hin:=KD (s:=aP S) hi1 hk;have ef:=ny (k+1) (aV _) V;obtain ⟨b,o,bA,bc,rfl,g1,ZP⟩:=tX (hv.mono fE) hi1;have hw:S[i].length=m:=hS.wid _ (dK hi1);obtain ⟨nb,no,rfl,gn⟩:=mO ZP (show k < S[i].length by omega);rw [<- zF hi1 V] at gn;rw [hw] at g1;refine kP H (Kc K2 (SQ fun _ K4=>SB (SQ fun _ K5=>?_)));clear H K2;intro a H;refine dI fF [[],[],[0,1],[0,1,2],[],[],[],[6],[5,6,7],ra 5 4,[],ra 5 6,ra 5 7,[],[],[13,14],[13,14,15],[],[17],ra 13 6,ra 13 7,ra 5 16,ra 0 22,ra 0 23] [22,23] Z [.slice (some ⟨b12,0,none⟩) (S.length+1) (S.length+1),vi i,(aD b12 (0+i*1)),.slice (some ⟨mD,0,none⟩) (m+1) (m+1),vi k,.slice (some ⟨b12,0,none⟩) (S.length+1) (S.length+1),vi i,vi ((i:Int)+1),(aD b12 (0+(i+1)*1)),.slice (some ⟨bn,0,none⟩) (m+1) (m+1),vi k,(aD bn (0+k*1)),vi (tot (aP S) S.length m (i+1) k),.slice (some ⟨b12,0,none⟩) (S.length+1) (S.length+1),vi i,(aD b12 (0+i*1)),.slice (some ⟨mD,0,none⟩) (m+1) (m+1),vi k,vi ((k:Int)+1),(aD mD (0+(k+1)*1)),vi (tot (aP S) S.length m i (k+1)),vi (max (tot (aP S) S.length m (i+1) k) (tot (aP S) S.length m i (k+1)))] H (aF ?_ ?_ ?_ ?_ (aF ?_ ?_ ?_ ?_ (aF ?_ ?_ ?_ ?_ (aF ?_ ?_ ?_ ?_ (aF ?_ ?_ ?_ ?_ (aF ?_ ?_ (gB O) (gB O) fB)))))) ?_
    ·exact aO
    ·exact aO
    ·intro av a w G1 _ ah hc hG HT hv;have H:=HT;clear ah;have H:=H.ak (hv 0 35 (hc 0 Y) O) O;have H:=H.ak (hv 1 36 (hc 1 Y) O) O;exact vP
    ·intro av a w G1 _ ah hc hG HT hv;have H:=HT;clear ah;have H:=H.ak (hv 2 37 (hc 2 Y) O) O;exact Db
    ·exact aO
    ·exact aO
    ·exact aO
    ·intro av a w G1 _ ah hc hG HT hv;have H:=HT;clear ah;have H:=H.ak (hv 6 41 (hc 6 Y) O) O;exact lQ
    ·intro av a w G1 _ ah hc hG HT hv;have H:=HT;clear ah;have H:=H.ak (hv 5 40 (hc 5 Y) O) O;have H:=H.ak (hv 7 42 (hc 7 Y) O) O;exact C8
    ·intro av a w G1 _ ah hc hG HT hv;have H:=HT;clear ah;have H:=H.ak (hv 8 43 (hc 8 Y) O) O;exact Oz
    ·exact aO
    ·intro av a w G1 _ ah hc hG HT hv;have H:=HT;clear ah;have H:=H.ak (hv 9 44 (hc 9 Y) O) O;have H:=H.ak (hv 10 45 (hc 10 Y) O) O;exact xY
    ·intro av a w G1 _ ah hc hG HT hv;have H:=HT;clear ah;have H:=H.ak (hv 11 46 (hc 11 Y) O) O;have Hb:=H.full;have H:=Hb;clear hc;refine kH H (Rg aG O (aK hG QT) ?_);exact aI
    ·exact aO
    ·exact aO
    ·intro av a w G1 _ ah hc hG HT hv;have H:=HT;clear ah;have H:=H.ak (hv 13 48 (hc 13 Y) O) O;have H:=H.ak (hv 14 49 (hc 14 Y) O) O;exact vP
    ·intro av a w G1 _ ah hc hG HT hv;have H:=HT;clear ah;have H:=H.ak (hv 15 50 (hc 15 Y) O) O;exact Db
    ·exact aO
    ·intro av a w G1 _ ah hc hG HT hv;have H:=HT;clear ah;have H:=H.ak (hv 17 52 (hc 17 Y) O) O;exact lQ
    ·intro av a w G1 _ ah hc hG HT hv;have H:=HT;clear ah;have H:=H.ak (hv 16 51 (hc 16 Y) O) O;have H:=H.ak (hv 18 53 (hc 18 Y) O) O;exact AB
    ·intro av a w G1 _ ah hc hG HT hv;have H:=HT;clear ah;have H:=H.ak (hv 19 54 (hc 19 Y) O) O;have Hb:=H.full;have H:=Hb;clear hc;refine iF aG H wn O (H.hp.jh 1 O (by rw [eP,Nat.mul_one];exact pI ef)) O ?_;exact aI
    ·intro av a w G1 _ ah hc hG HT hv;have H:=HT;clear ah;have H:=H.ak (hv 12 47 (hc 12 Y) O) O;have H:=H.ak (hv 20 55 (hc 20 Y) O) O;have Hb:=H.full;have H:=Hb;clear hc;refine EN H wn O O O ?_;exact aI
    clear H;intro a w G jq H hv;have H:=H.ak (hv 3 38 O O) O;have H:=H.ak (hv 4 39 O O) O;have H:=H.ak (hv 21 56 O O) O;clear hv;refine bO bP aG k H wn O O O V O ?_;clear H;intro a H;refine nI aG 1 (c:=fl.map vi) (vs:=[_]) ((fl.set k (max (tot (aP S) S.length m (i+1) k) (tot (aP S) S.length m i (k+1)))).map vi) H wn O O O O O O (Eq.mpr Nat.ble_eq (by rw [bG,hfl];simp only [List.length_singleton];omega)) (by rw [eP,Nat.mul_one,List.map_set];rfl) ?_;clear H;intro w H;dsimp only [List.set] at H;have g1:=aK jq g1;have gn:=aK jq gn;have D6:=aK jq D6;have pK:=jq;have eg:(fl.set k (max (tot (aP S) S.length m (i+1) k) (tot (aP S) S.length m i (k+1))))[k]?=some (max (tot (aP S) S.length m (i+1) k) (tot (aP S) S.length m i (k+1))):=List.getElem?_set_self V;refine aB ⟨O,?_⟩;refine K5 _ _ ?_;clear K5;refine kP H (SR fun _ K2=>Rm O (Rm O ?_));clear H;intro a H;refine bO gI bI i H wn O O O hi1 O ?_;clear H;intro a H;refine kH H (Rg bI O g1 (Rm O ?_));clear H;intro a H;refine bO bP aG k H wn O O O hk O ?_;clear H;intro a H;refine kH H (Rg aG O gn (Rc O (Kz K2 (Cd O ?_ ?_)))) <;> clear H K2
    ·intro Il a H
     try have p65:=dT Il
     refine dI fF [[],[],[0,1],[0,1,2],[],[],[],[5,6],[5,6,7],[],ra 5 5,ra 5 6,[],[],[12,13],[12,13,14],[],ra 12 5,ra 12 6,[],[],[20],[19,20,21],ra 19 4,[],[24],ra 19 7,ra 19 8,ra 12 16,ra 5 24,ra 0 30,ra 0 31] [30,31] Z [.slice (some ⟨b12,0,none⟩) (S.length+1) (S.length+1),vi i,(aD b12 (0+i*1)),.slice (some ⟨mD,0,none⟩) (m+1) (m+1),vi k,.slice (some ⟨b12,0,none⟩) (S.length+1) (S.length+1),vi i,(aD b12 (0+i*1)),.slice (some ⟨mD,0,none⟩) (m+1) (m+1),vi k,(aD mD (0+k*1)),vi (max (tot (aP S) S.length m (i+1) k) (tot (aP S) S.length m i (k+1))),.slice (some ⟨b,o,none⟩) S.length c,vi i,(aD b (o+i*1)),.slice (some ⟨nb,no,none⟩) m bc,vi k,(aD nb (no+k*1)),vi (aP S i k),.slice (some ⟨b12,0,none⟩) (S.length+1) (S.length+1),vi i,vi ((i:Int)+1),(aD b12 (0+(i+1)*1)),.slice (some ⟨bn,0,none⟩) (m+1) (m+1),vi k,vi ((k:Int)+1),(aD bn (0+(k+1)*1)),vi (tot (aP S) S.length m (i+1) (k+1)),vi (aP S i k+tot (aP S) S.length m (i+1) (k+1)),vi (tot (aP S) S.length m i k)] H (aF ?_ ?_ ?_ ?_ (aF ?_ ?_ ?_ ?_ (aF ?_ ?_ ?_ ?_ (aF ?_ ?_ ?_ ?_ (aF ?_ ?_ ?_ ?_ (aF ?_ ?_ ?_ ?_ (aF ?_ ?_ ?_ ?_ (aF ?_ ?_ (gB O) (gB O) fB)))))))) ?_
     ·exact aO
     ·exact aO
     ·intro av a w G1 _ ah hc hG HT hv;have H:=HT;clear ah;have H:=H.ak (hv 0 66 (hc 0 Y) O) O;have H:=H.ak (hv 1 67 (hc 1 Y) O) O;exact vP
     ·intro av a w G1 _ ah hc hG HT hv;have H:=HT;clear ah;have H:=H.ak (hv 2 68 (hc 2 Y) O) O;exact Db
     ·exact aO
     ·exact aO
     ·exact aO
     ·intro av a w G1 _ ah hc hG HT hv;have H:=HT;clear ah;have H:=H.ak (hv 5 71 (hc 5 Y) O) O;have H:=H.ak (hv 6 72 (hc 6 Y) O) O;exact vP
     ·intro av a w G1 _ ah hc hG HT hv;have H:=HT;clear ah;have H:=H.ak (hv 7 73 (hc 7 Y) O) O;exact Db
     ·exact aO
     ·intro av a w G1 _ ah hc hG HT hv;have H:=HT;clear ah;have H:=H.ak (hv 8 74 (hc 8 Y) O) O;have H:=H.ak (hv 9 75 (hc 9 Y) O) O;exact xY
     ·intro av a w G1 _ ah hc hG HT hv;have H:=HT;clear ah;have H:=H.ak (hv 10 76 (hc 10 Y) O) O;have Hb:=H.full;have H:=Hb;clear hc;refine iF aG H wn O (H.hp.jh 1 O (by rw [eP,Nat.mul_one];exact pI eg)) O ?_;exact aI
     ·exact aO
     ·exact aO
     ·intro av a w G1 _ ah hc hG HT hv;have H:=HT;clear ah;have H:=H.ak (hv 12 78 (hc 12 Y) O) O;have H:=H.ak (hv 13 79 (hc 13 Y) O) O;exact F9
     ·intro av a w G1 _ ah hc hG HT hv;have H:=HT;clear ah;have H:=H.ak (hv 14 80 (hc 14 Y) O) O;exact CZ
     ·exact aO
     ·intro av a w G1 _ ah hc hG HT hv;have H:=HT;clear ah;have H:=H.ak (hv 15 81 (hc 15 Y) O) O;have H:=H.ak (hv 16 82 (hc 16 Y) O) O;have Hb:=H.full;have H:=Hb;clear hc;refine bO bP aG k H wn O O O hk O ?_;exact aI
     ·intro av a w G1 _ ah hc hG HT hv;have H:=HT;clear ah;have H:=H.ak (hv 17 83 (hc 17 Y) O) O;have Hb:=H.full;have H:=Hb;clear hc;refine kH H (Rg aG O (aK hG gn) ?_);exact aI
     ·exact aO
     ·exact aO
     ·intro av a w G1 _ ah hc hG HT hv;have H:=HT;clear ah;have H:=H.ak (hv 20 86 (hc 20 Y) O) O;exact lQ
     ·intro av a w G1 _ ah hc hG HT hv;have H:=HT;clear ah;have H:=H.ak (hv 19 85 (hc 19 Y) O) O;have H:=H.ak (hv 21 87 (hc 21 Y) O) O;exact C8
     ·intro av a w G1 _ ah hc hG HT hv;have H:=HT;clear ah;have H:=H.ak (hv 22 88 (hc 22 Y) O) O;exact Oz
     ·exact aO
     ·intro av a w G1 _ ah hc hG HT hv;have H:=HT;clear ah;have H:=H.ak (hv 24 90 (hc 24 Y) O) O;exact lQ
     ·intro av a w G1 _ ah hc hG HT hv;have H:=HT;clear ah;have H:=H.ak (hv 23 89 (hc 23 Y) O) O;have H:=H.ak (hv 25 91 (hc 25 Y) O) O;exact AB
     ·intro av a w G1 _ ah hc hG HT hv;have H:=HT;clear ah;have H:=H.ak (hv 26 92 (hc 26 Y) O) O;have Hb:=H.full;have H:=Hb;clear hc;refine kH H (Rg aG O (aK hG D6) ?_);exact aI
     ·intro av a w G1 _ ah hc hG HT hv;have H:=HT;clear ah;have H:=H.ak (hv 18 84 (hc 18 Y) O) O;have H:=H.ak (hv 27 93 (hc 27 Y) O) O;exact lQ
     ·intro av a w G1 _ ah hc hG HT hv;have H:=HT;clear ah;have H:=H.ak (hv 11 77 (hc 11 Y) O) O;have H:=H.ak (hv 28 94 (hc 28 Y) O) O;have Hb:=H.full;have H:=Hb;clear hc;refine EN H wn O O O ?_;clear H;intro a H;refine aB ⟨O,?_⟩;exact iN Z (fun _ _ _ _ _ h=>h) O O HT Hb hG hv (fun _ _ h=>h) (by rw [hin,dh];rfl) H
     clear H;intro a w G vZ H hv;have H:=H.ak (hv 3 69 O O) O;have H:=H.ak (hv 4 70 O O) O;have H:=H.ak (hv 29 95 O O) O;clear hv;refine bO bP aG k H wn O O O V O ?_;clear H;intro a H;refine nI aG 1 (c:=(fl.set k (max (tot (aP S) S.length m (i+1) k) (tot (aP S) S.length m i (k+1)))).map vi) (vs:=[_]) ((fl.set k (tot (aP S) S.length m i k)).map vi) H wn O O O O O O (Eq.mpr Nat.ble_eq (by rw [bG,List.length_set,hfl];simp only [List.length_singleton];omega)) (by rw [eP,Nat.mul_one,EY,List.map_set,List.map_set,List.set_set]) ?_;clear H;intro w H;dsimp only [List.set] at H;have pK:∀ b o,g2 b=some o->G b=some o:=fun b o h=>vZ b o (jq b o h);refine aB ⟨O,?_⟩;refine K4 _ _ ?_;clear K4;refine kP H (SC (Rm O (Rs O (Ra O ?_))));clear H;intro a H;refine aB ?_;refine aX ((k,fl.set k (tot (aP S) S.length m i k),G)) (by exact H.sub ⟨O,O,O,O,O,O,aH⟩) ?_
     try dsimp only
     exact ⟨V,by simp [hfl],fun q h1 h2=>by
       by_cases e:q=k
       ·subst e;rw [List.getElem?_set_self V]
       rw [List.getElem?_set_ne V];exact ny q V h2,fun q hq=>by rw [List.getElem?_set_ne V];exact hf0 q V,fun b o h=>pK b o (fE b o h),fun b o h=>pK b o (hgg b o h)⟩
    intro Il a H
    try have p65:=dF Il
    rw [show max (tot (aP S) S.length m (i+1) k) (tot (aP S) S.length m i (k+1))=tot (aP S) S.length m i k by rw [hin,iw,Int.max_eq_left (by omega:(-1:Int)<=_)]] at H;refine kP H (Kc K4 (SC (Rm O (Rs O (Ra O ?_)))));clear H K4;intro a H;refine aB ?_;refine aX ((k,fl.set k (tot (aP S) S.length m i k),G)) (by exact H.sub ⟨O,O,O,O,O,O,aH⟩) ?_
    try dsimp only
    exact ⟨V,by simp [hfl],fun q h1 h2=>by
      by_cases e:q=k
      ·subst e;rw [List.getElem?_set_self V]
      rw [List.getElem?_set_ne V];exact ny q V h2,fun q hq=>by rw [List.getElem?_set_ne V];exact hf0 q V,fun b o h=>pK b o (fE b o h),fun b o h=>pK b o (hgg b o h)⟩
   intro h32 a H
   try have p32:=dF h32
   refine bQ ?_;refine K3 _ _ ?_;clear K3
   have hall:∀ q,q<=m->fl[q]?=some (tot (aP S) S.length m i q):=fun q hq=>by
    by_cases e:p<=q
    ·exact ny q e hq
    rw [hf0 q V,zP V]
   have hrow:=UQ hfl hall;have H:=H.dB (Pl:=[_,_]) (bS:=[_,_]) [1,0] Y O;obtain ⟨G3,qF,hg3,H⟩:=H.gP
   have wL:uG G3 S m cs2 i:=⟨rO,fun r h1 h2=>by
    by_cases e:r=i
    ·subst e;refine ⟨mD,hci,?_⟩;rw [<- hrow];exact CW
    obtain ⟨br,e1,e2⟩:=hra.2 r V h2
    exact ⟨br,by rw [hcn r V];exact e1,(e2.mono hgg).mono qF⟩⟩
   refine kP H (SC (Rm O (Rs O (Ra O ?_))));clear H;intro a H;refine aB ?_;refine aX ((i,cs2,G3)) (by exact H.sub ⟨O,O,O,O,O,aH⟩) ?_
   (try dsimp only);exact CX
  intro gy a H
  try have p28:=dF gy
  refine kH H (aU gy O (Pf gy O (Kz K4 (Cf O O ?_))));clear H K4;intro a H;refine bQ ?_;refine K3 _ _ ?_;clear K3
  have hall:∀ q,q<=m->fl[q]?=some (tot (aP S) S.length m i q):=fun q hq=>by
   by_cases e:p<=q
   ·exact ny q e hq
   rw [hf0 q V,zP V]
  have hrow:=UQ hfl hall;have H:=H.dB (Pl:=[_,_]) (bS:=[_,_]) [1,0] Y O;obtain ⟨G3,qF,hg3,H⟩:=H.gP
  have wL:uG G3 S m cs2 i:=⟨rO,fun r h1 h2=>by
   by_cases e:r=i
   ·subst e;refine ⟨mD,hci,?_⟩;rw [<- hrow];exact CW
   obtain ⟨br,e1,e2⟩:=hra.2 r V h2
   exact ⟨br,by rw [hcn r V];exact e1,(e2.mono hgg).mono qF⟩⟩
  refine kP H (SC (Rm O (Rs O (Ra O ?_))));clear H;intro a H;refine aB ?_;refine aX ((i,cs2,G3)) (by exact H.sub ⟨O,O,O,O,O,aH⟩) ?_
  (try dsimp only);exact CX
 intro jg a H
 try have nG:=dF jg
 refine bQ ?_;refine K1 _ _ ?_;clear K1;refine kP H (SR fun _ K1=>Rm O (au K1 O ?_));clear H K1;intro a H;refine bN ?_
 have hj0:j=0:=by omega
 subst hj0;obtain ⟨Gr,hmr,hgr,H⟩:=H.gP;refine lv H results25 O ?_;exact H.rt (ay.mP (xs:=cs) hgr (by simp [lI]) (aV _) V (gX (by have:=hra.1;rw [List.toList_toArray];omega)) (hra.mono hmr).cat)
section
section
variable {N:Nat} {D:List Deferred} {w0:World} {F:Nat->Prop} {G0 G G1 G2:GH} {L L1:OL} {T Xs:List (Nat × aj)}
variable {r:Option Nat} {P:Program} {Q:Exit->Act->World->Prop} {l:List Oper} {a a':Act} {w w':World}
end
end
section
section
variable {N:Nat} {D:List Deferred} {w0:World} {F:Nat->Prop} {G0 G G1 G2:GH} {L L1 L2:OL} {T Xs:List (Nat × aj)}
variable {r:Option Nat} {P:Program} {Q:Exit->Act->World->Prop} {l:List Oper} {a a':Act} {w w':World}
theorem Ya {pr:Nat->aj->GH->Prop} {S:Nat->Bool} {i:Nat} (hi:cZ l i=none) (HT:St N D w0 F G0 G1 L T a w) (hG:∀ k o,G k=some o->G1 k=some o) (hv:∀ i d,S i=true->cZ l i=some d->∃ v,a.tmps[d]?=some v∧pr i v G1)
  (H:St N D w0 F G0 G1 L2 (Xs++full N a) a w'):DX N D w0 F G0 G L2 T l pr (dM S i) a w' :=
 ⟨G1,hG,HT.move H.hp,fun j e hj he=>hv j e (by
  unfold dM at hj
  by_cases hji:j=i
  ·subst hji;rw [hi] at he;cases he
  ·rwa [aL hji] at hj) he⟩
theorem Xh {id:Nat} (hm:P.follows .mixedOrders=true) (aW:List (List Nat)) (B:List Nat) (hk:rG l aW=true) (hB:rX l aW B=true) (m:Nat) (Jd:B.contains m=false) (pr:Nat->aj->GH->Prop) (ix:Nat) (ob:Nat × Obj)
  (H:St N D w0 F G0 G L T a w)
  (hstep:allI (fun i o=>∀ S a w G1,B.contains i=false->Nat.beq i m=false->S i=false->(∀ j∈aW.getD i [],S j=true)->(∀ k o,G k=some o->G1 k=some o)->St N D w0 F G0 G1 L T a w->(∀ i d,S i=true->cZ l i=some d->∃ v,a.tmps[d]?=some v∧pr i v G1) ->
   WL r P l.toArray (fun e a' w'=>e=.normal∧DX N D w0 F G0 G L T l pr (dM S i) a' w') [o] a w) 0 l)
  (hmid:∀ o S a w G1,l[m]?=some o->S m=false->(∀ j∈aW.getD m [],S j=true)->(∀ k o,G k=some o->G1 k=some o)->St N D w0 F G0 G1 L T a w->(∀ i d,S i=true->cZ l i=some d->∃ v,a.tmps[d]?=some v∧pr i v G1) ->
   WL r P l.toArray (fun e a' w'=>e=.normal∧DX N D w0 F G0 G (L.set ix ob) T l pr (dM S m) a' w') [o] a w)
  (hstep2:allI (fun i o=>∀ S a w G1,(B.contains i || (aW.getD m []).contains i)=false->Nat.beq i m=false->S i=false->(∀ j∈aW.getD i [],S j=true)->(∀ k o,G k=some o->G1 k=some o)->St N D w0 F G0 G1 (L.set ix ob) T a w->(∀ i d,S i=true->cZ l i=some d->∃ v,a.tmps[d]?=some v∧pr i v G1) ->
   WL r P l.toArray (fun e a' w'=>e=.normal∧DX N D w0 F G0 G (L.set ix ob) T l pr (dM S i) a' w') [o] a w) 0 l)
  (hend:∀ a w G1,(∀ k o,G k=some o->G1 k=some o)->St N D w0 F G0 G1 (L.set ix ob) T a w->(∀ i d,B.contains i=false->cZ l i=some d->∃ v,a.tmps[d]?=some v∧pr i v G1)->WL r P l.toArray (fun e a w=>e=.normal∧Q .normal a w) (lC l B) a w)
  (hml:Nat.blt m l.length=true):WP r P (.region id l.toArray true) Q a w:=by
 refine Pv hm aW B hk hB (fun S a w=>(S m=false∧DX N D w0 F G0 G L T l pr S a w)∨(S m=true∧DX N D w0 F G0 G (L.set ix ob) T l pr S a w))
  (.inl ⟨rfl,G,fun _ _ h=>h,H.move H.hp.drew,fun _ _ h=>absurd (show false=true from h) Y⟩) ?_ ?_
 ·rintro i o S a w ho hb ah kM hdesc hX
  by_cases him:i=m
  ·subst him
   rcases hX with ⟨_,G1,hG,HS,hv⟩|⟨h1,_⟩
   ·have h:=hmid o S a w G1 ho ah kM hG HS hv
    have e1:dM S i i=true:=aM O
    exact oq (fun e a' w' ⟨he,hD⟩=>⟨he,.inr ⟨e1,hD⟩⟩) h
   ·rw [h1] at ah;cases ah
  ·have e:dM S i m=S m:=aL (fun h=>him h.symm)
   rcases hX with ⟨h1,G1,hG,HS,hv⟩|⟨h1,G1,hG,HS,hv⟩
   ·have h:=vM hstep i o ho
    rw [eP] at h
    exact oq (fun e' a' w' ⟨he,hD⟩=>⟨he,.inl ⟨e.trans h1,hD⟩⟩) (h S a w G1 hb (xU him) ah kM hG HS hv)
   ·have h:=vM hstep2 i o ho
    rw [eP] at h
    have hnc:(B.contains i || (aW.getD m []).contains i)=false:=by
     rw [hb,Bool.false_or]
     cases hc2:(aW.getD m []).contains i with
     | false=>rfl
     | true=>have:=hdesc m (Eq.mp Nat.blt_eq hml) (pq.1 hc2);rw [h1] at this;cases this
    exact oq (fun e' a' w' ⟨he,hD⟩=>⟨he,.inr ⟨e.trans h1,hD⟩⟩) (h S a w G1 hnc (xU him) ah kM hG HS hv)
 ·rintro S a w hall hnB hX
  have En:S m=true:=hall m (Eq.mp Nat.blt_eq hml) Jd
  rcases hX with ⟨h1,_⟩|⟨h1,G1,hG,HS,hv⟩
  ·rw [h1] at En;cases En
  ·exact hend a w G1 hG HS fun j d hb hd=>hv j d (hall j (yw hd) hb) hd
end
end
def pG {α:Type} (κ:α->Int) (φ:α->ByteArray) (x y:α):Int:=if κ y=κ x then lF (φ x) (φ y) else 0
def iK {α:Type} (κ:α->Int) (φ:α->ByteArray) (lb:List α) (x:α):List Int:=lb.map (pG κ φ x)
def gD {α:Type} (κ:α->Int) (φ:α->ByteArray) (la lb:List α):List (List Int):=la.map (iK κ φ lb)
theorem Zk {α:Type} (κ:α->Int) (φ:α->ByteArray) (x y:α):0<=pG κ φ x y∧pG κ φ x y<=1000:=by
 unfold pG
 split
 ·exact ael _ _
 decide
theorem ET {α:Type} (κ:α->Int) (φ:α->ByteArray) {la lb:List α} (ha:la.length<=1024) (hb:lb.length<=1024):kS (gD κ φ la lb)=0:=by
 rw [kS,aL (by simp [gD];omega)];refine H8 fun j hj=>?_
 have hj2:j < la.length:=by simpa [gD] using hj
 have e:(gD κ φ la lb)[j]=iK κ φ lb la[j]:=by simp [gD]
 have hh:((gD κ φ la lb).headD []).length=lb.length:=by
  cases la with
  | nil=>simp at hj2
  | cons x la=>simp [gD,iK]
 rw [e,hh,om,aL (by simp [iK];omega),aL (by simp [iK]),aM];rw [fM];intro z hz;obtain ⟨y,-,rfl⟩:=List.mem_map.1 hz;have:=Zk κ φ la[j] y
 simp [tZ,this]
def sF (g:GH) (M:List (List Int)) (n m:Nat) (cs:List aj) (j:Nat):Prop:=cs.length=n∧∀ r,r < j->∃ R b,M[r]?=some R∧R.length=m∧cs[r]?=some (.slice (some ⟨b,0,none⟩) m m)∧ay g (.sl 1 (R.map eF)) (.slice (some ⟨b,0,none⟩) m m)
theorem sF.mono {g g':GH} {M:List (List Int)} {n m:Nat} {cs:List aj} {j:Nat} (h:sF g M n m cs j) (hm:∀ b o,g b=some o->g' b=some o):sF g' M n m cs j :=
 ⟨h.1,fun r h1=>by obtain ⟨R,b,e0,e1,e,hr⟩:=h.2 r h1;exact ⟨R,b,e0,e1,e,hr.mono hm⟩⟩
theorem sF.cat {g:GH} {M:List (List Int)} {m:Nat} {cs:List aj} (h:sF g M M.length m cs M.length):bU g 1 (M.map jF) cs:=by
 have hc:=JW (G:=g) M [] [] cs bU.nil h.1 (fun i r u h1 h2=>by
  have hi:i < M.length:=(fV.1 h1).1;obtain ⟨R,b,e0,-,e,hr⟩:=h.2 i hi;rw [e0] at h1;rw [e] at h2
  injection h1 with h1;injection h2 with h2
  subst h1;subst h2;exact hr)
 simpa using hc
theorem QE {fl:List Int} {M:List Int} {m k:Nat} (hl:fl.length=m) (hM:M.length=m) (hk:k < m) (h:∀ q,q < k->fl[q]?=M[q]?) (h0:∀ q,k<=q->q < m->fl[q]?=some 0) {z:Int} (hz:M[k]?=some z) :
  (fl.set k z).length=m∧(∀ q,q < k+1->(fl.set k z)[q]?=M[q]?)∧(∀ q,k+1<=q->q < m->(fl.set k z)[q]?=some 0):=by
 refine ⟨by simp [hl],fun q hq=>?_,fun q h1 h2=>?_⟩
 ·by_cases e:q=k
  ·subst e;rw [List.getElem?_set_self V,hz]
  rw [List.getElem?_set_ne V];exact h q V
 rw [List.getElem?_set_ne V];exact h0 q V h2
theorem QF {fl:List Int} {M:List Int} {m k:Nat} (hk:k < m) (h:∀ q,q < k->fl[q]?=M[q]?) (h0:∀ q,k<=q->q < m->fl[q]?=some 0) (hz:M[k]?=some 0):(∀ q,q < k+1->fl[q]?=M[q]?)∧(∀ q,k+1<=q->q < m->fl[q]?=some 0):=by
 refine ⟨fun q hq=>?_,fun q h1 h2=>h0 q V h2⟩
 by_cases e:q=k
 ·subst e;rw [hz];exact h0 q (aV _) hk
 exact h q V
theorem H6 {fl M:List Int} {m:Nat} (hl:fl.length=m) (hM:M.length=m) (h:∀ q,q < m->fl[q]?=M[q]?):fl=M:=by
 apply List.ext_getElem?
 intro q
 by_cases hq:q < m
 ·exact h q hq
 rw [List.getElem?_eq_none V,List.getElem?_eq_none V]
theorem MH {p:Prop} (h:p:=by
 exact ⟨dO _,⟨by simp,fun r h1=>absurd h1 (Nat.not_lt_zero _)⟩,fun _ _ h=>h⟩):p:=h
theorem Wy {p:Prop} (h:p:=by
 exact iN Z (fun _ _ _ _ _ h=>h) O O HT Hb hG hv aan (rfl) H):p:=h
theorem Wz {p:Prop} (h:p:=by
 exact ⟨V,hfn.1,hfn.2.1,hfn.2.2,fun b o h=>QX _ _ (Bq _ _ (fE b o h)),fun b o h=>QX _ _ (Bq _ _ (hgg b o h))⟩):p:=h
theorem WA {p:Prop} (h:p:=by
 exact ⟨V,hfl,hfn.1,hfn.2,fun b o h=>Bq _ _ (fE b o h),fun b o h=>Bq _ _ (hgg b o h)⟩):p:=h
theorem WO {p:Prop} (h:p:=by
 clear H;intro o_ av a w G1 Br _ hc hG HT hv;obtain rfl:_=o_:=Option.some.inj Br;clear Br;have H:=HT;have H:=H.ak (hv 11 74 (hc 11 Y) O) O;have H:=H.ak (hv 9 72 (hc 9 Y) O) O;have Hb:=H.full;have H:=Hb;clear hc;refine nI aG 3 (c:=fl.map vi) (vs:=[_]) ((fl.set k (lF (φ la[i]) (φ lb[k]))).map vi) H wn O O O O O O (Eq.mpr Nat.ble_eq (by rw [bG,hfl];simp only [List.length_singleton];omega)) (by rw [eP,Nat.mul_one,List.map_set];rfl) ?_;clear H;intro w H;dsimp only [List.set] at H;refine aB ⟨O,?_⟩;exact Ya O HT hG hv H):p:=h
theorem WQ {p:Prop} (h:p:=by
 intro av a w G1 _ _ ah hc hG HT hv;have H:=HT;clear ah;have H:=H.ak (hv 5 69 (hc 5 Y) O) O;have H:=H.ak (hv 6 70 (hc 6 Y) O) O;have Hb:=H.full;have H:=Hb;clear hc;refine s_call Qk H wn O (Pg _ _ H.ro (fun b o h=>hG _ _ (Bq _ _ (fE _ _ (h0 b o h)))) _ _ (hoa _ (dK hi1)) (Eo _ (dK hk1))) O ?_;clear H;rintro v71 G71 a w rfl aan H;refine aB ⟨O,?_⟩;exact Wy):p:=h
theorem WR {p:Prop} (h:p:=by
 clear H;intro a w G QX H hv;dsimp only [List.set,List.append,lca,bR] at H;clear hv;refine aB ⟨O,?_⟩;refine K3 _ _ ?_;clear K3;refine kP H (SC (Rd O (Rm O ?_)));clear H;intro a H;refine aB ?_;refine aX ((k+1,fl.set k (lF (φ la[i]) (φ lb[k])),G)) (by exact (H.dB (Pl:=[_,_,_,_]) (bS:=[_,_,_]) [1,2,3] Y O).sub ⟨O,O,O,O,O,O,O,O,O,O,O,O,aH⟩) ?_
 (try dsimp only);exact Wz):p:=h
theorem WS {p:Prop} (h:p:=by
 intro Ik a H
 try have p62:=dF Ik
 have hen:pG κ φ la[i] lb[k]=0:=aL p62;have hfn:=QF hk1 ny hf0 (hen ▸ yO);refine kP H (Kc K3 (SC (Rd O (Rm O ?_))));clear H K3;intro a H;refine aB ?_;refine aX ((k+1,fl,_)) (by exact (H.dB (Pl:=[_,_,_,_]) (bS:=[_,_,_]) [1,2,3] Y O).sub ⟨O,O,O,O,O,O,O,O,O,O,O,O,aH⟩) ?_
 (try dsimp only);exact WA):p:=h
theorem WT {p:Prop} (h:p:=by
 intro av a w G1 _ _ ah hc hG HT hv;have H:=HT;clear ah;have H:=H.ak (hv 2 66 (hc 2 Y) O) O;have Hb:=H.full;have H:=Hb;clear hc;refine iF bI H wn O (H.hp.jh 2 O (by rw [eP,Nat.mul_one];exact (List.getElem?_toArray ..).trans hci)) O ?_;clear H;intro a H;refine aB ⟨O,?_⟩;exact Ao):p:=h
theorem OE {p:Prop} (h:p:=by
 exact ⟨dO _,by simp,fun q h=>absurd h (Nat.not_lt_zero _),fun q _ hq=>by simp [List.getElem?_replicate];omega,fun b o h=>I8 b o (hgm b o h),I8⟩):p:=h
theorem OM {p:Prop} (h:p:=by
 subst e;refine ⟨iK κ φ lb la[r],mE,by simp [gD,hi1],by simp [iK],hci,?_⟩;rw [<- hall];exact CW):p:=h
theorem AA {p:Prop} (h:p:=by
 have H:=HT;clear ah;have Hb:=H.full;have H:=Hb;clear hc;refine kH H (Rm O ?_);exact aI):p:=h
theorem GA {p:Prop} (h:p:=by
 clear ah;have H:=H.ak (hv 8 63 (hc 8 Y) O) O;have Hb:=H.full;have H:=Hb;clear hc;refine fG H wn O O O ?_;exact aI):p:=h
theorem Gd {p:Prop} (h:p:=by
 have Hb:=H.full;have H:=Hb;clear hc;refine bO bP aG k H wn O O O hk1 O ?_;exact aI):p:=h
theorem NI {p:Prop} (h:p:=by
 clear H;intro a H;refine wT H wn O O (kE _ (dK hk1) _ _ _ fE H.ro (pQ.mono fE)) O ?_;clear H;rintro v57 G57 a w rfl Bq H;refine kH H (Rm O ?_);clear H;intro a H;(iterate 2 refine fG H wn O O O ?_;clear H;intro a H);refine kH H (Ra O (au K4 O (SR fun _ K5=>Rm O (Rm O (Rc O (Kz K5 (Cd O ?_ ?_))))))) <;> clear H K4 K5
 ·intro Ik a H
  try have p62:=dT Ik
  have hen:pG κ φ la[i] lb[k]=lF (φ la[i]) (φ lb[k]):=aM p62;have hfn:=QE hfl Ec hk1 ny hf0 (hen ▸ yO);refine Xh (fF) [[],[],[0,1],[0,1,2],[],[],[],[5,6],[5,6,7],ra 5 4,ra 5 4,ra 0 10,(ra 0 10++[11])] [] Z Z 12 Y (fun (iy:Nat) (v:aj) (G:GH)=>match iy with|0=>v=.slice (some ⟨Ah,0,none⟩) la.length la.length|1=>v=vi i|2=>v=(aD Ah (0+i*1))|3=>v=.slice (some ⟨mE,0,none⟩) lb.length lb.length|4=>v=vi k|5=>v=.string (φ la[i])|6=>v=.string (φ lb[k])|7=>v=.tuple #[vi (lF (φ la[i]) (φ lb[k])),vi 0]|8=>v=.tuple #[vi (lF (φ la[i]) (φ lb[k])),vi 0]|9=>v=vi (lF (φ la[i]) (φ lb[k]))|10=>v=vi 0|11=>v=(aD mE (0+k*1))|_=>True) 3 (bF mE (fl.set k (lF (φ la[i]) (φ lb[k])))) H ?_ ?_ ?_ ?_ Z
  ·clear H;refine aF ?_ ?_ ?_ ?_ (aF ?_ ?_ ?_ ?_ (aF ?_ ?_ ?_ ?_ (gN ?_ fB)))
   ·intro av a w G1 _ _ ah hc hG HT hv;exact AA
   ·intro av a w G1 _ _ ah hc hG HT hv;exact AA
   ·intro av a w G1 _ _ ah hc hG HT hv;have H:=HT;clear ah;have H:=H.ak (hv 0 64 (hc 0 Y) O) O;have H:=H.ak (hv 1 65 (hc 1 Y) O) O;exact F9
   ·exact WT
   ·intro av a w G1 _ _ ah hc hG HT hv;exact AA
   ·intro av a w G1 _ _ ah hc hG HT hv;exact AA
   ·intro av a w G1 _ _ ah hc hG HT hv;exact AA
   ·exact WQ
   ·intro av a w G1 _ _ ah hc hG HT hv;have H:=HT;clear ah;have H:=H.ak (hv 7 71 (hc 7 Y) O) O;exact lq
   ·intro av a w G1 _ _ ah hc hG HT hv;have H:=HT;exact GA
   ·intro av a w G1 _ _ ah hc hG HT hv;have H:=HT;exact GA
   ·intro av a w G1 _ _ ah hc hG HT hv;have H:=HT;clear ah;have H:=H.ak (hv 3 67 (hc 3 Y) O) O;have H:=H.ak (hv 4 68 (hc 4 Y) O) O;exact Gd
   intro _ _ _ _ _ hB;exact Ak
  ·exact WO
  ·clear H;refine aF (gB O) (gB O) (gB O) (gB O) (aF (gB O) (gB O) (gB O) (gB O) (aF (gB O) (gB O) ?_ (gB O) (gN ?_ fB)))
   ·intro av a w G1 _ _ ah hc hG HT hv;have H:=HT;dsimp only [List.set,List.append,lca,bR] at H;exact GA
   intro _ _ _ _ _ hB;exact Ak
  exact WR
 exact WS):p:=h
set_option maxHeartbeats 2000000 in
theorem acr {Gt:GH} (G:GH) (w0:World) (hG:Hold G w0) (h0:∀ b o,Gt b=some o->G b=some o) (κ:bg->Int) (φ:bg->ByteArray) (la lb:List bg) (va vb fv:aj) (hva:ay G (.sl 6 (la.map bg.dat)) va) (hvb:ay G (.sl 6 (lb.map bg.dat)) vb)
  (hfa:∀ x∈la,xJ fv w0 G x.dat (κ x) (φ x)) (kE:∀ x∈lb,xJ fv w0 G x.dat (κ x) (φ x)) (hoa:∀ x∈la,iC Gt (φ x)) (Eo:∀ x∈lb,iC Gt (φ x)) (hla:la.length<=1024) (hlb:lb.length<=1024) :
  Calls prog 19 #[va,vb,fv] w0 (bK w0 G fun u G'=>∃ x,u=.tuple #[x,vi 0]∧ay G' (.sl 3 ((jM (gD κ φ la lb)).map fD.dat)) x):=by
 obtain ⟨A,c,rfl,hc1,hc2,hga⟩:=hva.slice;obtain ⟨B,d,rfl,hd1,hd2,hgb⟩:=hvb.slice;have hml:maxLen=9223372036854775807:=rfl
 have Iw:(gD κ φ la lb).length=la.length:=by simp [gD]
 (iterate 2 rw [bG] at *);refine eN [(0,_),(1,_),(2,_)] func19 O ntmps19 O O hG ?_;intro a H;refine kP H (SR fun _ K1=>Ra O (au K1 O (SQ fun _ K2=>SR fun _ K3=>Rm O (Rl jH O (Rc O (Rm O (Sp 20 O ?_ ?_))))))) <;> clear H K1
 ·exact Gx
 intro h20 a H
 try have qK:=dF h20
 refine kH H (YM h20 O (YL jH h20 O (YC h20 O (Pf h20 O (Kz K3 (Cd O ?_ ?_)))))) <;> clear H K3
 ·intro aS a H
  try have gH:=dT aS
  exact absurd gH V
 intro aS a H
 try have gH:=dF aS
 refine kP H (Kc K2 (SR fun _ K1=>Rm O (Rl jH O ?_)));clear H K2;intro a H;refine lW la.length gI bI H wn O O O V V O ?_;clear H;intro Ah a w aaw H;refine kH H (au K1 O (SQ fun _ K2=>SR fun _ K3=>Rm O (Rl jH O (Rm O (Kz K3 (SB ?_))))));clear H K1 K3;intro a H;skip;refine dz (ι:=Nat × List aj × GH) (Tc:=[(1,_),(2,_),(8,_),(28,_),(29,_)]) (Lc:=[]) (fun gh=>[(30,vi gh.1)]) (fun gh=>[FV Ah gh.2.1]) (fun gh=>gh.2.2) (fun gh=>gh.1<=la.length∧sF gh.2.2 (gD κ φ la lb) la.length lb.length gh.2.1 gh.1∧(∀ b o,G b=some o->gh.2.2 b=some o)) (fun gh=>la.length - gh.1) ((0,List.replicate la.length (.slice none 0 0),G)) (by exact H.sub ⟨O,O,O,O,O,O,aH⟩) ?_ ?_
 ·exact MH
 clear H;rintro ⟨i,cs,g⟩ a w hI H;dsimp only at hI H;obtain ⟨hi,hra,hgm⟩:=hI;dsimp only [lca,bR] at H;refine kP H (SR fun _ K1=>Rc O (Kz K1 (SQ fun _ K3=>Cd O ?_ ?_))) <;> clear H K1
 ·intro h31 a H
  try have p31:=dT h31
  have hi1:i < la.length:=by omega
  obtain ⟨b,o,cells,rfl,hcl,hrow,hrep⟩:=hga i la[i].dat (by simp [hi1]);obtain ⟨pA,pn,pc,dA,dn,dc,yA,yn,yc,fA,fn,fc,rfl,hh,hf⟩:=hrep.row;replace hrow:=fun j u hj=>aK hgm (hrow j u hj);refine kP H (Kc K3 (SQ fun _ K1=>SB (SR fun _ K4=>Rm O (Ri jH jw O O ?_))));clear H K3;intro a H;refine dL jw (cs:=[_,_,_,_,_,_]) H wn O O (fun j v hj=>H.hp.aQ (hrow j v hj)) O ?_;clear H;intro a H;refine jv jw H wn O ?_;clear H;intro b10 a w Q0 H;refine kH H (Ra O ?_);clear H;intro a H;refine eZ jw 0 (vs:=[_,_,_,_,_,_]) H wn O ?_;clear H;intro w H;refine K4 _ _ ?_;clear K4;refine kP H (SR fun _ K3=>Rm O (Rm O (Rm O (Rl jH O ?_))));clear H;intro a H;refine lW lb.length bP aG H wn O O O V V O ?_;clear H;intro mE a w Eh H;refine bO gI bI i H wn O O O hi1 O ?_;clear H;intro a H;refine nI bI 2 (c:=cs) (vs:=[_]) (cs.set i (.slice (some ⟨mE,0,none⟩) lb.length lb.length)) H wn O O O O O O (Eq.mpr Nat.ble_eq (by have:=hra.1;simp only [List.length_singleton];omega)) (by rw [eP,Nat.mul_one];exact EY) ?_;clear H;intro w H;dsimp only [List.set] at H;obtain ⟨cs2,hcs2⟩:∃ x,x=cs.set i (.slice (some ⟨mE,0,none⟩) lb.length lb.length):=⟨_,O⟩;rw [<- hcs2] at H
  have rO:cs2.length=la.length:=by rw [hcs2,List.length_set];exact hra.1
  have hci:cs2[i]?=some (.slice (some ⟨mE,0,none⟩) lb.length lb.length):=by rw [hcs2,List.getElem?_set_self (by have:=hra.1;omega)]
  have hcn:∀ r,r < i->cs2[r]?=cs[r]?:=fun r hr=>by rw [hcs2,List.getElem?_set_ne V]
  rw [show List.replicate lb.length (Value.int .i64 0)=(List.replicate lb.length (0:Int)).map vi from List.map_replicate.symm] at H;refine K3 _ _ ?_;clear K3;refine kP H (SR fun _ K3=>Rm O ?_);clear H;intro a H;refine dL jw (cs:=[_,_,_,_,_,_]) H wn O O (H.hp.dw 1 O O) O ?_;clear H;intro a H;refine wT H wn O O (hfa _ (dK hi1) _ _ _ hgm H.ro (hrep.mono hgm)) O ?_;clear H;rintro v44 Vx a w rfl I8 H;refine kH H (Rm O ?_);clear H;intro a H;(iterate 2 refine fG H wn O O O ?_;clear H;intro a H);refine kH H (Ra O (au K3 O (SR fun _ K4=>Rm O (Rl jH O (Rm O (Kz K4 (SB ?_)))))));clear H K3 K4;intro a H;skip;refine dz (ι:=Nat × List Int × GH) (Tc:=[(1,_),(2,_),(8,_),(9,_),(11,_),(12,_),(28,_),(29,_),(30,_),(47,_),(48,_)]) (Lc:=[(_,_),(_,_)]) (fun gh=>[(49,vi gh.1)]) (fun gh=>[bF mE gh.2.1]) (fun gh=>gh.2.2) (fun gh=>gh.1<=lb.length∧gh.2.1.length=lb.length∧(∀ q,q < gh.1->gh.2.1[q]?=(iK κ φ lb la[i])[q]?)∧(∀ q,gh.1<=q->q < lb.length->gh.2.1[q]?=some 0)∧(∀ b o,G b=some o->gh.2.2 b=some o)∧(∀ b o,g b=some o->gh.2.2 b=some o)) (fun gh=>lb.length - gh.1) ((0,List.replicate lb.length 0,_)) (by exact (H.dB (Pl:=[_,_,_]) (bS:=[_,_,_]) [1,2,0] Y O).sub ⟨O,O,O,O,O,O,O,O,O,O,O,O,aH⟩) ?_ ?_
  ·exact OE
  clear H;rintro ⟨k,fl,g2⟩ a w hI H;dsimp only at hI H;obtain ⟨hk,hfl,ny,hf0,fE,hgg⟩:=hI;dsimp only [lca,bR] at H;refine kP H (SR fun _ K3=>Rc O (Kz K3 (SQ fun _ K4=>Cd O ?_ ?_))) <;> clear H K3
  ·intro h50 a H
   try have p50:=dT h50
   have hk1:k < lb.length:=by omega
   obtain ⟨b2,o2,Xq,rfl,aaI,hrow2,pQ⟩:=hgb k lb[k].dat (by simp [hk1]);obtain ⟨qA,qn,qc,uA,un,uc,zA,zn,zc,xA,xn,xc,rfl,qE,hf2⟩:=pQ.row;replace hrow2:=fun j u hj=>aK fE (hrow2 j u hj)
   have Ec:(iK κ φ lb la[i]).length=lb.length:=by simp [iK]
   have yO:(iK κ φ lb la[i])[k]?=some (pG κ φ la[i] lb[k]):=by simp [iK,hk1]
   refine kP H (Kc K4 (SQ fun _ K3=>SB (SR fun _ K5=>Rm O (Ri jH jw O O ?_))));clear H K4;intro a H;refine dL jw (cs:=[_,_,_,_,_,_]) H wn O O (fun j v hj=>H.hp.aQ (hrow2 j v hj)) O ?_;clear H;intro a H;refine jv jw H wn O ?_;clear H;intro b14 a w aau H;refine kH H (Ra O ?_);clear H;intro a H;refine eZ jw 0 (vs:=[_,_,_,_,_,_]) H wn O ?_;clear H;intro w H;refine K5 _ _ ?_;clear K5;refine kP H (SR fun _ K4=>Rm O ?_);clear H;intro a H;refine dL jw (cs:=[_,_,_,_,_,_]) H wn O O (H.hp.dw 0 O O) O ?_;exact NI
  intro h50 a H
  try have p50:=dF h50
  refine bQ ?_;refine K1 _ _ ?_;clear K1;have hall:fl=iK κ φ lb la[i]:=H6 hfl (by simp [iK]) fun q hq=>ny q V;have H:=H.dB (Pl:=[_,_,_]) (bS:=[_,_,_]) [2,0,1] Y O;obtain ⟨G3,qF,hg3,H⟩:=H.gP
  have wL:sF G3 (gD κ φ la lb) la.length lb.length cs2 (i+1):=⟨rO,fun r h1=>by
   by_cases e:r=i
   ·exact OM
   obtain ⟨R,br,e0,e1,e2,e3⟩:=hra.2 r V
   exact ⟨R,br,e0,e1,by rw [hcn r V];exact e2,(e3.mono hgg).mono qF⟩⟩
  refine kP H (SC (Rd O (Rm O ?_)));clear H;intro a H;refine aB ?_;refine aX ((i+1,cs2,G3)) (by exact (H.dB (Pl:=[_,_]) (bS:=[_]) [1] Y O).sub ⟨O,O,O,O,O,O,aH⟩) ?_
  (try dsimp only);exact CX
 intro h31 a H
 try have p31:=dF h31
 refine bQ ?_;refine K2 _ _ ?_;clear K2;refine kP H (SR fun _ K1=>Rm O ?_);clear H;intro a H
 have hie:i=la.length:=by omega
 rw [hie,<- Iw] at hra;obtain ⟨Gr,hmr,hgr,H⟩:=H.gP;refine s_call GZ H wn O (FX _ _ H.ro (gD κ φ la lb) _ (ay.mP (xs:=cs) hgr (by simp [gD]) (aV _) V (gX (by have:=hra.1;rw [List.toList_toArray];omega)) (hra.mono hmr).cat)) rfl ?_;clear H;rintro v78 VD a w ⟨x78,rfl,Jt⟩ abg H;rw [ET κ φ hla hlb] at H;(iterate 2 refine fG H wn O O O ?_;clear H;intro a H);refine kH H (Ra O (au K1 O ?_));clear H K1;intro a H;refine bN ?_;refine (bZ H results19 (.cons (aJ H O) (.cons (aJ H O) .nil)) ?_).1;exact H.rt ⟨_,O,Jt⟩
set_option maxHeartbeats 2000000 in
theorem acp {Gt:GH} (G:GH) (w0:World) (hG:Hold G w0) (h0:∀ b o,Gt b=some o->G b=some o) (κ:bL->Int) (φ:bL->ByteArray) (la lb:List bL) (va vb fv:aj) (hva:ay G (.sl 7 (la.map bL.dat)) va) (hvb:ay G (.sl 7 (lb.map bL.dat)) vb)
  (hfa:∀ x∈la,xJ fv w0 G x.dat (κ x) (φ x)) (kE:∀ x∈lb,xJ fv w0 G x.dat (κ x) (φ x)) (hoa:∀ x∈la,iC Gt (φ x)) (Eo:∀ x∈lb,iC Gt (φ x)) (hla:la.length<=1024) (hlb:lb.length<=1024) :
  Calls prog 28 #[va,vb,fv] w0 (bK w0 G fun u G'=>∃ x,u=.tuple #[x,vi 0]∧ay G' (.sl 3 ((jM (gD κ φ la lb)).map fD.dat)) x):=by
 obtain ⟨A,c,rfl,hc1,hc2,hga⟩:=hva.slice;obtain ⟨B,d,rfl,hd1,hd2,hgb⟩:=hvb.slice;have hml:maxLen=9223372036854775807:=rfl
 have Iw:(gD κ φ la lb).length=la.length:=by simp [gD]
 (iterate 2 rw [bG] at *);refine eN [(0,_),(1,_),(2,_)] func28 O ntmps28 O O hG ?_;intro a H;refine kP H (SR fun _ K1=>Ra O (au K1 O (SQ fun _ K2=>SR fun _ K3=>Rm O (Rl jI O (Rc O (Rm O (Sp 20 O ?_ ?_))))))) <;> clear H K1
 ·exact Gx
 intro h20 a H
 try have qK:=dF h20
 refine kH H (YM h20 O (YL jI h20 O (YC h20 O (Pf h20 O (Kz K3 (Cd O ?_ ?_)))))) <;> clear H K3
 ·intro aS a H
  try have gH:=dT aS
  exact absurd gH V
 intro aS a H
 try have gH:=dF aS
 refine kP H (Kc K2 (SR fun _ K1=>Rm O (Rl jI O ?_)));clear H K2;intro a H;refine lW la.length gI bI H wn O O O V V O ?_;clear H;intro Ah a w aaw H;refine kH H (au K1 O (SQ fun _ K2=>SR fun _ K3=>Rm O (Rl jI O (Rm O (Kz K3 (SB ?_))))));clear H K1 K3;intro a H;skip;refine dz (ι:=Nat × List aj × GH) (Tc:=[(1,_),(2,_),(8,_),(28,_),(29,_)]) (Lc:=[]) (fun gh=>[(30,vi gh.1)]) (fun gh=>[FV Ah gh.2.1]) (fun gh=>gh.2.2) (fun gh=>gh.1<=la.length∧sF gh.2.2 (gD κ φ la lb) la.length lb.length gh.2.1 gh.1∧(∀ b o,G b=some o->gh.2.2 b=some o)) (fun gh=>la.length - gh.1) ((0,List.replicate la.length (.slice none 0 0),G)) (by exact H.sub ⟨O,O,O,O,O,O,aH⟩) ?_ ?_
 ·exact MH
 clear H;rintro ⟨i,cs,g⟩ a w hI H;dsimp only at hI H;obtain ⟨hi,hra,hgm⟩:=hI;dsimp only [lca,bR] at H;refine kP H (SR fun _ K1=>Rc O (Kz K1 (SQ fun _ K3=>Cd O ?_ ?_))) <;> clear H K1
 ·intro h31 a H
  try have p31:=dT h31
  have hi1:i < la.length:=by omega
  obtain ⟨b,o,cells,rfl,hcl,hrow,hrep⟩:=hga i la[i].dat (by simp [hi1]);obtain ⟨pA,pn,pc,dA,dn,dc,yA,yn,yc,fA,fn,fc,rfl,hh,hf⟩:=hrep.cell;replace hrow:=fun j u hj=>aK hgm (hrow j u hj);refine kP H (Kc K3 (SQ fun _ K1=>SB (SR fun _ K4=>Rm O (Ri jI jG O O ?_))));clear H K3;intro a H;refine dL jG (cs:=[_,_,_,_,_,_,_]) H wn O O (fun j v hj=>H.hp.aQ (hrow j v hj)) O ?_;clear H;intro a H;refine jv jG H wn O ?_;clear H;intro b10 a w Q0 H;refine kH H (Ra O ?_);clear H;intro a H;refine eZ jG 0 (vs:=[_,_,_,_,_,_,_]) H wn O ?_;clear H;intro w H;refine K4 _ _ ?_;clear K4;refine kP H (SR fun _ K3=>Rm O (Rm O (Rm O (Rl jI O ?_))));clear H;intro a H;refine lW lb.length bP aG H wn O O O V V O ?_;clear H;intro mE a w Eh H;refine bO gI bI i H wn O O O hi1 O ?_;clear H;intro a H;refine nI bI 2 (c:=cs) (vs:=[_]) (cs.set i (.slice (some ⟨mE,0,none⟩) lb.length lb.length)) H wn O O O O O O (Eq.mpr Nat.ble_eq (by have:=hra.1;simp only [List.length_singleton];omega)) (by rw [eP,Nat.mul_one];exact EY) ?_;clear H;intro w H;dsimp only [List.set] at H;obtain ⟨cs2,hcs2⟩:∃ x,x=cs.set i (.slice (some ⟨mE,0,none⟩) lb.length lb.length):=⟨_,O⟩;rw [<- hcs2] at H
  have rO:cs2.length=la.length:=by rw [hcs2,List.length_set];exact hra.1
  have hci:cs2[i]?=some (.slice (some ⟨mE,0,none⟩) lb.length lb.length):=by rw [hcs2,List.getElem?_set_self (by have:=hra.1;omega)]
  have hcn:∀ r,r < i->cs2[r]?=cs[r]?:=fun r hr=>by rw [hcs2,List.getElem?_set_ne V]
  rw [show List.replicate lb.length (Value.int .i64 0)=(List.replicate lb.length (0:Int)).map vi from List.map_replicate.symm] at H;refine K3 _ _ ?_;clear K3;refine kP H (SR fun _ K3=>Rm O ?_);clear H;intro a H;refine dL jG (cs:=[_,_,_,_,_,_,_]) H wn O O (H.hp.dw 1 O O) O ?_;clear H;intro a H;refine wT H wn O O (hfa _ (dK hi1) _ _ _ hgm H.ro (hrep.mono hgm)) O ?_;clear H;rintro v44 Vx a w rfl I8 H;refine kH H (Rm O ?_);clear H;intro a H;(iterate 2 refine fG H wn O O O ?_;clear H;intro a H);refine kH H (Ra O (au K3 O (SR fun _ K4=>Rm O (Rl jI O (Rm O (Kz K4 (SB ?_)))))));clear H K3 K4;intro a H;skip;refine dz (ι:=Nat × List Int × GH) (Tc:=[(1,_),(2,_),(8,_),(9,_),(11,_),(12,_),(28,_),(29,_),(30,_),(47,_),(48,_)]) (Lc:=[(_,_),(_,_)]) (fun gh=>[(49,vi gh.1)]) (fun gh=>[bF mE gh.2.1]) (fun gh=>gh.2.2) (fun gh=>gh.1<=lb.length∧gh.2.1.length=lb.length∧(∀ q,q < gh.1->gh.2.1[q]?=(iK κ φ lb la[i])[q]?)∧(∀ q,gh.1<=q->q < lb.length->gh.2.1[q]?=some 0)∧(∀ b o,G b=some o->gh.2.2 b=some o)∧(∀ b o,g b=some o->gh.2.2 b=some o)) (fun gh=>lb.length - gh.1) ((0,List.replicate lb.length 0,_)) (by exact (H.dB (Pl:=[_,_,_]) (bS:=[_,_,_]) [1,2,0] Y O).sub ⟨O,O,O,O,O,O,O,O,O,O,O,O,aH⟩) ?_ ?_
  ·exact OE
  clear H;rintro ⟨k,fl,g2⟩ a w hI H;dsimp only at hI H;obtain ⟨hk,hfl,ny,hf0,fE,hgg⟩:=hI;dsimp only [lca,bR] at H;refine kP H (SR fun _ K3=>Rc O (Kz K3 (SQ fun _ K4=>Cd O ?_ ?_))) <;> clear H K3
  ·intro h50 a H
   try have p50:=dT h50
   have hk1:k < lb.length:=by omega
   obtain ⟨b2,o2,Xq,rfl,aaI,hrow2,pQ⟩:=hgb k lb[k].dat (by simp [hk1]);obtain ⟨qA,qn,qc,uA,un,uc,zA,zn,zc,xA,xn,xc,rfl,qE,hf2⟩:=pQ.cell;replace hrow2:=fun j u hj=>aK fE (hrow2 j u hj)
   have Ec:(iK κ φ lb la[i]).length=lb.length:=by simp [iK]
   have yO:(iK κ φ lb la[i])[k]?=some (pG κ φ la[i] lb[k]):=by simp [iK,hk1]
   refine kP H (Kc K4 (SQ fun _ K3=>SB (SR fun _ K5=>Rm O (Ri jI jG O O ?_))));clear H K4;intro a H;refine dL jG (cs:=[_,_,_,_,_,_,_]) H wn O O (fun j v hj=>H.hp.aQ (hrow2 j v hj)) O ?_;clear H;intro a H;refine jv jG H wn O ?_;clear H;intro b14 a w aau H;refine kH H (Ra O ?_);clear H;intro a H;refine eZ jG 0 (vs:=[_,_,_,_,_,_,_]) H wn O ?_;clear H;intro w H;refine K5 _ _ ?_;clear K5;refine kP H (SR fun _ K4=>Rm O ?_);clear H;intro a H;refine dL jG (cs:=[_,_,_,_,_,_,_]) H wn O O (H.hp.dw 0 O O) O ?_;exact NI
  intro h50 a H
  try have p50:=dF h50
  refine bQ ?_;refine K1 _ _ ?_;clear K1;have hall:fl=iK κ φ lb la[i]:=H6 hfl (by simp [iK]) fun q hq=>ny q V;have H:=H.dB (Pl:=[_,_,_]) (bS:=[_,_,_]) [2,0,1] Y O;obtain ⟨G3,qF,hg3,H⟩:=H.gP
  have wL:sF G3 (gD κ φ la lb) la.length lb.length cs2 (i+1):=⟨rO,fun r h1=>by
   by_cases e:r=i
   ·exact OM
   obtain ⟨R,br,e0,e1,e2,e3⟩:=hra.2 r V
   exact ⟨R,br,e0,e1,by rw [hcn r V];exact e2,(e3.mono hgg).mono qF⟩⟩
  refine kP H (SC (Rd O (Rm O ?_)));clear H;intro a H;refine aB ?_;refine aX ((i+1,cs2,G3)) (by exact (H.dB (Pl:=[_,_]) (bS:=[_]) [1] Y O).sub ⟨O,O,O,O,O,O,aH⟩) ?_
  (try dsimp only);exact CX
 intro h31 a H
 try have p31:=dF h31
 refine bQ ?_;refine K2 _ _ ?_;clear K2;refine kP H (SR fun _ K1=>Rm O ?_);clear H;intro a H
 have hie:i=la.length:=by omega
 rw [hie,<- Iw] at hra;obtain ⟨Gr,hmr,hgr,H⟩:=H.gP;refine s_call GZ H wn O (FX _ _ H.ro (gD κ φ la lb) _ (ay.mP (xs:=cs) hgr (by simp [gD]) (aV _) V (gX (by have:=hra.1;rw [List.toList_toArray];omega)) (hra.mono hmr).cat)) rfl ?_;clear H;rintro v78 VD a w ⟨x78,rfl,Jt⟩ abg H;rw [ET κ φ hla hlb] at H;(iterate 2 refine fG H wn O O O ?_;clear H;intro a H);refine kH H (Ra O (au K1 O ?_));clear H K1;intro a H;refine bN ?_;refine (bZ H results28 (.cons (aJ H O) (.cons (aJ H O) .nil)) ?_).1;exact H.rt ⟨_,O,Jt⟩
section
section
variable {N:Nat} {D:List Deferred} {w0:World} {F:Nat->Prop} {G0 G:GH} {L:OL} {T Xs:List (Nat × aj)}
variable {r:Option Nat} {P:Program} {Q:Exit->Act->World->Prop} {l:List Oper} {a a':Act} {w w':World}
abbrev qd:Type:=Nat × aj × Nat × Bool
def lg (ent:List qd) (S:Nat->Bool) (a:Act):Prop:=∀ e∈ent,S e.2.2.1=e.2.2.2->a.tmps[e.1]?=some e.2.1
theorem lg.at {ent:List qd} {S:Nat->Bool} {a:Act} (h:lg ent S a) (k:Nat) {t:Nat} {v:aj} {j:Nat} {b:Bool} (hk:ent[k]?=some (t,v,j,b)) (hS:S j=b):a.tmps[t]?=some v:=h _ (iU hk) hS
theorem X8 {ent:List qd} {S:Nat->Bool} {i d:Nat} {v:aj} (hok:ent.all (fun e=>Nat.beq e.1 d == Nat.beq e.2.2.1 i)=true) (hv:∀ e∈ent,e.1=d->e.2.2.2=true->e.2.1=v)
  (HT:St N D w0 F G0 G L [] a w) (Hb:St N D w0 F G0 G L (Xs++full N a) a w) (hE:lg ent S a) (H:St N D w0 F G0 G L ((d,v) :: (Xs++full N a)) a' w'):St N D w0 F G0 G L [] a' w'∧lg ent (dM S i) a':=by
 have hsame:∀ t,t≠d->a'.tmps[t]?=a.tmps[t]?:=by
  intro t ht
  by_cases hlt:t < N
  ·have h1:∃ u,lk (Xs++full N a) t=some u:=by
    rw [BR]
    cases lk Xs t with
    | some u=>exact ⟨u,O⟩
    | none=>exact ⟨_,BS a hlt⟩
   obtain ⟨u,hu⟩:=h1
   rw [Hb.get t u hu,H.get t u (by rw [mM (Ne.symm ht)];exact hu)]
  ·rw [Array.getElem?_eq_none (by rw [H.iD];omega),Array.getElem?_eq_none (by rw [Hb.iD];omega)]
 refine ⟨⟨H.iD,(fun t u ht=>by cases ht),H.kK,H.hp⟩,fun e he hS=>?_⟩
 have hb:=fM.1 hok e he
 by_cases hd:e.1=d
 ·have h1:Nat.beq e.1 d=true:=by rw [hd];exact Nat.beq_refl d
  rw [h1] at hb
  have h2:e.2.2.1=i:=qY (by simpa using hb)
  rw [h2] at hS
  have h3:e.2.2.2=true:=by rw [<- hS];exact aM O
  rw [hd,hv e he hd h3]
  exact H.get d v (nW _ _ _)
 ·have h1:Nat.beq e.1 d=false:=xU hd
  rw [h1] at hb
  have h2:¬ e.2.2.1=i:=by
   intro e2
   rw [e2,Nat.beq_refl] at hb;cases hb
  rw [hsame _ hd]
  exact hE e he (by rw [<- hS];exact (aL h2).symm)
theorem Xg {id:Nat} (hm:P.follows .mixedOrders=true) (aW:List (List Nat)) (hk:rG l aW=true) (ent:List qd) (H:St N D w0 F G0 G L T a w) (h0:lg ent (fun _=>false) a)
  (hstep:allI (fun i o=>∀ S a w,S i=false->(∀ j∈aW.getD i [],S j=true)->(∀ j,j < l.length->i∈aW.getD j []->S j=false)->St N D w0 F G0 G L T a w->lg ent S a ->
   WL r P l.toArray (fun x a' w'=>x=.normal∧St N D w0 F G0 G L T a' w'∧lg ent (dM S i) a') [o] a w) 0 l)
  (hend:∀ S a w,(∀ i,i < l.length->S i=true)->St N D w0 F G0 G L T a w->lg ent S a->Q .normal a w):WP r P (.region id l.toArray true) Q a w:=by
 refine Dx hm aW hk (fun S a w=>St N D w0 F G0 G L T a w∧lg ent S a) ⟨H.move H.hp.drew,h0⟩ ?_ ?_
 ·rintro i o S a w ho ⟨HS,hE⟩ ah kM hdesc
  have h:=vM hstep i o ho
  rw [eP] at h
  exact h S a w ah kM hdesc HS hE
 ·rintro S a w hall ⟨HS,hE⟩
  exact hend S a w hall HS hE
theorem X7 {ent:List qd} {S:Nat->Bool} {i d:Nat} {v:aj} (hok:(ent.all (fun e=>Nat.beq e.1 d == Nat.beq e.2.2.1 i) && (lk T d).isNone)=true) (hv:∀ e∈ent,e.1=d->e.2.2.2=true->e.2.1=v)
  (HT:St N D w0 F G0 G L T a w) (Hb:St N D w0 F G0 G L (Xs++full N a) a w) (hE:lg ent S a) (H:St N D w0 F G0 G L ((d,v) :: (Xs++full N a)) a' w'):St N D w0 F G0 G L T a' w'∧lg ent (dM S i) a':=by
 rw [gq,Option.isNone_iff_eq_none] at hok
 have hsame:∀ t,t≠d->a'.tmps[t]?=a.tmps[t]?:=by
  intro t ht
  by_cases hlt:t < N
  ·have h1:∃ u,lk (Xs++full N a) t=some u:=by
    rw [BR]
    cases lk Xs t with
    | some u=>exact ⟨u,O⟩
    | none=>exact ⟨_,BS a hlt⟩
   obtain ⟨u,hu⟩:=h1
   rw [Hb.get t u hu,H.get t u (by rw [mM (Ne.symm ht)];exact hu)]
  ·rw [Array.getElem?_eq_none (by rw [H.iD];omega),Array.getElem?_eq_none (by rw [Hb.iD];omega)]
 have h0:=X8 hok.1 hv ⟨HT.iD,(fun t u ht=>by cases ht),HT.kK,HT.hp⟩ Hb hE H
 refine ⟨⟨H.iD,fun t u ht=>?_,H.kK,H.hp⟩,h0.2⟩
 have hne:t≠d:=fun e=>by rw [e,hok.2] at ht;cases ht
 rw [hsame t hne]
 exact HT.get t u ht
def BQ:List qd->Bool
 | []=>true
 | e :: l=>(l.all fun f=>!(Nat.beq f.1 e.1 && f.2.2.2 == e.2.2.2)) && BQ l
theorem Si:∀ {ent:List qd} {k:Nat} {e f:qd},BQ ent=true->ent[k]?=some e->f∈ent->f.1=e.1->f.2.2.2=e.2.2.2->f=e
 | [],k,e,f,_,hk,_,_,_=>by simp at hk
 | x :: l,0,e,f,h,hk,hf,h1,h2=>by
  rw [uH] at hk
  injection hk with hk
  subst hk
  rw [BQ,gq] at h
  rcases mq.1 hf with rfl|hf
  ·rfl
  ·have:=fM.1 h.1 f hf
   rw [h1,h2,Nat.beq_refl] at this
   simp at this
 | x :: l,k+1,e,f,h,hk,hf,h1,h2=>by
  rw [List.getElem?_cons_succ] at hk
  rw [BQ,gq] at h
  rcases mq.1 hf with rfl|hf
  ·have:=fM.1 h.1 e (iU hk)
   rw [<- h1,<- h2,Nat.beq_refl] at this
   simp at this
  ·exact Si h.2 hk hf h1 h2
theorem fU {ent:List qd} {S:Nat->Bool} {i d:Nat} {v u:aj} (k:Nat) (hk:ent[k]?=some (d,v,i,true)) (hok:(BQ ent && (ent.all (fun e=>Nat.beq e.1 d == Nat.beq e.2.2.1 i) && (lk T d).isNone))=true) (hv:v=u)
  (HT:St N D w0 F G0 G L T a w) (Hb:St N D w0 F G0 G L (Xs++full N a) a w) (hE:lg ent S a) (H:St N D w0 F G0 G L ((d,u) :: (Xs++full N a)) a' w'):St N D w0 F G0 G L T a' w'∧lg ent (dM S i) a':=by
 rw [gq] at hok
 subst hv
 exact X7 hok.2 (fun e he h1 h2=>by rw [Si hok.1 hk he h1 h2]) HT Hb hE H
theorem lg.cf {B:List qd} {t j:Nat} {v:aj} (h:a.tmps[t]?=some v) (hr:lg B (fun _=>false) a):lg ((t,v,j,false) :: B) (fun _=>false) a:=by
 intro e he hS
 rcases mq.1 he with rfl|he
 ·exact h
 ·exact hr e he hS
theorem lg.ct {B:List qd} (h:B.all (fun e=>e.2.2.2)=true):lg B (fun _=>false) a:=by
 intro e he hS
 have:=fM.1 h e he
 rw [<- hS] at this
 cases this
theorem adZ {ops:Array Oper} {rest:List Oper} {d:Nat} {ty:TypeId} {pos:String} {aC:Array Edge} {g:Option (Nat × Bool)} {t:TypeId} {x y:Operand} {s:ByteArray} {ky:IntKind} {p:Int} (hi:Nat) (ht:P.underlying t=some .string) (H:St N D w0 F G0 G L T a w) (hw:Region.wanted ⟨some d,.slice t x none (some y) none,ty,pos,aC,g⟩ (yielded ops a.tmps)=true) (hx:ev T x=some (.string s)) (hy:ev T y=some (.int ky p)) (hp:p=(hi:Int)) (h1:hi<=s.size) (hd:Nat.blt d N=true)
  (k:∀ a',St N D w0 F G0 G L ((d,.string (s.extract 0 hi)) :: T) a' w->WL r P ops Q rest a' w):WL r P ops Q (⟨some d,.slice t x none (some y) none,ty,pos,aC,g⟩ :: rest) a w:=by
 subst hp
 have hr:=run_slice_string_h (P:=P) w t s ht ky (hi:Int) V V
 rw [Int.toNat_natCast] at hr
 refine bX (v:=.string (s.extract 0 hi)) (w':=w) hw O ?_ (k _ (H.put hd _ H.hp))
 simp only [execOp,H.ev hx,oF,Option.map_none,H.ev hy,bE,run_sliceAt_string w t _ _ _ _ ht,hr,gJ,jC]
end
end
theorem Yt:bD 37:=bH func37 O
theorem Ql:bD 24:=bH func24 O
theorem aeE:ow prog 49 [(0,5),(5,1)] [.slice none 0 0,.int .i64 0,.int .i64 0,.slice none 0 0,.slice none 0 0,.slice none 0 0]:=⟨Z,Z⟩
theorem Yn:bD 26:=bH func26 O
theorem QK:∀ (m:List (dN × ByteArray)) (q:List bJ × List ByteArray),∃ r,(m.foldl lZ q).1=q.1++r
 | [],q=>⟨[],by simp⟩
 | x :: m,q=>by
  obtain ⟨r,hr⟩:=QK m (lZ q x);exact ⟨_,by rw [List.foldl_cons,hr,lZ,lK]⟩
theorem afa (l:List (dN × ByteArray)) (ks:List ByteArray) (n:Nat):(bW (l.take n) ks).1=(bW l ks).1.take n:=by
 by_cases h:n<=l.length
 ·have hl:=(rY l ks n h).1;obtain ⟨r,hr⟩:=QK (l.drop n) (bW (l.take n) ks)
  have e:(bW l ks).1=(bW (l.take n) ks).1++r:=by
   rw [<- hr,bW,bW,<- List.foldl_append,List.take_append_drop]
  have e2:((bW (l.take n) ks).1).take n=(bW (l.take n) ks).1:=gX V;rw [e,List.take_append_of_le_length V,e2]
 have hl:=(Ci l ks).1;rw [gX V,gX V]
theorem SX (a:ByteArray):vB a=jS a:=afa _ _ _
theorem acE (a b:ByteArray):∃ K:List ByteArray,K.Nodup∧nN ((aY a).take 2048) (jS a) K∧nN ((aY b).take 2048) (nX a b) K:=by
 obtain ⟨h1,h2,h3⟩:=Cj ((aY a).take 2048) [] List.nodup_nil _ (aV _);rw [pz] at h1 h3;obtain ⟨g1,g2,g3⟩:=Cj ((aY b).take 2048) (bW ((aY a).take 2048) []).2 h1 _ (aV _);rw [pz] at g1 g2 g3;rw [show (bW ((aY a).take 2048) []).1=jS a from SX a] at h3;exact ⟨_,g1,h3.up g2,g3⟩
theorem acC (a b:ByteArray):(nX a b).length<=2048:=by
 rw [nX,(Ci _ _).1,List.length_take];omega
theorem acD (a b:ByteArray):∀ x∈nX a b,1<=x.weight∧x.weight<=1000:=by
 have h:=Fh (bW ((aY a).take 2048) []).2 (l:=(aY b).take 2048) (fun x hx=>Kw b x (List.mem_of_mem_take hx)) _ (aV _)
 rwa [pz] at h
theorem acz (a b:ByteArray):qZ (jS a) (nX a b)=lF a b:=by
 obtain ⟨K,hK,hx,hy⟩:=afk a b;obtain ⟨K2,K2,hx2,hy2⟩:=acE a b;have lx:=hx.len;have ly:=hy.len;have lx2:=hx2.len;have ly2:=hy2.len
 have hs1:dJ (jS a) (nX a b) 0 0=dJ (mg a b) (jS a) 0 0:=by
  refine Ce V O (fun i k hi hk=>?_) (fun k hk=>?_) (fun i hi=>rfl) _ 0 0 (aV _)
  ·rw [Sk K2 hx2 hy2 (show i < ((aY a).take 2048).length by omega) (show k < ((aY b).take 2048).length by omega)];have h:=Sk hK hx hy (show i < ((aY a).take 2048).length by omega) (show k < ((aY b).take 2048).length by omega);exact h.symm.trans eq_comm
  obtain ⟨-,-,-,q1⟩:=hy2.at_ k V V;obtain ⟨-,-,-,q2⟩:=hy.at_ k V V;rw [q1,q2]
 have hs2:dJ (jS a) (mg a b) 0 0=dJ (mg a b) (jS a) 0 0 :=
  Ce rfl rfl (fun i k hi hk=>eq_comm) (fun k hk=>rfl) (fun i hi=>rfl) _ 0 0 (aV _)
 have hw:gT (jS a++nX a b)=gT (jS a++mg a b):=by
  rw [Ko,Ko,UA _ _ ((UC hy2).trans (UC hy).symm)]
 rw [lF,qZ,qZ,hs1,hs2,hw]
theorem acy {G0:GH} (G:GH) (w0:World) (hG:Hold G w0) (h0:∀ b o,G0 b=some o->G b=some o) (s t:ByteArray) (hs:iC G0 s) (ht:iC G0 t) :
  Calls prog 26 #[.string s,.string t] w0 (bK w0 G fun u G'=>u=vi (lF s t)):=by
 refine eN [(0,_),(1,_)] func26 O ntmps26 O O hG ?_;intro a H;refine kP H (SR fun _ K1=>au K1 O (SR fun _ K2=>Rm O (Rm O ?_)));clear H K1;intro a H;refine s_call Yt H wn O (acB _ _ H.ro h0 s t hs ht) O ?_;clear H;rintro v12 Ls a w ⟨Vp,y12,rfl,zl,Jv⟩ I4 H;rw [SX] at zl;refine kH H (Rm O ?_);clear H;intro a H;(iterate 2 refine fG H wn O O O ?_;clear H;intro a H);refine kH H (Ra O (au K2 O (SR fun _ K1=>Rm O (Rm O ?_))));clear H K2;intro a H;refine s_call Qo H wn O (LZ _ _ H.ro _ _ _ _ zl Jv (UU s) (acC s t) (Fj s) (acD s t)) O ?_;clear H;rintro v18 LB a w rfl hm18 H;rw [acz] at H;refine kH H (Rm O ?_);clear H;intro a H;(iterate 2 refine fG H wn O O O ?_;clear H;intro a H);exact kH H (Ra O (au K1 O (SR fun _ K2=>Rm O (au K2 O (LR results26 O fun H=>H.rt O)))))
set_option maxHeartbeats 1000000 in
theorem TA (G:GH) (w0:World) (hG:Hold G w0) (l:List bg) (v:aj) (hv:ay G (.sl 6 (l.map bg.dat)) v) (hz:jl l<=1073741824) :
  Calls prog 8 #[v] w0 (bK w0 G fun u G'=>ay G' (.sl 1 ((l.map fun x=>dY (fQ x.cells)).map kQ)) u):=by
 have hrl:=Fy l;have hml:maxLen=9223372036854775807:=rfl;obtain ⟨A,c,rfl,hc1,hc2,hg⟩:=hv.slice;rw [bG] at *;refine eN [(0,_)] func8 O ntmps8 O O hG ?_;intro a H;refine kP H (SR fun _ K1=>au K1 O (SR fun _ K2=>au K2 O (SQ fun _ K3=>SR fun _ K4=>au K4 O (SB ?_))));clear H K1 K2 K4;intro a H;skip;refine dz (ι:=Nat × aj × OL × GH) (Tc:=[(0,_)]) (Lc:=[]) (fun gh=>[(3,gh.2.1),(4,vi gh.1)]) (fun gh=>[]++gh.2.2.1) (fun gh=>gh.2.2.2) (fun gh=>gh.1<=l.length∧aZ 9 1 gh.2.1 gh.1 (((l.take gh.1).map fun x=>dY (fQ x.cells)).map Value.string) gh.2.2.1∧(∀ b o,G b=some o->gh.2.2.2 b=some o)) (fun gh=>l.length - gh.1) ((0,.slice none 0 0,[],G)) (by exact H.sub ⟨O,O,O,aH⟩) ?_ ?_
 ·exact ⟨V,aZ.nil,fun _ _ h=>h⟩
 clear H;rintro ⟨k,v,Lo,g⟩ a w hI H;dsimp only at hI H;obtain ⟨hk,hrw,hgm⟩:=hI;dsimp only [lca,bR] at H;refine kP H (SQ fun _ K1=>SR fun _ K2=>Rm O (Rm O (Rl jH O (Rc O (Kz K2 (Cd O ?_ ?_)))))) <;> clear H K2
 ·intro h8 a H
  try have p8:=dT h8
  have hk2:k < l.length:=by omega
  obtain ⟨b,o,cs,rfl,rO,hrow,hrep⟩:=hg k l[k].dat (by simp [hk2]);obtain ⟨qA,qn,qc,uA,un,uc,zA,zn,zc,xA,xn,xc,rfl,qE,hfc⟩:=hrep.row;replace hrow:=fun j u hj=>aK hgm (hrow j u hj);have hce:=sD l[k];have hcm:=uw (dK hk2);obtain ⟨vA,vc,rfl,BL,BM⟩:=hrw.shape;refine kP H (Kc K1 (SQ fun _ K2=>SB (SC (Rm O (Rm O (Rm O (Ri jH jw O O ?_)))))));clear H K1;intro a H;refine dL jw (cs:=[_,_,_,_,_,_]) H wn O O (fun j v hj=>H.hp.aQ (hrow j v hj)) O ?_;clear H;intro a H;refine s_call Ql H wn O (SS _ _ H.ro l[k].cells _ _ _ _ _ _ (hfc.mono hgm) V) O ?_;clear H;rintro v16 FI a w rfl El H;refine eU jT iZ [_] [_] H wn O O O O O (by intro i q h;match i,h with|0,h=>exact h|n+1,h=>simp at h) O O ?_;clear H;intro b17 a w Q6 H;refine dV (Li:=[_]) (Lo:=Lo) (news:=[.string (dY (fQ l[k].cells))]) jT iZ O O H wn O O hrw O (H.hp.dw 0 O O) O V V O ?_;clear H;intro v18 Ad a w zk H;refine kH H (cO K2 O (SC (Rm O (Rd O (Ra O ?_)))));clear H K2;intro a H;refine aB ?_;refine aX ((k+1,v18,Ad,_)) (by exact (H.dB (Pl:=[_]) (bS:=[]) [] Y O).sub ⟨O,O,O,aH⟩) ?_
  (try dsimp only);exact ⟨V,by rw [kg hk2,ku,ku];exact zk,fun b o h=>El b o (hgm b o h)⟩
 intro h8 a H
 try have p8:=dF h8
 refine bQ ?_;refine K3 _ _ ?_;clear K3;refine kP H (SR fun _ K2=>Rm O (au K2 O ?_));clear H K2;intro a H;refine bN ?_
 have hke:k=l.length:=by omega
 subst hke;obtain ⟨Gr,hmr,hrep,H⟩:=St.kU (Li:=[]) (Lo:=Lo) H hrw (rows:=((l.take l.length).map fun x=>dY (fQ x.cells)).map kQ) (by simp) (Kl _ _);rw [pz] at hrep;refine lv H results8 O ?_;exact H.rt hrep
theorem Xc (A B:List UInt8):(dY (A++B)).extract 0 A.length=dY A:=by
 rw [xZ];exact ByteArray.extract_append_eq_left (qp A).symm
set_option maxHeartbeats 1000000 in
theorem Px (G:GH) (w0:World) (hG:Hold G w0) (l:List bL) (v:aj) (hv:ay G (.sl 7 (l.map bL.dat)) v) (hz:iT l<=1073741824) :
  Calls prog 13 #[v] w0 (bK w0 G fun u G'=>ay G' (.sl 1 ((l.map fun x=>dY (fH x.flow)).map kQ)) u):=by
 have hrl:=Fx l;have hml:maxLen=9223372036854775807:=rfl;obtain ⟨A,c,rfl,hc1,hc2,hg⟩:=hv.slice;rw [bG] at *;refine eN [(0,_)] func13 O ntmps13 O O hG ?_;intro a H;refine kP H (SR fun _ K1=>au K1 O (SR fun _ K2=>au K2 O (SQ fun _ K3=>SR fun _ K4=>au K4 O (SB ?_))));clear H K1 K2 K4;intro a H;skip;refine dz (ι:=Nat × aj × OL × GH) (Tc:=[(0,_)]) (Lc:=[]) (fun gh=>[(3,gh.2.1),(4,vi gh.1)]) (fun gh=>[]++gh.2.2.1) (fun gh=>gh.2.2.2) (fun gh=>gh.1<=l.length∧aZ 9 1 gh.2.1 gh.1 (((l.take gh.1).map fun x=>dY (fH x.flow)).map Value.string) gh.2.2.1∧(∀ b o,G b=some o->gh.2.2.2 b=some o)) (fun gh=>l.length - gh.1) ((0,.slice none 0 0,[],G)) (by exact H.sub ⟨O,O,O,aH⟩) ?_ ?_
 ·exact ⟨V,aZ.nil,fun _ _ h=>h⟩
 clear H;rintro ⟨k,v,Lo,g⟩ a w hI H;dsimp only at hI H;obtain ⟨hk,hrw,hgm⟩:=hI;dsimp only [lca,bR] at H;refine kP H (SQ fun _ K1=>SR fun _ K2=>Rm O (Rm O (Rl jI O (Rc O (Kz K2 (Cd O ?_ ?_)))))) <;> clear H K2
 ·intro h9 a H
  try have p9:=dT h9
  have hk2:k < l.length:=by omega
  have hce:=qU l[k];have hcm:=uq (dK hk2);have htl:=Cm l[k].flow;obtain ⟨vA,vc,rfl,BL,BM⟩:=hrw.shape;have hpart:=hv.part k (k+1) V (by rw [bG];omega)
  have he1:((l.map bL.dat).drop k).take 1=[l[k]].map bL.dat:=by rw [List.drop_eq_getElem_cons (by simpa using hk2)];simp
  have hc3:¬ c=k:=by omega
  have hz1:iT [l[k]]<=1073741824:=by show 1+fK l[k].dat+0<=_;omega
  have hr1:fQ [l[k]]=fH l[k].flow++[10]:=by simp [fQ]
  refine kP H (Kc K1 (SQ fun _ K2=>SB (SR fun _ K4=>Rm O (Rm O (Rm O (Rd O ?_))))));clear H K1;intro a H;refine J6 jI jG k (k+1) H wn O O O O V V V O ?_;clear H;intro a H;rw [aL hc3,Nat.add_sub_cancel_left] at H;refine jQ aeE [_,_,_,_,_,_] H wn O O O O ?_;clear H;intro a H;refine s_call Ql H wn O (SS _ _ H.ro [l[k]] _ _ _ _ _ _ (by have h:=hpart;rw [aL hc3,Nat.add_sub_cancel_left,he1] at h;exact h.mono hgm) hz1) O ?_;clear H;rintro v18 LB a w rfl hm18 H;rw [hr1] at H;refine kH H (au K4 O (SC (Rm O (Rm O (Rm O (Rv iH O ?_))))));clear H K4;intro a H;rw [qp,gW,List.length_singleton] at H;refine kH H (Rs O ?_);clear H;intro a H;refine adZ (fH l[k].flow).length iH H wn O O V (by rw [qp,gW];omega) rfl ?_;clear H;intro a H;rw [Xc] at H;refine eU jT iZ [_] [_] H wn O O O O O (by intro i q h;match i,h with|0,h=>exact h|n+1,h=>simp at h) O O ?_;clear H;intro b25 a w agM H;refine dV (Li:=[_]) (Lo:=Lo) (news:=[.string (dY (fH l[k].flow))]) jT iZ O O H wn O O hrw O (H.hp.dw 0 O O) O V V O ?_;clear H;intro v26 VK a w abw H;refine kH H (cO K2 O (SC (Rm O (Rd O (Ra O ?_)))));clear H K2;intro a H;refine aB ?_;refine aX ((k+1,v26,VK,_)) (by exact (H.dB (Pl:=[_]) (bS:=[]) [] Y O).sub ⟨O,O,O,aH⟩) ?_
  (try dsimp only);exact ⟨V,by rw [kg hk2,ku,ku];exact abw,fun b o h=>hm18 b o (hgm b o h)⟩
 intro h9 a H
 try have p9:=dF h9
 refine bQ ?_;refine K3 _ _ ?_;clear K3;refine kP H (SR fun _ K2=>Rm O (au K2 O ?_));clear H K2;intro a H;refine bN ?_
 have hke:k=l.length:=by omega
 subst hke;obtain ⟨Gr,hmr,hrep,H⟩:=St.kU (Li:=[]) (Lo:=Lo) H hrw (rows:=((l.take l.length).map fun x=>dY (fH x.flow)).map kQ) (by simp) (Kl _ _);rw [pz] at hrep;refine lv H results13 O ?_;exact H.rt hrep
set_option maxHeartbeats 4000000 in
theorem SG {Gt:GH} (G:GH) (w0:World) (hG:Hold G w0) (h0:∀ b o,Gt b=some o->G b=some o) (pa pb:List (Int × ByteArray)) (va vb ka kb:aj) (hva:ay G (.sl 1 ((pa.map Prod.snd).map kQ)) va) (hvb:ay G (.sl 1 ((pb.map Prod.snd).map kQ)) vb)
  (hka:ay G (.sl 1 ((pa.map Prod.fst).map eF)) ka) (hkb:ay G (.sl 1 ((pb.map Prod.fst).map eF)) kb) (hoa:∀ x∈pa,iC Gt x.2) (Eo:∀ x∈pb,iC Gt x.2) (hla:pa.length<=1024) (hlb:pb.length<=1024) :
  Calls prog 11 #[va,vb,ka,kb] w0 (bK w0 G fun u G'=>ay G' (.sl 1 ((gD Prod.fst Prod.snd pa pb).map jF)) u):=by
 obtain ⟨A,c,rfl,hc1,hc2,-⟩:=hva.slice;obtain ⟨B,d,rfl,hd1,hd2,-⟩:=hvb.slice;obtain ⟨C,e,rfl,he1,he2,-⟩:=hka.slice;obtain ⟨D,f,rfl,hf1,hf2,-⟩:=hkb.slice;have hml:maxLen=9223372036854775807:=rfl
 simp only [bG] at *
 refine eN [(0,_),(1,_),(2,_),(3,_)] func11 O ntmps11 O O hG ?_;intro a H;refine kP H (SR fun _ K1=>au K1 O (SR fun _ K2=>au K2 O (SQ fun _ K3=>SR fun _ K4=>au K4 O (SB ?_))));clear H K1 K2 K4;intro a H;skip;refine dz (ι:=Nat × aj × List aj × OL × GH) (Tc:=[(0,_),(1,_),(2,_),(3,_)]) (Lc:=[]) (fun gh=>[(9,gh.2.1),(10,vi gh.1)]) (fun gh=>[]++gh.2.2.2.1) (fun gh=>gh.2.2.2.2) (fun gh=>gh.1<=pa.length∧aZ 46 1 gh.2.1 gh.1 gh.2.2.1 gh.2.2.2.1∧bU gh.2.2.2.2 1 (((gD Prod.fst Prod.snd pa pb).take gh.1).map jF) gh.2.2.1∧(∀ b o,G b=some o->gh.2.2.2.2 b=some o)) (fun gh=>pa.length - gh.1) ((0,.slice none 0 0,[],[],G)) (by exact H.sub ⟨O,O,O,O,O,O,aH⟩) ?_ ?_
 ·exact ⟨V,aZ.nil,bU.nil,fun _ _ h=>h⟩
 clear H;rintro ⟨i,v,cs,Lo,g⟩ a w hI H;dsimp only at hI H;obtain ⟨hi,hrw,lU,hgm⟩:=hI;dsimp only [lca,bR] at H;refine kP H (SQ fun _ K1=>SR fun _ K2=>Rm O (Rm O (Rl jT O (Rc O (Kz K2 (Cd O ?_ ?_)))))) <;> clear H K2
 ·intro h16 a H
  try have p16:=dT h16
  have hi1:i < pa.length:=by omega
  obtain ⟨vA,vc,rfl,BL,BM⟩:=hrw.shape;obtain ⟨R9,Sm,rfl,D5⟩:=mO (hka.mono hgm) (show i < (pa.map Prod.fst).length by simpa using hi1);obtain ⟨sb1,Um,rfl,gs1⟩:=Kk (hva.mono hgm) (show i < (pa.map Prod.snd).length by simpa using hi1);rw [List.getElem_map] at D5 gs1;refine kP H (Kc K1 (SQ fun _ K2=>SB (SR fun _ K4=>Rm O (Rl jT O ?_))));clear H K1;intro a H;refine lW pb.length bP aG H wn O O O V V O ?_;clear H;intro xR a w agL H;refine kH H (au K4 O (SQ fun _ K1=>SQ fun _ K5=>?_));clear H K4;intro a H;rw [show List.replicate pb.length (Value.int .i64 0)=(List.replicate pb.length (0:Int)).map vi from List.map_replicate.symm] at H;refine kP H (SC (cO K5 O (SB ?_)));clear H K5;intro a H;skip;refine dz (ι:=Nat × List Int × GH) (Tc:=[(0,_),(1,_),(2,_),(3,_),(9,_),(10,_),(11,_)]) (Lc:=[]) (fun gh=>[(12,vi gh.1)]) (fun gh=>[bF xR gh.2.1]++Lo) (fun gh=>gh.2.2) (fun gh=>gh.1<=pb.length∧gh.2.1.length=pb.length∧(∀ q,q < gh.1->gh.2.1[q]?=(iK Prod.fst Prod.snd pb pa[i])[q]?)∧(∀ q,gh.1<=q->q < pb.length->gh.2.1[q]?=some 0)∧(∀ b o,G b=some o->gh.2.2 b=some o)∧(∀ b o,g b=some o->gh.2.2 b=some o)) (fun gh=>pb.length - gh.1) ((0,List.replicate pb.length 0,g)) (by exact H.sub ⟨O,O,O,O,O,O,O,O,aH⟩) ?_ ?_
  ·exact ⟨dO _,by simp,fun q h=>absurd h (Nat.not_lt_zero _),fun q _ hq=>by simp [List.getElem?_replicate];omega,hgm,fun _ _ h=>h⟩
  clear H;rintro ⟨k,fl,g2⟩ a w hI H;dsimp only at hI H;obtain ⟨hk,hfl,ny,hf0,fE,hgg⟩:=hI;dsimp only [lca,bR] at H;refine kP H (SQ fun _ K4=>SR fun _ K5=>Rm O (Rm O (Rl jT O (Rc O (Kz K5 (Cd O ?_ ?_)))))) <;> clear H K5
  ·intro gK a H
   try have p25:=dT gK
   have hk1:k < pb.length:=by omega
   obtain ⟨Sb,Sn,rfl,QS⟩:=mO (hkb.mono fE) (show k < (pb.map Prod.fst).length by simpa using hk1);obtain ⟨J7,Ke,rfl,gs2⟩:=Kk (hvb.mono fE) (show k < (pb.map Prod.snd).length by simpa using hk1);rw [List.getElem_map] at QS gs2;replace D5:=aK hgg D5;replace gs1:=aK hgg gs1
   have Ec:(iK Prod.fst Prod.snd pb pa[i]).length=pb.length:=by simp [iK]
   have yO:(iK Prod.fst Prod.snd pb pa[i])[k]?=some (pG Prod.fst Prod.snd pa[i] pb[k]):=by simp [iK,hk1]
   refine kP H (Kc K4 (SQ fun _ K5=>SB (SQ fun _ K6=>?_)));clear H K4;intro a H;refine dI fF [[],[],[0,1],[0,1,2],[],[],[4,5],[4,5,6],ra 0 8] [] Z [.slice (some ⟨R9,Sm,none⟩) pa.length e,vi i,(aD R9 (Sm+i*1)),vi pa[i].1,.slice (some ⟨Sb,Sn,none⟩) pb.length f,vi k,(aD Sb (Sn+k*1)),vi pb[k].1,.bool (decide (pa[i].1=pb[k].1))] H (aF ?_ ?_ ?_ ?_ (aF ?_ ?_ ?_ ?_ (gN ?_ fB))) ?_
   ·exact aO
   ·exact aO
   ·intro av a w G1 _ ah hc hG HT hv;have H:=HT;clear ah;have H:=H.ak (hv 0 28 (hc 0 Y) O) O;have H:=H.ak (hv 1 29 (hc 1 Y) O) O;have Hb:=H.full;have H:=Hb;clear hc;refine bO bP aG i H wn O O O hi1 O ?_;exact aI
   ·intro av a w G1 _ ah hc hG HT hv;have H:=HT;clear ah;have H:=H.ak (hv 2 30 (hc 2 Y) O) O;have Hb:=H.full;have H:=Hb;clear hc;refine kH H (Rg aG O (aK hG D5) ?_);exact aI
   ·exact aO
   ·exact aO
   ·intro av a w G1 _ ah hc hG HT hv;have H:=HT;clear ah;have H:=H.ak (hv 4 32 (hc 4 Y) O) O;have H:=H.ak (hv 5 33 (hc 5 Y) O) O;exact Gd
   ·intro av a w G1 _ ah hc hG HT hv;have H:=HT;clear ah;have H:=H.ak (hv 6 34 (hc 6 Y) O) O;have Hb:=H.full;have H:=Hb;clear hc;refine kH H (Rg aG O (aK hG QS) ?_);exact aI
   ·intro av a w G1 _ ah hc hG HT hv;have H:=HT;clear ah;have H:=H.ak (hv 3 31 (hc 3 Y) O) O;have H:=H.ak (hv 7 35 (hc 7 Y) O) O;exact uM
   clear H;intro a w G jq H hv;have H:=H.ak (hv 8 36 O O) O;clear hv;refine aB ⟨O,?_⟩;refine K6 _ _ ?_;clear K6;refine rC H O ?_ ?_
   ·intro tL
    try have p36:=dT tL
    have hen:pG Prod.fst Prod.snd pa[i] pb[k]=lF pa[i].2 pb[k].2:=aM p36.symm;have hfn:=QE hfl Ec hk1 ny hf0 (hen ▸ yO);refine dI fF [[],[],[],[],[2,3],[2,3,4],[],[],[6,7],[6,7,8],ra 2 8,ra 0 11,ra 0 12] [11,12] Z [.slice (some ⟨xR,0,none⟩) pb.length pb.length,vi k,.slice (some ⟨sb1,Um,none⟩) pa.length c,vi i,(aD sb1 (Um+i*1)),.string pa[i].2,.slice (some ⟨J7,Ke,none⟩) pb.length d,vi k,(aD J7 (Ke+k*1)),.string pb[k].2,vi (lF pa[i].2 pb[k].2)] H (aF ?_ ?_ ?_ ?_ (aF ?_ ?_ ?_ ?_ (aF ?_ ?_ ?_ (gB O) (gN (gB O) fB)))) ?_
    ·exact aO
    ·exact aO
    ·exact aO
    ·exact aO
    ·intro av a w G1 _ ah hc hG HT hv;have H:=HT;clear ah;have H:=H.ak (hv 2 39 (hc 2 Y) O) O;have H:=H.ak (hv 3 40 (hc 3 Y) O) O;have Hb:=H.full;have H:=Hb;clear hc;refine bO jT iZ i H wn O O O hi1 O ?_;exact aI
    ·intro av a w G1 _ ah hc hG HT hv;have H:=HT;clear ah;have H:=H.ak (hv 4 41 (hc 4 Y) O) O;have Hb:=H.full;have H:=Hb;clear hc;refine kH H (Rg iZ O (aK hG (aK jq gs1)) ?_);exact aI
    ·exact aO
    ·exact aO
    ·intro av a w G1 _ ah hc hG HT hv;have H:=HT;clear ah;have H:=H.ak (hv 6 43 (hc 6 Y) O) O;have H:=H.ak (hv 7 44 (hc 7 Y) O) O;have Hb:=H.full;have H:=Hb;clear hc;refine bO jT iZ k H wn O O O hk1 O ?_;exact aI
    ·intro av a w G1 _ ah hc hG HT hv;have H:=HT;clear ah;have H:=H.ak (hv 8 45 (hc 8 Y) O) O;have Hb:=H.full;have H:=Hb;clear hc;refine kH H (Rg iZ O (aK hG (aK jq gs2)) ?_);exact aI
    ·intro av a w G1 _ ah hc hG HT hv;have H:=HT;clear ah;have H:=H.ak (hv 5 42 (hc 5 Y) O) O;have H:=H.ak (hv 9 46 (hc 9 Y) O) O;have Hb:=H.full;have H:=Hb;clear hc;refine s_call Yn H wn O (acy _ _ H.ro (fun b o h=>hG _ _ (jq _ _ (fE _ _ (h0 b o h)))) _ _ (hoa _ (dK hi1)) (Eo _ (dK hk1))) O ?_;clear H;rintro v47 Vy a w rfl aaj H;refine aB ⟨O,?_⟩;exact iN Z (fun _ _ _ _ _ h=>h) O O HT Hb hG hv aaj (rfl) H
    clear H;intro a w G D9 H hv;have H:=H.ak (hv 0 37 O O) O;have H:=H.ak (hv 1 38 O O) O;have H:=H.ak (hv 10 47 O O) O;clear hv;refine bO bP aG k H wn O O O hk1 O ?_;clear H;intro a H;refine nI aG 0 (c:=fl.map vi) (vs:=[_]) ((fl.set k (lF pa[i].2 pb[k].2)).map vi) H wn O O O O O O (Eq.mpr Nat.ble_eq (by rw [bG,hfl];simp only [List.length_singleton];omega)) (by rw [eP,Nat.mul_one,List.map_set];rfl) ?_;clear H;intro w H;dsimp only [List.set] at H;refine aB ⟨O,?_⟩;refine K5 _ _ ?_;clear K5;refine kP H (SC (Rm O (Rd O (Ra O ?_))));clear H;intro a H;refine aB ?_;refine aX ((k+1,fl.set k (lF pa[i].2 pb[k].2),G)) (by exact H.sub ⟨O,O,O,O,O,O,O,O,aH⟩) ?_
    (try dsimp only);exact ⟨V,hfn.1,hfn.2.1,hfn.2.2,fun b o h=>D9 _ _ (jq _ _ (fE b o h)),fun b o h=>D9 _ _ (jq _ _ (hgg b o h))⟩
   intro tL
   try have p36:=dF tL
   have hen:pG Prod.fst Prod.snd pa[i] pb[k]=0:=aL fun h=>p36 h.symm;have hfn:=QF hk1 ny hf0 (hen ▸ yO);refine kP H (Kc K5 (SC (Rm O (Rd O (Ra O ?_)))));clear H K5;intro a H;refine aB ?_;refine aX ((k+1,fl,G)) (by exact H.sub ⟨O,O,O,O,O,O,O,O,aH⟩) ?_
   (try dsimp only);exact ⟨V,hfl,hfn.1,hfn.2,fun b o h=>jq _ _ (fE b o h),fun b o h=>jq _ _ (hgg b o h)⟩
  intro gK a H
  try have p25:=dF gK
  refine bQ ?_;refine K1 _ _ ?_;clear K1;have hall:fl=iK Prod.fst Prod.snd pb pa[i]:=H6 hfl (by simp [iK]) fun q hq=>ny q V;obtain ⟨G3,qF,hg3,H⟩:=H.gP
  have abu:ay G3 (.sl 1 ((iK Prod.fst Prod.snd pb pa[i]).map eF)) (.slice (some ⟨xR,0,none⟩) pb.length pb.length):=by
   rw [<- hall];exact CW
  have IG:bU G3 1 (((gD Prod.fst Prod.snd pa pb).take (i+1)).map jF) (cs++[.slice (some ⟨xR,0,none⟩) pb.length pb.length]):=by
   rw [kg (by simpa [gD] using hi1),ku];exact (lU.mono fun b o h=>qF _ _ (hgg b o h)).snoc (by simpa [gD] using EI abu) O
  refine kP H (SC (Rm O (Rm O ?_)));clear H;intro a H;refine eU gI bI [_] [_] H wn O O O O O (by intro i q h;match i,h with|0,h=>exact h|n+1,h=>simp at h) O O ?_;clear H;intro b51 a w agV H;refine dV (Li:=[_]) (Lo:=Lo) (news:=[.slice (some ⟨xR,0,none⟩) pb.length pb.length]) gI bI O O H wn O O hrw O (H.hp.dw 0 O O) O V V O ?_;clear H;intro v52 VN a w abA H;refine kH H (cO K2 O (SC (Rm O (Rd O (Ra O ?_)))));clear H K2;intro a H;refine aB ?_;refine aX ((i+1,v52,cs++[.slice (some ⟨xR,0,none⟩) pb.length pb.length],VN,G3)) (by exact (H.dB (Pl:=[_]) (bS:=[]) [] Y O).sub ⟨O,O,O,O,O,O,aH⟩) ?_
  (try dsimp only);exact ⟨V,abA,IG,fun b o h=>qF b o (fE b o h)⟩
 intro h16 a H
 try have p16:=dF h16
 refine bQ ?_;refine K3 _ _ ?_;clear K3;refine kP H (SR fun _ K2=>Rm O (au K2 O ?_));clear H K2;intro a H;refine bN ?_
 have hie:i=pa.length:=by omega
 obtain ⟨Gr,hmr,hrep,H⟩:=St.kU (Li:=[]) (Lo:=Lo) H hrw (rows:=(gD Prod.fst Prod.snd pa pb).map jF) (by simp [gD,hie]) (by rw [gX (by simp [gD];omega)] at lU;exact lU);refine lv H results11 O ?_;exact H.rt hrep
theorem KI:Ty prog 25 1 24 [.slice none 0 0] false:=⟨Z,Z⟩
theorem KJ:Ty prog 26 1 24 [.slice none 0 0] false:=⟨Z,Z⟩
theorem KL:Ty prog 27 1 24 [.slice none 0 0] false:=⟨Z,Z⟩
theorem Hz:fu prog 34 4 4:=⟨Z⟩
theorem Hy:fu prog 31 0 0:=⟨Z⟩
theorem KR:prog.underlying 25=some (.slice 197):=by kernel_rfl
theorem yG:fu prog 31 1 1:=⟨Z⟩
theorem Hu:fu prog 29 2 2:=⟨Z⟩
theorem KS:prog.underlying 26=some (.slice 199):=by kernel_rfl
theorem Hw:fu prog 29 3 3:=⟨Z⟩
theorem KT:prog.underlying 27=some (.slice 201):=by kernel_rfl
theorem He:bD 17:=bH func17 O
theorem HV:fu prog 49 0 0:=⟨Z⟩
theorem HZ:fu prog 76 1 1:=⟨Z⟩
theorem KX (l m:List aN):fI (l++m)=fI l+fI m:=by simp [fI,E9]
theorem Vg (l m:List bg):jl (l++m)=jl l+jl m:=by simp [jl,E9]
theorem Vd (l m:List bL):iT (l++m)=iT l+iT m:=by simp [iT,E9]
theorem afH {l:List aN} {k:Nat} (h:k < l.length):fI (l.take (k+1))=fI (l.take k)+(1+fK l[k].dat):=by rw [kg h,KX];simp [fI,gY]
theorem afI {l:List bg} {k:Nat} (h:k < l.length):jl (l.take (k+1))=jl (l.take k)+(1+fK l[k].dat):=by rw [kg h,Vg];simp [jl,gY]
theorem afG {l:List bL} {k:Nat} (h:k < l.length):iT (l.take (k+1))=iT (l.take k)+(1+fK l[k].dat):=by rw [kg h,Vd];simp [iT,gY]
theorem Vf (l:List aN) (k:Nat) (h:k<=l.length):fI (l.take k)+(l.length - k)<=fI l:=by
 have h1:=KX (l.take k) (l.drop k);rw [List.take_append_drop] at h1;have h2:=Le (l.drop k);rw [List.length_drop] at h2
 omega
theorem Vh (l:List bg) (k:Nat):jl (l.take k)<=jl l:=by
 have:=Vg (l.take k) (l.drop k);rw [List.take_append_drop] at this;omega
theorem Ve (l:List bL) (k:Nat):iT (l.take k)<=iT l:=by
 have:=Vd (l.take k) (l.drop k);rw [List.take_append_drop] at this;omega
theorem aeQ (n:Nat):0<=(n:Int).tdiv 20∧(n:Int).tdiv 20<=n:=by
 rw [Int.tdiv_eq_ediv_of_nonneg V];omega
theorem wH {G:GH} {h:jZ} {pA dA yA:Option Addr} {pn pc dn dc yn yc:Nat} (hh:oV G h (.slice pA pn pc) (.slice dA dn dc) (.slice yA yn yc)):pn+dn+yn<=sw h:=by
 have R6:=Ld h;have l1:=hh.props.cells.1;have l2:=hh.rF.cells.1;have l3:=hh.layers.cells.1;have m1:=wY (h.props.map qj.dat);have m2:=wY (h.marks.rF.map qb.dat);have m3:=wY (h.marks.layers.map qg.dat)
 omega
def VW (n:Nat):Prop:=∀ (G:GH) (w0:World),Hold G w0->∀ (l:List aN) (v:aj),ay G (.sl 11 (l.map aN.dat)) v->fI l < n ->
 Calls prog 17 #[v] w0 (bK w0 G fun u G'=>∃ w d:Int,u=.tuple #[vi w,vi d]∧0<=w∧w<=fI l∧0<=d∧d<=fI l+1)
theorem MI {p:Prop} (h:p:=by
 exact ⟨V,hy0,V,hy2,hy3,fun b o h=>IU _ _ (hgg b o h)⟩):p:=h
set_option maxHeartbeats 4000000 in
set_option maxRecDepth 8000 in
theorem Vi:∀ n:Nat,n<=1073741824->VW n
 | 0,_=>fun _ _ _ _ _ _ h=>absurd h V
 | n+1,hn=>by
  intro G w0 hG l v hv hz;have ih:=Vi n V;obtain ⟨A,c,rfl,hc1,hc2,hg⟩:=hv.slice;have hml:maxLen=9223372036854775807:=rfl;have hll:=Le l;rw [bG] at *;refine eN [(0,_)] func17 O ntmps17 O O hG ?_;intro a H;refine kP H (SR fun _ K1=>Ra O (au K1 O (SR fun _ K2=>Rm O (Rl jy O (Ra O (au K2 O (SQ fun _ K3=>SR fun _ K4=>au K4 O (SB ?_))))))));clear H K1 K2 K4;intro a H;skip;refine dz (ι:=Nat × Int × Int × GH) (Tc:=[(0,_)]) (Lc:=[]) (fun gh=>[(2,vi gh.2.1),(3,vi gh.2.2.1),(4,vi gh.1)]) (fun gh=>[]) (fun gh=>gh.2.2.2) (fun gh=>gh.1<=l.length∧0<=gh.2.1∧gh.2.1+gh.1<=l.length+fI (l.take gh.1)∧0<=gh.2.2.1∧gh.2.2.1<=fI l+1∧(∀ b o,G b=some o->gh.2.2.2 b=some o)) (fun gh=>l.length - gh.1) ((0,l.length,1,G)) (by exact H.sub ⟨O,O,O,O,aH⟩) ?_ ?_
  ·exact ⟨V,(by omega:(0:Int)<=(l.length:Int)),by simp [fI,gY],(by decide:(0:Int)<=1),(by omega:(1:Int)<=(fI l:Int)+1),fun _ _ h=>h⟩
  clear H;rintro ⟨i,wt,dp,g⟩ a w hI H;dsimp only at hI H;obtain ⟨hi,hw0,hw1,hd0,hd1,hgm⟩:=hI;have htk:=Vf l i hi;dsimp only [lca,bR] at H;refine kP H (SQ fun _ K1=>SR fun _ K2=>Rm O (Rm O (Rl jy O (Rc O (Rm O (Sp 18 O ?_ ?_)))))) <;> clear H
  ·intro h18 a H
   try have qJ:=dT h18
   have hi1:i < l.length:=by omega
   obtain ⟨b,o,pA,pn,pc,dA,dn,dc,yA,yn,yc,fA,fn,fc,rA,rn,rc,rfl,hrow,hhd,hfl,hrw⟩:=DW hi1 hg;have r3:aQ g b (o+i*11+3)=some (.string l[i].text):=aK hgm (hrow 3 _ O);have r4:aQ g b (o+i*11+4+0)=some (.slice pA pn pc):=aK hgm (hrow 4 _ O);have r7:aQ g b (o+i*11+4+1+2)=some (.slice dA dn dc):=aK hgm (hrow 7 _ O);have r8:aQ g b (o+i*11+4+1+3)=some (.slice yA yn yc):=aK hgm (hrow 8 _ O);have r9:aQ g b (o+i*11+9)=some (.slice fA fn fc):=aK hgm (hrow 9 _ O);have Tq:aQ g b (o+i*11+10)=some (.slice rA rn rc):=aK hgm (hrow 10 _ O);have q1:=aeQ l[i].text.size;have hzi:=xD l[i];have hwh:=wH hhd;have hzs:=afH hi1;have hzt:=Vf l (i+1) V;have hzm:=Lg (dK hi1);have hrl:=Fy l[i].rows
   obtain rfl:rn=l[i].rows.length:=by
    obtain ⟨_,_,e,-⟩:=hrw.slice;exact Az
   refine kH H (YM h18 O (YC h18 O (Pt h18 O (Kz K2 (Cd O ?_ ?_))))) <;> clear H K2
   ·intro h21 a H
    try have kN:=dT h21
    refine kP H (Kc K1 (SQ fun _ K2=>SB (SQ fun _ K4=>?_)));clear H K1;intro a H;refine dI fF [[],[],[],[1,2],[1,2,3],ra 1 4,ra 1 5,ra 1 6,ra 0 8,[],[],[9,10],[9,10,11],ra 9 4,ra 9 5,ra 9 6,ra 9 7,ra 0 17,[],[],[18,19],[18,19,20],ra 18 4,ra 18 5,ra 18 6,ra 18 7,ra 0 26,[],[],[27,28],[27,28,29],ra 27 4,ra 27 5,ra 27 6,ra 0 34,ra 0 35] [35] Z [_,_,_,_,_,_,_,_,_,_,_,_,_,_,_,_,_,_,_,_,_,_,_,_,_,_,_,_,_,_,_,_,_,vi ((l[i].text.size:Int).tdiv 20),_] H (aF (Z0 O (Rm O)) (Z0 O (Rm O)) (Z0 O (Rm O)) (Z2 1 25 2 26 O (Ri jy iG O O)) (aF (Z1 3 27 O (Rf Hz O)) (Z1 4 28 O (Rf Hy O)) (X1 5 29 O fun hG=>Rg KI O (aK hG r4)) (Z1 6 30 O (Rl KR O)) (aF (Z2 0 24 7 31 O (Rd O)) (Z0 O (Rm O)) (Z0 O (Rm O)) (Z2 9 33 10 34 O (Ri jy iG O O)) (aF (Z1 11 35 O (Rf Hz O)) (Z1 12 36 O (Rf yG O)) (Z1 13 37 O (Rf Hu O)) (X1 14 38 O fun hG=>Rg KJ O (aK hG r7)) (aF (Z1 15 39 O (Rl KS O)) (Z2 8 32 16 40 O (Rd O)) (Z0 O (Rm O)) (Z0 O (Rm O)) (aF (Z2 18 42 19 43 O (Ri jy iG O O)) (Z1 20 44 O (Rf Hz O)) (Z1 21 45 O (Rf yG O)) (Z1 22 46 O (Rf Hw O)) (aF (X1 23 47 O fun hG=>Rg KL O (aK hG r8)) (Z1 24 48 O (Rl KT O)) (Z2 17 41 25 49 O (Rd O)) (Z0 O (Rm O)) (aF (Z0 O (Rm O)) (Z2 27 51 28 52 O (Ri jy iG O O)) (Z1 29 53 O (Rf DT O)) (X1 30 54 O fun hG=>Rg iZ O (aK hG r3)) (aF (Z1 31 55 O (Rv iH O)) ?_ (Z2 26 50 33 57 O (Rd O)) (gB O) fB))))))))) ?_
    ·refine CK 32 56 O O fun _ a w G1 hG HT H fin=>?_;refine TY _ H wn O O V O V V O ?_;exact Dj
    clear H;intro a w G Iu H hv;have H:=H.ak (hv 34 58 O O) O;clear hv;refine kH H (Ra O ?_);clear H;intro a H;refine aB ⟨O,?_⟩;refine K4 _ _ ?_;clear K4;refine kP H (SR fun _ K1=>Rm O (Rm O (Ri jy iG O O (Rf DU O (Rg oP O (aK Iu r9) ?_)))));clear H;intro a H;refine s_call He H wn O (ih _ _ H.ro l[i].flow _ (hfl.mono fun b o h=>Iu _ _ (hgm b o h)) V) O ?_;clear H;rintro v65 G65 a w ⟨w65,d65,rfl,k1,k2,k3,k4⟩ abf H;refine kH H (Rm O ?_);clear H;intro a H;(iterate 2 refine fG H wn O O O ?_;clear H;intro a H);refine kH H (Ra O (au K1 O (SR fun _ K4=>Rm O (Rm O (Rd O (Rm O (Rm O (Rd O ?_))))))));clear H K1;intro a H;refine EN H wn O O O ?_;clear H;intro a H;refine kH H (Ra O (au K4 O (SR fun _ K1=>au K1 O (SB ?_))));clear H K4 K1;intro a H;skip;refine dz (ι:=Nat × Int × Int × GH) (Tc:=[(0,_),(4,_)]) (Lc:=[]) (fun gh=>[(2,vi gh.2.1),(3,vi gh.2.2.1),(7,vi gh.1)]) (fun gh=>[]) (fun gh=>gh.2.2.2) (fun gh=>gh.1<=l[i].rows.length∧0<=gh.2.1∧gh.2.1<=wt+pn+dn+yn+(l[i].text.size:Int).tdiv 20+w65+jl (l[i].rows.take gh.1)∧0<=gh.2.2.1∧gh.2.2.1<=fI l+1∧(∀ b o,g b=some o->gh.2.2.2 b=some o)) (fun gh=>l[i].rows.length - gh.1) ((0,_,_,_)) (by exact H.sub ⟨O,O,O,O,O,aH⟩) ?_ ?_
    ·exact ⟨V,by dsimp only;omega,by dsimp only;simp [jl,gY],by dsimp only;omega,by dsimp only;omega,fun b o h=>abf _ _ (Iu _ _ h)⟩
    clear H;rintro ⟨j,wj,dj,g2⟩ a w hI H;dsimp only at hI H;obtain ⟨hj,hx0,hx1,hx2,hx3,hgg⟩:=hI;have fE:=fun b o h=>hgg _ _ (hgm b o h);have hrt:=Vh l[i].rows j;dsimp only [lca,bR] at H;refine kP H (SQ fun _ K1=>SR fun _ K4=>Rm O (Rm O (Rm O (Ri jy iG O O (Rf yH O (Rg zU O (aK hgg Tq) (Rl jH O (Rc O (Rm O (Sp 83 O ?_ ?_)))))))))) <;> clear H
    ·intro uW a H
     try have p83:=dT uW
     have hj1:j < l[i].rows.length:=by omega
     obtain ⟨rA',rc',e',-,-,hrg⟩:=hrw.slice;obtain ⟨GY,-,-⟩:=Value.slice.inj e';subst GY;obtain ⟨b1,o1,cs1,rfl,-,BH,BG⟩:=hrg j l[i].rows[j].dat (by simp [hj1]);obtain ⟨qA,qn,qc,uA,un,uc,zA,zn,zc,xA,xn,xc,rfl,hh1,hfc⟩:=BG.row;replace BH:=fun j u hj=>aK fE (BH j u hj);have hwr:=wH hh1;have hr2:=afI hj1;have ahn:=Vh l[i].rows (j+1);have hre:=sD l[i].rows[j];have hrm:=uw (dK hj1)
     obtain rfl:xn=l[i].rows[j].cells.length:=by
      obtain ⟨_,_,e,-⟩:=hfc.slice;exact Az
     have hcl:=Fx l[i].rows[j].cells;refine kH H (YM uW O (YC uW O (Pt uW O (Kz K4 (Cd O ?_ ?_))))) <;> clear H K4
     ·intro mI a H
      try have Ti:=dT mI
      refine kP H (Kc K1 (SQ fun _ K4=>SB (SR fun _ K5=>Rm O (Rm O (Ri jy iG O O (Rf yH O (Rg zU O (aK hgg Tq) (Rm O (Ri jH jw O O ?_)))))))));clear H K1;intro a H;refine dL jw (cs:=[_,_,_,_,_,_]) H wn O O (fun j v hj=>H.hp.aQ (BH j v hj)) O ?_;clear H;intro a H;refine jv jw H wn O ?_;clear H;intro b8 a w Q8 H;refine eZ jw 0 (vs:=[_,_,_,_,_,_]) H wn O ?_;clear H;intro w H;refine K5 _ _ ?_;clear K5;refine kP H (SR fun _ K1=>Rm O (Rd O (Rf HV O (fJ Hy KI 0 O O (Rl KR O (Rd O (Rf HV O (Rf yG O (fJ Hu KJ 0 O O (Rl KS O (Rd O (Rf HV O (Rf yG O (fJ Hw KL 0 O O (Rl KT O (Rd O (au K1 O (SR fun _ K5=>au K5 O (SB ?_)))))))))))))))))));clear H K1 K5;intro a H;skip;refine dz (ι:=Nat × Int × Int × GH) (Tc:=[(0,_),(4,_),(7,_),(8,_)]) (Lc:=[(_,_)]) (fun gh=>[(2,vi gh.2.1),(3,vi gh.2.2.1),(9,vi gh.1)]) (fun gh=>[]) (fun gh=>gh.2.2.2) (fun gh=>gh.1<=l[i].rows[j].cells.length∧0<=gh.2.1∧gh.2.1<=wj+1+qn+un+zn+iT (l[i].rows[j].cells.take gh.1)∧0<=gh.2.2.1∧gh.2.2.1<=fI l+1∧(∀ b o,g2 b=some o->gh.2.2.2 b=some o)) (fun gh=>l[i].rows[j].cells.length - gh.1) ((0,_,_,_)) (by exact H.sub ⟨O,O,O,O,O,O,O,aH⟩) ?_ ?_
      ·exact ⟨V,by dsimp only;omega,by dsimp only;simp [iT,gY],by dsimp only;omega,by dsimp only;omega,fun _ _ h=>h⟩
      clear H;rintro ⟨q,wq,dq,g3⟩ a w hI H;dsimp only at hI H;obtain ⟨hq,hy0,hy1,hy2,hy3,IU⟩:=hI;have nC:=fun b o h=>IU _ _ (fE b o h);have hct:=Ve l[i].rows[j].cells q;dsimp only [lca,bR] at H;refine kP H (SQ fun _ K1=>SR fun _ K5=>Rm O (fJ nU mY 0 O O (Rl jI O (Rc O (Rm O (Sp 121 O ?_ ?_)))))) <;> clear H
      ·intro uT a H
       try have acQ:=dT uT
       have hq1:q < l[i].rows[j].cells.length:=by omega
       obtain ⟨xA',xc',e3',-,-,hcg⟩:=hfc.slice;obtain ⟨e4',-,-⟩:=Value.slice.inj e3';subst e4';obtain ⟨b2,o2,cs2,rfl,-,hrow2,pQ⟩:=hcg q l[i].rows[j].cells[q].dat (by simp [hq1]);obtain ⟨aA,an,ac,eA,en,ec,iA,BP,ic,fA',fn',fc',rfl,qE,hf2⟩:=pQ.cell;replace hrow2:=fun j u hj=>aK nC (hrow2 j u hj);have c1:aQ g3 b2 (o2+q*7+1+0)=some (.slice aA an ac):=hrow2 1 _ O;have c4:aQ g3 b2 (o2+q*7+1+1+2)=some (.slice eA en ec):=hrow2 4 _ O;have c5:aQ g3 b2 (o2+q*7+1+1+3)=some (.slice iA BP ic):=hrow2 5 _ O;have hwc:=wH qE;have hc2':=afG hq1;have ahe:=Ve l[i].rows[j].cells (q+1);have hce:=qU l[i].rows[j].cells[q];have hcm:=uq (dK hq1);refine kH H (YM uT O (YC uT O (Pt uT O (Kz K5 (Cd O ?_ ?_))))) <;> clear H K5
       ·intro Ib a H
        try have acR:=dT Ib
        refine kP H (Kc K1 (SQ fun _ K5=>SB (SR fun _ K6=>fJ nU mY 0 O O (Rm O (Ri jI jG O O (Rf yI O (Rg oP O (hrow2 6 _ O) ?_)))))));clear H K1;intro a H;refine s_call He H wn O (ih _ _ H.ro l[i].rows[j].cells[q].flow _ (hf2.mono nC) V) O ?_;clear H;rintro ahI agc a w ⟨zW,DI,rfl,k1,k2,k3,k4⟩ Ei H;refine kH H (Rm O ?_);clear H;intro a H;(iterate 2 refine fG H wn O O O ?_;clear H;intro a H);refine kH H (Ra O (au K6 O ?_));clear H K6;intro a H;have abS:=H.get 2 (vi wq) O;have abT:=H.get 3 (vi dq) O;have H:=H.sub (T':=[(0,_),(4,_),(7,_),(8,_),(9,_),(10,_),(11,_)]) ⟨O,O,O,O,O,O,O,aH⟩;refine Xg (fF) [[],[0],[],[0,1,2],[],[4],[],[4,5,6],ra 4 4,ra 4 5,ra 4 6,ra 4 7,ra 0 12,[],[13],[],[13,14,15],ra 13 4,ra 13 5,ra 13 6,ra 13 7,ra 13 8,ra 0 22,[],[23],[],[23,24,25],ra 23 4,ra 23 5,ra 23 6,ra 23 7,ra 23 8,ra 0 32,[],[],[34],[33,34,35],ra 0 33,ra 0 38] Z ([(2,vi wq,37,false),(3,vi dq,38,false),(137,vi wq,0,true),(138,vi (wq+1),1,true),(139,vi zW,2,true),(140,vi (wq+1+zW),3,true),(141,(aD b8 (0+5)),4,true),(142,.slice (some ⟨b2,o2,none⟩) l[i].rows[j].cells.length xc,5,true),(143,vi q,6,true),(144,(aD b2 (o2+q*7)),7,true),(145,(aD b2 (o2+q*7+1)),8,true),(146,(aD b2 (o2+q*7+1+0)),9,true),(147,.slice aA an ac,10,true),(148,vi an,11,true),(149,vi (wq+1+zW+an),12,true),(150,(aD b8 (0+5)),13,true),(151,.slice (some ⟨b2,o2,none⟩) l[i].rows[j].cells.length xc,14,true),(152,vi q,15,true),(153,(aD b2 (o2+q*7)),16,true),(154,(aD b2 (o2+q*7+1)),17,true),(155,(aD b2 (o2+q*7+1+1)),18,true),(156,(aD b2 (o2+q*7+1+1+2)),19,true),(157,.slice eA en ec,20,true),(158,vi en,21,true),(159,vi (wq+1+zW+an+en),22,true),(160,(aD b8 (0+5)),23,true),(161,.slice (some ⟨b2,o2,none⟩) l[i].rows[j].cells.length xc,24,true),(162,vi q,25,true),(163,(aD b2 (o2+q*7)),26,true),(164,(aD b2 (o2+q*7+1)),27,true),(165,(aD b2 (o2+q*7+1+1)),28,true),(166,(aD b2 (o2+q*7+1+1+3)),29,true),(167,.slice iA BP ic,30,true),(168,vi BP,31,true),(169,vi (wq+1+zW+an+en+BP),32,true),(170,vi dq,33,true),(171,vi DI,34,true),(172,vi (DI+1),35,true),(173,vi (max dq (DI+1)),36,true),(2,vi (wq+1+zW+an+en+BP),37,true),(3,vi (max dq (DI+1)),38,true)]) H ?_ ?_ ?_
        ·exact .cf abS (.cf abT (.ct Z))
        ·clear H;refine aF ?_ ?_ ?_ ?_ (aF ?_ ?_ ?_ ?_ (aF ?_ ?_ ?_ ?_ (aF ?_ ?_ ?_ ?_ (aF ?_ ?_ ?_ ?_ (aF ?_ ?_ ?_ ?_ (aF ?_ ?_ ?_ ?_ (aF ?_ ?_ ?_ ?_ (aF ?_ ?_ ?_ ?_ (gN ?_ (gN ?_ (gN ?_ fB)))))))))))
         ·intro av a w ah hc hd HT hE;have H:=HT;have H:=H.dD (hE.at 0 O (hd 37 Y Y));have Hb:=H.full;have H:=Hb;clear hc;refine kH H (Rm O ?_);clear H;intro a H;refine aB ⟨O,?_⟩;exact fU 2 O Z (rfl) HT Hb hE H
         ·intro av a w ah hc hd HT hE;have H:=HT;have H:=H.dD (hE.at 2 O (hc 0 Y));have Hb:=H.full;have H:=Hb;clear hc;refine kH H (Rd O ?_);clear H;intro a H;refine aB ⟨O,?_⟩;exact fU 3 O Z (rfl) HT Hb hE H
         ·intro av a w ah hc hd HT hE;have H:=HT;have Hb:=H.full;have H:=Hb;clear hc;refine kH H (Rm O ?_);clear H;intro a H;refine aB ⟨O,?_⟩;exact fU 4 O Z (rfl) HT Hb hE H
         ·intro av a w ah hc hd HT hE;have H:=HT;have H:=H.dD (hE.at 3 O (hc 1 Y));have H:=H.dD (hE.at 4 O (hc 2 Y));have Hb:=H.full;have H:=Hb;clear hc;refine kH H (Rd O ?_);clear H;intro a H;refine aB ⟨O,?_⟩;exact fU 5 O Z (rfl) HT Hb hE H
         ·intro av a w ah hc hd HT hE;have H:=HT;have Hb:=H.full;have H:=Hb;clear hc;refine kH H (Rf nU O ?_);clear H;intro a H;refine aB ⟨O,?_⟩;exact fU 6 O Z (rfl) HT Hb hE H
         ·intro av a w ah hc hd HT hE;have H:=HT;have H:=H.dD (hE.at 6 O (hc 4 Y));have Hb:=H.full;have H:=Hb;clear hc;refine kH H (Ro mY 0 O ?_);clear H;intro a H;refine aB ⟨O,?_⟩;exact fU 7 O Z (rfl) HT Hb hE H
         ·intro av a w ah hc hd HT hE;have H:=HT;have Hb:=H.full;have H:=Hb;clear hc;refine kH H (Rm O ?_);clear H;intro a H;refine aB ⟨O,?_⟩;exact fU 8 O Z (rfl) HT Hb hE H
         ·intro av a w ah hc hd HT hE;have H:=HT;have H:=H.dD (hE.at 7 O (hc 5 Y));have H:=H.dD (hE.at 8 O (hc 6 Y));have Hb:=H.full;have H:=Hb;clear hc;refine kH H (Ri jI jG O O ?_);clear H;intro a H;refine aB ⟨O,?_⟩;exact fU 9 O Z (rfl) HT Hb hE H
         ·intro av a w ah hc hd HT hE;have H:=HT;have H:=H.dD (hE.at 9 O (hc 7 Y));have Hb:=H.full;have H:=Hb;clear hc;refine kH H (Rf HZ O ?_);clear H;intro a H;refine aB ⟨O,?_⟩;exact fU 10 O Z (rfl) HT Hb hE H
         ·intro av a w ah hc hd HT hE;have H:=HT;have H:=H.dD (hE.at 10 O (hc 8 Y));have Hb:=H.full;have H:=Hb;clear hc;refine kH H (Rf Hy O ?_);clear H;intro a H;refine aB ⟨O,?_⟩;exact fU 11 O Z (rfl) HT Hb hE H
         ·intro av a w ah hc hd HT hE;have H:=HT;have H:=H.dD (hE.at 11 O (hc 9 Y));have Hb:=H.full;have H:=Hb;clear hc;refine kH H (Rg KI O (aK Ei c1) ?_);clear H;intro a H;refine aB ⟨O,?_⟩;exact fU 12 O Z (rfl) HT Hb hE H
         ·intro av a w ah hc hd HT hE;have H:=HT;have H:=H.dD (hE.at 12 O (hc 10 Y));have Hb:=H.full;have H:=Hb;clear hc;refine kH H (Rl KR O ?_);clear H;intro a H;refine aB ⟨O,?_⟩;exact fU 13 O Z (rfl) HT Hb hE H
         ·intro av a w ah hc hd HT hE;have H:=HT;have H:=H.dD (hE.at 5 O (hc 3 Y));have H:=H.dD (hE.at 13 O (hc 11 Y));have Hb:=H.full;have H:=Hb;clear hc;refine kH H (Rd O ?_);clear H;intro a H;refine aB ⟨O,?_⟩;exact fU 14 O Z (rfl) HT Hb hE H
         ·intro av a w ah hc hd HT hE;have H:=HT;have Hb:=H.full;have H:=Hb;clear hc;refine kH H (Rf nU O ?_);clear H;intro a H;refine aB ⟨O,?_⟩;exact fU 15 O Z (rfl) HT Hb hE H
         ·intro av a w ah hc hd HT hE;have H:=HT;have H:=H.dD (hE.at 15 O (hc 13 Y));have Hb:=H.full;have H:=Hb;clear hc;refine kH H (Ro mY 0 O ?_);clear H;intro a H;refine aB ⟨O,?_⟩;exact fU 16 O Z (rfl) HT Hb hE H
         ·intro av a w ah hc hd HT hE;have H:=HT;have Hb:=H.full;have H:=Hb;clear hc;refine kH H (Rm O ?_);clear H;intro a H;refine aB ⟨O,?_⟩;exact fU 17 O Z (rfl) HT Hb hE H
         ·intro av a w ah hc hd HT hE;have H:=HT;have H:=H.dD (hE.at 16 O (hc 14 Y));have H:=H.dD (hE.at 17 O (hc 15 Y));have Hb:=H.full;have H:=Hb;clear hc;refine kH H (Ri jI jG O O ?_);clear H;intro a H;refine aB ⟨O,?_⟩;exact fU 18 O Z (rfl) HT Hb hE H
         ·intro av a w ah hc hd HT hE;have H:=HT;have H:=H.dD (hE.at 18 O (hc 16 Y));have Hb:=H.full;have H:=Hb;clear hc;refine kH H (Rf HZ O ?_);clear H;intro a H;refine aB ⟨O,?_⟩;exact fU 19 O Z (rfl) HT Hb hE H
         ·intro av a w ah hc hd HT hE;have H:=HT;have H:=H.dD (hE.at 19 O (hc 17 Y));have Hb:=H.full;have H:=Hb;clear hc;refine kH H (Rf yG O ?_);clear H;intro a H;refine aB ⟨O,?_⟩;exact fU 20 O Z (rfl) HT Hb hE H
         ·intro av a w ah hc hd HT hE;have H:=HT;have H:=H.dD (hE.at 20 O (hc 18 Y));have Hb:=H.full;have H:=Hb;clear hc;refine kH H (Rf Hu O ?_);clear H;intro a H;refine aB ⟨O,?_⟩;exact fU 21 O Z (rfl) HT Hb hE H
         ·intro av a w ah hc hd HT hE;have H:=HT;have H:=H.dD (hE.at 21 O (hc 19 Y));have Hb:=H.full;have H:=Hb;clear hc;refine kH H (Rg KJ O (aK Ei c4) ?_);clear H;intro a H;refine aB ⟨O,?_⟩;exact fU 22 O Z (rfl) HT Hb hE H
         ·intro av a w ah hc hd HT hE;have H:=HT;have H:=H.dD (hE.at 22 O (hc 20 Y));have Hb:=H.full;have H:=Hb;clear hc;refine kH H (Rl KS O ?_);clear H;intro a H;refine aB ⟨O,?_⟩;exact fU 23 O Z (rfl) HT Hb hE H
         ·intro av a w ah hc hd HT hE;have H:=HT;have H:=H.dD (hE.at 14 O (hc 12 Y));have H:=H.dD (hE.at 23 O (hc 21 Y));have Hb:=H.full;have H:=Hb;clear hc;refine kH H (Rd O ?_);clear H;intro a H;refine aB ⟨O,?_⟩;exact fU 24 O Z (rfl) HT Hb hE H
         ·intro av a w ah hc hd HT hE;have H:=HT;have Hb:=H.full;have H:=Hb;clear hc;refine kH H (Rf nU O ?_);clear H;intro a H;refine aB ⟨O,?_⟩;exact fU 25 O Z (rfl) HT Hb hE H
         ·intro av a w ah hc hd HT hE;have H:=HT;have H:=H.dD (hE.at 25 O (hc 23 Y));have Hb:=H.full;have H:=Hb;clear hc;refine kH H (Ro mY 0 O ?_);clear H;intro a H;refine aB ⟨O,?_⟩;exact fU 26 O Z (rfl) HT Hb hE H
         ·intro av a w ah hc hd HT hE;have H:=HT;have Hb:=H.full;have H:=Hb;clear hc;refine kH H (Rm O ?_);clear H;intro a H;refine aB ⟨O,?_⟩;exact fU 27 O Z (rfl) HT Hb hE H
         ·intro av a w ah hc hd HT hE;have H:=HT;have H:=H.dD (hE.at 26 O (hc 24 Y));have H:=H.dD (hE.at 27 O (hc 25 Y));have Hb:=H.full;have H:=Hb;clear hc;refine kH H (Ri jI jG O O ?_);clear H;intro a H;refine aB ⟨O,?_⟩;exact fU 28 O Z (rfl) HT Hb hE H
         ·intro av a w ah hc hd HT hE;have H:=HT;have H:=H.dD (hE.at 28 O (hc 26 Y));have Hb:=H.full;have H:=Hb;clear hc;refine kH H (Rf HZ O ?_);clear H;intro a H;refine aB ⟨O,?_⟩;exact fU 29 O Z (rfl) HT Hb hE H
         ·intro av a w ah hc hd HT hE;have H:=HT;have H:=H.dD (hE.at 29 O (hc 27 Y));have Hb:=H.full;have H:=Hb;clear hc;refine kH H (Rf yG O ?_);clear H;intro a H;refine aB ⟨O,?_⟩;exact fU 30 O Z (rfl) HT Hb hE H
         ·intro av a w ah hc hd HT hE;have H:=HT;have H:=H.dD (hE.at 30 O (hc 28 Y));have Hb:=H.full;have H:=Hb;clear hc;refine kH H (Rf Hw O ?_);clear H;intro a H;refine aB ⟨O,?_⟩;exact fU 31 O Z (rfl) HT Hb hE H
         ·intro av a w ah hc hd HT hE;have H:=HT;have H:=H.dD (hE.at 31 O (hc 29 Y));have Hb:=H.full;have H:=Hb;clear hc;refine kH H (Rg KL O (aK Ei c5) ?_);clear H;intro a H;refine aB ⟨O,?_⟩;exact fU 32 O Z (rfl) HT Hb hE H
         ·intro av a w ah hc hd HT hE;have H:=HT;have H:=H.dD (hE.at 32 O (hc 30 Y));have Hb:=H.full;have H:=Hb;clear hc;refine kH H (Rl KT O ?_);clear H;intro a H;refine aB ⟨O,?_⟩;exact fU 33 O Z (rfl) HT Hb hE H
         ·intro av a w ah hc hd HT hE;have H:=HT;have H:=H.dD (hE.at 24 O (hc 22 Y));have H:=H.dD (hE.at 33 O (hc 31 Y));have Hb:=H.full;have H:=Hb;clear hc;refine kH H (Rd O ?_);clear H;intro a H;refine aB ⟨O,?_⟩;exact fU 34 O Z (rfl) HT Hb hE H
         ·intro av a w ah hc hd HT hE;have H:=HT;have H:=H.dD (hE.at 1 O (hd 38 Y Y));have Hb:=H.full;have H:=Hb;clear hc;refine kH H (Rm O ?_);clear H;intro a H;refine aB ⟨O,?_⟩;exact fU 35 O Z (rfl) HT Hb hE H
         ·intro av a w ah hc hd HT hE;have H:=HT;have Hb:=H.full;have H:=Hb;clear hc;refine kH H (Rm O ?_);clear H;intro a H;refine aB ⟨O,?_⟩;exact fU 36 O Z (rfl) HT Hb hE H
         ·intro av a w ah hc hd HT hE;have H:=HT;have H:=H.dD (hE.at 36 O (hc 34 Y));have Hb:=H.full;have H:=Hb;clear hc;refine kH H (Rd O ?_);clear H;intro a H;refine aB ⟨O,?_⟩;exact fU 37 O Z (rfl) HT Hb hE H
         ·intro av a w ah hc hd HT hE;have H:=HT;have H:=H.dD (hE.at 35 O (hc 33 Y));have H:=H.dD (hE.at 37 O (hc 35 Y));have Hb:=H.full;have H:=Hb;clear hc;refine EN H wn O O O ?_;clear H;intro a H;refine aB ⟨O,?_⟩;exact fU 38 O Z (rfl) HT Hb hE H
         ·intro av a w ah hc hd HT hE;have H:=HT;have H:=H.dD (hE.at 34 O (hc 32 Y));have Hb:=H.full;have H:=Hb;clear hc;refine kH H (Ra O ?_);clear H;intro a H;refine aB ⟨O,?_⟩;exact fU 39 O Z (rfl) HT Hb hE H
         intro av a w ah hc hd HT hE;have H:=HT;have H:=H.dD (hE.at 38 O (hc 36 Y));have Hb:=H.full;have H:=Hb;clear hc;refine kH H (Ra O ?_);clear H;intro a H;refine aB ⟨O,?_⟩;exact fU 40 O Z (rfl) HT Hb hE H
        clear H;intro av a w hall H hE;have H:=H.dD (hE.at 39 O (hall 37 Y));have H:=H.dD (hE.at 40 O (hall 38 Y));clear hE hall;skip;refine K5 _ _ ?_;clear K5;refine kP H (SC (Rm O (Rd O (Ra O ?_))));clear H;intro a H;refine aB ?_;refine aX ((q+1,_,_,_)) (by exact H.sub ⟨O,O,O,O,O,O,O,aH⟩) ?_
        (try dsimp only);exact ⟨V,V,V,V,V,fun b o h=>Ei _ _ (IU b o h)⟩
       intro Ib a H
       try have acR:=dF Ib
       refine bQ ?_;refine K4 _ _ ?_;clear K4;refine kP H (SC (Rm O (Rd O (Ra O ?_))));clear H;intro a H;refine aB ?_;refine aX ((j+1,wq,dq,g3)) (by exact (H.dB (Pl:=[_]) (bS:=[]) [] Y O).sub ⟨O,O,O,O,O,aH⟩) ?_
       (try dsimp only);exact MI
      intro uT a H
      try have acQ:=dF uT
      refine kH H (aR uT O (Pf uT O (Kz K5 (Cf O O ?_))));clear H K5;intro a H;refine bQ ?_;refine K4 _ _ ?_;clear K4;refine kP H (SC (Rm O (Rd O (Ra O ?_))));clear H;intro a H;refine aB ?_;refine aX ((j+1,wq,dq,g3)) (by exact (H.dB (Pl:=[_]) (bS:=[]) [] Y O).sub ⟨O,O,O,O,O,aH⟩) ?_
      (try dsimp only);exact MI
     intro mI a H
     try have Ti:=dF mI
     refine bQ ?_;refine K2 _ _ ?_;clear K2;refine kP H (SC (Rm O (Rd O (Ra O ?_))));clear H;intro a H;refine aB ?_;refine aX ((i+1,wj,dj,g2)) (by exact H.sub ⟨O,O,O,O,aH⟩) ?_
     (try dsimp only);exact ⟨V,hx0,V,hx2,hx3,fE⟩
    intro uW a H
    try have p83:=dF uW
    refine kH H (aR uW O (Pf uW O (Kz K4 (Cf O O ?_))));clear H K4;intro a H;refine bQ ?_;refine K2 _ _ ?_;clear K2;refine kP H (SC (Rm O (Rd O (Ra O ?_))));clear H;intro a H;refine aB ?_;refine aX ((i+1,wj,dj,g2)) (by exact H.sub ⟨O,O,O,O,aH⟩) ?_
    (try dsimp only);exact ⟨V,hx0,V,hx2,hx3,fE⟩
   intro h21 a H
   try have kN:=dF h21
   refine bQ ?_;refine K3 _ _ ?_;clear K3;refine kP H (SR fun _ K2=>Rm O (Rm O (Ra O (au K2 O ?_))));clear H K2;intro a H;refine bN ?_;refine (bZ H results17 (.cons (aJ H O) (.cons (aJ H O) .nil)) ?_).1;exact H.rt ⟨_,_,O,hw0,V,hd0,hd1⟩
  intro h18 a H
  try have qJ:=dF h18
  refine kH H (aR h18 O (Pf h18 O (Kz K2 (Cf O O ?_))));clear H K2;intro a H;refine bQ ?_;refine K3 _ _ ?_;clear K3;refine kP H (SR fun _ K2=>Rm O (Rm O (Ra O (au K2 O ?_))));clear H K2;intro a H;refine bN ?_;refine (bZ H results17 (.cons (aJ H O) (.cons (aJ H O) .nil)) ?_).1;exact H.rt ⟨_,_,O,hw0,V,hd0,hd1⟩
theorem Qm:bD 25:=bH func25 O
theorem KC {G:GH} {S:List (List Int)} {m i k:Nat} {A:Option Addr} {n c:Nat} (hv:ay G (.sl 1 ((lI S m).map jF)) (.slice A n c)) (hi:i<=S.length) (hk:k<=m) :
  ∃ b o nb no bc,A=some ⟨b,o,none⟩∧aQ G b (o+i*1)=some (.slice (some ⟨nb,no,none⟩) (m+1) bc)∧aQ G nb (no+k*1)=some (vi (tot (aP S) S.length m i k)):=by
 obtain ⟨b,o,bA,bc,rfl,g1,g2⟩:=tX hv (show i < (lI S m).length by simp [lI];omega)
 have hr:(lI S m)[i]'(by simp [lI];omega)=lH S m i:=by simp [lI]
 obtain ⟨nb,no,rfl,g3⟩:=mO g2 (show k < ((lI S m)[i]'(by simp [lI];omega)).length by rw [hr];simp [lH];omega);refine ⟨b,o,nb,no,bc,O,?_,?_⟩
 ·rw [g1,show ((lI S m)[i]'(by simp [lI];omega)).length=m+1 by rw [hr];simp [lH]]
 rw [g3];simp [lI,lH]
theorem SA {G:GH}:∀ (B A:List fD) (vs:List aj),bU G 3 (A.map fD.dat) vs->bU G 3 ((A++B).map fD.dat) (vs++(B.map fun x=>[vi x.a,vi x.b,vi x.score]).flatten)
 | [],A,vs,h=>by simpa using h
 | x :: B,A,vs,h=>by
  have h2:=h.snoc (SF G x) O;have h3:=SA B (A++[x]) (vs++[vi x.a,vi x.b,vi x.score]) (by simpa using h2)
  simpa using h3
def zq (l:List fD):List aj:=(l.map fun x=>[vi x.a,vi x.b,vi x.score]).flatten
theorem SV (G:GH) (l:List fD):bU G 3 (l.map fD.dat) (zq l):=by simpa [zq] using SA (G:=G) l [] [] bU.nil
theorem acA (l:List fD) (x:fD):zq (l++[x])=zq l++[vi x.a,vi x.b,vi x.score]:=by simp [zq]
theorem sU {p:Prop} (h:p:=by
 intro av a w G1 _ ah hc hG HT hv;have H:=HT;clear ah;have H:=H.ak (hv 8 40 (hc 8 Y) O) O;have Hb:=H.full;have H:=Hb;clear hc;refine kH H (YM (iM hge) O ?_);exact aI):p:=h
theorem Gf {p:Prop} (h:p:=by
 have H:=H.ak (hv 8 40 (hc 8 Y) O) O;have Hb:=H.full;have H:=Hb;clear hc;refine rV _ H (wg H O O (iM hge)) O O O V V O ?_;exact aI):p:=h
theorem MN {p:Prop} (h:p:=by
 intro av a w G1 _ ah hc hG HT hv;have H:=HT;clear ah;have H:=H.ak (hv 0 85 (hc 0 Y) O) O;have H:=H.ak (hv 2 87 (hc 2 Y) O) O;have Hb:=H.full;have H:=Hb;clear hc;refine bO gI bI (i+1) H wn O O O V O ?_;exact aI):p:=h
theorem MW {p:Prop} (h:p:=by
 intro av a w G1 _ ah hc hG HT hv;have H:=HT;clear ah;have H:=H.ak (hv 10 95 (hc 10 Y) O) O;have Hb:=H.full;have H:=Hb;clear hc;refine kH H (Rg bI O (aK hG (aK jq gt0)) ?_);exact aI):p:=h
theorem MX {p:Prop} (h:p:=by
 intro av a w G1 _ ah hc hG HT hv;have H:=HT;clear ah;have H:=H.ak (hv 13 98 (hc 13 Y) O) O;have Hb:=H.full;have H:=Hb;clear hc;refine kH H (Rg aG O (aK hG (aK jq QW)) ?_);exact aI):p:=h
theorem MZ {p:Prop} (h:p:=by
 intro av a w G1 _ ah hc hG HT hv;have H:=HT;clear ah;have H:=H.ak (hv 3 88 (hc 3 Y) O) O;have Hb:=H.full;have H:=Hb;clear hc;refine kH H (Rg bI O (aK hG (aK jq H9)) ?_);exact aI):p:=h
theorem M0 {p:Prop} (h:p:=by
 intro av a w G1 _ ah hc hG HT hv;have H:=HT;clear ah;have H:=H.ak (hv 6 91 (hc 6 Y) O) O;have Hb:=H.full;have H:=Hb;clear hc;refine kH H (Rg aG O (aK hG (aK jq ZU)) ?_);exact aI):p:=h
theorem Na {p:Prop} (h:p:=by
 intro av a w G1 _ ah hc hG HT hv;have H:=HT;clear ah;have H:=H.ak (hv 5 37 (hc 5 Y) O) O;have Hb:=H.full;have H:=Hb;clear hc;refine kH H (Rg aG O (aK hG gn) ?_);exact aI):p:=h
theorem NU {p:Prop} (h:p:=by
 intro av a w G1 _ ah hc hG HT hv;have H:=HT;clear ah;have H:=H.ak (hv 11 96 (hc 11 Y) O) O;have H:=H.ak (hv 12 97 (hc 12 Y) O) O;exact xY):p:=h
theorem NY {p:Prop} (h:p:=by
 intro av a w G1 _ ah hc hG HT hv;have H:=HT;clear ah;have H:=H.ak (hv 7 92 (hc 7 Y) O) O;have H:=H.ak (hv 14 99 (hc 14 Y) O) O;exact uM):p:=h
theorem NZ {p:Prop} (h:p:=by
 intro av a w G1 _ ah hc hG HT hv;have H:=HT;clear ah;have H:=H.ak (hv 0 32 (hc 0 Y) O) O;have H:=H.ak (hv 1 33 (hc 1 Y) O) O;exact F9):p:=h
theorem N7 {p:Prop} (h:p:=by
 intro av a w G1 _ ah hc hG HT hv;have H:=HT;clear ah;have H:=H.ak (hv 3 35 (hc 3 Y) O) O;have H:=H.ak (hv 4 36 (hc 4 Y) O) O;exact Gd):p:=h
theorem Oa {p:Prop} (h:p:=by
 intro av a w G1 _ ah hc hG HT hv;have H:=HT;clear ah;have H:=H.ak (hv 4 89 (hc 4 Y) O) O;have H:=H.ak (hv 5 90 (hc 5 Y) O) O;exact xY):p:=h
theorem Ob {p:Prop} (h:p:=by
 intro av a w G1 _ ah hc hG HT hv;have H:=HT;clear ah;have H:=H.ak (hv 8 93 (hc 8 Y) O) O;have H:=H.ak (hv 9 94 (hc 9 Y) O) O;exact vP):p:=h
theorem Oe {p:Prop} (h:p:=by
 intro av a w G1 _ ah hc hG HT hv;have H:=HT;clear ah;have H:=H.ak (hv 15 100 (hc 15 Y) O) O;exact uO):p:=h
theorem Oj {p:Prop} (h:p:=by
 intro av a w G1 _ ah hc hG HT hv;have H:=HT;clear ah;have H:=H.ak (hv 2 34 (hc 2 Y) O) O;exact CZ):p:=h
theorem Ol {p:Prop} (h:p:=by
 intro av a w G1 _ ah hc hG HT hv;have H:=HT;clear ah;have H:=H.ak (hv 6 38 (hc 6 Y) O) O;exact uM):p:=h
theorem Om {p:Prop} (h:p:=by
 intro av a w G1 _ ah hc hG HT hv;have H:=HT;clear ah;have H:=H.ak (hv 7 39 (hc 7 Y) O) O;exact lq):p:=h
theorem Oo {p:Prop} (h:p:=by
 intro av a w G1 _ ah hc hG HT hv;have H:=HT;clear ah;have H:=H.ak (hv 1 86 (hc 1 Y) O) O;exact lQ):p:=h
set_option maxHeartbeats 2000000 in
theorem acv (G:GH) (w0:World) (hG:Hold G w0) {S:List (List Int)} {m:Nat} (hs0:0 < S.length) (hS:xI S m) (hm:(S.headD []).length=m) (v:aj) (hv:ay G (.sl 1 (S.map jF)) v) :
  Calls prog 10 #[v] w0 (bK w0 G fun r G'=>ay G' (.sl 3 ((jf (aP S) S.length m 0 0).map fD.dat)) r):=by
 obtain ⟨A,c,rfl,hc1,hc2,-⟩:=hv.slice;have hml:maxLen=9223372036854775807:=rfl;have hln:=hS.len;have htb:∀ i k,0<=tot (aP S) S.length m i k∧tot (aP S) S.length m i k<=1000*((S.length - i:Nat):Int):=fun i k=>zO (fun i k hi hk=>(hS.ok i k hi hk).2) _ i k (aV _);have aaF:=Ai (aP S) S.length m (S.length+m) 0 0 V;rw [bG] at *;refine eN [(0,_)] func10 O ntmps10 O O hG ?_;intro a H;refine kP H (SR fun _ K1=>au K1 O (SR fun _ K2=>Rm O (Rl gI O (Ra O (au K2 O (SQ fun _ K3=>SR fun _ K4=>Rm O (Rc O (Kz K4 (Cd O ?_ ?_))))))))) <;> clear H K1 K2 K4
 ·intro h12 a H
  try have rR:=dT h12
  obtain ⟨b0,o0,bA,bc0,rfl,g10,-⟩:=tX hv hs0;rw [<- aaN hs0,hm] at g10;refine kP H (SC (Rm O ?_));clear H;intro a H;refine bO gI bI 0 H wn O O O hs0 O ?_;clear H;intro a H;refine kH H (Rg bI O g10 (Rl bP O (cO K3 O (SR fun _ K1=>Rm O (Rm O (Rm O ?_))))));clear H K3;intro a H;refine s_call Qm H wn O (UR _ _ H.ro hS _ hv) O ?_;clear H;rintro v20 uz a w zi Bo H;obtain ⟨tA,tn,tc,rfl⟩:=zi.form
  have htn:tn=S.length+1:=by
   obtain ⟨_,_,e,-⟩:=zi.slice;obtain ⟨-,e2,-⟩:=Value.slice.inj e
   simpa [lI] using e2
  subst htn;refine kH H (au K1 O (SR fun _ K2=>au K2 O (SR fun _ K3=>Ra O (au K3 O (SQ fun _ K4=>SB ?_)))));clear H K1 K2 K3;intro a H;skip;refine dz (ι:=Nat × Nat × List fD × aj × OL × GH) (Tc:=[(0,_),(3,_),(4,_),(5,_)]) (Lc:=[]) (fun gh=>[(6,gh.2.2.2.1),(7,vi gh.1),(8,vi gh.2.1)]) (fun gh=>[]++gh.2.2.2.2.1) (fun gh=>gh.2.2.2.2.2) (fun gh=>gh.1<=S.length∧gh.2.1<=m∧aZ 62 3 gh.2.2.2.1 gh.2.2.1.length (zq gh.2.2.1) gh.2.2.2.2.1∧gh.2.2.1++jf (aP S) S.length m gh.1 gh.2.1=jf (aP S) S.length m 0 0∧(∀ b o,uz b=some o->gh.2.2.2.2.2 b=some o)) (fun gh=>(S.length - gh.1)+(m - gh.2.1)) ((0,0,[],.slice none 0 0,[],uz)) (by exact H.sub ⟨O,O,O,O,O,O,O,aH⟩) ?_ ?_
  ·exact ⟨dO _,dO _,aZ.nil,O,fun _ _ h=>h⟩
  clear H;rintro ⟨i,k,B,v,Lo,g⟩ a w hI H;dsimp only at hI H;obtain ⟨hi,hk,hrw,heq,hgm⟩:=hI
  have hBl:B.length<=1024:=by have:=ko List.length heq;rw [gW] at this;omega
  dsimp only [lca,bR] at H;refine kP H (SQ fun _ K1=>SR fun _ K2=>Rm O (Rm O (Rc O (Rm O (Sp 24 O ?_ ?_))))) <;> clear H
  ·intro aS a H
   try have gH:=dT aS
   refine kH H (YM aS O (YM aS O (YC aS O (Pt aS O (Kz K2 (Cd O ?_ ?_)))))) <;> clear H K2
   ·intro gy a H
    try have p28:=dT gy
    have hi1:i < S.length:=by omega
    have hk1:k < m:=by omega
    obtain ⟨b,o,nb,no,bc,e0,g1,gn⟩:=hS.row ((hv.mono Bo).mono hgm) hi1 hk1
    injection e0 with e0;injection e0 with e1 e2;subst e1;subst e2
    obtain ⟨tb,to,zL,zM,Kr,rfl,gt0,QW⟩:=KC (zi.mono hgm) (Nat.le_of_lt hi1) (Nat.le_of_lt hk1);obtain ⟨_,_,wZ,xg,Fb,e0,H9,ZU⟩:=KC (zi.mono hgm) (show i+1<=S.length by omega) (Nat.le_of_lt hk1)
    injection e0 with e0;injection e0 with e1 e2;subst e1;subst e2
    obtain ⟨_,_,t2b,t2o,t2c,e0,QV,ZV⟩:=KC (zi.mono hgm) (show i+1<=S.length by omega) (show k+1<=m by omega)
    injection e0 with e0;injection e0 with e1 e2;subst e1;subst e2
    have Zo:wZ=t2b∧xg=t2o∧Fb=t2c:=by rw [H9] at QV;simpa [and_assoc] using QV
    obtain ⟨rfl,rfl,rfl⟩:=Zo;have hb0:=htb i k;have hb1:=htb (i+1) k;have hb2:=htb (i+1) (k+1);have hok:=hS.ok i k hi1 hk1;obtain ⟨vA,vc,rfl,BL,BM⟩:=hrw.shape;rw [jf,dif_pos ⟨hi1,hk1⟩] at heq;refine kI ?_;refine K1 _ _ ?_;clear K1;(iterate 2 refine uP ?_);refine fT (fun _ K1=>?_)
    by_cases hge:400<=aP S i k
    ·skip;refine dI fF [[],[],[0,1],[0,1,2],[],ra 0 5,ra 0 6,ra 0 7,ra 0 8,ra 0 9,ra 0 9,ra 0 11,ra 0 12,ra 0 9,ra 0 14,ra 0 15,ra 0 9,ra 0 9,(ra 0 9++[17]),(ra 0 9++[16,17,18]),(ra 0 9++ra 16 4),ra 0 9,(ra 0 9++[21]),(ra 0 9++ra 16 7),(ra 0 9++ra 16 8),ra 0 25,ra 0 9,ra 0 9,(ra 0 9++[26,27]),(ra 0 9++[26,27,28]),ra 0 9,(ra 0 9++ra 26 5),(ra 0 9++ra 26 6),ra 0 33,ra 0 34,ra 0 35] [35] Z [.slice (some ⟨b0,o0,none⟩) S.length c,vi i,(aD b0 (o0+i*1)),.slice (some ⟨nb,no,none⟩) m bc,vi k,(aD nb (no+k*1)),vi (aP S i k),.bool (decide (400<=aP S i k)),.bool (decide (400<=aP S i k)),.slice (some ⟨b0,o0,none⟩) S.length c,vi i,(aD b0 (o0+i*1)),.slice (some ⟨nb,no,none⟩) m bc,vi k,(aD nb (no+k*1)),vi (aP S i k),.slice (some ⟨tb,to,none⟩) (S.length+1) tc,vi i,vi ((i:Int)+1),(aD tb (to+(i+1)*1)),.slice (some ⟨wZ,xg,none⟩) (m+1) Fb,vi k,vi ((k:Int)+1),(aD wZ (xg+(k+1)*1)),vi (tot (aP S) S.length m (i+1) (k+1)),vi (aP S i k+tot (aP S) S.length m (i+1) (k+1)),.slice (some ⟨tb,to,none⟩) (S.length+1) tc,vi i,(aD tb (to+i*1)),.slice (some ⟨zL,zM,none⟩) (m+1) Kr,vi k,(aD zL (zM+k*1)),vi (tot (aP S) S.length m i k),.bool (decide (aP S i k+tot (aP S) S.length m (i+1) (k+1)=tot (aP S) S.length m i k)),.bool (decide (aP S i k+tot (aP S) S.length m (i+1) (k+1)=tot (aP S) S.length m i k))] H (aF ?_ ?_ ?_ ?_ (aF ?_ ?_ ?_ ?_ (aF ?_ ?_ ?_ ?_ (aF ?_ ?_ ?_ ?_ (aF ?_ ?_ ?_ ?_ (aF ?_ ?_ ?_ ?_ (aF ?_ ?_ ?_ ?_ (aF ?_ ?_ ?_ ?_ (aF ?_ ?_ ?_ (gB O) fB))))))))) ?_
     ·exact aO
     ·exact aO
     ·exact NZ
     ·exact Oj
     ·exact aO
     ·exact N7
     ·exact Na
     ·exact Ol
     ·exact Om
     ·exact sU
     ·exact sU
     ·intro av a w G1 _ ah hc hG HT hv;have H:=HT;clear ah;have H:=H.ak (hv 9 41 (hc 9 Y) O) O;have H:=H.ak (hv 10 42 (hc 10 Y) O) O;have H:=H.ak (hv 8 40 (hc 8 Y) O) O;have Hb:=H.full;have H:=Hb;clear hc;refine bO gI bI i H (wg H O O (iM hge)) O O O hi1 O ?_;exact aI
     ·intro av a w G1 _ ah hc hG HT hv;have H:=HT;clear ah;have H:=H.ak (hv 11 43 (hc 11 Y) O) O;have H:=H.ak (hv 8 40 (hc 8 Y) O) O;have Hb:=H.full;have H:=Hb;clear hc;refine kH H (YR bI (iM hge) O (aK hG g1) ?_);exact aI
     ·exact sU
     ·intro av a w G1 _ ah hc hG HT hv;have H:=HT;clear ah;have H:=H.ak (hv 12 44 (hc 12 Y) O) O;have H:=H.ak (hv 13 45 (hc 13 Y) O) O;have H:=H.ak (hv 8 40 (hc 8 Y) O) O;have Hb:=H.full;have H:=Hb;clear hc;refine bO bP aG k H (wg H O O (iM hge)) O O O hk1 O ?_;exact aI
     ·intro av a w G1 _ ah hc hG HT hv;have H:=HT;clear ah;have H:=H.ak (hv 14 46 (hc 14 Y) O) O;have H:=H.ak (hv 8 40 (hc 8 Y) O) O;have Hb:=H.full;have H:=Hb;clear hc;refine kH H (YR aG (iM hge) O (aK hG gn) ?_);exact aI
     ·exact sU
     ·exact sU
     ·intro av a w G1 _ ah hc hG HT hv;have H:=HT;clear ah;have H:=H.ak (hv 17 49 (hc 17 Y) O) O;exact Gf
     ·intro av a w G1 _ ah hc hG HT hv;have H:=HT;clear ah;have H:=H.ak (hv 16 48 (hc 16 Y) O) O;have H:=H.ak (hv 18 50 (hc 18 Y) O) O;have H:=H.ak (hv 8 40 (hc 8 Y) O) O;have Hb:=H.full;have H:=Hb;clear hc;refine bO gI bI (i+1) H (wg H O O (iM hge)) O O O V O ?_;exact aI
     ·intro av a w G1 _ ah hc hG HT hv;have H:=HT;clear ah;have H:=H.ak (hv 19 51 (hc 19 Y) O) O;have H:=H.ak (hv 8 40 (hc 8 Y) O) O;have Hb:=H.full;have H:=Hb;clear hc;refine kH H (YR bI (iM hge) O (aK hG H9) ?_);exact aI
     ·exact sU
     ·intro av a w G1 _ ah hc hG HT hv;have H:=HT;clear ah;have H:=H.ak (hv 21 53 (hc 21 Y) O) O;exact Gf
     ·intro av a w G1 _ ah hc hG HT hv;have H:=HT;clear ah;have H:=H.ak (hv 20 52 (hc 20 Y) O) O;have H:=H.ak (hv 22 54 (hc 22 Y) O) O;have H:=H.ak (hv 8 40 (hc 8 Y) O) O;have Hb:=H.full;have H:=Hb;clear hc;refine bO bP aG (k+1) H (wg H O O (iM hge)) O O O V O ?_;exact aI
     ·intro av a w G1 _ ah hc hG HT hv;have H:=HT;clear ah;have H:=H.ak (hv 23 55 (hc 23 Y) O) O;have H:=H.ak (hv 8 40 (hc 8 Y) O) O;have Hb:=H.full;have H:=Hb;clear hc;refine kH H (YR aG (iM hge) O (aK hG ZV) ?_);exact aI
     ·intro av a w G1 _ ah hc hG HT hv;have H:=HT;clear ah;have H:=H.ak (hv 15 47 (hc 15 Y) O) O;have H:=H.ak (hv 24 56 (hc 24 Y) O) O;exact Gf
     ·exact sU
     ·exact sU
     ·intro av a w G1 _ ah hc hG HT hv;have H:=HT;clear ah;have H:=H.ak (hv 26 58 (hc 26 Y) O) O;have H:=H.ak (hv 27 59 (hc 27 Y) O) O;have H:=H.ak (hv 8 40 (hc 8 Y) O) O;have Hb:=H.full;have H:=Hb;clear hc;refine bO gI bI i H (wg H O O (iM hge)) O O O V O ?_;exact aI
     ·intro av a w G1 _ ah hc hG HT hv;have H:=HT;clear ah;have H:=H.ak (hv 28 60 (hc 28 Y) O) O;have H:=H.ak (hv 8 40 (hc 8 Y) O) O;have Hb:=H.full;have H:=Hb;clear hc;refine kH H (YR bI (iM hge) O (aK hG gt0) ?_);exact aI
     ·exact sU
     ·intro av a w G1 _ ah hc hG HT hv;have H:=HT;clear ah;have H:=H.ak (hv 29 61 (hc 29 Y) O) O;have H:=H.ak (hv 30 62 (hc 30 Y) O) O;have H:=H.ak (hv 8 40 (hc 8 Y) O) O;have Hb:=H.full;have H:=Hb;clear hc;refine bO bP aG k H (wg H O O (iM hge)) O O O V O ?_;exact aI
     ·intro av a w G1 _ ah hc hG HT hv;have H:=HT;clear ah;have H:=H.ak (hv 31 63 (hc 31 Y) O) O;have H:=H.ak (hv 8 40 (hc 8 Y) O) O;have Hb:=H.full;have H:=Hb;clear hc;refine kH H (YR aG (iM hge) O (aK hG QW) ?_);exact aI
     ·intro av a w G1 _ ah hc hG HT hv;have H:=HT;clear ah;have H:=H.ak (hv 25 57 (hc 25 Y) O) O;have H:=H.ak (hv 32 64 (hc 32 Y) O) O;have H:=H.ak (hv 8 40 (hc 8 Y) O) O;have Hb:=H.full;have H:=Hb;clear hc;refine kH H (YC (iM hge) O ?_);exact aI
     ·intro av a w G1 _ ah hc hG HT hv;have H:=HT;clear ah;have H:=H.ak (hv 8 40 (hc 8 Y) O) O;have H:=H.ak (hv 33 65 (hc 33 Y) O) O;have Hb:=H.full;have H:=Hb;clear hc;refine kH H (Pt (iM hge) O ?_);exact aI
     clear H;intro a w G jq H hv;have H:=H.ak (hv 34 66 O O) O;clear hv;refine kH H (Ra O ?_);clear H;intro a H;refine aB ⟨O,?_⟩;refine K1 _ _ ?_;clear K1;refine rC H O ?_ ?_
     ·intro h31
      try have p31:=dT h31
      refine kP H (SR fun _ K1=>Rm O (Rm O (Rm O (Rm O (Rm O ?_)))));clear H;intro a H;have g1:=aK jq g1;have gn:=aK jq gn;refine bO gI bI i H wn O O O hi1 O ?_;clear H;intro a H;refine kH H (Rg bI O g1 (Rm O ?_));clear H;intro a H;refine bO bP aG k H wn O O O hk1 O ?_;clear H;intro a H;refine kH H (Rg aG O gn ?_);clear H;intro a H;refine jQ Ki [_,_,_] H wn O O O O ?_;clear H;intro a H;refine eU qP uj [_,_,_] [_,_,_] H wn O O O O O (by intro i q h;match i,h with|0,h=>exact h|n+1,h=>simp at h) O O ?_;clear H;intro b78 a w ahb H;refine dV (Li:=[_]) (Lo:=Lo) (news:=[vi i,vi k,vi (aP S i k)]) qP uj O O H wn O O hrw O (H.hp.dw 0 O O) O V V O ?_;clear H;intro v79 VO a w abD H
      have heq2:(B++[⟨(i:Int),(k:Int),aP S i k⟩])++jf (aP S) S.length m (i+1) (k+1)=jf (aP S) S.length m 0 0:=by
       rw [aM (by rw [qQ,dh];have:=qo h31;omega)] at heq
       simpa using heq
      refine kH H (au K1 O (SC (Rm O (Rd O (Rm O (Rd O (Ra O (Ra O ?_))))))));clear H K1;intro a H;refine aB ?_;refine aX ((i+1,k+1,B++[⟨(i:Int),(k:Int),aP S i k⟩],v79,VO,G)) (by exact (H.dB (Pl:=[_]) (bS:=[]) [] Y O).sub ⟨O,O,O,O,O,O,O,aH⟩) ?_
      (try dsimp only);exact ⟨V,V,by rw [gW,acA];exact abD,heq2,fun b o h=>jq b o (hgm b o h)⟩
     intro h31
     try have p31:=dF h31
     have hnw:¬ tot (aP S) S.length m i k=qQ (aP S) S.length m i k:=by
      rw [qQ]
      split
      ·omega
      first|(have:=of_decide_eq_false h31;omega)|omega
     rw [aL hnw] at heq;refine fT (fun _ K1=>?_);refine dI fF [[],[],[1],[0,1,2],ra 0 4,[],ra 0 6,ra 0 7,[],[],[8,9],[8,9,10],[],ra 8 5,ra 8 6,ra 0 15,ra 0 16] [] Z [.slice (some ⟨tb,to,none⟩) (S.length+1) tc,vi i,vi ((i:Int)+1),(aD tb (to+(i+1)*1)),.slice (some ⟨wZ,xg,none⟩) (m+1) Fb,vi k,(aD wZ (xg+k*1)),vi (tot (aP S) S.length m (i+1) k),.slice (some ⟨tb,to,none⟩) (S.length+1) tc,vi i,(aD tb (to+i*1)),.slice (some ⟨zL,zM,none⟩) (m+1) Kr,vi k,(aD zL (zM+k*1)),vi (tot (aP S) S.length m i k),.bool (decide (tot (aP S) S.length m (i+1) k=tot (aP S) S.length m i k)),.bool (decide (tot (aP S) S.length m (i+1) k=tot (aP S) S.length m i k))] H (aF ?_ ?_ ?_ ?_ (aF ?_ ?_ ?_ ?_ (aF ?_ ?_ ?_ ?_ (aF ?_ ?_ ?_ ?_ (gN ?_ fB))))) ?_
     ·exact aO
     ·exact aO
     ·exact Oo
     ·exact MN
     ·exact MZ
     ·exact aO
     ·exact Oa
     ·exact M0
     ·exact aO
     ·exact aO
     ·exact Ob
     ·exact MW
     ·exact aO
     ·exact NU
     ·exact MX
     ·exact NY
     ·exact Oe
     clear H;intro a w G rJ H hv;have H:=H.ak (hv 16 84 O O) O;clear hv;refine aB ⟨O,?_⟩;refine K1 _ _ ?_;clear K1;refine rC H O ?_ ?_
     ·intro h84
      try have JK:=dT h84
      refine kP H (SC (Rm O (Rd O (Ra O ?_))));clear H;intro a H;refine aB ?_;refine aX ((i+1,k,B,.slice vA B.length vc,Lo,G)) (by exact H.sub ⟨O,O,O,O,O,O,O,aH⟩) ?_
      (try dsimp only);exact ⟨V,hk,hrw,by rw [aM (by have:=qo h84;omega)] at heq;exact heq,fun b o h=>rJ b o (jq b o (hgm b o h))⟩
     intro h84
     try have JK:=dF h84
     refine kP H (SC (Rm O (Rd O (Ra O ?_))));clear H;intro a H;refine aB ?_;refine aX ((i,k+1,B,.slice vA B.length vc,Lo,G)) (by exact H.sub ⟨O,O,O,O,O,O,O,aH⟩) ?_
     (try dsimp only);exact ⟨hi,V,hrw,by rw [aL (by have:=of_decide_eq_false h84;omega)] at heq;exact heq,fun b o h=>rJ b o (jq b o (hgm b o h))⟩
    skip;refine dI fF [[],[],[0,1],[0,1,2],[],ra 0 5,ra 0 6,ra 0 7,ra 0 8,ra 0 9,ra 0 9,ra 0 11,ra 0 12,ra 0 9,ra 0 14,ra 0 15,ra 0 9,ra 0 9,(ra 0 9++[17]),(ra 0 9++[16,17,18]),(ra 0 9++ra 16 4),ra 0 9,(ra 0 9++[21]),(ra 0 9++ra 16 7),(ra 0 9++ra 16 8),ra 0 25,ra 0 9,ra 0 9,(ra 0 9++[26,27]),(ra 0 9++[26,27,28]),ra 0 9,(ra 0 9++ra 26 5),(ra 0 9++ra 26 6),ra 0 33,ra 0 34,ra 0 35] [35] Z [.slice (some ⟨b0,o0,none⟩) S.length c,vi i,(aD b0 (o0+i*1)),.slice (some ⟨nb,no,none⟩) m bc,vi k,(aD nb (no+k*1)),vi (aP S i k),.bool (decide (400<=aP S i k)),.bool (decide (400<=aP S i k)),undef,undef,undef,undef,undef,undef,undef,undef,undef,undef,undef,undef,undef,undef,undef,undef,undef,undef,undef,undef,undef,undef,undef,undef,undef,.bool false] H (aF ?_ ?_ ?_ ?_ (aF ?_ ?_ ?_ ?_ (aF ?_ (fq 8 (dU hge) O O) (fq 8 (dU hge) O O) (fq 8 (dU hge) O O) (aF (fq 8 (dU hge) O O) (fq 8 (dU hge) O O) (fq 8 (dU hge) O O) (fq 8 (dU hge) O O) (aF (fq 8 (dU hge) O O) (fq 8 (dU hge) O O) (fq 8 (dU hge) O O) (fq 8 (dU hge) O O) (aF (fq 8 (dU hge) O O) (fq 8 (dU hge) O O) (fq 8 (dU hge) O O) (fq 8 (dU hge) O O) (aF (fq 8 (dU hge) O O) (fq 8 (dU hge) O O) (fq 8 (dU hge) O O) (fq 8 (dU hge) O O) (aF (fq 8 (dU hge) O O) (fq 8 (dU hge) O O) (fq 8 (dU hge) O O) (fq 8 (dU hge) O O) (aF (fq 8 (dU hge) O O) (fq 8 (dU hge) O O) ?_ (gB O) fB))))))))) ?_
    ·exact aO
    ·exact aO
    ·exact NZ
    ·exact Oj
    ·exact aO
    ·exact N7
    ·exact Na
    ·exact Ol
    ·exact Om
    ·intro av a w G1 _ ah hc hG HT hv;have H:=HT;clear ah;have H:=H.ak (hv 8 40 (hc 8 Y) O) O;have H:=H.ak (hv 33 65 (hc 33 Y) O) O;have Hb:=H.full;have H:=Hb;clear hc;refine kH H (Pf (dU hge) O ?_);exact aI
    clear H;intro a w G jq H hv;have H:=H.ak (hv 34 66 O O) O;clear hv;refine kH H (Ra O ?_);clear H;intro a H;refine aB ⟨O,?_⟩;refine K1 _ _ ?_;clear K1;refine rD H O O ?_;refine fT (fun _ K1=>?_);refine dI fF [[],[],[1],[0,1,2],ra 0 4,[],ra 0 6,ra 0 7,[],[],[8,9],[8,9,10],[],ra 8 5,ra 8 6,ra 0 15,ra 0 16] [] Z [.slice (some ⟨tb,to,none⟩) (S.length+1) tc,vi i,vi ((i:Int)+1),(aD tb (to+(i+1)*1)),.slice (some ⟨wZ,xg,none⟩) (m+1) Fb,vi k,(aD wZ (xg+k*1)),vi (tot (aP S) S.length m (i+1) k),.slice (some ⟨tb,to,none⟩) (S.length+1) tc,vi i,(aD tb (to+i*1)),.slice (some ⟨zL,zM,none⟩) (m+1) Kr,vi k,(aD zL (zM+k*1)),vi (tot (aP S) S.length m i k),.bool (decide (tot (aP S) S.length m (i+1) k=tot (aP S) S.length m i k)),.bool (decide (tot (aP S) S.length m (i+1) k=tot (aP S) S.length m i k))] H (aF ?_ ?_ ?_ ?_ (aF ?_ ?_ ?_ ?_ (aF ?_ ?_ ?_ ?_ (aF ?_ ?_ ?_ ?_ (gN ?_ fB))))) ?_
    ·exact aO
    ·exact aO
    ·exact Oo
    ·exact MN
    ·exact MZ
    ·exact aO
    ·exact Oa
    ·exact M0
    ·exact aO
    ·exact aO
    ·exact Ob
    ·exact MW
    ·exact aO
    ·exact NU
    ·exact MX
    ·exact NY
    ·exact Oe
    clear H;intro a w G rJ H hv;have H:=H.ak (hv 16 84 O O) O;clear hv;refine aB ⟨O,?_⟩;refine K1 _ _ ?_;clear K1;refine rC H O ?_ ?_
    ·intro h84
     try have JK:=dT h84
     refine kP H (SC (Rm O (Rd O (Ra O ?_))));clear H;intro a H;refine aB ?_;refine aX ((i+1,k,B,.slice vA B.length vc,Lo,G)) (by exact H.sub ⟨O,O,O,O,O,O,O,aH⟩) ?_
     (try dsimp only);exact ⟨V,hk,hrw,by rw [aL (show ¬ tot (aP S) S.length m i k=qQ (aP S) S.length m i k by rw [qQ,iw];omega)] at heq;rw [aM (by have:=qo h84;omega)] at heq;exact heq,fun b o h=>rJ b o (jq b o (hgm b o h))⟩
    intro h84
    try have JK:=dF h84
    refine kP H (SC (Rm O (Rd O (Ra O ?_))));clear H;intro a H;refine aB ?_;refine aX ((i,k+1,B,.slice vA B.length vc,Lo,G)) (by exact H.sub ⟨O,O,O,O,O,O,O,aH⟩) ?_
    (try dsimp only);exact ⟨hi,V,hrw,by rw [aL (show ¬ tot (aP S) S.length m i k=qQ (aP S) S.length m i k by rw [qQ,iw];omega)] at heq;rw [aL (by have:=of_decide_eq_false h84;omega)] at heq;exact heq,fun b o h=>rJ b o (jq b o (hgm b o h))⟩
   intro gy a H
   try have p28:=dF gy
   refine bQ ?_;refine K4 _ _ ?_;clear K4;refine kP H (SR fun _ K2=>Rm O (au K2 O ?_));clear H K2;intro a H;refine bN ?_
   have hend:jf (aP S) S.length m i k=[]:=by rw [jf,dif_neg V]
   rw [hend,kr] at heq;obtain ⟨Gr,hmr,hrep,H⟩:=St.kU (Li:=[]) (Lo:=Lo) H hrw (rows:=B.map fD.dat) (by simp) (SV _ _);rw [heq] at hrep;refine lv H results10 O ?_;exact H.rt hrep
  intro aS a H
  try have gH:=dF aS
  refine kH H (aU aS O (Pf aS O (Kz K2 (Cf O O ?_))));clear H K2;intro a H;refine bQ ?_;refine K4 _ _ ?_;clear K4;refine kP H (SR fun _ K2=>Rm O (au K2 O ?_));clear H K2;intro a H;refine bN ?_
  have hend:jf (aP S) S.length m i k=[]:=by rw [jf,dif_neg V]
  rw [hend,kr] at heq;obtain ⟨Gr,hmr,hrep,H⟩:=St.kU (Li:=[]) (Lo:=Lo) H hrw (rows:=B.map fD.dat) (by simp) (SV _ _);rw [heq] at hrep;refine lv H results10 O ?_;exact H.rt hrep
 intro h12 a H
 try have rR:=dF h12
 exact absurd rR V
theorem acu (G:GH) (w0:World) (hG:Hold G w0) (v:aj) (hv:ay G (.sl 1 (([]:List (List Int)).map jF)) v) :
  Calls prog 10 #[v] w0 (bK w0 G fun r G'=>ay G' (.sl 3 ((jf (aP []) 0 0 0 0).map fD.dat)) r):=by
 obtain ⟨A,c,rfl,hc1,hc2,-⟩:=hv.slice;refine eN [(0,_)] func10 O ntmps10 O O hG ?_;intro a H;refine kP H (SR fun _ K1=>au K1 O (SR fun _ K2=>Rm O (Rl gI O (Ra O (au K2 O (SQ fun _ K3=>SR fun _ K4=>Rm O (Rc O (Kz K4 (Cd O ?_ ?_))))))))) <;> clear H K1 K2 K4
 ·intro h12 a H
  try have rR:=dT h12
  exact absurd rR Y
 intro h12 a H
 try have rR:=dF h12
 refine kP H (Kc K3 (SR fun _ K1=>Rm O (Rm O (Rm O ?_))));clear H K3;intro a H;refine s_call Qm H wn O (UR _ _ H.ro (S:=[]) (m:=0) ⟨(fun _ h=>by cases h),Y,(fun i k hi=>absurd hi (Nat.not_lt_zero _))⟩ _ hv) O ?_;clear H;rintro v20 uz a w zi Bo H;refine kH H (au K1 O (SR fun _ K2=>au K2 O (SR fun _ K3=>Ra O (au K3 O (SQ fun _ K4=>SB ?_)))));clear H K1 K2 K3;intro a H;skip;refine dz (ι:=GH) (Tc:=[(0,_),(3,_),(4,_),(5,_)]) (Lc:=[]) (fun gh=>[(6,.slice none 0 0),(7,vi 0),(8,vi 0)]) (fun gh=>[]) (fun gh=>uz) (fun gh=>True) (fun gh=>0) (uz) (by exact H.sub ⟨O,O,O,O,O,O,O,aH⟩) ?_ ?_
 ·trivial
 clear H;intro g a w hI H;skip;dsimp only [lca,bR] at H;refine kP H (SQ fun _ K1=>SR fun _ K2=>Rm O (Rm O (Rc O (Rm O (Sp 24 O ?_ ?_))))) <;> clear H
 ·intro aS a H
  try have gH:=dT aS
  exact absurd gH Y
 intro aS a H
 try have gH:=dF aS
 refine kH H (aU aS O (Pf aS O (Kz K2 (Cf O O ?_))));clear H K2;intro a H;refine bQ ?_;refine K4 _ _ ?_;clear K4;exact kP H (SR fun _ K2=>Rm O (au K2 O (LR results10 O fun H=>H.rt (by rw [jf,dif_neg V];exact ay.nY O Y))))
theorem SH (G:GH) (w0:World) (hG:Hold G w0) {S:List (List Int)} {m:Nat} (hS:xI S m) (hm:(S.headD []).length=m) (v:aj) (hv:ay G (.sl 1 (S.map jF)) v) :
  Calls prog 10 #[v] w0 (bK w0 G fun r G'=>ay G' (.sl 3 ((jf (aP S) S.length m 0 0).map fD.dat)) r):=by
 cases S with
 | nil=>subst hm;exact acu G w0 hG v hv
 | cons r S=>exact acv G w0 hG (by simp) hS hm v hv

theorem KV:prog.underlying 63=some (.slice 32):=by kernel_rfl
theorem Yi:bD 19:=bH func19 O
theorem Yo:bD 28:=bH func28 O
def yK (l:List aN):List Dat:=[.sl 11 (l.map aN.dat)]
theorem ZL {G:GH} {l:List aN} {cs:List aj} (h:aT G (yK l) cs):∃ v,cs=[v]∧ay G (.sl 11 (l.map aN.dat)) v:=by
 simp only [yK,aT] at h
 obtain ⟨v1,_,rfl,h1,rfl⟩:=h;exact ⟨v1,O,h1⟩
theorem QH {G:GH} {l:List aN} {v:aj} (h:ay G (.sl 11 (l.map aN.dat)) v):aT G (yK l) [v]:=by
 simp only [yK,aT];exact ⟨_,_,O,h,O⟩
set_option maxHeartbeats 1000000 in
theorem aev (G:GH) (w0:World) (hG:Hold G w0) (fs:List (List aN)) (v:aj) (hv:ay G (.sl 1 (fs.map yK)) v) (hz:∀ l∈fs,fI l<=1073741823) (hl:fs.length<=1000) :
  Calls prog 5 #[v] w0 (bK w0 G fun u G'=>∃ b,u=.bool b):=by
 obtain ⟨A,c,rfl,hc1,hc2,hg⟩:=hv.slice;rw [bG] at *;refine eN [(0,_)] func5 O ntmps5 O O hG ?_;intro a H;refine kP H (SR fun _ K1=>au K1 O (SQ fun _ K2=>SR fun _ K3=>au K3 O (SB ?_)));clear H K1 K3;intro a H;skip;refine dz (ι:=Nat × GH) (Tc:=[(0,_)]) (Lc:=[]) (fun gh=>[(3,vi gh.1)]) (fun gh=>[]) (fun gh=>gh.2) (fun gh=>gh.1<=fs.length∧(∀ b o,G b=some o->gh.2 b=some o)) (fun gh=>fs.length - gh.1) ((0,G)) (by exact H.sub ⟨O,O,aH⟩) ?_ ?_
 ·exact F7
 clear H;rintro ⟨k,g⟩ a w hI H;dsimp only at hI H;obtain ⟨hk,hgm⟩:=hI;dsimp only [lca,bR] at H;refine kP H (SQ fun _ K1=>SR fun _ K3=>Rm O (Rm O (Rl KV O (Rc O (Kz K3 (Cd O ?_ ?_)))))) <;> clear H K3
 ·intro h9 a H
  try have p9:=dT h9
  have hk2:k < fs.length:=by omega
  obtain ⟨b,o,cs,rfl,-,hrow,hrep⟩:=hg k (yK fs[k]) (by simp [hk2]);obtain ⟨v,rfl,hrv⟩:=ZL hrep;replace hrow:=fun j u hj=>aK hgm (hrow j u hj);refine kP H (Kc K1 (SQ fun _ K3=>SB (SR fun _ K4=>Rm O (Rm O (Ri KV oP O O (Rg oP O (by have h:=hrow 0 _ O;exact h) ?_))))));clear H K1;intro a H;refine s_call He H wn O (Vi 1073741824 (aV _) _ _ H.ro fs[k] _ (hrv.mono hgm) (by have:=hz _ (dK hk2);omega)) rfl ?_;clear H;rintro v17 Vt a w ⟨w17,d17,rfl,k1,k2,k3,k4⟩ yV H;refine kH H (Rm O ?_);clear H;intro a H;(iterate 2 refine fG H wn O O O ?_;clear H;intro a H);refine kH H (Ra O (au K4 O (SR fun _ K1=>Rm O (Rc O (Rm O (Sp 22 O ?_ ?_)))))) <;> clear H K4
  ·intro h22 a H
   exact kH H (aR h22 O (Pt h22 O (Kz K1 (Ct O O (SR fun _ K4=>au K4 O (LR results5 O fun H=>H.rt ⟨_,O⟩))))))
  intro h22 a H
  try have og:=dF h22
  refine kH H (YM h22 O (YC h22 O (Pf h22 O (Kz K1 (Cd O ?_ ?_))))) <;> clear H K1
  ·intro gK a H
   exact kP H (SR fun _ K1=>au K1 O (LR results5 O fun H=>H.rt ⟨_,O⟩))
  intro gK a H
  try have p25:=dF gK
  refine kP H (Kc K3 (SC (Rm O (Rd O (Ra O ?_)))));clear H K3;intro a H;refine aB ?_;refine aX ((k+1,_)) (by exact H.sub ⟨O,O,aH⟩) ?_
  (try dsimp only);exact ⟨V,fun b o h=>yV b o (hgm b o h)⟩
 intro h9 a H
 refine bQ ?_;refine K2 _ _ ?_;clear K2;exact kP H (SR fun _ K2=>au K2 O (LR results5 O fun H=>H.rt ⟨_,O⟩))
theorem Ot {p:Prop} (h:p:=by
 first
 | exact H.rt ⟨_,by rw [aM ⟨hda,hdb⟩],by rw [aM ⟨hda,hdb⟩];exact hx16⟩
 | exact H.rt ⟨_,by rw [aL (by simp_all)],by rw [aL (by simp_all)];exact ay.nY O Y⟩):p:=h
theorem Nr {p:Prop} (h:p:=by
 intro a H;refine bN ?_;refine (bZ H results6 (.cons (aJ H O) (.cons (aJ H O) .nil)) ?_).1
 exact Ot):p:=h
theorem Wo {Gt:GH} (G:GH) (w0:World) (hG:Hold G w0) (h0:∀ b o,Gt b=some o->G b=some o) (la lb:List bg) (va vb:aj) (hva:ay G (.sl 6 (la.map bg.dat)) va) (hvb:ay G (.sl 6 (lb.map bg.dat)) vb) (hza:jl la<=1073741824) (hzb:jl lb<=1073741824)
  (hoa:jD la=true->jD lb=true->(∀ x∈la,iC Gt (dY (fQ x.cells)))∧∀ x∈lb,iC Gt (dY (fQ x.cells))) (hla:la.length<=1024) (hlb:lb.length<=1024) :
  Calls prog 6 #[va,vb] w0 (bK w0 G fun u G'=>∃ x,u=.tuple #[x,vi (if jD la=true∧jD lb=true then 0 else 12)]∧ay G' (.sl 3 ((if jD la=true∧jD lb=true then jM (gD (fun _=>0) (fun x=>dY (fQ x.cells)) la lb) else []).map fD.dat)) x):=by
 obtain ⟨A,n,c,rfl⟩:=hva.form;obtain ⟨B,m,d,rfl⟩:=hvb.form;refine eN [(0,_),(1,_)] func6 O ntmps6 O O hG ?_;intro a H;refine kP H (SR fun _ K1=>Ra O (au K1 O (SQ fun _ K2=>SR fun _ K3=>Rm O ?_)));clear H K1;intro a H;refine s_call Hf H wn O (GV (AY 4294967297 (aV _)) _ _ H.ro la _ hva V) O ?_;clear H;rintro v7 G7 a w rfl rP H;refine kH H (Rn O (Rm O (Sp 9 O ?_ ?_))) <;> clear H
 ·intro h9 a H
  try have p9:=dT h9
  refine kH H (aU h9 O (Pt h9 O (Kz K3 (Ct O O (SR fun _ K1=>Ra O (au K1 O ?_))))));clear H K3 K1;exact Nr
 intro h9 a H
 try have p9:=dF h9
 refine kH H (YM h9 O ?_);clear H;intro a H;refine s_call Hf H (wg H O O h9) O (GV (AY 4294967297 (aV _)) _ _ H.ro lb _ (hvb.mono rP) V) O ?_;clear H;rintro v11 zY a w rfl oJ H;refine kH H (YN h9 O (Pf h9 O (Kz K3 (Cd O ?_ ?_)))) <;> clear H K3
 ·intro iW a H
  try have pR:=dT iW
  refine kP H (SR fun _ K1=>Ra O (au K1 O ?_));clear H K1;exact Nr
 intro iW a H
 try have pR:=dF iW
 refine kP H (Kc K2 (SR fun _ K1=>Rm O (Rm O ?_)));clear H K2;intro a H
 have hda:jD la=true:=by simpa using h9
 have hdb:jD lb=true:=by simpa using iW
 obtain ⟨Jf,Jg⟩:=hoa hda hdb;refine s_call Yi H wn O (acr _ _ H.ro (fun b o h=>oJ _ _ (rP _ _ (h0 b o h))) (fun _=>0) (fun x=>dY (fQ x.cells)) la lb _ _ _ ((hva.mono rP).mono oJ) ((hvb.mono rP).mono oJ) (fun x hx=>TF x (by have:=uw hx;omega)) (fun x hx=>TF x (by have:=uw hx;omega)) Jf Jg hla hlb) rfl ?_;clear H;rintro v16 FI a w ⟨x16,rfl,hx16⟩ El H;obtain ⟨xA,xn,xc,rfl⟩:=hx16.form;(iterate 2 refine fG H wn O O O ?_;clear H;intro a H);refine kH H (Ra O (au K1 O ?_));clear H K1;intro a H;refine bN ?_;refine (bZ H results6 (.cons (aJ H O) (.cons (aJ H O) .nil)) ?_).1
 first
 | exact H.rt ⟨_,by rw [aM ⟨hda,hdb⟩],by rw [aM ⟨hda,hdb⟩];exact hx16⟩
 | exact H.rt ⟨_,by rw [aL (by simp_all)],by rw [aL (by simp_all)];exact ay.nY O Y⟩
theorem Nq {p:Prop} (h:p:=by
 intro a H;refine bN ?_;refine (bZ H results12 (.cons (aJ H O) (.cons (aJ H O) .nil)) ?_).1
 exact Ot):p:=h
theorem Wn {Gt:GH} (G:GH) (w0:World) (hG:Hold G w0) (h0:∀ b o,Gt b=some o->G b=some o) (la lb:List bL) (va vb:aj) (hva:ay G (.sl 7 (la.map bL.dat)) va) (hvb:ay G (.sl 7 (lb.map bL.dat)) vb) (hza:iT la<=1073741824) (hzb:iT lb<=1073741824)
  (hoa:kL la=true->kL lb=true->(∀ x∈la,iC Gt (dY (fH x.flow)))∧∀ x∈lb,iC Gt (dY (fH x.flow))) (hla:la.length<=1024) (hlb:lb.length<=1024) :
  Calls prog 12 #[va,vb] w0 (bK w0 G fun u G'=>∃ x,u=.tuple #[x,vi (if kL la=true∧kL lb=true then 0 else 12)]∧ay G' (.sl 3 ((if kL la=true∧kL lb=true then jM (gD (fun _=>0) (fun x=>dY (fH x.flow)) la lb) else []).map fD.dat)) x):=by
 obtain ⟨A,n,c,rfl⟩:=hva.form;obtain ⟨B,m,d,rfl⟩:=hvb.form;refine eN [(0,_),(1,_)] func12 O ntmps12 O O hG ?_;intro a H;refine kP H (SR fun _ K1=>Ra O (au K1 O (SQ fun _ K2=>SR fun _ K3=>Rm O ?_)));clear H K1;intro a H;refine s_call Hg H wn O (GU (AY 4294967297 (aV _)) _ _ H.ro la _ hva V) O ?_;clear H;rintro v7 G7 a w rfl rP H;refine kH H (Rn O (Rm O (Sp 9 O ?_ ?_))) <;> clear H
 ·intro h9 a H
  try have p9:=dT h9
  refine kH H (aU h9 O (Pt h9 O (Kz K3 (Ct O O (SR fun _ K1=>Ra O (au K1 O ?_))))));clear H K3 K1;exact Nq
 intro h9 a H
 try have p9:=dF h9
 refine kH H (YM h9 O ?_);clear H;intro a H;refine s_call Hg H (wg H O O h9) O (GU (AY 4294967297 (aV _)) _ _ H.ro lb _ (hvb.mono rP) V) O ?_;clear H;rintro v11 zY a w rfl oJ H;refine kH H (YN h9 O (Pf h9 O (Kz K3 (Cd O ?_ ?_)))) <;> clear H K3
 ·intro iW a H
  try have pR:=dT iW
  refine kP H (SR fun _ K1=>Ra O (au K1 O ?_));clear H K1;exact Nq
 intro iW a H
 try have pR:=dF iW
 refine kP H (Kc K2 (SR fun _ K1=>Rm O (Rm O ?_)));clear H K2;intro a H
 have hda:kL la=true:=by simpa using h9
 have hdb:kL lb=true:=by simpa using iW
 obtain ⟨Jf,Jg⟩:=hoa hda hdb;refine s_call Yo H wn O (acp _ _ H.ro (fun b o h=>oJ _ _ (rP _ _ (h0 b o h))) (fun _=>0) (fun x=>dY (fH x.flow)) la lb _ _ _ ((hva.mono rP).mono oJ) ((hvb.mono rP).mono oJ) (fun x hx=>Py x (by have:=uq hx;omega)) (fun x hx=>Py x (by have:=uq hx;omega)) Jf Jg hla hlb) rfl ?_;clear H;rintro v16 FI a w ⟨x16,rfl,hx16⟩ El H;obtain ⟨xA,xn,xc,rfl⟩:=hx16.form;(iterate 2 refine fG H wn O O O ?_;clear H;intro a H);refine kH H (Ra O (au K1 O ?_));clear H K1;intro a H;refine bN ?_;refine (bZ H results12 (.cons (aJ H O) (.cons (aJ H O) .nil)) ?_).1
 first
 | exact H.rt ⟨_,by rw [aM ⟨hda,hdb⟩],by rw [aM ⟨hda,hdb⟩];exact hx16⟩
 | exact H.rt ⟨_,by rw [aL (by simp_all)],by rw [aL (by simp_all)];exact ay.nY O Y⟩
theorem YS:bD 5:=bH func5 O
theorem Y3:bD 6:=bH func6 O
theorem Qh:bD 11:=bH func11 O
theorem Qg:bD 10:=bH func10 O
theorem QB:bD 9:=bH func9 O
theorem Yh:bD 12:=bH func12 O
theorem Qi:bD 13:=bH func13 O
theorem Qs:bD 4:=bH func4 O
theorem EX:ow prog 34 [(0,1),(1,1),(2,1),(3,1),(4,5),(9,1),(10,1)] [.int .i64 0,.int .i64 0,.int .i64 0,.string ⟨#[]⟩,.slice none 0 0,.int .i64 0,.int .i64 0,.slice none 0 0,.slice none 0 0,.slice none 0 0,.slice none 0 0]:=⟨Z,Z⟩
theorem Qz:bD 8:=bH func8 O
def kW (l:List bg):aN:=.mk 0 0 0 ⟨#[]⟩ ⟨[],⟨0,0,[],[]⟩⟩ [] l
def qH (v:aj):List aj:=[vi 0,vi 0,vi 0,.string ⟨#[]⟩,.slice none 0 0,vi 0,vi 0,.slice none 0 0,.slice none 0 0,.slice none 0 0,v]
theorem Jy {G:GH} {l:List bg} {v:aj} (h:ay G (.sl 6 (l.map bg.dat)) v):aT G (kW l).dat (qH v) :=
 aT.mkItem (x:=kW l) ⟨ay.nY O Y,ay.nY O Y,ay.nY O Y⟩ (ay.nY O Y) h
theorem R8 {G:GH} {l:List bg} {v:aj} {b:Nat} {t:TypeId} (hb:G b=some (.cells ([qH v].flatten.toArray) t (0,0))) (h:ay G (.sl 6 (l.map bg.dat)) v):ay G (.sl 11 ([kW l].map aN.dat)) (.slice (some ⟨b,0,none⟩) 1 1) :=
 ay.mP (xs:=[qH v].flatten) hb O (aV _) Y O (by simpa using (bU.nil (sz:=11)).snoc (Jy h) O)
theorem abY {G:GH} {la lb:List bg} {v u:aj} {b:Nat} {t:TypeId} (hb:G b=some (.cells ([qH v,qH u].flatten.toArray) t (0,0))) (h:ay G (.sl 6 (la.map bg.dat)) v) (h2:ay G (.sl 6 (lb.map bg.dat)) u):ay G (.sl 11 ([kW la,kW lb].map aN.dat)) (.slice (some ⟨b,0,none⟩) 2 2) :=
 ay.mP (xs:=[qH v,qH u].flatten) hb O (aV _) Y O (by simpa using ((bU.nil (sz:=11)).snoc (Jy h) O).snoc (Jy h2) O)
theorem Ev (l:List bg):fI [kW l]=jl l+12:=by
 have:=xD (kW l);have h2:=Ld (kW l).head
 simp only [kW,aN.head,aN.text,aN.flow,aN.rows,sM,gY] at this h2
 simp only [fI,gV,sM,gY] at *
 have h3:(⟨#[]⟩:ByteArray).size=0:=rfl
 simp only [kW]
 omega
theorem abX (la lb:List bg):kD [kW la,kW lb]=(jD la && jD lb):=by
 simp [kD,vT,kW]
theorem Uk {α:Type} (κ:α->Int) (φ:α->ByteArray) (la lb:List α):gD Prod.fst Prod.snd (la.map fun x=>(κ x,φ x)) (lb.map fun x=>(κ x,φ x))=gD κ φ la lb:=by
 simp [gD,iK,pG,Function.comp_def]
theorem Mf {S:List (List Int)} (h:kS S=0):jf (aP S) S.length (S.headD []).length 0 0=jM S:=by rw [jM,aM h]
theorem FB {G:GH} {b n:Nat} {t:TypeId} (hb:G b=some (.cells (List.replicate n (Value.int .i64 0)).toArray t (0,0))) (hn:n<=1073741824):ay G (.sl 1 ((List.replicate n (0:Int)).map eF)) (.slice (some ⟨b,0,none⟩) n n):=by
 have hml:maxLen=9223372036854775807:=rfl;rw [show List.replicate n (Value.int .i64 0)=(List.replicate n (0:Int)).map vi from List.map_replicate.symm] at hb;exact ay.mP (xs:=(List.replicate n (0:Int)).map vi) hb (by simp) (aV _) V (gX (by simp)) (wO _ _)
theorem EJ {Gt:GH} (hT:sH Gt) {l:List bg} (hz:jl l<=67108864) (h:jD l=true):∀ x∈l,iC Gt (dY (fQ x.cells)):=fun x hx=>by
 rw [vV,fM] at h;have h1:=h x hx;rw [yD] at h1;have h2:=uw hx;have h3:=sD x;have h4:=EF x.cells;exact Un hT (by rw [qp];omega) (TB h1)
theorem PG {Gt:GH} (hT:sH Gt) {l:List bL} (hz:iT l<=67108864) (h:kL l=true):∀ x∈l,iC Gt (dY (fH x.flow)):=fun x hx=>by
 rw [yC,fM] at h;have h1:=h x hx;rw [yB] at h1;have h2:=uq hx;have h3:=qU x;have h4:=Cm x.flow;exact Un hT (by rw [qp];omega) (KG (GX h1)).1
theorem PE {l:List bg} (h:jD l=true) {x:bg} (hx:x∈l):kL x.cells=true:=by
 rw [vV,fM] at h;have h1:=h x hx
 rwa [yD] at h1
theorem Fz {α β:Type} (f:α->β) (l:List α):(l.map fun x=>((0:Int),f x)).map Prod.fst=List.replicate l.length 0:=by
 induction l with
 | nil=>rfl
 | cons x l ih=>simp only [gV,jB,List.replicate_succ,ih]
theorem EZ {α:Type} (f:α->ByteArray) (l:List α):(l.map fun x=>((0:Int),f x)).map Prod.snd=l.map f:=by simp [Function.comp_def]
theorem EC {α:Type} {Gt:GH} {f:α->ByteArray} {l:List α} (h:∀ x∈l,iC Gt (f x)):∀ x∈l.map (fun x=>((0:Int),f x)),iC Gt x.2:=fun x hx=>by
 obtain ⟨y,hy,rfl⟩:=List.mem_map.1 hx;exact h y hy
theorem WB {p:Prop} (h:p:=by
 exact kH H (au K1 O (LR results3 O fun H=>H.rt O))):p:=h
theorem xW {p:Prop} (h:p:=by
 exact yu HT Hb hG hv wK H O):p:=h
theorem WC {p:Prop} (h:p:=by
 exact yu HT Hb hG hv ze H O):p:=h
theorem WE {p:Prop} (h:p:=by
 exact yu HT Hb hG hv wI H O):p:=h
theorem Aq {p:Prop} (h:p:=by
 exact yu HT Hb hG hv wJ H O):p:=h
theorem Au {p:Prop} (h:p:=by
 intro av a w G1 _ ah hc hG HT hv;have H:=HT;clear ah;have H:=H.ak (hv 2 126 (hc 2 Y) O) O;have Hb:=H.full;have H:=Hb;clear hc;refine zI H (wg H O O O) O O ?_;clear H;intro a H;refine aB ⟨O,?_⟩;exact Aq):p:=h
theorem Av {p:Prop} (h:p:=by
 intro av a w G1 _ ah hc hG HT hv;have H:=HT;clear ah;have H:=H.ak (hv 2 63 (hc 2 Y) O) O;have Hb:=H.full;have H:=Hb;clear hc;refine zI H (wg H O O O) O O ?_;clear H;intro a H;refine aB ⟨O,?_⟩;exact xW):p:=h
theorem xX {p:Prop} (h:p:=by
 clear H;intro a H;refine aB ⟨O,?_⟩;exact WC):p:=h
theorem Aw {p:Prop} (h:p:=by
 clear H;intro a H;refine aB ⟨O,?_⟩;exact WE):p:=h
theorem Gw {p:Prop} (h:p:=by
 refine s_call Qs H wn O (Sl _ _ H.ro) O ?_;clear H;rintro v36 LG a w rfl Rx H;exact WB):p:=h
theorem OA {p:Prop} (h:p:=by
 have H:=H.ak (hv 2 126 (hc 2 Y) O) O;have Hb:=H.full;have H:=Hb;clear hc;refine zH jT H (wg H O O O) O O ?_;clear H;intro a H;refine aB ⟨O,?_⟩;exact Aq):p:=h
theorem OB {p:Prop} (h:p:=by
 have H:=H.ak (hv 2 63 (hc 2 Y) O) O;have Hb:=H.full;have H:=Hb;clear hc;refine zH jT H (wg H O O O) O O ?_;clear H;intro a H;refine aB ⟨O,?_⟩;exact xW):p:=h
theorem OI {p:Prop} (h:p:=by
 have Hb:=H.full;have H:=Hb;clear hc;refine kH H (Rm O ?_);clear H;intro a H;refine aB ⟨O,?_⟩;exact xW):p:=h
theorem OJ {p:Prop} (h:p:=by
 have Hb:=H.full;have H:=Hb;clear hc;refine kH H (Rm O ?_);clear H;intro a H;refine aB ⟨O,?_⟩;exact Aq):p:=h
theorem Nn {p:Prop} (h:p:=by
 intro av a w G1 _ ah hc hG HT hv;have H:=HT;clear ah;have Hb:=H.full;have H:=Hb;clear hc;refine kH H (Rm O ?_);exact xX):p:=h
theorem Np {p:Prop} (h:p:=by
 intro av a w G1 _ ah hc hG HT hv;have H:=HT;clear ah;have Hb:=H.full;have H:=Hb;clear hc;refine kH H (Rm O ?_);exact Aw):p:=h
theorem Nz {p:Prop} (h:p:=by
 have Hb:=H.full;have H:=Hb;clear hc;refine kH H (Ri jH jw O O ?_);exact xX):p:=h
theorem NA {p:Prop} (h:p:=by
 have Hb:=H.full;have H:=Hb;clear hc;refine kH H (Ri jH jw O O ?_);exact Aw):p:=h
theorem ND {p:Prop} (h:p:=by
 have Hb:=H.full;have H:=Hb;clear hc;refine kH H (Rf nU O ?_);exact xX):p:=h
theorem NG {p:Prop} (h:p:=by
 have Hb:=H.full;have H:=Hb;clear hc;refine kH H (Rf nU O ?_);exact Aw):p:=h
set_option maxHeartbeats 4000000 in
theorem W9 (G:GH) (w0:World) (hG:Hold G w0) (hT:sH G) (la lb:List bg) (va vb:aj) (hva:ay G (.sl 6 (la.map bg.dat)) va) (hvb:ay G (.sl 6 (lb.map bg.dat)) vb) (hza:jl la<=67108864) (hzb:jl lb<=67108864) :
  Calls prog 3 #[va,vb] w0 (bK w0 G fun u G'=>u=.bool true):=by
 obtain ⟨A,c,rfl,hc1,hc2,hga⟩:=hva.slice;obtain ⟨B,d,rfl,hd1,hd2,hgb⟩:=hvb.slice;have hml:maxLen=9223372036854775807:=rfl;(iterate 2 rw [bG] at *);refine eN [(0,_),(1,_)] func3 O ntmps3 O O hG ?_;intro a H;refine kP H (SR fun _ K1=>au K1 O (SQ fun _ K2=>SR fun _ K3=>?_));clear H K1;intro a H;refine s_call Qs H wn O (Sl _ _ H.ro) O ?_;clear H;rintro v13 FH a w rfl vg H;refine kH H (Rn O (Rm O (Sp 15 O ?_ ?_))) <;> clear H
 ·intro jg a H
  exact absurd jg Y
 intro jg a H
 try have nG:=dF jg
 refine kH H (YM jg O (YL jH jg O (YC jg O (Pf jg O (Rm O (Sp 20 O ?_ ?_)))))) <;> clear H
 ·intro h20 a H
  refine kH H (aU h20 O (Pt h20 O (Rm O (aU O O (aU O O (aU O O (Pt O O (Kz K3 (Ct O O (SR fun _ K1=>?_))))))))));clear H K3;intro a H;exact Gw
 intro h20 a H
 try have qK:=dF h20
 refine kH H (YM h20 O (YL jH h20 O (YC h20 O (Pf h20 O (Rm O (Sp 25 O ?_ ?_)))))) <;> clear H
 ·intro gK a H
  refine kH H (aU gK O (aU gK O (aU gK O (Pt gK O (Kz K3 (Ct O O (SR fun _ K1=>?_)))))));clear H K3;intro a H;exact Gw
 intro gK a H
 try have p25:=dF gK
 refine kH H (YM gK O ?_);clear H;intro a H;refine jQ EX [_,_,_,_,_,_,_,_,_,_,_] H (wg H O O gK) O O O O ?_;clear H;intro a H;refine wS jy iG [qH (.slice A la.length c)] H (wg H O O gK) O O O O O O O ?_;clear H;intro V8 a w agN H;refine kH H (YM gK O ?_);clear H;intro a H;refine jQ EX [_,_,_,_,_,_,_,_,_,_,_] H (wg H O O gK) O O O O ?_;clear H;intro a H;refine wS jy iG [qH (.slice B lb.length d)] H (wg H O O gK) O O O O O O O ?_;clear H;intro V9 a w agP H;refine wS KV oP [[.slice (some ⟨V8,0,none⟩) 1 1],[.slice (some ⟨V9,0,none⟩) 1 1]] H (wg H O O gK) O O O O O O O ?_;clear H;intro b32 a w agQ H;obtain ⟨Ga,hma,aaW,H⟩:=H.gP;obtain ⟨Gb,hmb,aaX,H⟩:=H.gP;obtain ⟨Gc,hmc,aaY,H⟩:=H.gP;have abq:=R8 aaY (((hva.mono vg).mono hma).mono fun b o h=>hmc _ _ (hmb b o h));have abr:=R8 (hmc _ _ aaX) (((hvb.mono vg).mono hma).mono fun b o h=>hmc _ _ (hmb b o h))
 refine s_call YS H (wg H O O gK) O (aev _ _ H.ro [[kW la],[kW lb]] _ (ay.mP (xs:=[_,_]) (hmc _ _ (hmb _ _ aaW)) O (aV _) Y O (by simpa using ((bU.nil (sz:=1)).snoc (QH abq) O).snoc (QH abr) O)) (fun l hl=>by
  rcases mq.1 hl with rfl|hl
  ·rw [Ev];omega
  rw [sJ.1 hl,Ev];omega) (by simp)) O ?_;clear H
 rintro v33 Vw a w ⟨b33,rfl⟩ abe H;refine kH H (YN gK O (Pf gK O (Kz K3 (Cd O ?_ ?_)))) <;> clear H K3
 ·intro lT a H
  refine iV (fun _ K1=>?_);exact Gw
 intro lT a H
 try have p35:=dF lT
 refine kP H (Kc K2 (SR fun _ K1=>Rm O (Rm O ?_)));clear H K2;intro a H
 have hl1:la.length<=12:=by omega
 have hl2:lb.length<=12:=by omega
 have yS:∀ b o,G b=some o->Vw b=some o:=fun b o h=>abe _ _ (hmc _ _ (hmb _ _ (hma _ _ (vg _ _ h))));refine s_call Y3 H wn O (Wo _ _ H.ro yS la lb _ _ (hva.mono yS) (hvb.mono yS) V V (fun h1 h2=>⟨EJ hT hza h1,EJ hT hzb h2⟩) V V) O ?_;clear H;rintro v40 G40 a w ⟨x40,rfl,zm⟩ I7 H;obtain ⟨xA,xn,xc,rfl⟩:=zm.form;refine kH H (Rm O ?_);clear H;intro a H;(iterate 2 refine fG H wn O O O ?_;clear H;intro a H);refine kH H (Ra O (au K1 O (SQ fun _ K2=>SR fun _ K3=>Rm O ?_)));clear H K1;intro a H;refine jQ EX [_,_,_,_,_,_,_,_,_,_,_] H wn O O O O ?_;clear H;intro a H;refine kH H (Rm O ?_);clear H;intro a H;refine jQ EX [_,_,_,_,_,_,_,_,_,_,_] H wn O O O O ?_;clear H;intro a H;refine wS jy iG [qH (.slice A la.length c),qH (.slice B lb.length d)] H wn O O O O O O O ?_;clear H;intro b47 a w agU H;obtain ⟨Vy,Em,aaT,H⟩:=H.gP;refine s_call DK H wn O (acw _ _ H.ro [kW la,kW lb] _ (abY aaT (((hva.mono yS).mono I7).mono Em) (((hvb.mono yS).mono I7).mono Em)) (by have h1:=Ev la;have h2:=Ev lb;have h3:=KX [kW la] [kW lb];simp only [lJ,uI] at h3;omega)) rfl ?_;clear H;rintro v48 Vz a w rfl Ry H;rw [abX] at H;refine kH H (Rn O (Kz K3 (Cd O ?_ ?_))) <;> clear H K3
 ·intro jP a H
  have hnd:¬ (jD la=true∧jD lb=true):=fun hh=>by rw [hh.1,hh.2] at jP;exact absurd jP Y
  rw [aL hnd] at H zm
  have hxn:xn=0:=by
   obtain ⟨_,_,e,-⟩:=zm.slice;obtain ⟨-,e2,-⟩:=Value.slice.inj e
   simpa using e2
  subst hxn;refine kP H (SR fun _ K1=>Rm O (Rc O (Rm O (Sp 52 O ?_ ?_)))) <;> clear H
  ·intro dG a H
   exact kH H (YM dG O (YL qP dG O (YC dG O (Pt dG O (au K1 O (LR results3 O fun H=>H.rt O))))))
  intro dG a H
  exact absurd dG Y
 intro jP a H
 try have p49:=dF jP
 have BO:jD la=true∧jD lb=true:=by simpa using jP
 rw [aM BO] at H zm;have okA:=EJ hT hza BO.1;have okB:=EJ hT hzb BO.2;obtain ⟨M,hM⟩:∃ M,M=gD (fun _=>0) (fun x:bg=>dY (fQ x.cells)) la lb:=⟨_,O⟩
 have Rt:kS M=0:=by rw [hM];exact ET _ _ V V
 rw [<- hM] at zm;have IQ:∀ b o,G b=some o->Vz b=some o:=fun b o h=>Ry _ _ (Em _ _ (I7 _ _ (yS b o h)));refine kP H (Kc K2 (SR fun _ K1=>Rm O ?_));clear H K2;intro a H;refine s_call Qz H wn O (TA _ _ H.ro la _ (hva.mono IQ) V) O ?_;clear H;rintro v58 G58 a w BJ Ja H;obtain ⟨pA,pc,rfl,-,-,-⟩:=BJ.slice
 simp only [bG] at H BJ
 refine kH H (Rm O ?_);clear H;intro a H;refine s_call Qz H wn O (TA _ _ H.ro lb _ ((hvb.mono IQ).mono Ja) V) O ?_;clear H;rintro v60 VB a w Jp Jb H;obtain ⟨qA,qc,rfl,-,-,-⟩:=Jp.slice
 simp only [bG] at H Jp
 replace BJ:=BJ.mono Jb;have Rb:∀ b o,G b=some o->VB b=some o:=fun b o h=>Jb _ _ (Ja _ _ (IQ b o h));have abU:=(((zm.mono Em).mono Ry).mono Ja).mono Jb;refine kH H (Ra O (au K1 O (SQ fun _ K2=>SQ fun _ K3=>?_)));clear H K1;intro a H
 have wK:CJ (fun (iy:Nat) (v:aj) (G:GH)=>match iy with|0=>v=vi 0|1=>v=.bool false|2=>v=.bool false|3=>v=.slice xA xn xc|4=>v=.slice pA la.length pc|5=>v=.slice qA lb.length qc|6=>v=.slice pA la.length pc|7=>v=vi la.length|8=>ay G (.sl 1 ((List.replicate la.length (0:Int)).map eF)) v|9=>v=.slice qA lb.length qc|10=>v=vi lb.length|11=>ay G (.sl 1 ((List.replicate lb.length (0:Int)).map eF)) v|12=>ay G (.sl 1 (M.map jF)) v|13=>ay G (.sl 3 ((jM M).map fD.dat)) v|14=>v=.bool true|15=>v=.bool false|16=>v=.bool false|_=>True):=by intro iy v G G' hm h;(iterate 17 (rcases iy with _|iy;(first|exact h|exact ay.mono hm h)));exact trivial
 refine AL (fF) [[],[0],[0,1],[0,1,2],[0,1,2],[0,1,2],[0,1,2],[0,1,2,6],[0,1,2,6,7],[0,1,2],[0,1,2,9],[0,1,2,9,10],([0,1,2]++ra 4 8),([0,1,2]++ra 4 9),ra 0 14,ra 0 15,ra 0 16] [] Z Z _ wK H ?_ ?_
 ·clear H;refine aF ?_ ?_ ?_ ?_ (aF ?_ ?_ ?_ ?_ (aF ?_ ?_ ?_ ?_ (aF ?_ ?_ ?_ ?_ (gN ?_ fB))))
  ·intro av a w G1 _ ah hc hG HT hv;have H:=HT;clear ah;exact OI
  ·intro av a w G1 _ ah hc hG HT hv;have H:=HT;clear ah;have H:=H.ak (hv 0 61 (hc 0 Y) O) O;have Hb:=H.full;have H:=Hb;clear hc;refine kH H (Rc O ?_);clear H;intro a H;refine aB ⟨O,?_⟩;exact xW
  ·intro av a w G1 _ ah hc hG HT hv;have H:=HT;clear ah;have H:=H.ak (hv 1 62 (hc 1 Y) O) O;exact OI
  ·exact Av
  ·exact Av
  ·exact Av
  ·exact Av
  ·intro av a w G1 _ ah hc hG HT hv;have H:=HT;clear ah;have H:=H.ak (hv 6 67 (hc 6 Y) O) O;exact OB
  ·intro av a w G1 _ ah hc hG HT hv;have H:=HT;clear ah;have H:=H.ak (hv 7 68 (hc 7 Y) O) O;have H:=H.ak (hv 2 63 (hc 2 Y) O) O;have Hb:=H.full;have H:=Hb;clear hc;refine lW la.length bP aG H (wg H O O O) O O O V V O ?_;clear H;intro b69 a w agX H;obtain ⟨G69,aal,aaU,H⟩:=H.gP;have Bz:=FB aaU V;refine aB ⟨O,?_⟩;exact iN Z wK O O HT Hb hG hv aal (Bz) H
  ·exact Av
  ·intro av a w G1 _ ah hc hG HT hv;have H:=HT;clear ah;have H:=H.ak (hv 9 70 (hc 9 Y) O) O;exact OB
  ·intro av a w G1 _ ah hc hG HT hv;have H:=HT;clear ah;have H:=H.ak (hv 10 71 (hc 10 Y) O) O;have H:=H.ak (hv 2 63 (hc 2 Y) O) O;have Hb:=H.full;have H:=Hb;clear hc;refine lW lb.length bP aG H (wg H O O O) O O O V V O ?_;clear H;intro b72 a w agZ H;obtain ⟨G72,aao,aaV,H⟩:=H.gP;have BA:=FB aaV V;refine aB ⟨O,?_⟩;exact iN Z wK O O HT Hb hG hv aao (BA) H
  ·intro av a w G1 _ ah hc hG HT hv;have H:=HT;clear ah;have H:=H.ak (hv 4 65 (hc 4 Y) O) O;have H:=H.ak (hv 5 66 (hc 5 Y) O) O;obtain ⟨u69,abM,Bz⟩:=hv 8 69 (hc 8 Y) O;(try dsimp only at Bz);obtain ⟨A69,n69,c69,rfl⟩:=Bz.form;have H:=H.dD abM;obtain ⟨u72,abN,BA⟩:=hv 11 72 (hc 11 Y) O;(try dsimp only at BA);obtain ⟨A72,n72,c72,rfl⟩:=BA.form;have H:=H.dD abN;have H:=H.ak (hv 2 63 (hc 2 Y) O) O;have Hb:=H.full;have H:=Hb;clear hc;refine s_call Qh H (wg H O O O) O (SG _ _ H.ro (fun b o h=>hG _ _ (Rb b o h)) (la.map fun x=>((0:Int),(fun x:bg=>dY (fQ x.cells)) x)) (lb.map fun x=>((0:Int),(fun x:bg=>dY (fQ x.cells)) x)) _ _ _ _ (by rw [EZ];exact BJ.mono hG) (by rw [EZ];exact Jp.mono hG) (by rw [Fz];exact Bz) (by rw [Fz];exact BA) (EC okA) (EC okB) (by rw [bG];omega) (by rw [bG];omega)) rfl ?_;clear H;rintro v73 G73 a w yZ aap H;rw [Uk (fun _=>0),<- hM] at yZ;refine aB ⟨O,?_⟩;exact iN Z wK O O HT Hb hG hv aap (yZ) H
  ·intro av a w G1 _ ah hc hG HT hv;have H:=HT;clear ah;obtain ⟨u73,abO,yZ⟩:=hv 12 73 (hc 12 Y) O;(try dsimp only at yZ);obtain ⟨A73,n73,c73,rfl⟩:=yZ.form;have H:=H.dD abO;have H:=H.ak (hv 2 63 (hc 2 Y) O) O;have Hb:=H.full;have H:=Hb;clear hc;refine s_call Qg H (wg H O O O) O (SH _ _ H.ro (PO Rt) O _ yZ) O ?_;clear H;rintro v74 G74 a w za aaq H;rw [Mf Rt] at za;refine aB ⟨O,?_⟩;exact iN Z wK O O HT Hb hG hv aaq (za) H
  ·intro av a w G1 _ ah hc hG HT hv;have H:=HT;clear ah;have H:=H.ak (hv 3 64 (hc 3 Y) O) O;obtain ⟨u74,abP,za⟩:=hv 13 74 (hc 13 Y) O;(try dsimp only at za);obtain ⟨A74,n74,c74,rfl⟩:=za.form;have H:=H.dD abP;have H:=H.ak (hv 2 63 (hc 2 Y) O) O;have Hb:=H.full;have H:=Hb;clear hc;refine s_call QB H (wg H O O O) O (Ue _ _ H.ro (jM M) _ _ (abU.mono hG) za) O ?_;clear H;rintro v75 G75 a w rfl aar H;refine aB ⟨O,?_⟩;exact iN Z wK O O HT Hb hG hv aar (rfl) H
  ·intro av a w G1 _ ah hc hG HT hv;have H:=HT;clear ah;have H:=H.ak (hv 14 75 (hc 14 Y) O) O;have H:=H.ak (hv 2 63 (hc 2 Y) O) O;have Hb:=H.full;have H:=Hb;clear hc;refine EP H (wg H O O O) O O ?_;clear H;intro a H;refine aB ⟨O,?_⟩;exact xW
  intro av a w G1 _ ah hc hG HT hv;have H:=HT;clear ah;have H:=H.ak (hv 2 63 (hc 2 Y) O) O;have H:=H.ak (hv 15 76 (hc 15 Y) O) O;have Hb:=H.full;have H:=Hb;clear hc;refine kH H (Pf O O ?_);clear H;intro a H;refine aB ⟨O,?_⟩;exact xW
 clear H;intro a w G aam H hv;have H:=H.ak (hv 16 77 O O) O;clear hv;refine aB ⟨O,?_⟩;refine K3 _ _ ?_;clear K3;refine rD H O O ?_;refine kP H (Kc K2 (SQ fun _ K1=>SQ fun _ K3=>?_));clear H K2;intro a H;have uY:=fun b o h=>aam b o (Rb b o h);refine kP H (SC (Rm O (Rl jH O (Rc O (Rm O (Sp 81 O ?_ ?_)))))) <;> clear H
 ·intro uV a H
  exact kH H (aU uV O (Pt uV O (Rm O (aU O O (aU O O (Pt O O (Rm O (aU O O (aU O O (Pt O O (Kn K3 (Ct O O (SR fun _ K2=>au K2 O (LR results3 O fun H=>H.rt O))))))))))))))
 intro uV a H
 try have p81:=dF uV
 have IY:0 < la.length:=by omega
 obtain ⟨b1,o1,cs1,rfl,-,BH,BG⟩:=hga 0 la[0].dat (by simp [IY]);obtain ⟨eA,en,ec,uA,un,uc,zA,zn,zc,cA,cn,cc,rfl,-,hfa⟩:=BG.row;have k1:aQ _ b1 (o1+0*6+5)=some (.slice cA cn cc):=aK uY (BH 5 _ O)
 obtain rfl:cn=la[0].cells.length:=by
  obtain ⟨_,_,e,-⟩:=hfa.slice;exact Az
 have ahj:=uw (dK IY);have aaM:=sD la[0];have IJ:=PE BO.1 (dK IY);refine kH H (YM uV O (YL jH uV O (YC uV O (Pf uV O (Rm O (Sp 86 O ?_ ?_)))))) <;> clear H
 ·intro mI a H
  exact kH H (aU mI O (aU mI O (Pt mI O (Rm O (aU O O (aU O O (Pt O O (Kn K3 (Ct O O (SR fun _ K2=>au K2 O (LR results3 O fun H=>H.rt O)))))))))))
 intro mI a H
 try have Ti:=dF mI
 have IZ:0 < lb.length:=by omega
 obtain ⟨b2,o2,cs2,rfl,-,hrow2,pQ⟩:=hgb 0 lb[0].dat (by simp [IZ]);obtain ⟨eB,fn,fc,uB,vn,vc,zB,yn,yc,dA,dn,dc,rfl,-,kE⟩:=pQ.row;have k2:aQ _ b2 (o2+0*6+5)=some (.slice dA dn dc):=aK uY (hrow2 5 _ O)
 obtain rfl:dn=lb[0].cells.length:=by
  obtain ⟨_,_,e,-⟩:=kE.slice;exact Az
 have ahk:=uw (dK IZ);have aaO:=sD lb[0];have IK:=PE BO.2 (dK IZ);refine kH H (YM mI O (YI jH jw mI O O (YF nU mI O (YR mY mI O k1 (YL jI mI O (YC mI O (Pf mI O (Rm O (Sp 94 O ?_ ?_))))))))) <;> clear H
 ·intro pJ a H
  exact kH H (aU pJ O (aU pJ O (Pt pJ O (Kn K3 (Ct O O (SR fun _ K2=>au K2 O (LR results3 O fun H=>H.rt O)))))))
 intro pJ a H
 try have p94:=dF pJ
 refine kH H (YM pJ O (YI jH jw pJ O O (YF nU pJ O (YR mY pJ O k2 (YL jI pJ O (YC pJ O (Pf pJ O (Kn K3 (Cd O ?_ ?_))))))))) <;> clear H K3
 ·intro yL a H
  exact kP H (SR fun _ K2=>au K2 O (LR results3 O fun H=>H.rt O))
 intro yL a H
 try have Tg:=dF yL
 refine kI ?_;refine K1 _ _ ?_;clear K1;refine fT (fun _ K1=>?_);obtain ⟨ca,hca⟩:∃ x,x=la[0].cells:=⟨_,O⟩;obtain ⟨cb,hcb⟩:∃ x,x=lb[0].cells:=⟨_,O⟩
 have ahd:ca.length<=24:=by rw [hca];omega
 have rO:cb.length<=24:=by rw [hcb];omega
 simp only [<- hca] at H hfa IJ aaM k1
 simp only [<- hcb] at H kE IK aaO k2
 have Te:=PG hT V IJ;have okD:=PG hT V IK;obtain ⟨K,hK⟩:∃ K,K=gD (fun _=>0) (fun x:bL=>dY (fH x.flow)) ca cb:=⟨_,O⟩
 have Rq:kS K=0:=by rw [hK];exact ET _ _ V V
 have ze:CJ (fun (iy:Nat) (v:aj) (G:GH)=>match iy with|0=>v=.slice (some ⟨b1,o1,none⟩) la.length c|1=>v=(aD b1 (o1+0*6))|2=>v=(aD b1 (o1+0*6+5))|3=>v=.slice cA ca.length cc|4=>v=.slice (some ⟨b2,o2,none⟩) lb.length d|5=>v=(aD b2 (o2+0*6))|6=>v=(aD b2 (o2+0*6+5))|7=>v=.slice dA cb.length dc|8=>∃ x,v=.tuple #[x,vi 0]∧ay G (.sl 3 ((jM K).map fD.dat)) x|9=>∃ x,v=.tuple #[x,vi 0]∧ay G (.sl 3 ((jM K).map fD.dat)) x|10=>ay G (.sl 3 ((jM K).map fD.dat)) v|11=>v=vi 0|12=>ay G (.sl 3 ((jM K).map fD.dat)) v|_=>True):=by intro iy v G G' hm h;(iterate 14 (rcases iy with _|iy;(first|exact h|exact let ⟨x,h1,h2⟩:=h;⟨x,h1,h2.mono hm⟩|exact ay.mono hm h)));exact trivial
 refine AL (fF) [[],[0],[0,1],[0,1,2],[],[4],[4,5],[4,5,6],ra 0 8,ra 0 9,ra 0 10,ra 0 10,ra 0 11,ra 0 13] [13] Z Z _ ze H ?_ ?_
 ·clear H;refine aF ?_ ?_ ?_ ?_ (aF ?_ ?_ ?_ ?_ (aF ?_ ?_ ?_ ?_ (gN ?_ (gN (gB O) fB))))
  ·exact Nn
  ·intro av a w G1 _ ah hc hG HT hv;have H:=HT;clear ah;have H:=H.ak (hv 0 103 (hc 0 Y) O) O;exact Nz
  ·intro av a w G1 _ ah hc hG HT hv;have H:=HT;clear ah;have H:=H.ak (hv 1 104 (hc 1 Y) O) O;exact ND
  ·intro av a w G1 _ ah hc hG HT hv;have H:=HT;clear ah;have H:=H.ak (hv 2 105 (hc 2 Y) O) O;have Hb:=H.full;have H:=Hb;clear hc;refine kH H (Rg mY O (aK hG k1) ?_);exact xX
  ·exact Nn
  ·intro av a w G1 _ ah hc hG HT hv;have H:=HT;clear ah;have H:=H.ak (hv 4 107 (hc 4 Y) O) O;exact Nz
  ·intro av a w G1 _ ah hc hG HT hv;have H:=HT;clear ah;have H:=H.ak (hv 5 108 (hc 5 Y) O) O;exact ND
  ·intro av a w G1 _ ah hc hG HT hv;have H:=HT;clear ah;have H:=H.ak (hv 6 109 (hc 6 Y) O) O;have Hb:=H.full;have H:=Hb;clear hc;refine kH H (Rg mY O (aK hG k2) ?_);exact xX
  ·intro av a w G1 _ ah hc hG HT hv;have H:=HT;clear ah;have H:=H.ak (hv 3 106 (hc 3 Y) O) O;have H:=H.ak (hv 7 110 (hc 7 Y) O) O;have Hb:=H.full;have H:=Hb;clear hc;refine s_call Yh H wn O (Wn _ _ H.ro (fun b o h=>hG _ _ (uY b o h)) ca cb _ _ (hfa.mono fun b o h=>hG _ _ (uY b o h)) (kE.mono fun b o h=>hG _ _ (uY b o h)) V V (fun _ _=>⟨Te,okD⟩) V V) O ?_;clear H;rintro pX afW a w ⟨Lb,rfl,BN⟩ ZX H;rw [aM ⟨IJ,IK⟩] at H BN;rw [<- hK] at BN;refine aB ⟨O,?_⟩;exact iN Z ze O O HT Hb hG hv ZX (⟨Lb,O,BN⟩) H
  ·intro av a w G1 _ ah hc hG HT hv;have H:=HT;clear ah;obtain ⟨ahw,abE,RB⟩:=hv 8 111 (hc 8 Y) O;(try dsimp only at RB);obtain ⟨Lb,rfl,BN⟩:=RB;have H:=H.dD abE;have Hb:=H.full;have H:=Hb;clear hc;refine kH H (Rm O ?_);clear H;intro a H;refine aB ⟨O,?_⟩;exact iN Z ze O O HT Hb hG hv (fun _ _ h=>h) (⟨Lb,O,BN⟩) H
  ·intro av a w G1 _ ah hc hG HT hv;have H:=HT;clear ah;obtain ⟨afr,Js,Bu⟩:=hv 9 102 (hc 9 Y) O;(try dsimp only at Bu);obtain ⟨x102,rfl,hx102⟩:=Bu;have H:=H.dD Js;have Hb:=H.full;have H:=Hb;clear hc;refine fG H wn O O O ?_;clear H;intro a H;refine aB ⟨O,?_⟩;exact iN Z ze O O HT Hb hG hv (fun _ _ h=>h) (hx102) H
  ·intro av a w G1 _ ah hc hG HT hv;have H:=HT;clear ah;obtain ⟨afr,Js,Bu⟩:=hv 9 102 (hc 9 Y) O;(try dsimp only at Bu);obtain ⟨x102,rfl,hx102⟩:=Bu;have H:=H.dD Js;have Hb:=H.full;have H:=Hb;clear hc;refine fG H wn O O O ?_;exact xX
  intro av a w G1 _ ah hc hG HT hv;have H:=HT;clear ah;obtain ⟨ahx,abF,Jh⟩:=hv 10 112 (hc 10 Y) O;(try dsimp only at Jh);obtain ⟨afR,n112,agq,rfl⟩:=Jh.form;have H:=H.dD abF;have Hb:=H.full;have H:=Hb;clear hc;refine kH H (Ra O ?_);clear H;intro a H;refine aB ⟨O,?_⟩;exact iN Z ze O O HT Hb hG hv (fun _ _ h=>h) (Jh) H
 clear H;intro a w G vZ H hv;obtain ⟨u9,hu9,Ji⟩:=hv 12 9 Y O;(try dsimp only at Ji);obtain ⟨mA,mn,mc,rfl⟩:=Ji.form;have H:=H.dD hu9;have H:=H.ak (hv 11 113 O O) O;clear hv;refine kH H (Ra O ?_);clear H;intro a H;refine aB ⟨O,?_⟩;refine K1 _ _ ?_;clear K1;refine fT (fun _ K1=>?_)
 have wI:CJ (fun (iy:Nat) (v:aj) (G:GH)=>match iy with|0=>v=.slice (some ⟨b1,o1,none⟩) la.length c|1=>v=(aD b1 (o1+0*6))|2=>v=(aD b1 (o1+0*6+5))|3=>v=.slice cA ca.length cc|4=>ay G (.sl 1 ((ca.map fun x=>dY (fH x.flow)).map kQ)) v|5=>v=.slice (some ⟨b2,o2,none⟩) lb.length d|6=>v=(aD b2 (o2+0*6))|7=>v=(aD b2 (o2+0*6+5))|8=>v=.slice dA cb.length dc|9=>ay G (.sl 1 ((cb.map fun x=>dY (fH x.flow)).map kQ)) v|_=>True):=by intro iy v G G' hm h;(iterate 12 (rcases iy with _|iy;(first|exact h|exact ay.mono hm h)));exact trivial
 refine AL (fF) [[],[0],[0,1],[0,1,2],ra 0 4,[],[5],[5,6],[5,6,7],ra 0 9,ra 0 10,ra 0 11] [10,11] Z Z _ wI H ?_ ?_
 ·clear H;refine aF ?_ ?_ ?_ ?_ (aF ?_ ?_ ?_ ?_ (aF ?_ ?_ (gB O) (gB O) fB))
  ·exact Np
  ·intro av a w G1 _ ah hc hG HT hv;have H:=HT;clear ah;have H:=H.ak (hv 0 114 (hc 0 Y) O) O;exact NA
  ·intro av a w G1 _ ah hc hG HT hv;have H:=HT;clear ah;have H:=H.ak (hv 1 115 (hc 1 Y) O) O;exact NG
  ·intro av a w G1 _ ah hc hG HT hv;have H:=HT;clear ah;have H:=H.ak (hv 2 116 (hc 2 Y) O) O;have Hb:=H.full;have H:=Hb;clear hc;refine kH H (Rg mY O (aK hG (aK vZ k1)) ?_);exact Aw
  ·intro av a w G1 _ ah hc hG HT hv;have H:=HT;clear ah;have H:=H.ak (hv 3 117 (hc 3 Y) O) O;have Hb:=H.full;have H:=Hb;clear hc;refine s_call Qi H wn O (Px _ _ H.ro ca _ (hfa.mono fun b o h=>hG _ _ (vZ _ _ (uY b o h))) V) O ?_;clear H;rintro ahE afX a w wE ZY H;refine aB ⟨O,?_⟩;exact iN Z wI O O HT Hb hG hv ZY (wE) H
  ·exact Np
  ·intro av a w G1 _ ah hc hG HT hv;have H:=HT;clear ah;have H:=H.ak (hv 5 119 (hc 5 Y) O) O;exact NA
  ·intro av a w G1 _ ah hc hG HT hv;have H:=HT;clear ah;have H:=H.ak (hv 6 120 (hc 6 Y) O) O;exact NG
  ·intro av a w G1 _ ah hc hG HT hv;have H:=HT;clear ah;have H:=H.ak (hv 7 121 (hc 7 Y) O) O;have Hb:=H.full;have H:=Hb;clear hc;refine kH H (Rg mY O (aK hG (aK vZ k2)) ?_);exact Aw
  intro av a w G1 _ ah hc hG HT hv;have H:=HT;clear ah;have H:=H.ak (hv 8 122 (hc 8 Y) O) O;have Hb:=H.full;have H:=Hb;clear hc;refine s_call Qi H wn O (Px _ _ H.ro cb _ (kE.mono fun b o h=>hG _ _ (vZ _ _ (uY b o h))) V) O ?_;clear H;rintro ahF afY a w wF Z4 H;refine aB ⟨O,?_⟩;exact iN Z wI O O HT Hb hG hv Z4 (wF) H
 clear H;intro a w G rJ H hv;obtain ⟨ahy,abG,wE⟩:=hv 4 118 Y O;(try dsimp only at wE);obtain ⟨Lh,n118,Po,rfl⟩:=wE.form;have H:=H.dD abG;obtain ⟨ahz,abH,wF⟩:=hv 9 123 Y O;(try dsimp only at wF);obtain ⟨Lj,n123,Pp,rfl⟩:=wF.form;have H:=H.dD abH;clear hv;refine kH H (Ra O (Ra O ?_));clear H;intro a H;refine aB ⟨O,?_⟩;refine K1 _ _ ?_;clear K1;refine fT (fun _ K1=>?_);obtain ⟨pA2,pc2,e118,-,-,-⟩:=wE.slice;obtain ⟨rfl,rfl,rfl⟩:=Value.slice.inj e118;obtain ⟨qA2,qc2,Ye,-,-,-⟩:=wF.slice;obtain ⟨rfl,rfl,rfl⟩:=Value.slice.inj Ye
 simp only [bG] at H wE wF
 have zl:=Ji.mono rJ;have aaP:=fun b o h=>rJ b o (vZ b o (uY b o h))
 have wJ:CJ (fun (iy:Nat) (v:aj) (G:GH)=>match iy with|0=>v=vi 0|1=>v=.bool true|2=>v=.bool true|3=>v=.slice mA mn mc|4=>v=.slice Lh ca.length Po|5=>v=.slice Lj cb.length Pp|6=>v=.slice Lh ca.length Po|7=>v=vi ca.length|8=>ay G (.sl 1 ((List.replicate ca.length (0:Int)).map eF)) v|9=>v=.slice Lj cb.length Pp|10=>v=vi cb.length|11=>ay G (.sl 1 ((List.replicate cb.length (0:Int)).map eF)) v|12=>ay G (.sl 1 (K.map jF)) v|13=>ay G (.sl 3 ((jM K).map fD.dat)) v|14=>v=.bool true|15=>v=.bool true|_=>True):=by intro iy v G G' hm h;(iterate 17 (rcases iy with _|iy;(first|exact h|exact ay.mono hm h)));exact trivial
 refine AL (fF) [[],[0],[0,1],[0,1,2],[0,1,2],[0,1,2],[0,1,2],[0,1,2,6],[0,1,2,6,7],[0,1,2],[0,1,2,9],[0,1,2,9,10],([0,1,2]++ra 4 8),([0,1,2]++ra 4 9),ra 0 14,ra 0 15,ra 0 16] [16] Z Z _ wJ H ?_ ?_
 ·clear H;refine aF ?_ ?_ ?_ ?_ (aF ?_ ?_ ?_ ?_ (aF ?_ ?_ ?_ ?_ (aF ?_ ?_ ?_ ?_ (gN (gB O) fB))))
  ·intro av a w G1 _ ah hc hG HT hv;have H:=HT;clear ah;exact OJ
  ·intro av a w G1 _ ah hc hG HT hv;have H:=HT;clear ah;have H:=H.ak (hv 0 124 (hc 0 Y) O) O;have Hb:=H.full;have H:=Hb;clear hc;refine kH H (Rc O ?_);clear H;intro a H;refine aB ⟨O,?_⟩;exact Aq
  ·intro av a w G1 _ ah hc hG HT hv;have H:=HT;clear ah;have H:=H.ak (hv 1 125 (hc 1 Y) O) O;exact OJ
  ·exact Au
  ·exact Au
  ·exact Au
  ·exact Au
  ·intro av a w G1 _ ah hc hG HT hv;have H:=HT;clear ah;have H:=H.ak (hv 6 130 (hc 6 Y) O) O;exact OA
  ·intro av a w G1 _ ah hc hG HT hv;have H:=HT;clear ah;have H:=H.ak (hv 7 131 (hc 7 Y) O) O;have H:=H.ak (hv 2 126 (hc 2 Y) O) O;have Hb:=H.full;have H:=Hb;clear hc;refine lW ca.length bP aG H (wg H O O O) O O O V V O ?_;clear H;intro agm a w agF H;obtain ⟨agb,Z7,aaQ,H⟩:=H.gP;have Bv:=FB aaQ V;refine aB ⟨O,?_⟩;exact iN Z wJ O O HT Hb hG hv Z7 (Bv) H
  ·exact Au
  ·intro av a w G1 _ ah hc hG HT hv;have H:=HT;clear ah;have H:=H.ak (hv 9 133 (hc 9 Y) O) O;exact OA
  ·intro av a w G1 _ ah hc hG HT hv;have H:=HT;clear ah;have H:=H.ak (hv 10 134 (hc 10 Y) O) O;have H:=H.ak (hv 2 126 (hc 2 Y) O) O;have Hb:=H.full;have H:=Hb;clear hc;refine lW cb.length bP aG H (wg H O O O) O O O V V O ?_;clear H;intro agn a w agG H;obtain ⟨agd,Z8,aaR,H⟩:=H.gP;have Bw:=FB aaR V;refine aB ⟨O,?_⟩;exact iN Z wJ O O HT Hb hG hv Z8 (Bw) H
  ·intro av a w G1 _ ah hc hG HT hv;have H:=HT;clear ah;have H:=H.ak (hv 4 128 (hc 4 Y) O) O;have H:=H.ak (hv 5 129 (hc 5 Y) O) O;obtain ⟨ahA,abI,Bv⟩:=hv 8 132 (hc 8 Y) O;(try dsimp only at Bv);obtain ⟨afS,n132,agr,rfl⟩:=Bv.form;have H:=H.dD abI;obtain ⟨ahB,abJ,Bw⟩:=hv 11 135 (hc 11 Y) O;(try dsimp only at Bw);obtain ⟨afT,n135,ags,rfl⟩:=Bw.form;have H:=H.dD abJ;have H:=H.ak (hv 2 126 (hc 2 Y) O) O;have Hb:=H.full;have H:=Hb;clear hc;refine s_call Qh H (wg H O O O) O (SG _ _ H.ro (fun b o h=>hG _ _ (aaP b o h)) (ca.map fun x=>((0:Int),(fun x:bL=>dY (fH x.flow)) x)) (cb.map fun x=>((0:Int),(fun x:bL=>dY (fH x.flow)) x)) _ _ _ _ (by rw [EZ];exact wE.mono hG) (by rw [EZ];exact wF.mono hG) (by rw [Fz];exact Bv) (by rw [Fz];exact Bw) (EC Te) (EC okD) (by rw [bG];omega) (by rw [bG];omega)) rfl ?_;clear H;rintro ahJ agf a w yX Z9 H;rw [Uk (fun _=>0),<- hK] at yX;refine aB ⟨O,?_⟩;exact iN Z wJ O O HT Hb hG hv Z9 (yX) H
  ·intro av a w G1 _ ah hc hG HT hv;have H:=HT;clear ah;obtain ⟨ahC,abK,yX⟩:=hv 12 136 (hc 12 Y) O;(try dsimp only at yX);obtain ⟨afU,n136,agt,rfl⟩:=yX.form;have H:=H.dD abK;have H:=H.ak (hv 2 126 (hc 2 Y) O) O;have Hb:=H.full;have H:=Hb;clear hc;refine s_call Qg H (wg H O O O) O (SH _ _ H.ro (PO Rq) O _ yX) O ?_;clear H;rintro ahK agh a w yY aac H;rw [Mf Rq] at yY;refine aB ⟨O,?_⟩;exact iN Z wJ O O HT Hb hG hv aac (yY) H
  ·intro av a w G1 _ ah hc hG HT hv;have H:=HT;clear ah;have H:=H.ak (hv 3 127 (hc 3 Y) O) O;obtain ⟨ahD,abL,yY⟩:=hv 13 137 (hc 13 Y) O;(try dsimp only at yY);obtain ⟨afV,n137,agu,rfl⟩:=yY.form;have H:=H.dD abL;have H:=H.ak (hv 2 126 (hc 2 Y) O) O;have Hb:=H.full;have H:=Hb;clear hc;refine s_call QB H (wg H O O O) O (Ue _ _ H.ro (jM K) _ _ (zl.mono hG) yY) O ?_;clear H;rintro v138 agi a w rfl aad H;refine aB ⟨O,?_⟩;exact iN Z wJ O O HT Hb hG hv aad (rfl) H
  intro av a w G1 _ ah hc hG HT hv;have H:=HT;clear ah;have H:=H.ak (hv 2 126 (hc 2 Y) O) O;have H:=H.ak (hv 14 138 (hc 14 Y) O) O;have Hb:=H.full;have H:=Hb;clear hc;refine kH H (Pt O O ?_);clear H;intro a H;refine aB ⟨O,?_⟩;exact Aq
 clear H;intro a w G agA H hv;have H:=H.ak (hv 15 139 O O) O;clear hv;refine kH H (Ra O ?_);clear H;intro a H;refine aB ⟨O,?_⟩;refine K1 _ _ ?_;clear K1;refine lr H results3 O ?_;exact H.rt O
section
open Go.ChangeShapes Go.RowKit Go.Deep
abbrev mJ (W:World):GH:=fun k=>W.heap[k]?
theorem DY {W:World} {b o:Nat} {v:aj} (h:W.cell? ⟨b,o,none⟩=some v):aQ (mJ W) b o=some v:=by
 unfold World.cell? at h
 unfold aQ mJ
 split at h
 ·rename_i c e f hh
  simp only at hh
  rw [hh];simpa using h
 cases h
theorem Sv {α:Type} {p:Nat->α->Prop}:∀ n:Nat,(∀ i,i < n->∃ x,p i x)->∃ l:List α,l.length=n∧∀ i x,l[i]?=some x->p i x
 | 0,_=>⟨[],O,fun i x h=>by simp at h⟩
 | n+1,h=>by
  obtain ⟨l,hl,hp⟩:=Sv n (fun i hi=>h i V);obtain ⟨x,hx⟩:=h n V;refine ⟨l++[x],by simp [hl],fun i y hy=>?_⟩
  by_cases hi:i < l.length
  ·exact hp i y (by rwa [sK hi] at hy)
  rw [uJ V] at hy
  have hin:i - l.length=0:=by
   have:=(fV.1 hy).1
   simp at this;omega
  rw [hin] at hy
  simp only [uH,jL] at hy
  subst hy;rw [show i=n by omega];exact hx
theorem Xb {H:Type} (d:DataW H):1<=Rows.uptoBulk d:=by
 cases d <;> (try simp only [Rows.uptoBulk]) <;> (try omega)
 rename_i x;cases x <;> simp only [Rows.uptoBulk] <;> omega
theorem Pm {H ρ:Type} {dat:ρ->List Dat}:∀ (rs:List ρ) (D:Nat->DataW H),(∀ i r,rs[i]?=some r->fK (dat r)+1<=8*Rows.uptoBulk (D i))->gY (rs.map dat)<=8*Rows.uptoBulkAll ((List.range rs.length).map D)
 | [],D,_=>dO _
 | r :: rs,D,h=>by
  have h0:=h 0 r O;have hp:=Xb (D 0);have ih:=Pm rs (fun i=>D (i+1)) (fun i r hr=>h (i+1) r (by simpa using hr));rw [jB,List.range_succ_eq_map]
  simp only [gV,List.map_map,gY,Rows.uptoBulkAll]
  have e:(List.map (D ∘ Nat.succ) (List.range rs.length))=(List.map (fun i=>D (i+1)) (List.range rs.length)):=rfl;rw [e];omega
theorem Pk {H:Type} {D:Nat->DataW H}:∀ {n i:Nat},i < n->Rows.uptoBulk (D i)<=Rows.uptoBulkAll ((List.range n).map D)
 | 0,i,h=>absurd h V
 | n+1,i,h=>by
  have key:∀ (l m:List (DataW H)),Rows.uptoBulkAll (l++m)=Rows.uptoBulkAll l+Rows.uptoBulkAll m:=by
   intro l m
   induction l with
   | nil=>simp [Rows.uptoBulkAll]
   | cons x l ih=>simp only [lJ,Rows.uptoBulkAll,ih];omega
  rw [List.range_succ,ku,key]
  by_cases hi:i < n
  ·have:=Pk (D:=D) hi;omega
  have:i=n:=by omega
  subst this
  simp only [gV,sM,Rows.uptoBulkAll];omega
section
variable {H:Type} {enc:TypeId × aj->H} {P:Program} {W:World} {base:Nat} {spare:Nat->Bool} {held:Bool}
theorem rT {ρ:Type} {dat:ρ->List Dat} {t e:TypeId} {sz:Nat} (hsz:0 < sz) {fuel:Nat} {cs:List aj} {x:DataW H × List MemPlace} (ht:P.underlying t=some (.slice e)) (hc:P.cellsOf e=sz) (h:DataW.trod enc P W base spare held fuel t cs=some x)
  (row:∀ n cs' D Pl,DataW.trod enc P W base spare held n e cs'=some (D,Pl)->Rows.uptoBulk D < Rows.uptoBulk x.1->∃ r:ρ,aT (mJ W) (dat r) cs'∧fK (dat r)+1<=8*Rows.uptoBulk D) :
  ∃ (rs:List ρ) (v:aj),cs=[v]∧ay (mJ W) (.sl sz (rs.map dat)) v∧gY (rs.map dat)+8<=8*Rows.uptoBulk x.1:=by
 rcases open_slice ht h with ⟨rfl,rfl⟩|⟨a,len,cap,m,n,D,Pl,rfl,hb,hl,hm,hmm,rfl,hx⟩
 ·exact ⟨[],_,O,ay.nY O Y,by simp [gY,Rows.uptoBulk]⟩
 obtain ⟨rs,hrl,hrs⟩:=Sv (p:=fun i (r:ρ)=>∃ cs',W.cells? base (a.add (i*sz)) sz=some cs'∧aT (mJ W) (dat r) cs'∧fK (dat r)+1<=8*Rows.uptoBulk (D i)) len (fun i hi=>by
  have him:i < m:=by rw [hmm];split <;> omega
  obtain ⟨cs',h1,h2⟩:=hx i him;rw [hc] at h1;have hb1:=Pk (D:=D) hi;obtain ⟨r,hr1,hr2⟩:=row n cs' (D i) (Pl i) h2 (by simp only [Rows.uptoBulk];omega)
  exact ⟨r,cs',h1,hr1,hr2⟩)
 refine ⟨rs,_,O,?_,?_⟩
 ·simp only [ay,bG]
  refine ⟨some a,cap,by rw [hrl],V,hm,fun hne=>?_⟩;obtain ⟨b,off,spot⟩:=a
  have hlen:0 < rs.length:=by cases rs with|nil=>simp at hne|cons _ _=>simp
  obtain ⟨cs0,h1,-,-⟩:=hrs 0 rs[0] (gU hlen);obtain ⟨-,hl0,hg0⟩:=World.cells?_some h1
  have hspot:spot=none:=by
   have h3:=hg0 0 hsz;rw [gU V] at h3
   simpa [Addr.add] using World.cell?_spot h3
  subst hspot;refine ⟨b,off,O,jm.mk fun k r hk=>?_⟩;rw [oD] at hk;obtain ⟨y,hy,rfl⟩:=kR.1 hk;obtain ⟨cs',h2,h3,-⟩:=hrs k y hy;obtain ⟨-,hl1,hg1⟩:=World.cells?_some h2;refine ⟨cs',hl1,fun j u hj=>DY ?_,h3⟩
  have hj2:j < sz:=by rw [<- hl1];exact (fV.1 hj).1
  have:=hg1 j hj2;rw [add_add,Go.WideShapes.add_plain] at this;rw [show off+k*sz+j=off+(k*sz+j) by omega,this];exact hj
 have:=Pm rs D (fun i r hr=>(hrs i r hr).choose_spec.2.2);rw [hrl] at this
 simp only [Rows.uptoBulk];omega
end
structure sG (P:Program) (t:TypeId) (sz:Nat) (fs:List (TypeId × Nat × Nat)):Prop where
 und:P.underlying t=some (.struct (P.fieldsOf t))
 cells:P.cellsOf t=sz
 uS:(P.fieldsOf t).toList.map (fun f=>(f.type,f.offset,P.cellsOf f.type))=fs
theorem rU {P:Program} {H:Type} {enc:TypeId × aj->H} {W:World} {base:Nat} {spare:Nat->Bool} {held:Bool} {t:TypeId} {sz fuel:Nat} {fs:List (TypeId × Nat × Nat)} {cs:List aj} {x:DataW H × List MemPlace} (hs:sG P t sz fs) (h:DataW.trod enc P W base spare held fuel t cs=some x) :
  ∃ (xs:List (DataW H × List MemPlace)) (n:Nat),x.1=.agg (xs.map (·.1))∧cs.length=sz∧xs.length=fs.length∧∀ (i:Nat) (ti:TypeId) (off k:Nat),fs[i]?=some (ti,off,k)->DataW.trod enc P W base spare held n ti ((cs.drop off).take k)=xs[i]?:=by
 obtain ⟨xs,n,-,rfl,hl,hxl,hf⟩:=DataW.trod_struct hs.und h;refine ⟨xs,n,O,by rw [hl,hs.cells],by rw [hxl,<- hs.uS];simp,fun i ti off k hi=>?_⟩;rw [<- hs.uS,oD] at hi;obtain ⟨f,hf1,hf2⟩:=kR.1 hi
 simp only [dX] at hf2
 obtain ⟨rfl,rfl,rfl⟩:=hf2;exact hf i f (by simpa using hf1)
section
variable {H:Type} {enc:TypeId × aj->H} {W:World} {base:Nat} {spare:Nat->Bool} {held:Bool}
theorem aej:sG prog 197 2 [(3,0,1),(3,1,1)]:=⟨Z,Z,Z⟩
theorem ada {n:Nat} {cs:List aj} {D:DataW H} {Pl:List MemPlace} (h:DataW.trod enc prog W base spare held n 197 cs=some (D,Pl)):∃ r:qj,aT (mJ W) r.dat cs∧fK r.dat+1<=8*Rows.uptoBulk D:=by
 obtain ⟨xs,m,hx,hl,hxl,hf⟩:=rU aej h
 match cs,hl,xs,hxl with
 | [c0,c1],_,[y0,y1],_ =>
  have h0:=hf 0 _ _ _ O;have h1:=hf 1 _ _ _ O;obtain ⟨k0,e0,d0,-⟩:=DataW.trod_int underlying3 h0;obtain ⟨k1,e1,d1,-⟩:=DataW.trod_int underlying3 h1
  simp at e0 e1
  subst e0 e1
  simp only at hx
  refine ⟨⟨k0,k1⟩,?_,?_⟩
  ·simp [aT,qj.dat,ay,Value.oneCell']
  rw [hx];simp [d0,d1,qj.dat,fK,vE,Rows.uptoBulk,Rows.uptoBulkAll]
theorem aee:sG prog 199 2 [(3,0,1),(3,1,1)]:=⟨Z,Z,Z⟩
theorem acX {n:Nat} {cs:List aj} {D:DataW H} {Pl:List MemPlace} (h:DataW.trod enc prog W base spare held n 199 cs=some (D,Pl)):∃ r:qb,aT (mJ W) r.dat cs∧fK r.dat+1<=8*Rows.uptoBulk D:=by
 obtain ⟨xs,m,hx,hl,hxl,hf⟩:=rU aee h
 match cs,hl,xs,hxl with
 | [c0,c1],_,[y0,y1],_ =>
  have h0:=hf 0 _ _ _ O;have h1:=hf 1 _ _ _ O;obtain ⟨k0,e0,d0,-⟩:=DataW.trod_int underlying3 h0;obtain ⟨k1,e1,d1,-⟩:=DataW.trod_int underlying3 h1
  simp at e0 e1
  subst e0 e1
  simp only at hx
  refine ⟨⟨k0,k1⟩,?_,?_⟩
  ·simp [aT,qb.dat,ay,Value.oneCell']
  rw [hx];simp [d0,d1,qb.dat,fK,vE,Rows.uptoBulk,Rows.uptoBulkAll]
theorem aeh:sG prog 201 4 [(3,0,1),(3,1,1),(3,2,1),(4,3,1)]:=⟨Z,Z,Z⟩
theorem acZ {n:Nat} {cs:List aj} {D:DataW H} {Pl:List MemPlace} (h:DataW.trod enc prog W base spare held n 201 cs=some (D,Pl)):∃ r:qg,aT (mJ W) r.dat cs∧fK r.dat+1<=8*Rows.uptoBulk D:=by
 obtain ⟨xs,m,hx,hl,hxl,hf⟩:=rU aeh h
 match cs,hl,xs,hxl with
 | [c0,c1,c2,c3],_,[y0,y1,y2,y3],_ =>
  have h0:=hf 0 _ _ _ O;have h1:=hf 1 _ _ _ O;have h2:=hf 2 _ _ _ O;have h3:=hf 3 _ _ _ O;obtain ⟨k0,e0,d0,-⟩:=DataW.trod_int underlying3 h0;obtain ⟨k1,e1,d1,-⟩:=DataW.trod_int underlying3 h1;obtain ⟨k2,e2,d2,-⟩:=DataW.trod_int underlying3 h2;obtain ⟨k3,e3,d3⟩:=DataW.trod_bool underlying4 h3
  simp at e0 e1 e2 e3
  subst e0 e1 e2 e3
  simp only at hx
  refine ⟨⟨k0,k1,k2,k3⟩,?_,?_⟩
  ·simp [aT,qg.dat,ay,Value.oneCell']
  rw [hx];simp [d0,d1,d2,d3,qg.dat,fK,vE,Rows.uptoBulk,Rows.uptoBulkAll]
theorem aei:sG prog 29 4 [(3,0,1),(3,1,1),(26,2,1),(27,3,1)]:=⟨Z,Z,Z⟩
theorem aef:sG prog 31 5 [(25,0,1),(29,1,4)]:=⟨Z,Z,Z⟩
theorem Xu:prog.cellsOf 197=2:=by kernel_rfl
theorem Xr:prog.cellsOf 199=2:=by kernel_rfl
theorem Xt:prog.cellsOf 201=4:=by kernel_rfl
theorem BZ {n:Nat} {cs:List aj} {x:DataW H × List MemPlace} (h:DataW.trod enc prog W base spare held n 31 cs=some x):∃ (r:jZ) (p d l:aj),cs=[p,vi r.marks.ins,vi r.marks.move,d,l]∧oV (mJ W) r p d l∧sw r+15<=8*Rows.uptoBulk x.1:=by
 obtain ⟨xs,m,hx,hl,hxl,hf⟩:=rU aef h
 match cs,hl,xs,hxl with
 | [c0,c1,c2,c3,c4],_,[y0,y1],_ =>
  have h0:=hf 0 _ _ _ O;have h1:=hf 1 _ _ _ O;obtain ⟨ps,pv,e0,rp,sp⟩:=rT (dat:=qj.dat) (sz:=2) V underlying25 Xu h0 (fun n cs' D Pl hh _=>ada hh);obtain ⟨zs,m2,hz,hzl,hzx,Eu⟩:=rU aei h1
  match zs,hzx with
  | [z0,z1,z2,z3],_ =>
   have g0:=Eu 0 _ _ _ O;have g1:=Eu 1 _ _ _ O;have g2:=Eu 2 _ _ _ O;have g3:=Eu 3 _ _ _ O;obtain ⟨k0,e1,d0,-⟩:=DataW.trod_int underlying3 g0;obtain ⟨k1,e2,d1,-⟩:=DataW.trod_int underlying3 g1;obtain ⟨ds,dv,e3,rd,sd⟩:=rT (dat:=qb.dat) (sz:=2) V underlying26 Xr g2 (fun n cs' D Pl hh _=>acX hh);obtain ⟨ls,lv,e4,rl,sl⟩:=rT (dat:=qg.dat) (sz:=4) V underlying27 Xt g3 (fun n cs' D Pl hh _=>acZ hh)
   simp at e0 e1 e2 e3 e4
   subst e0 e1 e2 e3 e4;refine ⟨⟨ps,⟨k0,k1,ds,ls⟩⟩,_,_,_,O,⟨rp,rd,rl⟩,?_⟩;have R6:=Ld ⟨ps,⟨k0,k1,ds,ls⟩⟩
   simp only at R6
   rw [hx]
   simp only [gV,sM,Rows.uptoBulk,Rows.uptoBulkAll,hz,d0,d1]
   omega
theorem aeg:sG prog 34 11 [(3,0,1),(3,1,1),(3,2,1),(9,3,1),(31,4,5),(32,9,1),(22,10,1)]:=⟨Z,Z,Z⟩
theorem Ui:sG prog 49 6 [(31,0,5),(47,5,1)]:=⟨Z,Z,Z⟩
theorem Uh:sG prog 76 7 [(3,0,1),(31,1,5),(32,6,1)]:=⟨Z,Z,Z⟩
theorem GN:prog.cellsOf 34=11:=by kernel_rfl
theorem PD:prog.cellsOf 49=6:=by kernel_rfl
theorem Pz:prog.cellsOf 76=7:=by kernel_rfl
theorem Ay {p:Prop} (h:p:=by
 simp only [gV,sM,Rows.uptoBulk,Rows.uptoBulkAll]):p:=h
theorem Tt:∀ (N:Nat) (n:Nat) (cs:List aj) (D:DataW H) (Pl:List MemPlace),DataW.trod enc prog W base spare held n 34 cs=some (D,Pl)->Rows.uptoBulk D < N->∃ r:aN,aT (mJ W) r.dat cs∧fK r.dat+1<=8*Rows.uptoBulk D
 | 0,_,_,_,_,_,hN=>absurd hN V
 | N+1,n,cs,D,Pl,h,hN=>by
  have ih:=Tt N;obtain ⟨xs,m,hx,hl,hxl,hf⟩:=rU aeg h
  match cs,hl,xs,hxl with
  | [c0,c1,c2,c3,c4,c5,c6,c7,c8,c9,c10],_,[y0,y1,y2,y3,y4,y5,y6],_ =>
   have h0:=hf 0 _ _ _ O;have h1:=hf 1 _ _ _ O;have h2:=hf 2 _ _ _ O;have h3:=hf 3 _ _ _ O;have h4:=hf 4 _ _ _ O;have h5:=hf 5 _ _ _ O;have h6:=hf 6 _ _ _ O
   simp only at hx
   have hD:Rows.uptoBulk D=Rows.uptoBulk y0.1+(Rows.uptoBulk y1.1+(Rows.uptoBulk y2.1+(Rows.uptoBulk y3.1+(Rows.uptoBulk y4.1+(Rows.uptoBulk y5.1+(Rows.uptoBulk y6.1+0))))))+1:=by
    rw [hx];exact Ay
   obtain ⟨k0,e0,d0,-⟩:=DataW.trod_int underlying3 h0;obtain ⟨k1,e1,d1,-⟩:=DataW.trod_int underlying3 h1;obtain ⟨k2,e2,d2,-⟩:=DataW.trod_int underlying3 h2;obtain ⟨s,e3,d3,-⟩:=DataW.trod_string underlying9 h3;obtain ⟨hd,p,d,l,e4,rh,sh⟩:=BZ h4;obtain ⟨fl,fv,e5,rf,sf⟩:=rT (dat:=aN.dat) (sz:=11) V underlying32 GN h5 (fun n cs' D' bS hh hlt=>ih n cs' D' bS hh V)
   obtain ⟨rs,rv,e6,rr,sr⟩:=rT (dat:=bg.dat) (sz:=6) V underlying22 PD h6 (fun n cs' D' bS hh hlt=>by
    obtain ⟨xs,m,hx,hl,hxl,hf⟩:=rU Ui hh
    match cs',hl,xs,hxl with
    | [a0,a1,a2,a3,a4,a5],_,[w0,w1],_ =>
     have g0:=hf 0 _ _ _ O;have g1:=hf 1 _ _ _ O
     simp only at hx
     have hD':Rows.uptoBulk D'=Rows.uptoBulk w0.1+(Rows.uptoBulk w1.1+0)+1:=by
      rw [hx];exact Ay
     obtain ⟨hd2,p2,XV,l2,q0,JU,sh2⟩:=BZ g0
     obtain ⟨cl,cv,q1,rc,sc⟩:=rT (dat:=bL.dat) (sz:=7) V underlying47 Pz g1 (fun n cs'' Lm VT qE hlt2=>by
      obtain ⟨xs,m,hx2,hl2,Ju,hf2⟩:=rU Uh qE
      match cs'',hl2,xs,Ju with
      | [b0,b1,b2,b3,b4,b5,b6],_,[v0,v1,v2],_ =>
       have u0:=hf2 0 _ _ _ O;have u1:=hf2 1 _ _ _ O;have u2:=hf2 2 _ _ _ O
       simp only at hx2
       have ZW:Rows.uptoBulk Lm=Rows.uptoBulk v0.1+(Rows.uptoBulk v1.1+(Rows.uptoBulk v2.1+0))+1:=by
        rw [hx2];exact Ay
       obtain ⟨j0,t0,z0,-⟩:=DataW.trod_int underlying3 u0;obtain ⟨hd3,p3,XW,l3,t1,JV,sh3⟩:=BZ u1;obtain ⟨vX,ZO,t2,JR,sf3⟩:=rT (dat:=aN.dat) (sz:=11) V underlying32 GN u2 (fun n XR D3 VU hh3 hlt3=>ih n XR D3 VU hh3 V)
       simp at t0 t1 t2
       obtain ⟨rfl,rfl,rfl,rfl,rfl⟩:=t1;subst t0 t2;have hz:=qU (bL.mk j0 hd3 vX)
       simp only [bL.head,bL.flow] at hz
       have bz:Rows.uptoBulk v0.1=1:=by rw [z0];rfl
       exact ⟨bL.mk j0 hd3 vX,aT.SL (x:=bL.mk j0 hd3 vX) JV JR,by simp only [fI] at hz;omega⟩)
     simp at q0 q1
     obtain ⟨rfl,rfl,rfl,rfl,rfl⟩:=q0;subst q1;have hz:=sD (bg.mk hd2 cl)
     simp only [bg.head,bg.cells] at hz
     exact ⟨bg.mk hd2 cl,aT.SN (x:=bg.mk hd2 cl) JU rc,by simp only [iT] at hz;omega⟩)
   simp at e0 e1 e2 e3 e4 e5 e6
   obtain ⟨rfl,rfl,rfl,rfl,rfl⟩:=e4;subst e0 e1 e2 e3 e5 e6;have hz:=xD (aN.mk k0 k1 k2 s hd fl rs)
   simp only [aN.text,aN.head,aN.flow,aN.rows] at hz
   have b0:Rows.uptoBulk y0.1=1:=by rw [d0];rfl
   have b1:Rows.uptoBulk y1.1=1:=by rw [d1];rfl
   have b2:Rows.uptoBulk y2.1=1:=by rw [d2];rfl
   have b3:Rows.uptoBulk y3.1=s.size+1:=by rw [d3];show s.data.toList.length+1=s.data.size+1;rw [Array.length_toList]
   exact ⟨aN.mk k0 k1 k2 s hd fl rs,aT.mkItem (x:=aN.mk k0 k1 k2 s hd fl rs) rh rf rr,by simp only [fI,jl] at hz;omega⟩
theorem acY {n:Nat} {cs:List aj} {x:DataW H × List MemPlace} (h:DataW.trod enc prog W base spare held n 32 cs=some x):∃ (l:List aN) (v:aj),cs=[v]∧ay (mJ W) (.sl 11 (l.map aN.dat)) v∧fI l+8<=8*Rows.uptoBulk x.1 :=
 rT (dat:=aN.dat) (sz:=11) V underlying32 GN h (fun n cs' D' bS hh _=>Tt _ n cs' D' bS hh (Nat.lt_succ_self _))
end
end
section
open Go.ChangeShapes Go.RowKit Go.Deep
section
variable {H:Type} {enc:TypeId × aj->H} {W:World} {base:Nat} {spare:Nat->Bool} {held:Bool}
theorem acW {n:Nat} {cs:List aj} {D:DataW H} {Pl:List MemPlace} (h:DataW.trod enc prog W base spare held n 76 cs=some (D,Pl)):∃ r:bL,aT (mJ W) r.dat cs∧fK r.dat+1<=8*Rows.uptoBulk D:=by
 obtain ⟨xs,m,hx2,hl2,Ju,hf2⟩:=rU Uh h
 match cs,hl2,xs,Ju with
 | [b0,b1,b2,b3,b4,b5,b6],_,[v0,v1,v2],_ =>
  have u0:=hf2 0 _ _ _ O;have u1:=hf2 1 _ _ _ O;have u2:=hf2 2 _ _ _ O
  simp only at hx2
  have ZW:Rows.uptoBulk D=Rows.uptoBulk v0.1+(Rows.uptoBulk v1.1+(Rows.uptoBulk v2.1+0))+1:=by
   rw [hx2];exact Ay
  obtain ⟨j0,t0,z0,-⟩:=DataW.trod_int underlying3 u0;obtain ⟨hd3,p3,XW,l3,t1,JV,sh3⟩:=BZ u1;obtain ⟨vX,ZO,t2,JR,sf3⟩:=acY u2
  simp at t0 t1 t2
  obtain ⟨rfl,rfl,rfl,rfl,rfl⟩:=t1;subst t0 t2;have hz:=qU (bL.mk j0 hd3 vX)
  simp only [bL.head,bL.flow] at hz
  have bz:Rows.uptoBulk v0.1=1:=by rw [z0];rfl
  exact ⟨bL.mk j0 hd3 vX,aT.SL (x:=bL.mk j0 hd3 vX) JV JR,V⟩
theorem adb {n:Nat} {cs:List aj} {D:DataW H} {Pl:List MemPlace} (h:DataW.trod enc prog W base spare held n 49 cs=some (D,Pl)):∃ r:bg,aT (mJ W) r.dat cs∧fK r.dat+1<=8*Rows.uptoBulk D:=by
 obtain ⟨xs,m,hx,hl,hxl,hf⟩:=rU Ui h
 match cs,hl,xs,hxl with
 | [a0,a1,a2,a3,a4,a5],_,[w0,w1],_ =>
  have g0:=hf 0 _ _ _ O;have g1:=hf 1 _ _ _ O
  simp only at hx
  have hD':Rows.uptoBulk D=Rows.uptoBulk w0.1+(Rows.uptoBulk w1.1+0)+1:=by
   rw [hx];exact Ay
  obtain ⟨hd2,p2,XV,l2,q0,JU,sh2⟩:=BZ g0;obtain ⟨cl,cv,q1,rc,sc⟩:=rT (dat:=bL.dat) (sz:=7) V underlying47 Pz g1 (fun n cs'' Lm VT qE _=>acW qE)
  simp at q0 q1
  obtain ⟨rfl,rfl,rfl,rfl,rfl⟩:=q0;subst q1;have hz:=sD (bg.mk hd2 cl)
  simp only [bg.head,bg.cells] at hz
  exact ⟨bg.mk hd2 cl,aT.SN (x:=bg.mk hd2 cl) JU rc,by simp only [iT] at hz;omega⟩
theorem Tw {n:Nat} {cs:List aj} {x:DataW H × List MemPlace} (h:DataW.trod enc prog W base spare held n 22 cs=some x):∃ (l:List bg) (v:aj),cs=[v]∧ay (mJ W) (.sl 6 (l.map bg.dat)) v∧jl l+8<=8*Rows.uptoBulk x.1 :=
 rT (dat:=bg.dat) (sz:=6) V underlying22 PD h (fun n cs' D' bS hh _=>adb hh)
end
end
end Go.Proofs.YtomebajfpcjoeaaDoor
